/-
 A text of this session's own.
-/
import Derived.Test.YtlmijjekaelhcaaDoorExA0
import Derived.Test.YtlmijjekaelhcaaDoorExEDpx0
import Derived.Test.YtlmijjekaelhcaaDoorExEDix5
namespace Go.Proofs.YtlmijjekaelhcaaDoor.EDi
open Go.RowKit Go.Proofs.YtlmijjekaelhcaaDoorW.PrintWords Go.Proofs.YtlmijjekaelhcaaDoorW.PrintLast Go.Proofs.YtlmijjekaelhcaaDoorW.PrintMore
attribute [local go_sem] max2_int min2_int max_two min_two max_three min_three max_four min_four
set_option linter.unusedVariables false
mutual
def d_Settle.j0 : Nat → Int → ByteArray → Int → Int → Int → Int → Int → Int → Int → Int → Int → Int → Option (Int × Int × Int × Int × Int)
 | 0, _, _, _, _, _, _, _, _, _, _, _, _ => none
 | k + 1, x2, x486000, x486001, x486002, x486003, x486004, x486005, x486006, x489000, x489001, x489002, x489003 => if x486005 = 1 then (d_Settle.j1 k x489000 x489001 x489002 x486006) else (if x486005 = 2 then (d_Settle.j1 k x489000 x489001 x489002 (mx x2 (-1))) else (d_Settle.j1 k x489000 x489001 x489002 x489003))
def d_Settle.j1 : Nat → Int → Int → Int → Int → Option (Int × Int × Int × Int × Int)
 | 0, _, _, _, _ => none
 | k + 1, x489000, x489001, x489002, x489003 => if x489002 > 4096 then (d_Settle.j2 k true x489000 x489001 x489002 x489003) else (if x489002 < (-4096) then (d_Settle.j2 k true x489000 x489001 x489002 x489003) else (d_Settle.j2 k (decide (x489003 > 4096)) x489000 x489001 x489002 x489003))
def d_Settle.j2 : Nat → Bool → Int → Int → Int → Int → Option (Int × Int × Int × Int × Int)
 | 0, _, _, _, _, _ => none
 | k + 1, x49, x489000, x489001, x489002, x489003 => if x49 = true then (some (0, 0, 0, 0, 6)) else (if x489002 < 0 then (some (x489000, Go.bits .or .i64 x489001 1, wrap64 (-x489002), x489003, 0)) else (some (x489000, x489001, x489002, x489003, 0)))
end
def d_Settle.f (k : Nat) (a0_0 : ByteArray) (a0_1 : Int) (a0_2 : Int) (a0_3 : Int) (a0_4 : Int) (a0_5 : Int) (a0_6 : Int) (a1 : Int) (a2 : Int) : Option (Int × Int × Int × Int × Int) := (d_inForm.f a0_0 a0_1 a0_2 a0_3 a0_4 a0_5 a0_6).bind fun t487 => (if t487 = true then (if a0_3 = 2 then (d_Settle.j0 k a2 a0_0 a0_1 a0_2 a0_3 a0_4 a0_5 a0_6 a0_1 a0_2 a1 (-1)) else (d_Settle.j0 k a2 a0_0 a0_1 a0_2 a0_3 a0_4 a0_5 a0_6 a0_1 a0_2 a0_4 (-1))) else (some (0, 0, 0, 0, 132)))
theorem d_Settle.mono_l : ∀ k, (∀ y0 y1 y2 y3 y4 y5 y6 y7 y8 y9 y10 y11, LeO (d_Settle.j0 k y0 y1 y2 y3 y4 y5 y6 y7 y8 y9 y10 y11) (d_Settle.j0 (k + 1) y0 y1 y2 y3 y4 y5 y6 y7 y8 y9 y10 y11)) ∧ (∀ y0 y1 y2 y3, LeO (d_Settle.j1 k y0 y1 y2 y3) (d_Settle.j1 (k + 1) y0 y1 y2 y3)) ∧ (∀ y0 y1 y2 y3 y4, LeO (d_Settle.j2 k y0 y1 y2 y3 y4) (d_Settle.j2 (k + 1) y0 y1 y2 y3 y4))
 | 0 => ⟨fun _ _ _ _ _ _ _ _ _ _ _ _ r h => by simp [d_Settle.j0] at h, fun _ _ _ _ r h => by simp [d_Settle.j1] at h, fun _ _ _ _ _ r h => by simp [d_Settle.j2] at h⟩
 | k + 1 => by
  obtain ⟨ih0, ih1, ih2⟩ := d_Settle.mono_l k
  refine ⟨?_, ?_, ?_⟩ <;> intros
  all_goals first | unfold d_Settle.j0 | unfold d_Settle.j1 | unfold d_Settle.j2
  all_goals repeat' first
  | (with_reducible exact ih0 _ _ _ _ _ _ _ _ _ _ _ _)
  | (with_reducible exact ih1 _ _ _ _)
  | (with_reducible exact ih2 _ _ _ _ _)
  | (with_reducible exact LeO.refl _)
  | (with_reducible exact LeO.none _)
  | (with_reducible refine LeO.ite ?_ ?_)
  | (with_reducible refine LeO.bind ?_ (fun _ => ?_))
  | exact ih0 _ _ _ _ _ _ _ _ _ _ _ _
  | exact ih1 _ _ _ _
  | exact ih2 _ _ _ _ _
  | exact LeO.none _
  | refine LeO.ite ?_ ?_
  | refine LeO.bind ?_ (fun _ => ?_)
theorem d_Settle.mono : ∀ a0 a1 a2 a3 a4 a5 a6 a7 a8 k, LeO (d_Settle.f k a0 a1 a2 a3 a4 a5 a6 a7 a8) (d_Settle.f (k + 1) a0 a1 a2 a3 a4 a5 a6 a7 a8) := by
 intro a0 a1 a2 a3 a4 a5 a6 a7 a8 k
 obtain ⟨ih0, ih1, ih2⟩ := d_Settle.mono_l k
 unfold d_Settle.f
 repeat' first
   | (with_reducible exact ih0 _ _ _ _ _ _ _ _ _ _ _ _)
   | (with_reducible exact ih1 _ _ _ _)
   | (with_reducible exact ih2 _ _ _ _ _)
   | (with_reducible exact LeO.refl _)
   | (with_reducible exact LeO.none _)
   | (with_reducible refine LeO.ite ?_ ?_)
   | (with_reducible refine LeO.bind ?_ (fun _ => ?_))
   | exact ih0 _ _ _ _ _ _ _ _ _ _ _ _
   | exact ih1 _ _ _ _
   | exact ih2 _ _ _ _ _
   | exact LeO.none _
   | refine LeO.ite ?_ ?_
   | refine LeO.bind ?_ (fun _ => ?_)
set_option maxHeartbeats 8000000 in
set_option maxRecDepth 100000 in
theorem d_Settle.calls (k : Nat) (a0_0 : ByteArray) (a0_1 : Int) (a0_2 : Int) (a0_3 : Int) (a0_4 : Int) (a0_5 : Int) (a0_6 : Int) (a1 : Int) (a2 : Int) (r1 : Int) (r2 : Int) (r3 : Int) (r4 : Int) (r5 : Int) (w : World) (h : d_Settle.f k a0_0 a0_1 a0_2 a0_3 a0_4 a0_5 a0_6 a1 a2 = some (r1, r2, r3, r4, r5)) :
  Calls Tryd.prog 16 #[.agg #[.string a0_0, .int .u8 a0_1, .int .i64 a0_2, .int .i64 a0_3, .int .i64 a0_4, .int .i64 a0_5, .int .i64 a0_6], .int .i64 a1, .int .i64 a2] w fun e w' => e = .returned (.tuple #[.agg #[.int .u8 r1, .int .i64 r2, .int .i64 r3, .int .i64 r4], .int .i64 r5]) ∧ Below w.heap.size w w' := by
 have hu25 := Tryd.underlying25
 have hu37 := Tryd.underlying37
 have HB := am (Below.refl w.heap.size w)
 have H : ((d_inForm.f a0_0 a0_1 a0_2 a0_3 a0_4 a0_5 a0_6).bind fun t487 => (if t487 = true then (if a0_3 = 2 then (d_Settle.j0 k a2 a0_0 a0_1 a0_2 a0_3 a0_4 a0_5 a0_6 a0_1 a0_2 a1 (-1)) else (d_Settle.j0 k a2 a0_0 a0_1 a0_2 a0_3 a0_4 a0_5 a0_6 a0_1 a0_2 a0_4 (-1))) else (some (0, 0, 0, 0, 132)))) = some (r1, r2, r3, r4, r5) := h
 clear h
 replace H := Option.bind_eq_some_iff.mp H
 obtain ⟨t487, A40, H⟩ := H
 replace H : (if t487 = true then (if a0_3 = 2 then (d_Settle.j0 k a2 a0_0 a0_1 a0_2 a0_3 a0_4 a0_5 a0_6 a0_1 a0_2 a1 (-1)) else (d_Settle.j0 k a2 a0_0 a0_1 a0_2 a0_3 a0_4 a0_5 a0_6 a0_1 a0_2 a0_4 (-1))) else (some (0, 0, 0, 0, 132))) = some (r1, r2, r3, r4, r5) := H
 have A4 := am A40
 clear A40
 by_cases c5 : t487 = true
 rotate_left
 ·replace c5 := Bool.eq_false_iff.mpr c5
  subst c5
  have H1 : (some (0, 0, 0, 0, 132)) = some (r1, r2, r3, r4, r5) := by rw [if_neg (show ¬ (false = true) by decide)] at H; exact H
  clear H
  have H := H1
  clear H1
  simp only [Option.some.injEq, Prod.mk.injEq] at H
  obtain ⟨rfl, rfl, rfl, rfl, rfl⟩ := H
  go_enter Tryd.func16, Tryd.ntmps16
  go_wp2_with (first | ((with_reducible refine gate_dst (N := 3) rfl ?_); refine box_event ?hg (N := 3) ?hd (cs := #[.string a0_0, .int .u8 a0_1, .int .i64 a0_2, .int .i64 a0_3, .int .i64 a0_4, .int .i64 a0_5, .int .i64 a0_6]) (t := 25) ?hr ?_; (case hd => rfl); (case hg => rfl); (case hr => first | (go_simp; done) | (go_simp; rfl)); intro gb485 hg w64 hbox hb; have n0_ := am (below_step bl hb); have n1_ := am (hbox); have n2_ := am ((by rw [hg]; exact (below_size bl) : w.heap.size ≤ gb485)); have n3_ := n2_; clear HB; have HB := n0_; have BK485 := n1_; have GW485 := n2_; have GE485 := n3_; clear n0_ n1_ n2_ n3_; clear hb hbox hg) | ((with_reducible refine gate_dst (N := 6) rfl ?_); refine box_event ?hg (N := 6) ?hd (cs := #[.int .u8 0, .int .i64 0, .int .i64 0, .int .i64 0]) (t := 37) ?hr ?_; (case hd => rfl); (case hg => rfl); (case hr => first | (go_simp; done) | (go_simp; rfl)); intro gb486 hg w65 hbox hb; have n0_ := am (blk_below (bu BK485.out) hb); have n1_ := am (below_step bs hb); have n2_ := am (hbox); have n3_ := am ((by rw [hg]; exact (below_size bs) : w.heap.size ≤ gb486)); have n4_ := am ((by rw [hg]; exact (below_size bs) : w.heap.size ≤ gb486)); have n5_ := am ((by rw [hg]; exact Nat.ne_of_lt (blk_lt (bu BK485.out)) : gb485 ≠ gb486)); have n6_ := am ((by rw [hg]; exact Nat.ne_of_gt (blk_lt (bu BK485.out)) : gb486 ≠ gb485)); clear BK485; clear HB; have BK485 := n0_; have HB := n1_; have BK486 := n2_; have GW486 := n3_; have GE486 := n4_; have NB485_486 := n5_; have NB486_485 := n6_; clear n0_ n1_ n2_ n3_ n4_ n5_ n6_; clear hb hbox hg; have hnb66 := NB485_486.out; have hnc66 := NB486_485.out; obtain ⟨⟨hcz67_0, hcz67_1, hcz67_2, hcz67_3, hcz67_4, hcz67_5, hcz67_6⟩, hfz67_0, hfz67_1, hfz67_2, hfz67_3, hfz67_4, hfz67_5, hfz67_6⟩ := blkAll7 BK485) | ((with_reducible refine gate_callee (f := 24) rfl ?_); refine goesL_ (some 10) rfl rfl Tryd.func24 (by kernel_rfl) rfl #[.agg #[.string a0_0, .int .u8 a0_1, .int .i64 a0_2, .int .i64 a0_3, .int .i64 a0_4, .int .i64 a0_5, .int .i64 a0_6]] rfl ls ?_; (with_reducible refine (d_inForm.calls a0_0 a0_1 a0_2 a0_3 a0_4 a0_5 a0_6 false _ A4.out).mono ?_); rintro e w68 ⟨rfl, hb⟩; refine ⟨_, rfl, ?_⟩; have n0_ := am (blk_below (bu BK485.out) hb); have n1_ := am (blk_below (bu BK486.out) hb); have n2_ := am (below_step bs hb); clear BK485; clear BK486; clear HB; have BK485 := n0_; have BK486 := n1_; have HB := n2_; clear n0_ n1_ n2_; (try clear hb); (try clear hb2); (try clear hk); (try clear hi); obtain ⟨⟨hcz69_0, hcz69_1, hcz69_2, hcz69_3⟩, hfz69_0, hfz69_1, hfz69_2, hfz69_3⟩ := blkAll4 BK486))
  refine bodyPost_ret (results_ct rfl _ _ gb486 37 #[.int .u8 0, .int .i64 0, .int .i64 0, .int .i64 0] (0, 0) _ rfl (by refine bu ?_; refine blk_put (cs := #[.int .u8 0, .int .i64 0, .int .i64 0, .int .i64 0]) ?_ 3 _ rfl; refine bu ?_; refine blk_put (cs := #[.int .u8 0, .int .i64 0, .int .i64 0, .int .i64 0]) ?_ 2 _ rfl; refine bu ?_; refine blk_put (cs := #[.int .u8 0, .int .i64 0, .int .i64 0, .int .i64 0]) ?_ 1 _ rfl; refine bu ?_; refine blk_put (cs := #[.int .u8 0, .int .i64 0, .int .i64 0, .int .i64 0]) ?_ 0 _ rfl; refine bu ?_; exact BK486.out) Tryd.underlying37 rfl (by kernel_rfl)) rfl ?_
  exact ⟨er, bs⟩
 subst c5
 have H1 : (if a0_3 = 2 then (d_Settle.j0 k a2 a0_0 a0_1 a0_2 a0_3 a0_4 a0_5 a0_6 a0_1 a0_2 a1 (-1)) else (d_Settle.j0 k a2 a0_0 a0_1 a0_2 a0_3 a0_4 a0_5 a0_6 a0_1 a0_2 a0_4 (-1))) = some (r1, r2, r3, r4, r5) := by rw [if_pos rfl] at H; exact H
 clear H
 have H := H1
 clear H1
 have HC6 := am H
 clear H
 go_enter Tryd.func16, Tryd.ntmps16
 go_upto_if 22 with (first | ((with_reducible refine gate_dst (N := 3) rfl ?_); refine box_event ?hg (N := 3) ?hd (cs := #[.string a0_0, .int .u8 a0_1, .int .i64 a0_2, .int .i64 a0_3, .int .i64 a0_4, .int .i64 a0_5, .int .i64 a0_6]) (t := 25) ?hr ?_; (case hd => rfl); (case hg => rfl); (case hr => first | (go_simp; done) | (go_simp; rfl)); intro gb485 hg w7 hbox hb; have n0_ := am (below_step bl hb); have n1_ := am (hbox); have n2_ := am ((by rw [hg]; exact (below_size bl) : w.heap.size ≤ gb485)); have n3_ := n2_; clear HB; have HB := n0_; have BK485 := n1_; have GW485 := n2_; have GE485 := n3_; clear n0_ n1_ n2_ n3_; clear hb hbox hg) | ((with_reducible refine gate_dst (N := 6) rfl ?_); refine box_event ?hg (N := 6) ?hd (cs := #[.int .u8 0, .int .i64 0, .int .i64 0, .int .i64 0]) (t := 37) ?hr ?_; (case hd => rfl); (case hg => rfl); (case hr => first | (go_simp; done) | (go_simp; rfl)); intro gb486 hg w8 hbox hb; have n0_ := am (blk_below (bu BK485.out) hb); have n1_ := am (below_step bs hb); have n2_ := am (hbox); have n3_ := am ((by rw [hg]; exact (below_size bs) : w.heap.size ≤ gb486)); have n4_ := am ((by rw [hg]; exact (below_size bs) : w.heap.size ≤ gb486)); have n5_ := am ((by rw [hg]; exact Nat.ne_of_lt (blk_lt (bu BK485.out)) : gb485 ≠ gb486)); have n6_ := am ((by rw [hg]; exact Nat.ne_of_gt (blk_lt (bu BK485.out)) : gb486 ≠ gb485)); clear BK485; clear HB; have BK485 := n0_; have HB := n1_; have BK486 := n2_; have GW486 := n3_; have GE486 := n4_; have NB485_486 := n5_; have NB486_485 := n6_; clear n0_ n1_ n2_ n3_ n4_ n5_ n6_; clear hb hbox hg; have hnb9 := NB485_486.out; have hnc9 := NB486_485.out; obtain ⟨⟨hcz10_0, hcz10_1, hcz10_2, hcz10_3, hcz10_4, hcz10_5, hcz10_6⟩, hfz10_0, hfz10_1, hfz10_2, hfz10_3, hfz10_4, hfz10_5, hfz10_6⟩ := blkAll7 BK485) | ((with_reducible refine gate_callee (f := 24) rfl ?_); refine goesL_ (some 10) rfl rfl Tryd.func24 (by kernel_rfl) rfl #[.agg #[.string a0_0, .int .u8 a0_1, .int .i64 a0_2, .int .i64 a0_3, .int .i64 a0_4, .int .i64 a0_5, .int .i64 a0_6]] rfl ls ?_; (with_reducible refine (d_inForm.calls a0_0 a0_1 a0_2 a0_3 a0_4 a0_5 a0_6 true _ A4.out).mono ?_); rintro e w11 ⟨rfl, hb⟩; refine ⟨_, rfl, ?_⟩; have n0_ := am (blk_below (bu BK485.out) hb); have n1_ := am (blk_below (bu BK486.out) hb); have n2_ := am (below_step bs hb); clear BK485; clear BK486; clear HB; have BK485 := n0_; have BK486 := n1_; have HB := n2_; clear n0_ n1_ n2_; (try clear hb); (try clear hb2); (try clear hk); (try clear hi); obtain ⟨⟨hcz12_0, hcz12_1, hcz12_2, hcz12_3, hcz12_4, hcz12_5, hcz12_6⟩, hfz12_0, hfz12_1, hfz12_2, hfz12_3, hfz12_4, hfz12_5, hfz12_6⟩ := blkAll7 BK485) | ((with_reducible refine gate_dst (N := 8) rfl ?_); refine box_event ?hg (N := 8) ?hd (cs := #[.int .u8 0, .int .i64 0, .int .i64 0, .int .i64 0]) (t := 37) ?hr ?_; (case hd => rfl); (case hg => rfl); (case hr => first | (go_simp; done) | (go_simp; rfl)); intro gb488 hg w13 hbox hb; have n0_ := am (blk_below (bu BK485.out) hb); have n1_ := am (blk_below (bu BK486.out) hb); have n2_ := am (below_step bs hb); have n3_ := am (hbox); have n4_ := am ((by rw [hg]; exact (below_size bs) : w.heap.size ≤ gb488)); have n5_ := am ((by rw [hg]; exact (below_size bs) : w.heap.size ≤ gb488)); have n6_ := am ((by rw [hg]; exact Nat.ne_of_lt (blk_lt (bu BK485.out)) : gb485 ≠ gb488)); have n7_ := am ((by rw [hg]; exact Nat.ne_of_gt (blk_lt (bu BK485.out)) : gb488 ≠ gb485)); have n8_ := am ((by rw [hg]; exact Nat.ne_of_lt (blk_lt (bu BK486.out)) : gb486 ≠ gb488)); have n9_ := am ((by rw [hg]; exact Nat.ne_of_gt (blk_lt (bu BK486.out)) : gb488 ≠ gb486)); clear BK485; clear BK486; clear HB; have BK485 := n0_; have BK486 := n1_; have HB := n2_; have BK488 := n3_; have GW488 := n4_; have GE488 := n5_; have NB485_488 := n6_; have NB488_485 := n7_; have NB486_488 := n8_; have NB488_486 := n9_; clear n0_ n1_ n2_ n3_ n4_ n5_ n6_ n7_ n8_ n9_; clear hb hbox hg; have hnb14 := NB488_485.out; have hnc14 := NB485_488.out; have hnb15 := NB488_486.out; have hnc15 := NB486_488.out; obtain ⟨⟨hcz16_0, hcz16_1, hcz16_2, hcz16_3⟩, hfz16_0, hfz16_1, hfz16_2, hfz16_3⟩ := blkAll4 BK488; obtain ⟨⟨hcz17_0, hcz17_1, hcz17_2, hcz17_3, hcz17_4, hcz17_5, hcz17_6⟩, hfz17_0, hfz17_1, hfz17_2, hfz17_3, hfz17_4, hfz17_5, hfz17_6⟩ := blkAll7 BK485))
 (try simp only [Act.put, List.setIfInBounds_toArray, List.set_cons_zero, List.set_cons_succ])
 go_cut [] (fun wc => ∃ (kq : Nat) (x489002_5 : Int), Aside0 (d_Settle.j0 kq a2 a0_0 a0_1 a0_2 a0_3 a0_4 a0_5 a0_6 a0_1 a0_2 x489002_5 (-1) = some (r1, r2, r3, r4, r5)) ∧ Aside0 (kq ≤ k) ∧ Aside0 (wc.heap[gb485]? = some (.cells #[.string a0_0, .int .u8 a0_1, .int .i64 a0_2, .int .i64 a0_3, .int .i64 a0_4, .int .i64 a0_5, .int .i64 a0_6] 25 (0, 0))) ∧ Aside0 (wc.heap[gb486]? = some (.cells #[.int .u8 0, .int .i64 0, .int .i64 0, .int .i64 0] 37 (0, 0))) ∧ Aside0 (wc.heap[gb488]? = some (.cells #[.int .u8 a0_1, .int .i64 a0_2, .int .i64 x489002_5, .int .i64 (-1)] 37 (0, 0))) ∧ Aside0 (Below w.heap.size w wc))
 case first =>
  have H := HC6.out
  clear HC6
  by_cases c18 : a0_3 = 2
  rotate_left
  ·rw [if_neg c18] at H
   have c18b0 : (a0_3 == 2) = false := beq_eq_false_iff_ne.mpr c18
   have c18b1 : (a0_3 != 2) = true := bne_iff_ne.mpr c18
   (first | rw [c18b0] | (simp only [i64_w, i32_w]; rw [c18b0]) | skip)
   have H' := am H
   clear H
   go_wp2
   go_meet
   case rel => exact ⟨_, (a0_4), H', ⟨by first | omega | exact Nat.le_refl _⟩, ⟨by refine bu ?_; refine blk_far ?_ NB485_488.out _; refine bu ?_; refine blk_far ?_ NB485_488.out _; refine bu ?_; refine blk_far ?_ NB485_488.out _; refine bu ?_; refine blk_far ?_ NB485_488.out _; refine bu ?_; exact BK485.out⟩, ⟨by refine bu ?_; refine blk_far ?_ NB486_488.out _; refine bu ?_; refine blk_far ?_ NB486_488.out _; refine bu ?_; refine blk_far ?_ NB486_488.out _; refine bu ?_; refine blk_far ?_ NB486_488.out _; refine bu ?_; exact BK486.out⟩, ⟨by refine bu ?_; refine blk_put (cs := #[.int .u8 a0_1, .int .i64 a0_2, .int .i64 a0_4, .int .i64 0]) ?_ 3 _ rfl; refine bu ?_; refine blk_put (cs := #[.int .u8 a0_1, .int .i64 a0_2, .int .i64 0, .int .i64 0]) ?_ 2 _ rfl; refine bu ?_; refine blk_put (cs := #[.int .u8 a0_1, .int .i64 0, .int .i64 0, .int .i64 0]) ?_ 1 _ rfl; refine bu ?_; refine blk_put (cs := #[.int .u8 0, .int .i64 0, .int .i64 0, .int .i64 0]) ?_ 0 _ rfl; refine bu ?_; exact BK488.out⟩, ⟨bs⟩⟩
  rw [if_pos c18] at H
  have c18b0 : (a0_3 == 2) = true := beq_iff_eq.mpr c18
  have c18b1 : (a0_3 != 2) = false := bne_eq_false_iff_eq.mpr c18
  clear c18
  (first | rw [c18b0] | (simp only [i64_w, i32_w]; rw [c18b0]) | skip)
  have H' := am H
  clear H
  have hnb19 := NB488_485.out
  have hnc19 := NB485_488.out
  have hnb20 := NB488_486.out
  have hnc20 := NB486_488.out
  obtain ⟨⟨hcz21_0, hcz21_1, hcz21_2, hcz21_3⟩, hfz21_0, hfz21_1, hfz21_2, hfz21_3⟩ := blkAll4 BK488
  go_wp2
  go_meet
  case rel => exact ⟨_, (a1), H', ⟨by first | omega | exact Nat.le_refl _⟩, ⟨by refine bu ?_; refine blk_far ?_ NB485_488.out _; refine bu ?_; refine blk_far ?_ NB485_488.out _; refine bu ?_; refine blk_far ?_ NB485_488.out _; refine bu ?_; refine blk_far ?_ NB485_488.out _; refine bu ?_; refine blk_far ?_ NB485_488.out _; refine bu ?_; exact BK485.out⟩, ⟨by refine bu ?_; refine blk_far ?_ NB486_488.out _; refine bu ?_; refine blk_far ?_ NB486_488.out _; refine bu ?_; refine blk_far ?_ NB486_488.out _; refine bu ?_; refine blk_far ?_ NB486_488.out _; refine bu ?_; refine blk_far ?_ NB486_488.out _; refine bu ?_; exact BK486.out⟩, ⟨by refine bu ?_; refine blk_put (cs := #[.int .u8 a0_1, .int .i64 a0_2, .int .i64 a0_4, .int .i64 (-1)]) ?_ 2 _ rfl; refine bu ?_; refine blk_put (cs := #[.int .u8 a0_1, .int .i64 a0_2, .int .i64 a0_4, .int .i64 0]) ?_ 3 _ rfl; refine bu ?_; refine blk_put (cs := #[.int .u8 a0_1, .int .i64 a0_2, .int .i64 0, .int .i64 0]) ?_ 2 _ rfl; refine bu ?_; refine blk_put (cs := #[.int .u8 a0_1, .int .i64 0, .int .i64 0, .int .i64 0]) ?_ 1 _ rfl; refine bu ?_; refine blk_put (cs := #[.int .u8 0, .int .i64 0, .int .i64 0, .int .i64 0]) ?_ 0 _ rfl; refine bu ?_; exact BK488.out⟩, ⟨bs⟩⟩
 case rest =>
  clear HC6
  try clear c1
  try clear c2
  try clear p2
  try clear c5
  try clear c9
  try clear c14
  try clear c15
  try clear c16
  try clear c18
  try clear c18b0
  try clear c18b1
  try clear c19
  try clear c20
  try clear hcz10_0 hcz10_1 hcz10_2 hcz10_3 hcz10_4 hcz10_5 hcz10_6
  try clear hcz12_0 hcz12_1 hcz12_2 hcz12_3 hcz12_4 hcz12_5 hcz12_6
  try clear hcz16_0 hcz16_1 hcz16_2 hcz16_3
  try clear hcz17_0 hcz17_1 hcz17_2 hcz17_3 hcz17_4 hcz17_5 hcz17_6
  try clear hcz21_0 hcz21_1 hcz21_2 hcz21_3
  try clear hfz10_0 hfz10_1 hfz10_2 hfz10_3 hfz10_4 hfz10_5 hfz10_6
  try clear hfz12_0 hfz12_1 hfz12_2 hfz12_3 hfz12_4 hfz12_5 hfz12_6
  try clear hfz16_0 hfz16_1 hfz16_2 hfz16_3
  try clear hfz17_0 hfz17_1 hfz17_2 hfz17_3 hfz17_4 hfz17_5 hfz17_6
  try clear hfz21_0 hfz21_1 hfz21_2 hfz21_3
  obtain ⟨kq, x489002_5, HA, HJ5, BK485, BK486, BK488, HB⟩ := hcut
  cases kq with
  | zero => exact absurd HA.out (by simp [d_Settle.j0])
  | succ kj5 =>
   have H := HA.out
   clear HA
   simp only [d_Settle.j0] at H
   have HC22 := am H
   clear H
   have hnb23 := NB485_486.out
   have hnc23 := NB486_485.out
   have hnb24 := NB485_488.out
   have hnc24 := NB488_485.out
   obtain ⟨⟨hcz25_0, hcz25_1, hcz25_2, hcz25_3, hcz25_4, hcz25_5, hcz25_6⟩, hfz25_0, hfz25_1, hfz25_2, hfz25_3, hfz25_4, hfz25_5, hfz25_6⟩ := blkAll7 BK485
   go_upto_block 0 with (fail)
   go_cut [] (fun wc => ∃ (kq : Nat) (x489003_21 : Int), Aside0 (d_Settle.j1 kq a0_1 a0_2 x489002_5 x489003_21 = some (r1, r2, r3, r4, r5)) ∧ Aside0 (kq ≤ kj5) ∧ Aside0 (wc.heap[gb485]? = some (.cells #[.string a0_0, .int .u8 a0_1, .int .i64 a0_2, .int .i64 a0_3, .int .i64 a0_4, .int .i64 a0_5, .int .i64 a0_6] 25 (0, 0))) ∧ Aside0 (wc.heap[gb486]? = some (.cells #[.int .u8 0, .int .i64 0, .int .i64 0, .int .i64 0] 37 (0, 0))) ∧ Aside0 (wc.heap[gb488]? = some (.cells #[.int .u8 a0_1, .int .i64 a0_2, .int .i64 x489002_5, .int .i64 x489003_21] 37 (0, 0))) ∧ Aside0 (Below w.heap.size w wc))
   case first =>
    have H := HC22.out
    clear HC22
    by_cases c26 : a0_5 = 1
    ·rw [if_pos c26] at H
     have c26b0 : (a0_5 == 1) = true := beq_iff_eq.mpr c26
     have c26b1 : (a0_5 != 1) = false := bne_eq_false_iff_eq.mpr c26
     clear c26
     (first | rw [c26b0] | (simp only [i64_w, i32_w]; rw [c26b0]) | skip)
     have H' := am H
     clear H
     have hnb27 := NB485_486.out
     have hnc27 := NB486_485.out
     have hnb28 := NB485_488.out
     have hnc28 := NB488_485.out
     obtain ⟨⟨hcz29_0, hcz29_1, hcz29_2, hcz29_3, hcz29_4, hcz29_5, hcz29_6⟩, hfz29_0, hfz29_1, hfz29_2, hfz29_3, hfz29_4, hfz29_5, hfz29_6⟩ := blkAll7 BK485
     have hnb30 := NB488_486.out
     have hnc30 := NB486_488.out
     obtain ⟨⟨hcz31_0, hcz31_1, hcz31_2, hcz31_3⟩, hfz31_0, hfz31_1, hfz31_2, hfz31_3⟩ := blkAll4 BK488
     go_wp2
     go_meet
     case rel => exact ⟨_, (a0_6), H', ⟨by have := HJ5.out; first | omega | exact Nat.le_refl _⟩, ⟨by refine bu ?_; refine blk_far ?_ NB485_488.out _; refine bu ?_; exact BK485.out⟩, ⟨by refine bu ?_; refine blk_far ?_ NB486_488.out _; refine bu ?_; exact BK486.out⟩, ⟨by refine bu ?_; refine blk_put (cs := #[.int .u8 a0_1, .int .i64 a0_2, .int .i64 x489002_5, .int .i64 (-1)]) ?_ 3 _ rfl; refine bu ?_; exact BK488.out⟩, ⟨bs⟩⟩
    rw [if_neg c26] at H
    have c26b0 : (a0_5 == 1) = false := beq_eq_false_iff_ne.mpr c26
    have c26b1 : (a0_5 != 1) = true := bne_iff_ne.mpr c26
    (first | rw [c26b0] | (simp only [i64_w, i32_w]; rw [c26b0]) | skip)
    by_cases c32 : a0_5 = 2
    rotate_left
    ·rw [if_neg c32] at H
     have c32b0 : (a0_5 == 2) = false := beq_eq_false_iff_ne.mpr c32
     have c32b1 : (a0_5 != 2) = true := bne_iff_ne.mpr c32
     have H' := am H
     clear H
     go_wp2
     go_meet
     case rel => exact ⟨_, ((-1)), H', ⟨by have := HJ5.out; first | omega | exact Nat.le_refl _⟩, ⟨by refine bu ?_; exact BK485.out⟩, ⟨by refine bu ?_; exact BK486.out⟩, ⟨by refine bu ?_; exact BK488.out⟩, ⟨bs⟩⟩
    rw [if_pos c32] at H
    have c32b0 : (a0_5 == 2) = true := beq_iff_eq.mpr c32
    have c32b1 : (a0_5 != 2) = false := bne_eq_false_iff_eq.mpr c32
    clear c32
    obtain ⟨ji33, hji33⟩ : ∃ j_ : Int, (mx a2 (-1)) = j_ := ⟨_, rfl⟩
    replace H : (d_Settle.j1 kj5 a0_1 a0_2 x489002_5 ji33) = some (r1, r2, r3, r4, r5) := by first | (rw [hji33] at H; exact H) | (simp only [hji33] at H ⊢; exact H)
    have hji33_ : (if a2 < (-1) then (-1) else a2) = ji33 := hji33
    have H' := am H
    clear H
    have hnb34 := NB488_485.out
    have hnc34 := NB485_488.out
    have hnb35 := NB488_486.out
    have hnc35 := NB486_488.out
    obtain ⟨⟨hcz36_0, hcz36_1, hcz36_2, hcz36_3⟩, hfz36_0, hfz36_1, hfz36_2, hfz36_3⟩ := blkAll4 BK488
    go_wp2
    go_meet
    case rel => exact ⟨_, (ji33), H', ⟨by have := HJ5.out; first | omega | exact Nat.le_refl _⟩, ⟨by refine bu ?_; refine blk_far ?_ NB485_488.out _; refine bu ?_; exact BK485.out⟩, ⟨by refine bu ?_; refine blk_far ?_ NB486_488.out _; refine bu ?_; exact BK486.out⟩, ⟨by refine bu ?_; refine blk_put (cs := #[.int .u8 a0_1, .int .i64 a0_2, .int .i64 x489002_5, .int .i64 (-1)]) ?_ 3 _ rfl; refine bu ?_; exact BK488.out⟩, ⟨bs⟩⟩
   case rest =>
    clear HC22
    try clear c1
    try clear c2
    try clear p2
    try clear c3
    try clear c5
    try clear c9
    try clear c14
    try clear c15
    try clear c16
    try clear c18
    try clear c18b0
    try clear c18b1
    try clear c19
    try clear c20
    try clear c23
    try clear c24
    try clear c26
    try clear c26b0
    try clear c26b1
    try clear c27
    try clear c28
    try clear c30
    try clear c32
    try clear c32b0
    try clear c32b1
    try clear c34
    try clear c35
    try clear hcz10_0 hcz10_1 hcz10_2 hcz10_3 hcz10_4 hcz10_5 hcz10_6
    try clear hcz12_0 hcz12_1 hcz12_2 hcz12_3 hcz12_4 hcz12_5 hcz12_6
    try clear hcz16_0 hcz16_1 hcz16_2 hcz16_3
    try clear hcz17_0 hcz17_1 hcz17_2 hcz17_3 hcz17_4 hcz17_5 hcz17_6
    try clear hcz21_0 hcz21_1 hcz21_2 hcz21_3
    try clear hcz25_0 hcz25_1 hcz25_2 hcz25_3 hcz25_4 hcz25_5 hcz25_6
    try clear hcz29_0 hcz29_1 hcz29_2 hcz29_3 hcz29_4 hcz29_5 hcz29_6
    try clear hcz31_0 hcz31_1 hcz31_2 hcz31_3
    try clear hcz36_0 hcz36_1 hcz36_2 hcz36_3
    try clear hfz10_0 hfz10_1 hfz10_2 hfz10_3 hfz10_4 hfz10_5 hfz10_6
    try clear hfz12_0 hfz12_1 hfz12_2 hfz12_3 hfz12_4 hfz12_5 hfz12_6
    try clear hfz16_0 hfz16_1 hfz16_2 hfz16_3
    try clear hfz17_0 hfz17_1 hfz17_2 hfz17_3 hfz17_4 hfz17_5 hfz17_6
    try clear hfz21_0 hfz21_1 hfz21_2 hfz21_3
    try clear hfz25_0 hfz25_1 hfz25_2 hfz25_3 hfz25_4 hfz25_5 hfz25_6
    try clear hfz29_0 hfz29_1 hfz29_2 hfz29_3 hfz29_4 hfz29_5 hfz29_6
    try clear hfz31_0 hfz31_1 hfz31_2 hfz31_3
    try clear hfz36_0 hfz36_1 hfz36_2 hfz36_3
    try clear p2
    obtain ⟨kq, x489003_21, HA, HJ21, BK485, BK486, BK488, HB⟩ := hcut
    cases kq with
    | zero => exact absurd HA.out (by simp [d_Settle.j1])
    | succ kj21 =>
     have H := HA.out
     clear HA
     simp only [d_Settle.j1] at H
     have HC37 := am H
     clear H
     go_upto_region 11 with (fail)
     go_cut [49] (fun v49 wc => ∃ (kq : Nat) (x49_36 : Bool), v49 = .bool x49_36 ∧ Aside0 (d_Settle.j2 kq x49_36 a0_1 a0_2 x489002_5 x489003_21 = some (r1, r2, r3, r4, r5)) ∧ Aside0 (kq ≤ kj21) ∧ Aside0 (wc.heap[gb485]? = some (.cells #[.string a0_0, .int .u8 a0_1, .int .i64 a0_2, .int .i64 a0_3, .int .i64 a0_4, .int .i64 a0_5, .int .i64 a0_6] 25 (0, 0))) ∧ Aside0 (wc.heap[gb486]? = some (.cells #[.int .u8 0, .int .i64 0, .int .i64 0, .int .i64 0] 37 (0, 0))) ∧ Aside0 (wc.heap[gb488]? = some (.cells #[.int .u8 a0_1, .int .i64 a0_2, .int .i64 x489002_5, .int .i64 x489003_21] 37 (0, 0))) ∧ Aside0 (Below w.heap.size w wc))
     case first =>
      have H := HC37.out
      clear HC37
      by_cases c38 : x489002_5 > 4096
      ·rw [if_pos c38] at H
       have c38b0 : decide (4096 < x489002_5) = true := decide_eq_true c38
       clear c38
       (first | rw [c38b0] | (simp only [i64_w, i32_w]; rw [c38b0]) | skip)
       have H' := am H
       clear H
       have hnb39 := NB488_485.out
       have hnc39 := NB485_488.out
       have hnb40 := NB488_486.out
       have hnc40 := NB486_488.out
       obtain ⟨⟨hcz41_0, hcz41_1, hcz41_2, hcz41_3⟩, hfz41_0, hfz41_1, hfz41_2, hfz41_3⟩ := blkAll4 BK488
       go_wp2
       go_meet
       case rel => exact ⟨_, (true), tv, H', ⟨by have := HJ5.out; have := HJ21.out; first | omega | exact Nat.le_refl _⟩, ⟨by refine bu ?_; exact BK485.out⟩, ⟨by refine bu ?_; exact BK486.out⟩, ⟨by refine bu ?_; exact BK488.out⟩, ⟨bs⟩⟩
      rw [if_neg c38] at H
      have c38b0 : decide (4096 < x489002_5) = false := decide_eq_false c38
      clear c38
      (first | rw [c38b0] | (simp only [i64_w, i32_w]; rw [c38b0]) | skip)
      by_cases c42 : x489002_5 < (-4096)
      ·rw [if_pos c42] at H
       have c42b0 := decide_eq_true c42
       clear c42
       have H' := am H
       clear H
       have hnb43 := NB488_485.out
       have hnc43 := NB485_488.out
       have hnb44 := NB488_486.out
       have hnc44 := NB486_488.out
       obtain ⟨⟨hcz45_0, hcz45_1, hcz45_2, hcz45_3⟩, hfz45_0, hfz45_1, hfz45_2, hfz45_3⟩ := blkAll4 BK488
       go_wp2
       go_meet
       case rel => exact ⟨_, (true), tv, H', ⟨by have := HJ5.out; have := HJ21.out; first | omega | exact Nat.le_refl _⟩, ⟨by refine bu ?_; exact BK485.out⟩, ⟨by refine bu ?_; exact BK486.out⟩, ⟨by refine bu ?_; exact BK488.out⟩, ⟨bs⟩⟩
      rw [if_neg c42] at H
      have c42b0 := decide_eq_false c42
      clear c42
      have H' := am H
      clear H
      have hnb46 := NB488_485.out
      have hnc46 := NB485_488.out
      have hnb47 := NB488_486.out
      have hnc47 := NB486_488.out
      obtain ⟨⟨hcz48_0, hcz48_1, hcz48_2, hcz48_3⟩, hfz48_0, hfz48_1, hfz48_2, hfz48_3⟩ := blkAll4 BK488
      go_wp2
      go_meet
      case rel => exact ⟨_, (decide (x489003_21 > 4096)), tv, H', ⟨by have := HJ5.out; have := HJ21.out; first | omega | exact Nat.le_refl _⟩, ⟨by refine bu ?_; exact BK485.out⟩, ⟨by refine bu ?_; exact BK486.out⟩, ⟨by refine bu ?_; exact BK488.out⟩, ⟨bs⟩⟩
     case rest =>
      clear HC37
      try clear c1
      try clear c2
      try clear p2
      try clear c3
      try clear c4
      try clear c5
      try clear c9
      try clear c14
      try clear c15
      try clear c16
      try clear c18
      try clear c18b0
      try clear c18b1
      try clear c19
      try clear c20
      try clear c23
      try clear c24
      try clear c26
      try clear c26b0
      try clear c26b1
      try clear c27
      try clear c28
      try clear c30
      try clear c32
      try clear c32b0
      try clear c32b1
      try clear c34
      try clear c35
      try clear c38
      try clear c38b0
      try clear c39
      try clear c40
      try clear c42
      try clear c42b0
      try clear c43
      try clear c44
      try clear c46
      try clear c47
      try clear hcz10_0 hcz10_1 hcz10_2 hcz10_3 hcz10_4 hcz10_5 hcz10_6
      try clear hcz12_0 hcz12_1 hcz12_2 hcz12_3 hcz12_4 hcz12_5 hcz12_6
      try clear hcz16_0 hcz16_1 hcz16_2 hcz16_3
      try clear hcz17_0 hcz17_1 hcz17_2 hcz17_3 hcz17_4 hcz17_5 hcz17_6
      try clear hcz21_0 hcz21_1 hcz21_2 hcz21_3
      try clear hcz25_0 hcz25_1 hcz25_2 hcz25_3 hcz25_4 hcz25_5 hcz25_6
      try clear hcz29_0 hcz29_1 hcz29_2 hcz29_3 hcz29_4 hcz29_5 hcz29_6
      try clear hcz31_0 hcz31_1 hcz31_2 hcz31_3
      try clear hcz36_0 hcz36_1 hcz36_2 hcz36_3
      try clear hcz41_0 hcz41_1 hcz41_2 hcz41_3
      try clear hcz45_0 hcz45_1 hcz45_2 hcz45_3
      try clear hcz48_0 hcz48_1 hcz48_2 hcz48_3
      try clear hfz10_0 hfz10_1 hfz10_2 hfz10_3 hfz10_4 hfz10_5 hfz10_6
      try clear hfz12_0 hfz12_1 hfz12_2 hfz12_3 hfz12_4 hfz12_5 hfz12_6
      try clear hfz16_0 hfz16_1 hfz16_2 hfz16_3
      try clear hfz17_0 hfz17_1 hfz17_2 hfz17_3 hfz17_4 hfz17_5 hfz17_6
      try clear hfz21_0 hfz21_1 hfz21_2 hfz21_3
      try clear hfz25_0 hfz25_1 hfz25_2 hfz25_3 hfz25_4 hfz25_5 hfz25_6
      try clear hfz29_0 hfz29_1 hfz29_2 hfz29_3 hfz29_4 hfz29_5 hfz29_6
      try clear hfz31_0 hfz31_1 hfz31_2 hfz31_3
      try clear hfz36_0 hfz36_1 hfz36_2 hfz36_3
      try clear hfz41_0 hfz41_1 hfz41_2 hfz41_3
      try clear hfz45_0 hfz45_1 hfz45_2 hfz45_3
      try clear hfz48_0 hfz48_1 hfz48_2 hfz48_3
      try clear p2
      obtain ⟨kq, x49_36, rfl, HA, HJ36, BK485, BK486, BK488, HB⟩ := hcut
      cases kq with
      | zero => exact absurd HA.out (by simp [d_Settle.j2])
      | succ kj36 =>
       have H := HA.out
       clear HA
       simp only [d_Settle.j2] at H
       by_cases c49 : x49_36 = true
       ·subst c49
        have H1 : (some (0, 0, 0, 0, 6)) = some (r1, r2, r3, r4, r5) := by rw [if_pos rfl] at H; exact H
        clear H
        have H := H1
        clear H1
        simp only [Option.some.injEq, Prod.mk.injEq] at H
        obtain ⟨rfl, rfl, rfl, rfl, rfl⟩ := H
        have hnb50 := NB486_485.out
        have hnc50 := NB485_486.out
        have hnb51 := NB486_488.out
        have hnc51 := NB488_486.out
        obtain ⟨⟨hcz52_0, hcz52_1, hcz52_2, hcz52_3⟩, hfz52_0, hfz52_1, hfz52_2, hfz52_3⟩ := blkAll4 BK486
        go_wp2
        refine bodyPost_ret (results_ct rfl _ _ gb486 37 #[.int .u8 0, .int .i64 0, .int .i64 0, .int .i64 0] (0, 0) _ rfl (by refine bu ?_; refine blk_put (cs := #[.int .u8 0, .int .i64 0, .int .i64 0, .int .i64 0]) ?_ 3 _ rfl; refine bu ?_; refine blk_put (cs := #[.int .u8 0, .int .i64 0, .int .i64 0, .int .i64 0]) ?_ 2 _ rfl; refine bu ?_; refine blk_put (cs := #[.int .u8 0, .int .i64 0, .int .i64 0, .int .i64 0]) ?_ 1 _ rfl; refine bu ?_; refine blk_put (cs := #[.int .u8 0, .int .i64 0, .int .i64 0, .int .i64 0]) ?_ 0 _ rfl; refine bu ?_; exact BK486.out) Tryd.underlying37 rfl (by kernel_rfl)) rfl ?_
        exact ⟨er, bs⟩
       replace c49 := Bool.eq_false_iff.mpr c49
       subst c49
       have H1 : (if x489002_5 < 0 then (some (a0_1, Go.bits .or .i64 a0_2 1, wrap64 (-x489002_5), x489003_21, 0)) else (some (a0_1, a0_2, x489002_5, x489003_21, 0))) = some (r1, r2, r3, r4, r5) := by rw [if_neg (show ¬ (false = true) by decide)] at H; exact H
       clear H
       have H := H1
       clear H1
       by_cases c53 : x489002_5 < 0
       rotate_left
       ·rw [if_neg c53] at H
        have c53b0 := decide_eq_false c53
        clear c53
        simp only [Option.some.injEq, Prod.mk.injEq] at H
        obtain ⟨rfl, rfl, rfl, rfl, rfl⟩ := H
        have hnb59 := NB488_485.out
        have hnc59 := NB485_488.out
        have hnb60 := NB488_486.out
        have hnc60 := NB486_488.out
        obtain ⟨⟨hcz61_0, hcz61_1, hcz61_2, hcz61_3⟩, hfz61_0, hfz61_1, hfz61_2, hfz61_3⟩ := blkAll4 BK488
        have hnb62 := NB486_485.out
        have hnc62 := NB485_486.out
        obtain ⟨⟨hcz63_0, hcz63_1, hcz63_2, hcz63_3⟩, hfz63_0, hfz63_1, hfz63_2, hfz63_3⟩ := blkAll4 BK486
        go_wp2
        refine bodyPost_ret (results_ct rfl _ _ gb486 37 #[.int .u8 a0_1, .int .i64 a0_2, .int .i64 x489002_5, .int .i64 x489003_21] (0, 0) _ rfl (by refine bu ?_; refine blk_put (cs := #[.int .u8 a0_1, .int .i64 a0_2, .int .i64 x489002_5, .int .i64 0]) ?_ 3 _ rfl; refine bu ?_; refine blk_put (cs := #[.int .u8 a0_1, .int .i64 a0_2, .int .i64 0, .int .i64 0]) ?_ 2 _ rfl; refine bu ?_; refine blk_put (cs := #[.int .u8 a0_1, .int .i64 0, .int .i64 0, .int .i64 0]) ?_ 1 _ rfl; refine bu ?_; refine blk_put (cs := #[.int .u8 0, .int .i64 0, .int .i64 0, .int .i64 0]) ?_ 0 _ rfl; refine bu ?_; exact BK486.out) Tryd.underlying37 rfl (by kernel_rfl)) rfl ?_
        exact ⟨er, bs⟩
       rw [if_pos c53] at H
       have c53b0 := decide_eq_true c53
       clear c53
       simp only [Option.some.injEq, Prod.mk.injEq] at H
       obtain ⟨rfl, rfl, rfl, rfl, rfl⟩ := H
       have hnb54 := NB488_485.out
       have hnc54 := NB485_488.out
       have hnb55 := NB488_486.out
       have hnc55 := NB486_488.out
       obtain ⟨⟨hcz56_0, hcz56_1, hcz56_2, hcz56_3⟩, hfz56_0, hfz56_1, hfz56_2, hfz56_3⟩ := blkAll4 BK488
       have hnb57 := NB486_485.out
       have hnc57 := NB485_486.out
       obtain ⟨⟨hcz58_0, hcz58_1, hcz58_2, hcz58_3⟩, hfz58_0, hfz58_1, hfz58_2, hfz58_3⟩ := blkAll4 BK486
       go_wp2
       refine bodyPost_ret (results_ct rfl _ _ gb486 37 #[.int .u8 a0_1, .int .i64 (Go.bits .or .i64 a0_2 1), .int .i64 (wrap64 (-x489002_5)), .int .i64 x489003_21] (0, 0) _ rfl (by refine bu ?_; refine blk_put (cs := #[.int .u8 a0_1, .int .i64 (Go.bits .or .i64 a0_2 1), .int .i64 (wrap64 (-x489002_5)), .int .i64 0]) ?_ 3 _ rfl; refine bu ?_; refine blk_put (cs := #[.int .u8 a0_1, .int .i64 (Go.bits .or .i64 a0_2 1), .int .i64 0, .int .i64 0]) ?_ 2 _ rfl; refine bu ?_; refine blk_put (cs := #[.int .u8 a0_1, .int .i64 0, .int .i64 0, .int .i64 0]) ?_ 1 _ rfl; refine bu ?_; refine blk_put (cs := #[.int .u8 0, .int .i64 0, .int .i64 0, .int .i64 0]) ?_ 0 _ rfl; refine bu ?_; refine blk_far ?_ NB486_488.out _; refine bu ?_; refine blk_far ?_ NB486_488.out _; refine bu ?_; exact BK486.out) Tryd.underlying37 rfl (by kernel_rfl)) rfl ?_
       exact ⟨er, bs⟩
end Go.Proofs.YtlmijjekaelhcaaDoor.EDi
