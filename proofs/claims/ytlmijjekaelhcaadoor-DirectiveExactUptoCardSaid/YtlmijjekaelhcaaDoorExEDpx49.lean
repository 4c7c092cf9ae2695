/-
 A text of this session's own.
-/
import Derived.Test.YtlmijjekaelhcaaDoorExA0
import Derived.Test.YtlmijjekaelhcaaDoorExEDpx0
import Derived.Test.YtlmijjekaelhcaaDoorExEDpx44
namespace Go.Proofs.YtlmijjekaelhcaaDoor.EDi
open Go.RowKit Go.Proofs.YtlmijjekaelhcaaDoorW.PrintWords Go.Proofs.YtlmijjekaelhcaaDoorW.PrintLast Go.Proofs.YtlmijjekaelhcaaDoorW.PrintMore
attribute [local go_sem] max2_int min2_int max_two min_two max_three min_three max_four min_four
set_option linter.unusedVariables false
mutual
def q_Settle.j1 : Nat → Int → ByteArray → Int → Int → Int → Int → Int → Int → Int → Int → Int → Int → Option (Int × Int × Int × Int × Int)
 | 0, _, _, _, _, _, _, _, _, _, _, _, _ => none
 | k + 1, x2, x646000, x646001, x646002, x646003, x646004, x646005, x646006, x649000, x649001, x649002, x649003 => if x646005 = 1 then (q_Settle.j2 k x2 x646000 x646001 x646002 x646003 x646004 x646005 x646006 x649000 x649001 x649002 x646006) else (q_Settle.j2 k x2 x646000 x646001 x646002 x646003 x646004 x646005 x646006 x649000 x649001 x649002 x649003)
def q_Settle.j2 : Nat → Int → ByteArray → Int → Int → Int → Int → Int → Int → Int → Int → Int → Int → Option (Int × Int × Int × Int × Int)
 | 0, _, _, _, _, _, _, _, _, _, _, _, _ => none
 | k + 1, x2, x646000, x646001, x646002, x646003, x646004, x646005, x646006, x649000, x649001, x649002, x649003 => if x646005 = 2 then (if x2 > 4096 then (some (0, 0, 0, 0, 6)) else (if x2 ≥ 0 then (some (x649000, x649001, x649002, x2, 0)) else (some (x649000, x649001, x649002, x649003, 0)))) else (some (x649000, x649001, x649002, x649003, 0))
def q_Settle.j0 : Nat → Int → Int → Bool → ByteArray → Int → Int → Int → Int → Int → Int → Int → Int → Int → Int → Option (Int × Int × Int × Int × Int)
 | 0, _, _, _, _, _, _, _, _, _, _, _, _, _, _ => none
 | k + 1, x1, x2, x28, x646000, x646001, x646002, x646003, x646004, x646005, x646006, x649000, x649001, x649002, x649003 => if x28 = true then (some (0, 0, 0, 0, 6)) else (if x1 < 0 then (if (Int.tmod x649001 2) = 0 then (q_Settle.j1 k x2 x646000 x646001 x646002 x646003 x646004 x646005 x646006 x649000 (wrap64 (x649001 + 1)) (wrap64 (-x1)) x649003) else (q_Settle.j1 k x2 x646000 x646001 x646002 x646003 x646004 x646005 x646006 x649000 x649001 (wrap64 (-x1)) x649003)) else (q_Settle.j1 k x2 x646000 x646001 x646002 x646003 x646004 x646005 x646006 x649000 x649001 x1 x649003))
end
def q_Settle.f (k : Nat) (a0_0 : ByteArray) (a0_1 : Int) (a0_2 : Int) (a0_3 : Int) (a0_4 : Int) (a0_5 : Int) (a0_6 : Int) (a1 : Int) (a2 : Int) : Option (Int × Int × Int × Int × Int) := (q_directive.f k a0_0 a0_1 a0_2 a0_3 a0_4 a0_5 a0_6).bind fun t647 => (if t647 = true then (if a0_3 = 2 then (if a1 > 4096 then (q_Settle.j0 k a1 a2 true a0_0 a0_1 a0_2 a0_3 a0_4 a0_5 a0_6 a0_1 a0_2 a0_4 (-1)) else (q_Settle.j0 k a1 a2 (decide (a1 < (-4096))) a0_0 a0_1 a0_2 a0_3 a0_4 a0_5 a0_6 a0_1 a0_2 a0_4 (-1))) else (q_Settle.j1 k a2 a0_0 a0_1 a0_2 a0_3 a0_4 a0_5 a0_6 a0_1 a0_2 a0_4 (-1))) else (some (0, 0, 0, 0, 132)))
theorem q_Settle.mono_l : ∀ k, (∀ y0 y1 y2 y3 y4 y5 y6 y7 y8 y9 y10 y11, LeO (q_Settle.j1 k y0 y1 y2 y3 y4 y5 y6 y7 y8 y9 y10 y11) (q_Settle.j1 (k + 1) y0 y1 y2 y3 y4 y5 y6 y7 y8 y9 y10 y11)) ∧ (∀ y0 y1 y2 y3 y4 y5 y6 y7 y8 y9 y10 y11, LeO (q_Settle.j2 k y0 y1 y2 y3 y4 y5 y6 y7 y8 y9 y10 y11) (q_Settle.j2 (k + 1) y0 y1 y2 y3 y4 y5 y6 y7 y8 y9 y10 y11)) ∧ (∀ y0 y1 y2 y3 y4 y5 y6 y7 y8 y9 y10 y11 y12 y13, LeO (q_Settle.j0 k y0 y1 y2 y3 y4 y5 y6 y7 y8 y9 y10 y11 y12 y13) (q_Settle.j0 (k + 1) y0 y1 y2 y3 y4 y5 y6 y7 y8 y9 y10 y11 y12 y13))
 | 0 => ⟨fun _ _ _ _ _ _ _ _ _ _ _ _ r h => by simp [q_Settle.j1] at h, fun _ _ _ _ _ _ _ _ _ _ _ _ r h => by simp [q_Settle.j2] at h, fun _ _ _ _ _ _ _ _ _ _ _ _ _ _ r h => by simp [q_Settle.j0] at h⟩
 | k + 1 => by
  obtain ⟨ih0, ih1, ih2⟩ := q_Settle.mono_l k
  refine ⟨?_, ?_, ?_⟩ <;> intros
  all_goals first | unfold q_Settle.j1 | unfold q_Settle.j2 | unfold q_Settle.j0
  all_goals repeat' first
  | (with_reducible exact ih0 _ _ _ _ _ _ _ _ _ _ _ _)
  | (with_reducible exact ih1 _ _ _ _ _ _ _ _ _ _ _ _)
  | (with_reducible exact ih2 _ _ _ _ _ _ _ _ _ _ _ _ _ _)
  | (with_reducible exact q_directive.mono _ _ _ _ _ _ _ _)
  | (with_reducible exact LeO.refl _)
  | (with_reducible exact LeO.none _)
  | (with_reducible refine LeO.ite ?_ ?_)
  | (with_reducible refine LeO.bind ?_ (fun _ => ?_))
  | exact ih0 _ _ _ _ _ _ _ _ _ _ _ _
  | exact ih1 _ _ _ _ _ _ _ _ _ _ _ _
  | exact ih2 _ _ _ _ _ _ _ _ _ _ _ _ _ _
  | exact q_directive.mono _ _ _ _ _ _ _ _
  | exact LeO.none _
  | refine LeO.ite ?_ ?_
  | refine LeO.bind ?_ (fun _ => ?_)
theorem q_Settle.mono : ∀ a0 a1 a2 a3 a4 a5 a6 a7 a8 k, LeO (q_Settle.f k a0 a1 a2 a3 a4 a5 a6 a7 a8) (q_Settle.f (k + 1) a0 a1 a2 a3 a4 a5 a6 a7 a8) := by
 intro a0 a1 a2 a3 a4 a5 a6 a7 a8 k
 obtain ⟨ih0, ih1, ih2⟩ := q_Settle.mono_l k
 unfold q_Settle.f
 repeat' first
   | (with_reducible exact ih0 _ _ _ _ _ _ _ _ _ _ _ _)
   | (with_reducible exact ih1 _ _ _ _ _ _ _ _ _ _ _ _)
   | (with_reducible exact ih2 _ _ _ _ _ _ _ _ _ _ _ _ _ _)
   | (with_reducible exact q_directive.mono _ _ _ _ _ _ _ _)
   | (with_reducible exact LeO.refl _)
   | (with_reducible exact LeO.none _)
   | (with_reducible refine LeO.ite ?_ ?_)
   | (with_reducible refine LeO.bind ?_ (fun _ => ?_))
   | exact ih0 _ _ _ _ _ _ _ _ _ _ _ _
   | exact ih1 _ _ _ _ _ _ _ _ _ _ _ _
   | exact ih2 _ _ _ _ _ _ _ _ _ _ _ _ _ _
   | exact q_directive.mono _ _ _ _ _ _ _ _
   | exact LeO.none _
   | refine LeO.ite ?_ ?_
   | refine LeO.bind ?_ (fun _ => ?_)
set_option maxHeartbeats 8000000 in
set_option maxRecDepth 100000 in
theorem q_Settle.calls (k : Nat) (a0_0 : ByteArray) (a0_1 : Int) (a0_2 : Int) (a0_3 : Int) (a0_4 : Int) (a0_5 : Int) (a0_6 : Int) (a1 : Int) (a2 : Int) (r1 : Int) (r2 : Int) (r3 : Int) (r4 : Int) (r5 : Int) (w : World) (h : q_Settle.f k a0_0 a0_1 a0_2 a0_3 a0_4 a0_5 a0_6 a1 a2 = some (r1, r2, r3, r4, r5)) :
  Calls Tryd.prog 34 #[.agg #[.string a0_0, .int .u8 a0_1, .int .i64 a0_2, .int .i64 a0_3, .int .i64 a0_4, .int .i64 a0_5, .int .i64 a0_6], .int .i64 a1, .int .i64 a2] w fun e w' => e = .returned (.tuple #[.agg #[.int .u8 r1, .int .i64 r2, .int .i64 r3, .int .i64 r4], .int .i64 r5]) ∧ Below w.heap.size w w' := by
 have hu25 := Tryd.underlying25
 have hu37 := Tryd.underlying37
 have HB := am (Below.refl w.heap.size w)
 have H : ((q_directive.f k a0_0 a0_1 a0_2 a0_3 a0_4 a0_5 a0_6).bind fun t647 => (if t647 = true then (if a0_3 = 2 then (if a1 > 4096 then (q_Settle.j0 k a1 a2 true a0_0 a0_1 a0_2 a0_3 a0_4 a0_5 a0_6 a0_1 a0_2 a0_4 (-1)) else (q_Settle.j0 k a1 a2 (decide (a1 < (-4096))) a0_0 a0_1 a0_2 a0_3 a0_4 a0_5 a0_6 a0_1 a0_2 a0_4 (-1))) else (q_Settle.j1 k a2 a0_0 a0_1 a0_2 a0_3 a0_4 a0_5 a0_6 a0_1 a0_2 a0_4 (-1))) else (some (0, 0, 0, 0, 132)))) = some (r1, r2, r3, r4, r5) := h
 clear h
 replace H := Option.bind_eq_some_iff.mp H
 obtain ⟨t647, A40, H⟩ := H
 replace H : (if t647 = true then (if a0_3 = 2 then (if a1 > 4096 then (q_Settle.j0 k a1 a2 true a0_0 a0_1 a0_2 a0_3 a0_4 a0_5 a0_6 a0_1 a0_2 a0_4 (-1)) else (q_Settle.j0 k a1 a2 (decide (a1 < (-4096))) a0_0 a0_1 a0_2 a0_3 a0_4 a0_5 a0_6 a0_1 a0_2 a0_4 (-1))) else (q_Settle.j1 k a2 a0_0 a0_1 a0_2 a0_3 a0_4 a0_5 a0_6 a0_1 a0_2 a0_4 (-1))) else (some (0, 0, 0, 0, 132))) = some (r1, r2, r3, r4, r5) := H
 have A4 := am A40
 clear A40
 by_cases c5 : t647 = true
 rotate_left
 ·replace c5 := Bool.eq_false_iff.mpr c5
  subst c5
  have H1 : (some (0, 0, 0, 0, 132)) = some (r1, r2, r3, r4, r5) := by rw [if_neg (show ¬ (false = true) by decide)] at H; exact H
  clear H
  have H := H1
  clear H1
  simp only [Option.some.injEq, Prod.mk.injEq] at H
  obtain ⟨rfl, rfl, rfl, rfl, rfl⟩ := H
  go_enter Tryd.func34, Tryd.ntmps34
  go_wp2_with (first | ((with_reducible refine gate_dst (N := 3) rfl ?_); refine box_event ?hg (N := 3) ?hd (cs := #[.string a0_0, .int .u8 a0_1, .int .i64 a0_2, .int .i64 a0_3, .int .i64 a0_4, .int .i64 a0_5, .int .i64 a0_6]) (t := 25) ?hr ?_; (case hd => rfl); (case hg => rfl); (case hr => first | (go_simp; done) | (go_simp; rfl)); intro gb645 hg w72 hbox hb; have n0_ := am (below_step bl hb); have n1_ := am (hbox); have n2_ := am ((by rw [hg]; exact (below_size bl) : w.heap.size ≤ gb645)); have n3_ := n2_; clear HB; have HB := n0_; have BK645 := n1_; have GW645 := n2_; have GE645 := n3_; clear n0_ n1_ n2_ n3_; clear hb hbox hg) | ((with_reducible refine gate_dst (N := 6) rfl ?_); refine box_event ?hg (N := 6) ?hd (cs := #[.int .u8 0, .int .i64 0, .int .i64 0, .int .i64 0]) (t := 37) ?hr ?_; (case hd => rfl); (case hg => rfl); (case hr => first | (go_simp; done) | (go_simp; rfl)); intro gb646 hg w73 hbox hb; have n0_ := am (blk_below (bu BK645.out) hb); have n1_ := am (below_step bs hb); have n2_ := am (hbox); have n3_ := am ((by rw [hg]; exact (below_size bs) : w.heap.size ≤ gb646)); have n4_ := am ((by rw [hg]; exact (below_size bs) : w.heap.size ≤ gb646)); have n5_ := am ((by rw [hg]; exact Nat.ne_of_lt (blk_lt (bu BK645.out)) : gb645 ≠ gb646)); have n6_ := am ((by rw [hg]; exact Nat.ne_of_gt (blk_lt (bu BK645.out)) : gb646 ≠ gb645)); clear BK645; clear HB; have BK645 := n0_; have HB := n1_; have BK646 := n2_; have GW646 := n3_; have GE646 := n4_; have NB645_646 := n5_; have NB646_645 := n6_; clear n0_ n1_ n2_ n3_ n4_ n5_ n6_; clear hb hbox hg; have hnb74 := NB645_646.out; have hnc74 := NB646_645.out; obtain ⟨⟨hcz75_0, hcz75_1, hcz75_2, hcz75_3, hcz75_4, hcz75_5, hcz75_6⟩, hfz75_0, hfz75_1, hfz75_2, hfz75_3, hfz75_4, hfz75_5, hfz75_6⟩ := blkAll7 BK645) | ((with_reducible refine gate_callee (f := 49) rfl ?_); refine goesL_ (some 10) rfl rfl Tryd.func49 (by kernel_rfl) rfl #[.agg #[.string a0_0, .int .u8 a0_1, .int .i64 a0_2, .int .i64 a0_3, .int .i64 a0_4, .int .i64 a0_5, .int .i64 a0_6]] rfl ls ?_; (with_reducible refine (q_directive.calls k a0_0 a0_1 a0_2 a0_3 a0_4 a0_5 a0_6 false _ A4.out).mono ?_); rintro e w76 ⟨rfl, hb⟩; refine ⟨_, rfl, ?_⟩; have n0_ := am (blk_below (bu BK645.out) hb); have n1_ := am (blk_below (bu BK646.out) hb); have n2_ := am (below_step bs hb); clear BK645; clear BK646; clear HB; have BK645 := n0_; have BK646 := n1_; have HB := n2_; clear n0_ n1_ n2_; (try clear hb); (try clear hb2); (try clear hk); (try clear hi); obtain ⟨⟨hcz77_0, hcz77_1, hcz77_2, hcz77_3⟩, hfz77_0, hfz77_1, hfz77_2, hfz77_3⟩ := blkAll4 BK646))
  refine bodyPost_ret (results_ct rfl _ _ gb646 37 #[.int .u8 0, .int .i64 0, .int .i64 0, .int .i64 0] (0, 0) _ rfl (by refine bu ?_; refine blk_put (cs := #[.int .u8 0, .int .i64 0, .int .i64 0, .int .i64 0]) ?_ 3 _ rfl; refine bu ?_; refine blk_put (cs := #[.int .u8 0, .int .i64 0, .int .i64 0, .int .i64 0]) ?_ 2 _ rfl; refine bu ?_; refine blk_put (cs := #[.int .u8 0, .int .i64 0, .int .i64 0, .int .i64 0]) ?_ 1 _ rfl; refine bu ?_; refine blk_put (cs := #[.int .u8 0, .int .i64 0, .int .i64 0, .int .i64 0]) ?_ 0 _ rfl; refine bu ?_; exact BK646.out) Tryd.underlying37 rfl (by kernel_rfl)) rfl ?_
  exact ⟨er, bs⟩
 subst c5
 have H1 : (if a0_3 = 2 then (if a1 > 4096 then (q_Settle.j0 k a1 a2 true a0_0 a0_1 a0_2 a0_3 a0_4 a0_5 a0_6 a0_1 a0_2 a0_4 (-1)) else (q_Settle.j0 k a1 a2 (decide (a1 < (-4096))) a0_0 a0_1 a0_2 a0_3 a0_4 a0_5 a0_6 a0_1 a0_2 a0_4 (-1))) else (q_Settle.j1 k a2 a0_0 a0_1 a0_2 a0_3 a0_4 a0_5 a0_6 a0_1 a0_2 a0_4 (-1))) = some (r1, r2, r3, r4, r5) := by rw [if_pos rfl] at H; exact H
 clear H
 have H := H1
 clear H1
 have HC6 := am H
 clear H
 go_enter Tryd.func34, Tryd.ntmps34
 go_upto_if 22 with (first | ((with_reducible refine gate_dst (N := 3) rfl ?_); refine box_event ?hg (N := 3) ?hd (cs := #[.string a0_0, .int .u8 a0_1, .int .i64 a0_2, .int .i64 a0_3, .int .i64 a0_4, .int .i64 a0_5, .int .i64 a0_6]) (t := 25) ?hr ?_; (case hd => rfl); (case hg => rfl); (case hr => first | (go_simp; done) | (go_simp; rfl)); intro gb645 hg w7 hbox hb; have n0_ := am (below_step bl hb); have n1_ := am (hbox); have n2_ := am ((by rw [hg]; exact (below_size bl) : w.heap.size ≤ gb645)); have n3_ := n2_; clear HB; have HB := n0_; have BK645 := n1_; have GW645 := n2_; have GE645 := n3_; clear n0_ n1_ n2_ n3_; clear hb hbox hg) | ((with_reducible refine gate_dst (N := 6) rfl ?_); refine box_event ?hg (N := 6) ?hd (cs := #[.int .u8 0, .int .i64 0, .int .i64 0, .int .i64 0]) (t := 37) ?hr ?_; (case hd => rfl); (case hg => rfl); (case hr => first | (go_simp; done) | (go_simp; rfl)); intro gb646 hg w8 hbox hb; have n0_ := am (blk_below (bu BK645.out) hb); have n1_ := am (below_step bs hb); have n2_ := am (hbox); have n3_ := am ((by rw [hg]; exact (below_size bs) : w.heap.size ≤ gb646)); have n4_ := am ((by rw [hg]; exact (below_size bs) : w.heap.size ≤ gb646)); have n5_ := am ((by rw [hg]; exact Nat.ne_of_lt (blk_lt (bu BK645.out)) : gb645 ≠ gb646)); have n6_ := am ((by rw [hg]; exact Nat.ne_of_gt (blk_lt (bu BK645.out)) : gb646 ≠ gb645)); clear BK645; clear HB; have BK645 := n0_; have HB := n1_; have BK646 := n2_; have GW646 := n3_; have GE646 := n4_; have NB645_646 := n5_; have NB646_645 := n6_; clear n0_ n1_ n2_ n3_ n4_ n5_ n6_; clear hb hbox hg; have hnb9 := NB645_646.out; have hnc9 := NB646_645.out; obtain ⟨⟨hcz10_0, hcz10_1, hcz10_2, hcz10_3, hcz10_4, hcz10_5, hcz10_6⟩, hfz10_0, hfz10_1, hfz10_2, hfz10_3, hfz10_4, hfz10_5, hfz10_6⟩ := blkAll7 BK645) | ((with_reducible refine gate_callee (f := 49) rfl ?_); refine goesL_ (some 10) rfl rfl Tryd.func49 (by kernel_rfl) rfl #[.agg #[.string a0_0, .int .u8 a0_1, .int .i64 a0_2, .int .i64 a0_3, .int .i64 a0_4, .int .i64 a0_5, .int .i64 a0_6]] rfl ls ?_; (with_reducible refine (q_directive.calls k a0_0 a0_1 a0_2 a0_3 a0_4 a0_5 a0_6 true _ A4.out).mono ?_); rintro e w11 ⟨rfl, hb⟩; refine ⟨_, rfl, ?_⟩; have n0_ := am (blk_below (bu BK645.out) hb); have n1_ := am (blk_below (bu BK646.out) hb); have n2_ := am (below_step bs hb); clear BK645; clear BK646; clear HB; have BK645 := n0_; have BK646 := n1_; have HB := n2_; clear n0_ n1_ n2_; (try clear hb); (try clear hb2); (try clear hk); (try clear hi); obtain ⟨⟨hcz12_0, hcz12_1, hcz12_2, hcz12_3, hcz12_4, hcz12_5, hcz12_6⟩, hfz12_0, hfz12_1, hfz12_2, hfz12_3, hfz12_4, hfz12_5, hfz12_6⟩ := blkAll7 BK645) | ((with_reducible refine gate_dst (N := 8) rfl ?_); refine box_event ?hg (N := 8) ?hd (cs := #[.int .u8 0, .int .i64 0, .int .i64 0, .int .i64 0]) (t := 37) ?hr ?_; (case hd => rfl); (case hg => rfl); (case hr => first | (go_simp; done) | (go_simp; rfl)); intro gb648 hg w13 hbox hb; have n0_ := am (blk_below (bu BK645.out) hb); have n1_ := am (blk_below (bu BK646.out) hb); have n2_ := am (below_step bs hb); have n3_ := am (hbox); have n4_ := am ((by rw [hg]; exact (below_size bs) : w.heap.size ≤ gb648)); have n5_ := am ((by rw [hg]; exact (below_size bs) : w.heap.size ≤ gb648)); have n6_ := am ((by rw [hg]; exact Nat.ne_of_lt (blk_lt (bu BK645.out)) : gb645 ≠ gb648)); have n7_ := am ((by rw [hg]; exact Nat.ne_of_gt (blk_lt (bu BK645.out)) : gb648 ≠ gb645)); have n8_ := am ((by rw [hg]; exact Nat.ne_of_lt (blk_lt (bu BK646.out)) : gb646 ≠ gb648)); have n9_ := am ((by rw [hg]; exact Nat.ne_of_gt (blk_lt (bu BK646.out)) : gb648 ≠ gb646)); clear BK645; clear BK646; clear HB; have BK645 := n0_; have BK646 := n1_; have HB := n2_; have BK648 := n3_; have GW648 := n4_; have GE648 := n5_; have NB645_648 := n6_; have NB648_645 := n7_; have NB646_648 := n8_; have NB648_646 := n9_; clear n0_ n1_ n2_ n3_ n4_ n5_ n6_ n7_ n8_ n9_; clear hb hbox hg; have hnb14 := NB648_645.out; have hnc14 := NB645_648.out; have hnb15 := NB648_646.out; have hnc15 := NB646_648.out; obtain ⟨⟨hcz16_0, hcz16_1, hcz16_2, hcz16_3⟩, hfz16_0, hfz16_1, hfz16_2, hfz16_3⟩ := blkAll4 BK648; obtain ⟨⟨hcz17_0, hcz17_1, hcz17_2, hcz17_3, hcz17_4, hcz17_5, hcz17_6⟩, hfz17_0, hfz17_1, hfz17_2, hfz17_3, hfz17_4, hfz17_5, hfz17_6⟩ := blkAll7 BK645))
 (try simp only [Act.put, List.setIfInBounds_toArray, List.set_cons_zero, List.set_cons_succ])
 go_cut [] (fun wc => ∃ (kq : Nat) (x647000_5 : Int) (x647001_5 : Int) (x647002_5 : Int) (x647003_5 : Int) (x649001_5 : Int) (x649002_5 : Int), Aside0 (q_Settle.j1 kq a2 a0_0 a0_1 a0_2 a0_3 a0_4 a0_5 a0_6 a0_1 x649001_5 x649002_5 (-1) = some (r1, r2, r3, r4, r5)) ∧ Aside0 (kq ≤ k) ∧ Aside0 (wc.heap[gb645]? = some (.cells #[.string a0_0, .int .u8 a0_1, .int .i64 a0_2, .int .i64 a0_3, .int .i64 a0_4, .int .i64 a0_5, .int .i64 a0_6] 25 (0, 0))) ∧ Aside0 (wc.heap[gb646]? = some (.cells #[.int .u8 x647000_5, .int .i64 x647001_5, .int .i64 x647002_5, .int .i64 x647003_5] 37 (0, 0))) ∧ Aside0 (wc.heap[gb648]? = some (.cells #[.int .u8 a0_1, .int .i64 x649001_5, .int .i64 x649002_5, .int .i64 (-1)] 37 (0, 0))) ∧ Aside0 (Below w.heap.size w wc))
 case first =>
  have H := HC6.out
  clear HC6
  by_cases c18 : a0_3 = 2
  rotate_left
  ·rw [if_neg c18] at H
   have c18b0 : (a0_3 == 2) = false := beq_eq_false_iff_ne.mpr c18
   have c18b1 : (a0_3 != 2) = true := bne_iff_ne.mpr c18
   (first | rw [c18b0] | (simp only [i64_w, i32_w]; rw [c18b0]) | skip)
   have H' := am H
   clear H
   go_wp2
   go_meet
   case rel => exact ⟨_, (0), (0), (0), (0), (a0_2), (a0_4), H', ⟨by first | omega | exact Nat.le_refl _⟩, ⟨by refine bu ?_; refine blk_far ?_ NB645_648.out _; refine bu ?_; refine blk_far ?_ NB645_648.out _; refine bu ?_; refine blk_far ?_ NB645_648.out _; refine bu ?_; refine blk_far ?_ NB645_648.out _; refine bu ?_; exact BK645.out⟩, ⟨by refine bu ?_; refine blk_far ?_ NB646_648.out _; refine bu ?_; refine blk_far ?_ NB646_648.out _; refine bu ?_; refine blk_far ?_ NB646_648.out _; refine bu ?_; refine blk_far ?_ NB646_648.out _; refine bu ?_; exact BK646.out⟩, ⟨by refine bu ?_; refine blk_put (cs := #[.int .u8 a0_1, .int .i64 a0_2, .int .i64 a0_4, .int .i64 0]) ?_ 3 _ rfl; refine bu ?_; refine blk_put (cs := #[.int .u8 a0_1, .int .i64 a0_2, .int .i64 0, .int .i64 0]) ?_ 2 _ rfl; refine bu ?_; refine blk_put (cs := #[.int .u8 a0_1, .int .i64 0, .int .i64 0, .int .i64 0]) ?_ 1 _ rfl; refine bu ?_; refine blk_put (cs := #[.int .u8 0, .int .i64 0, .int .i64 0, .int .i64 0]) ?_ 0 _ rfl; refine bu ?_; exact BK648.out⟩, ⟨bs⟩⟩
  rw [if_pos c18] at H
  have c18b0 : (a0_3 == 2) = true := beq_iff_eq.mpr c18
  have c18b1 : (a0_3 != 2) = false := bne_eq_false_iff_eq.mpr c18
  clear c18
  (first | rw [c18b0] | (simp only [i64_w, i32_w]; rw [c18b0]) | skip)
  have HC19 := am H
  clear H
  go_upto_region 5 with (fail)
  go_cut [28] (fun v28 wc => ∃ (kq : Nat) (x28_18 : Bool), v28 = .bool x28_18 ∧ Aside0 (q_Settle.j0 kq a1 a2 x28_18 a0_0 a0_1 a0_2 a0_3 a0_4 a0_5 a0_6 a0_1 a0_2 a0_4 (-1) = some (r1, r2, r3, r4, r5)) ∧ Aside0 (kq ≤ k) ∧ Aside0 (wc.heap[gb645]? = some (.cells #[.string a0_0, .int .u8 a0_1, .int .i64 a0_2, .int .i64 a0_3, .int .i64 a0_4, .int .i64 a0_5, .int .i64 a0_6] 25 (0, 0))) ∧ Aside0 (wc.heap[gb646]? = some (.cells #[.int .u8 0, .int .i64 0, .int .i64 0, .int .i64 0] 37 (0, 0))) ∧ Aside0 (wc.heap[gb648]? = some (.cells #[.int .u8 a0_1, .int .i64 a0_2, .int .i64 a0_4, .int .i64 (-1)] 37 (0, 0))) ∧ Aside0 (Below w.heap.size w wc))
  case first =>
   have H := HC19.out
   clear HC19
   by_cases c20 : a1 > 4096
   ·rw [if_pos c20] at H
    have c20b0 : decide (4096 < a1) = true := decide_eq_true c20
    clear c20
    (first | rw [c20b0] | (simp only [i64_w, i32_w]; rw [c20b0]) | skip)
    have H' := am H
    clear H
    go_wp2
    go_meet
    case rel => exact ⟨_, (true), tv, H', ⟨by first | omega | exact Nat.le_refl _⟩, ⟨by refine bu ?_; refine blk_far ?_ NB645_648.out _; refine bu ?_; refine blk_far ?_ NB645_648.out _; refine bu ?_; refine blk_far ?_ NB645_648.out _; refine bu ?_; refine blk_far ?_ NB645_648.out _; refine bu ?_; exact BK645.out⟩, ⟨by refine bu ?_; refine blk_far ?_ NB646_648.out _; refine bu ?_; refine blk_far ?_ NB646_648.out _; refine bu ?_; refine blk_far ?_ NB646_648.out _; refine bu ?_; refine blk_far ?_ NB646_648.out _; refine bu ?_; exact BK646.out⟩, ⟨by refine bu ?_; refine blk_put (cs := #[.int .u8 a0_1, .int .i64 a0_2, .int .i64 a0_4, .int .i64 0]) ?_ 3 _ rfl; refine bu ?_; refine blk_put (cs := #[.int .u8 a0_1, .int .i64 a0_2, .int .i64 0, .int .i64 0]) ?_ 2 _ rfl; refine bu ?_; refine blk_put (cs := #[.int .u8 a0_1, .int .i64 0, .int .i64 0, .int .i64 0]) ?_ 1 _ rfl; refine bu ?_; refine blk_put (cs := #[.int .u8 0, .int .i64 0, .int .i64 0, .int .i64 0]) ?_ 0 _ rfl; refine bu ?_; exact BK648.out⟩, ⟨bs⟩⟩
   rw [if_neg c20] at H
   have c20b0 : decide (4096 < a1) = false := decide_eq_false c20
   clear c20
   (first | rw [c20b0] | (simp only [i64_w, i32_w]; rw [c20b0]) | skip)
   have H' := am H
   clear H
   go_wp2
   go_meet
   case rel => exact ⟨_, (decide (a1 < (-4096))), tv, H', ⟨by first | omega | exact Nat.le_refl _⟩, ⟨by refine bu ?_; refine blk_far ?_ NB645_648.out _; refine bu ?_; refine blk_far ?_ NB645_648.out _; refine bu ?_; refine blk_far ?_ NB645_648.out _; refine bu ?_; refine blk_far ?_ NB645_648.out _; refine bu ?_; exact BK645.out⟩, ⟨by refine bu ?_; refine blk_far ?_ NB646_648.out _; refine bu ?_; refine blk_far ?_ NB646_648.out _; refine bu ?_; refine blk_far ?_ NB646_648.out _; refine bu ?_; refine blk_far ?_ NB646_648.out _; refine bu ?_; exact BK646.out⟩, ⟨by refine bu ?_; refine blk_put (cs := #[.int .u8 a0_1, .int .i64 a0_2, .int .i64 a0_4, .int .i64 0]) ?_ 3 _ rfl; refine bu ?_; refine blk_put (cs := #[.int .u8 a0_1, .int .i64 a0_2, .int .i64 0, .int .i64 0]) ?_ 2 _ rfl; refine bu ?_; refine blk_put (cs := #[.int .u8 a0_1, .int .i64 0, .int .i64 0, .int .i64 0]) ?_ 1 _ rfl; refine bu ?_; refine blk_put (cs := #[.int .u8 0, .int .i64 0, .int .i64 0, .int .i64 0]) ?_ 0 _ rfl; refine bu ?_; exact BK648.out⟩, ⟨bs⟩⟩
  case rest =>
   clear HC19
   try clear c1
   try clear c2
   try clear p2
   try clear c3
   try clear c4
   try clear c5
   try clear c9
   try clear c14
   try clear c15
   try clear c18
   try clear c18b0
   try clear c18b1
   try clear c20
   try clear c20b0
   try clear hcz10_0 hcz10_1 hcz10_2 hcz10_3 hcz10_4 hcz10_5 hcz10_6
   try clear hcz12_0 hcz12_1 hcz12_2 hcz12_3 hcz12_4 hcz12_5 hcz12_6
   try clear hcz16_0 hcz16_1 hcz16_2 hcz16_3
   try clear hcz17_0 hcz17_1 hcz17_2 hcz17_3 hcz17_4 hcz17_5 hcz17_6
   try clear hfz10_0 hfz10_1 hfz10_2 hfz10_3 hfz10_4 hfz10_5 hfz10_6
   try clear hfz12_0 hfz12_1 hfz12_2 hfz12_3 hfz12_4 hfz12_5 hfz12_6
   try clear hfz16_0 hfz16_1 hfz16_2 hfz16_3
   try clear hfz17_0 hfz17_1 hfz17_2 hfz17_3 hfz17_4 hfz17_5 hfz17_6
   obtain ⟨kq, x28_18, rfl, HA, HJ18, BK645, BK646, BK648, HB⟩ := hcut
   cases kq with
   | zero => exact absurd HA.out (by simp [q_Settle.j0])
   | succ kj18 =>
    have H := HA.out
    clear HA
    simp only [q_Settle.j0] at H
    by_cases c21 : x28_18 = true
    ·subst c21
     have H1 : (some (0, 0, 0, 0, 6)) = some (r1, r2, r3, r4, r5) := by rw [if_pos rfl] at H; exact H
     clear H
     have H := H1
     clear H1
     simp only [Option.some.injEq, Prod.mk.injEq] at H
     obtain ⟨rfl, rfl, rfl, rfl, rfl⟩ := H
     have hnb22 := NB646_645.out
     have hnc22 := NB645_646.out
     have hnb23 := NB646_648.out
     have hnc23 := NB648_646.out
     obtain ⟨⟨hcz24_0, hcz24_1, hcz24_2, hcz24_3⟩, hfz24_0, hfz24_1, hfz24_2, hfz24_3⟩ := blkAll4 BK646
     go_wp2
     refine bodyPost_ret (results_ct rfl _ _ gb646 37 #[.int .u8 0, .int .i64 0, .int .i64 0, .int .i64 0] (0, 0) _ rfl (by refine bu ?_; refine blk_put (cs := #[.int .u8 0, .int .i64 0, .int .i64 0, .int .i64 0]) ?_ 3 _ rfl; refine bu ?_; refine blk_put (cs := #[.int .u8 0, .int .i64 0, .int .i64 0, .int .i64 0]) ?_ 2 _ rfl; refine bu ?_; refine blk_put (cs := #[.int .u8 0, .int .i64 0, .int .i64 0, .int .i64 0]) ?_ 1 _ rfl; refine bu ?_; refine blk_put (cs := #[.int .u8 0, .int .i64 0, .int .i64 0, .int .i64 0]) ?_ 0 _ rfl; refine bu ?_; exact BK646.out) Tryd.underlying37 rfl (by kernel_rfl)) rfl ?_
     exact ⟨er, bs⟩
    replace c21 := Bool.eq_false_iff.mpr c21
    subst c21
    have H1 : (if a1 < 0 then (if (Int.tmod a0_2 2) = 0 then (q_Settle.j1 kj18 a2 a0_0 a0_1 a0_2 a0_3 a0_4 a0_5 a0_6 a0_1 (wrap64 (a0_2 + 1)) (wrap64 (-a1)) (-1)) else (q_Settle.j1 kj18 a2 a0_0 a0_1 a0_2 a0_3 a0_4 a0_5 a0_6 a0_1 a0_2 (wrap64 (-a1)) (-1))) else (q_Settle.j1 kj18 a2 a0_0 a0_1 a0_2 a0_3 a0_4 a0_5 a0_6 a0_1 a0_2 a1 (-1))) = some (r1, r2, r3, r4, r5) := by rw [if_neg (show ¬ (false = true) by decide)] at H; exact H
    clear H
    have H := H1
    clear H1
    by_cases c25 : a1 < 0
    rotate_left
    ·rw [if_neg c25] at H
     have c25b0 := decide_eq_false c25
     clear c25
     have H' := am H
     clear H
     have hnb33 := NB648_645.out
     have hnc33 := NB645_648.out
     have hnb34 := NB648_646.out
     have hnc34 := NB646_648.out
     obtain ⟨⟨hcz35_0, hcz35_1, hcz35_2, hcz35_3⟩, hfz35_0, hfz35_1, hfz35_2, hfz35_3⟩ := blkAll4 BK648
     go_wp2
     go_meet
     case rel => exact ⟨_, (0), (0), (0), (0), (a0_2), (a1), H', ⟨by have := HJ18.out; first | omega | exact Nat.le_refl _⟩, ⟨by refine bu ?_; refine blk_far ?_ NB645_648.out _; refine bu ?_; exact BK645.out⟩, ⟨by refine bu ?_; refine blk_far ?_ NB646_648.out _; refine bu ?_; exact BK646.out⟩, ⟨by refine bu ?_; refine blk_put (cs := #[.int .u8 a0_1, .int .i64 a0_2, .int .i64 a0_4, .int .i64 (-1)]) ?_ 2 _ rfl; refine bu ?_; exact BK648.out⟩, ⟨bs⟩⟩
    rw [if_pos c25] at H
    have c25b0 := decide_eq_true c25
    clear c25
    by_cases c26 : (Int.tmod a0_2 2) = 0
    rotate_left
    ·rw [if_neg c26] at H
     have c26b0 : ((Int.tmod a0_2 2) == 0) = false := beq_eq_false_iff_ne.mpr c26
     have c26b1 : ((Int.tmod a0_2 2) != 0) = true := bne_iff_ne.mpr c26
     have H' := am H
     clear H
     have hnb30 := NB648_645.out
     have hnc30 := NB645_648.out
     have hnb31 := NB648_646.out
     have hnc31 := NB646_648.out
     obtain ⟨⟨hcz32_0, hcz32_1, hcz32_2, hcz32_3⟩, hfz32_0, hfz32_1, hfz32_2, hfz32_3⟩ := blkAll4 BK648
     go_wp2
     go_meet
     case rel => exact ⟨_, (0), (0), (0), (0), (a0_2), (wrap64 (-a1)), H', ⟨by have := HJ18.out; first | omega | exact Nat.le_refl _⟩, ⟨by refine bu ?_; refine blk_far ?_ NB645_648.out _; refine bu ?_; refine blk_far ?_ NB645_648.out _; refine bu ?_; exact BK645.out⟩, ⟨by refine bu ?_; refine blk_far ?_ NB646_648.out _; refine bu ?_; refine blk_far ?_ NB646_648.out _; refine bu ?_; exact BK646.out⟩, ⟨by refine bu ?_; refine blk_put (cs := #[.int .u8 a0_1, .int .i64 a0_2, .int .i64 a1, .int .i64 (-1)]) ?_ 2 _ rfl; refine bu ?_; refine blk_put (cs := #[.int .u8 a0_1, .int .i64 a0_2, .int .i64 a0_4, .int .i64 (-1)]) ?_ 2 _ rfl; refine bu ?_; exact BK648.out⟩, ⟨bs⟩⟩
    rw [if_pos c26] at H
    have c26b0 : ((Int.tmod a0_2 2) == 0) = true := beq_iff_eq.mpr c26
    have c26b1 : ((Int.tmod a0_2 2) != 0) = false := bne_eq_false_iff_eq.mpr c26
    clear c26
    have H' := am H
    clear H
    have hnb27 := NB648_645.out
    have hnc27 := NB645_648.out
    have hnb28 := NB648_646.out
    have hnc28 := NB646_648.out
    obtain ⟨⟨hcz29_0, hcz29_1, hcz29_2, hcz29_3⟩, hfz29_0, hfz29_1, hfz29_2, hfz29_3⟩ := blkAll4 BK648
    go_wp2
    go_meet
    case rel => exact ⟨_, (0), (0), (0), (0), (wrap64 (a0_2 + 1)), (wrap64 (-a1)), H', ⟨by have := HJ18.out; first | omega | exact Nat.le_refl _⟩, ⟨by refine bu ?_; refine blk_far ?_ NB645_648.out _; refine bu ?_; refine blk_far ?_ NB645_648.out _; refine bu ?_; refine blk_far ?_ NB645_648.out _; refine bu ?_; exact BK645.out⟩, ⟨by refine bu ?_; refine blk_far ?_ NB646_648.out _; refine bu ?_; refine blk_far ?_ NB646_648.out _; refine bu ?_; refine blk_far ?_ NB646_648.out _; refine bu ?_; exact BK646.out⟩, ⟨by refine bu ?_; refine blk_put (cs := #[.int .u8 a0_1, .int .i64 a0_2, .int .i64 (wrap64 (-a1)), .int .i64 (-1)]) ?_ 1 _ rfl; refine bu ?_; refine blk_put (cs := #[.int .u8 a0_1, .int .i64 a0_2, .int .i64 a1, .int .i64 (-1)]) ?_ 2 _ rfl; refine bu ?_; refine blk_put (cs := #[.int .u8 a0_1, .int .i64 a0_2, .int .i64 a0_4, .int .i64 (-1)]) ?_ 2 _ rfl; refine bu ?_; exact BK648.out⟩, ⟨bs⟩⟩
 case rest =>
  clear HC6
  try clear c1
  try clear c2
  try clear p2
  try clear c3
  try clear c4
  try clear c5
  try clear p6
  try clear c9
  try clear c14
  try clear c15
  try clear c18
  try clear c18b0
  try clear c18b1
  try clear c20
  try clear c20b0
  try clear c21
  try clear c22
  try clear c23
  try clear c25
  try clear c25b0
  try clear c26
  try clear c26b0
  try clear c26b1
  try clear c27
  try clear c28
  try clear c30
  try clear c31
  try clear c33
  try clear c34
  try clear hcz10_0 hcz10_1 hcz10_2 hcz10_3 hcz10_4 hcz10_5 hcz10_6
  try clear hcz12_0 hcz12_1 hcz12_2 hcz12_3 hcz12_4 hcz12_5 hcz12_6
  try clear hcz16_0 hcz16_1 hcz16_2 hcz16_3
  try clear hcz17_0 hcz17_1 hcz17_2 hcz17_3 hcz17_4 hcz17_5 hcz17_6
  try clear hcz24_0 hcz24_1 hcz24_2 hcz24_3
  try clear hcz29_0 hcz29_1 hcz29_2 hcz29_3
  try clear hcz32_0 hcz32_1 hcz32_2 hcz32_3
  try clear hcz35_0 hcz35_1 hcz35_2 hcz35_3
  try clear hfz10_0 hfz10_1 hfz10_2 hfz10_3 hfz10_4 hfz10_5 hfz10_6
  try clear hfz12_0 hfz12_1 hfz12_2 hfz12_3 hfz12_4 hfz12_5 hfz12_6
  try clear hfz16_0 hfz16_1 hfz16_2 hfz16_3
  try clear hfz17_0 hfz17_1 hfz17_2 hfz17_3 hfz17_4 hfz17_5 hfz17_6
  try clear hfz24_0 hfz24_1 hfz24_2 hfz24_3
  try clear hfz29_0 hfz29_1 hfz29_2 hfz29_3
  try clear hfz32_0 hfz32_1 hfz32_2 hfz32_3
  try clear hfz35_0 hfz35_1 hfz35_2 hfz35_3
  try clear p2
  obtain ⟨kq, x647000_5, x647001_5, x647002_5, x647003_5, x649001_5, x649002_5, HA, HJ5, BK645, BK646, BK648, HB⟩ := hcut
  cases kq with
  | zero => exact absurd HA.out (by simp [q_Settle.j1])
  | succ kj5 =>
   have H := HA.out
   clear HA
   simp only [q_Settle.j1] at H
   have HC36 := am H
   clear H
   have hnb37 := NB645_646.out
   have hnc37 := NB646_645.out
   have hnb38 := NB645_648.out
   have hnc38 := NB648_645.out
   obtain ⟨⟨hcz39_0, hcz39_1, hcz39_2, hcz39_3, hcz39_4, hcz39_5, hcz39_6⟩, hfz39_0, hfz39_1, hfz39_2, hfz39_3, hfz39_4, hfz39_5, hfz39_6⟩ := blkAll7 BK645
   go_upto_if 47 with (fail)
   go_cut [] (fun wc => ∃ (kq : Nat) (x649003_35 : Int), Aside0 (q_Settle.j2 kq a2 a0_0 a0_1 a0_2 a0_3 a0_4 a0_5 a0_6 a0_1 x649001_5 x649002_5 x649003_35 = some (r1, r2, r3, r4, r5)) ∧ Aside0 (kq ≤ kj5) ∧ Aside0 (wc.heap[gb645]? = some (.cells #[.string a0_0, .int .u8 a0_1, .int .i64 a0_2, .int .i64 a0_3, .int .i64 a0_4, .int .i64 a0_5, .int .i64 a0_6] 25 (0, 0))) ∧ Aside0 (wc.heap[gb646]? = some (.cells #[.int .u8 x647000_5, .int .i64 x647001_5, .int .i64 x647002_5, .int .i64 x647003_5] 37 (0, 0))) ∧ Aside0 (wc.heap[gb648]? = some (.cells #[.int .u8 a0_1, .int .i64 x649001_5, .int .i64 x649002_5, .int .i64 x649003_35] 37 (0, 0))) ∧ Aside0 (Below w.heap.size w wc))
   case first =>
    have H := HC36.out
    clear HC36
    by_cases c40 : a0_5 = 1
    rotate_left
    ·rw [if_neg c40] at H
     have c40b0 : (a0_5 == 1) = false := beq_eq_false_iff_ne.mpr c40
     have c40b1 : (a0_5 != 1) = true := bne_iff_ne.mpr c40
     (first | rw [c40b0] | (simp only [i64_w, i32_w]; rw [c40b0]) | skip)
     have H' := am H
     clear H
     go_wp2
     go_meet
     case rel => exact ⟨_, ((-1)), H', ⟨by have := HJ5.out; first | omega | exact Nat.le_refl _⟩, ⟨by refine bu ?_; exact BK645.out⟩, ⟨by refine bu ?_; exact BK646.out⟩, ⟨by refine bu ?_; exact BK648.out⟩, ⟨bs⟩⟩
    rw [if_pos c40] at H
    have c40b0 : (a0_5 == 1) = true := beq_iff_eq.mpr c40
    have c40b1 : (a0_5 != 1) = false := bne_eq_false_iff_eq.mpr c40
    clear c40
    (first | rw [c40b0] | (simp only [i64_w, i32_w]; rw [c40b0]) | skip)
    have H' := am H
    clear H
    have hnb41 := NB645_646.out
    have hnc41 := NB646_645.out
    have hnb42 := NB645_648.out
    have hnc42 := NB648_645.out
    obtain ⟨⟨hcz43_0, hcz43_1, hcz43_2, hcz43_3, hcz43_4, hcz43_5, hcz43_6⟩, hfz43_0, hfz43_1, hfz43_2, hfz43_3, hfz43_4, hfz43_5, hfz43_6⟩ := blkAll7 BK645
    have hnb44 := NB648_646.out
    have hnc44 := NB646_648.out
    obtain ⟨⟨hcz45_0, hcz45_1, hcz45_2, hcz45_3⟩, hfz45_0, hfz45_1, hfz45_2, hfz45_3⟩ := blkAll4 BK648
    go_wp2
    go_meet
    case rel => exact ⟨_, (a0_6), H', ⟨by have := HJ5.out; first | omega | exact Nat.le_refl _⟩, ⟨by refine bu ?_; refine blk_far ?_ NB645_648.out _; refine bu ?_; exact BK645.out⟩, ⟨by refine bu ?_; refine blk_far ?_ NB646_648.out _; refine bu ?_; exact BK646.out⟩, ⟨by refine bu ?_; refine blk_put (cs := #[.int .u8 a0_1, .int .i64 x649001_5, .int .i64 x649002_5, .int .i64 (-1)]) ?_ 3 _ rfl; refine bu ?_; exact BK648.out⟩, ⟨bs⟩⟩
   case rest =>
    clear HC36
    try clear c1
    try clear c2
    try clear p2
    try clear c3
    try clear c4
    try clear c5
    try clear p6
    try clear c9
    try clear c14
    try clear c15
    try clear c18
    try clear c18b0
    try clear c18b1
    try clear c20
    try clear c20b0
    try clear c21
    try clear c22
    try clear c23
    try clear c25
    try clear c25b0
    try clear c26
    try clear c26b0
    try clear c26b1
    try clear c27
    try clear c28
    try clear c30
    try clear c31
    try clear c33
    try clear c34
    try clear c37
    try clear c38
    try clear c40
    try clear c40b0
    try clear c40b1
    try clear c41
    try clear c42
    try clear c44
    try clear hcz10_0 hcz10_1 hcz10_2 hcz10_3 hcz10_4 hcz10_5 hcz10_6
    try clear hcz12_0 hcz12_1 hcz12_2 hcz12_3 hcz12_4 hcz12_5 hcz12_6
    try clear hcz16_0 hcz16_1 hcz16_2 hcz16_3
    try clear hcz17_0 hcz17_1 hcz17_2 hcz17_3 hcz17_4 hcz17_5 hcz17_6
    try clear hcz24_0 hcz24_1 hcz24_2 hcz24_3
    try clear hcz29_0 hcz29_1 hcz29_2 hcz29_3
    try clear hcz32_0 hcz32_1 hcz32_2 hcz32_3
    try clear hcz35_0 hcz35_1 hcz35_2 hcz35_3
    try clear hcz39_0 hcz39_1 hcz39_2 hcz39_3 hcz39_4 hcz39_5 hcz39_6
    try clear hcz43_0 hcz43_1 hcz43_2 hcz43_3 hcz43_4 hcz43_5 hcz43_6
    try clear hcz45_0 hcz45_1 hcz45_2 hcz45_3
    try clear hfz10_0 hfz10_1 hfz10_2 hfz10_3 hfz10_4 hfz10_5 hfz10_6
    try clear hfz12_0 hfz12_1 hfz12_2 hfz12_3 hfz12_4 hfz12_5 hfz12_6
    try clear hfz16_0 hfz16_1 hfz16_2 hfz16_3
    try clear hfz17_0 hfz17_1 hfz17_2 hfz17_3 hfz17_4 hfz17_5 hfz17_6
    try clear hfz24_0 hfz24_1 hfz24_2 hfz24_3
    try clear hfz29_0 hfz29_1 hfz29_2 hfz29_3
    try clear hfz32_0 hfz32_1 hfz32_2 hfz32_3
    try clear hfz35_0 hfz35_1 hfz35_2 hfz35_3
    try clear hfz39_0 hfz39_1 hfz39_2 hfz39_3 hfz39_4 hfz39_5 hfz39_6
    try clear hfz43_0 hfz43_1 hfz43_2 hfz43_3 hfz43_4 hfz43_5 hfz43_6
    try clear hfz45_0 hfz45_1 hfz45_2 hfz45_3
    try clear p2
    try clear p6
    obtain ⟨kq, x649003_35, HA, HJ35, BK645, BK646, BK648, HB⟩ := hcut
    cases kq with
    | zero => exact absurd HA.out (by simp [q_Settle.j2])
    | succ kj35 =>
     have H := HA.out
     clear HA
     simp only [q_Settle.j2] at H
     by_cases c46 : a0_5 = 2
     rotate_left
     ·rw [if_neg c46] at H
      have c46b0 : (a0_5 == 2) = false := beq_eq_false_iff_ne.mpr c46
      have c46b1 : (a0_5 != 2) = true := bne_iff_ne.mpr c46
      simp only [Option.some.injEq, Prod.mk.injEq] at H
      obtain ⟨rfl, rfl, rfl, rfl, rfl⟩ := H
      have hnb66 := NB645_646.out
      have hnc66 := NB646_645.out
      have hnb67 := NB645_648.out
      have hnc67 := NB648_645.out
      obtain ⟨⟨hcz68_0, hcz68_1, hcz68_2, hcz68_3, hcz68_4, hcz68_5, hcz68_6⟩, hfz68_0, hfz68_1, hfz68_2, hfz68_3, hfz68_4, hfz68_5, hfz68_6⟩ := blkAll7 BK645
      have hnb69 := NB648_646.out
      have hnc69 := NB646_648.out
      obtain ⟨⟨hcz70_0, hcz70_1, hcz70_2, hcz70_3⟩, hfz70_0, hfz70_1, hfz70_2, hfz70_3⟩ := blkAll4 BK648
      obtain ⟨⟨hcz71_0, hcz71_1, hcz71_2, hcz71_3⟩, hfz71_0, hfz71_1, hfz71_2, hfz71_3⟩ := blkAll4 BK646
      go_wp2
      refine bodyPost_ret (results_ct rfl _ _ gb646 37 #[.int .u8 a0_1, .int .i64 x649001_5, .int .i64 x649002_5, .int .i64 x649003_35] (0, 0) _ rfl (by refine bu ?_; refine blk_put (cs := #[.int .u8 a0_1, .int .i64 x649001_5, .int .i64 x649002_5, .int .i64 x647003_5]) ?_ 3 _ rfl; refine bu ?_; refine blk_put (cs := #[.int .u8 a0_1, .int .i64 x649001_5, .int .i64 x647002_5, .int .i64 x647003_5]) ?_ 2 _ rfl; refine bu ?_; refine blk_put (cs := #[.int .u8 a0_1, .int .i64 x647001_5, .int .i64 x647002_5, .int .i64 x647003_5]) ?_ 1 _ rfl; refine bu ?_; refine blk_put (cs := #[.int .u8 x647000_5, .int .i64 x647001_5, .int .i64 x647002_5, .int .i64 x647003_5]) ?_ 0 _ rfl; refine bu ?_; exact BK646.out) Tryd.underlying37 rfl (by kernel_rfl)) rfl ?_
      exact ⟨er, bs⟩
     rw [if_pos c46] at H
     have c46b0 : (a0_5 == 2) = true := beq_iff_eq.mpr c46
     have c46b1 : (a0_5 != 2) = false := bne_eq_false_iff_eq.mpr c46
     clear c46
     by_cases c47 : a2 > 4096
     ·rw [if_pos c47] at H
      have c47b0 : decide (4096 < a2) = true := decide_eq_true c47
      clear c47
      simp only [Option.some.injEq, Prod.mk.injEq] at H
      obtain ⟨rfl, rfl, rfl, rfl, rfl⟩ := H
      have hnb48 := NB645_646.out
      have hnc48 := NB646_645.out
      have hnb49 := NB645_648.out
      have hnc49 := NB648_645.out
      obtain ⟨⟨hcz50_0, hcz50_1, hcz50_2, hcz50_3, hcz50_4, hcz50_5, hcz50_6⟩, hfz50_0, hfz50_1, hfz50_2, hfz50_3, hfz50_4, hfz50_5, hfz50_6⟩ := blkAll7 BK645
      have hnb51 := NB646_648.out
      have hnc51 := NB648_646.out
      obtain ⟨⟨hcz52_0, hcz52_1, hcz52_2, hcz52_3⟩, hfz52_0, hfz52_1, hfz52_2, hfz52_3⟩ := blkAll4 BK646
      go_wp2
      refine bodyPost_ret (results_ct rfl _ _ gb646 37 #[.int .u8 0, .int .i64 0, .int .i64 0, .int .i64 0] (0, 0) _ rfl (by refine bu ?_; refine blk_put (cs := #[.int .u8 0, .int .i64 0, .int .i64 0, .int .i64 x647003_5]) ?_ 3 _ rfl; refine bu ?_; refine blk_put (cs := #[.int .u8 0, .int .i64 0, .int .i64 x647002_5, .int .i64 x647003_5]) ?_ 2 _ rfl; refine bu ?_; refine blk_put (cs := #[.int .u8 0, .int .i64 x647001_5, .int .i64 x647002_5, .int .i64 x647003_5]) ?_ 1 _ rfl; refine bu ?_; refine blk_put (cs := #[.int .u8 x647000_5, .int .i64 x647001_5, .int .i64 x647002_5, .int .i64 x647003_5]) ?_ 0 _ rfl; refine bu ?_; exact BK646.out) Tryd.underlying37 rfl (by kernel_rfl)) rfl ?_
      exact ⟨er, bs⟩
     rw [if_neg c47] at H
     have c47b0 : decide (4096 < a2) = false := decide_eq_false c47
     clear c47
     by_cases c53 : a2 ≥ 0
     rotate_left
     ·rw [if_neg c53] at H
      have c53b0 : decide (0 ≤ a2) = false := decide_eq_false c53
      clear c53
      simp only [Option.some.injEq, Prod.mk.injEq] at H
      obtain ⟨rfl, rfl, rfl, rfl, rfl⟩ := H
      have hnb60 := NB645_646.out
      have hnc60 := NB646_645.out
      have hnb61 := NB645_648.out
      have hnc61 := NB648_645.out
      obtain ⟨⟨hcz62_0, hcz62_1, hcz62_2, hcz62_3, hcz62_4, hcz62_5, hcz62_6⟩, hfz62_0, hfz62_1, hfz62_2, hfz62_3, hfz62_4, hfz62_5, hfz62_6⟩ := blkAll7 BK645
      have hnb63 := NB648_646.out
      have hnc63 := NB646_648.out
      obtain ⟨⟨hcz64_0, hcz64_1, hcz64_2, hcz64_3⟩, hfz64_0, hfz64_1, hfz64_2, hfz64_3⟩ := blkAll4 BK648
      obtain ⟨⟨hcz65_0, hcz65_1, hcz65_2, hcz65_3⟩, hfz65_0, hfz65_1, hfz65_2, hfz65_3⟩ := blkAll4 BK646
      go_wp2
      refine bodyPost_ret (results_ct rfl _ _ gb646 37 #[.int .u8 a0_1, .int .i64 x649001_5, .int .i64 x649002_5, .int .i64 x649003_35] (0, 0) _ rfl (by refine bu ?_; refine blk_put (cs := #[.int .u8 a0_1, .int .i64 x649001_5, .int .i64 x649002_5, .int .i64 x647003_5]) ?_ 3 _ rfl; refine bu ?_; refine blk_put (cs := #[.int .u8 a0_1, .int .i64 x649001_5, .int .i64 x647002_5, .int .i64 x647003_5]) ?_ 2 _ rfl; refine bu ?_; refine blk_put (cs := #[.int .u8 a0_1, .int .i64 x647001_5, .int .i64 x647002_5, .int .i64 x647003_5]) ?_ 1 _ rfl; refine bu ?_; refine blk_put (cs := #[.int .u8 x647000_5, .int .i64 x647001_5, .int .i64 x647002_5, .int .i64 x647003_5]) ?_ 0 _ rfl; refine bu ?_; exact BK646.out) Tryd.underlying37 rfl (by kernel_rfl)) rfl ?_
      exact ⟨er, bs⟩
     rw [if_pos c53] at H
     have c53b0 : decide (0 ≤ a2) = true := decide_eq_true c53
     clear c53
     simp only [Option.some.injEq, Prod.mk.injEq] at H
     obtain ⟨rfl, rfl, rfl, rfl, rfl⟩ := H
     have hnb54 := NB645_646.out
     have hnc54 := NB646_645.out
     have hnb55 := NB645_648.out
     have hnc55 := NB648_645.out
     obtain ⟨⟨hcz56_0, hcz56_1, hcz56_2, hcz56_3, hcz56_4, hcz56_5, hcz56_6⟩, hfz56_0, hfz56_1, hfz56_2, hfz56_3, hfz56_4, hfz56_5, hfz56_6⟩ := blkAll7 BK645
     have hnb57 := NB648_646.out
     have hnc57 := NB646_648.out
     obtain ⟨⟨hcz58_0, hcz58_1, hcz58_2, hcz58_3⟩, hfz58_0, hfz58_1, hfz58_2, hfz58_3⟩ := blkAll4 BK648
     obtain ⟨⟨hcz59_0, hcz59_1, hcz59_2, hcz59_3⟩, hfz59_0, hfz59_1, hfz59_2, hfz59_3⟩ := blkAll4 BK646
     go_wp2
     refine bodyPost_ret (results_ct rfl _ _ gb646 37 #[.int .u8 a0_1, .int .i64 x649001_5, .int .i64 x649002_5, .int .i64 a2] (0, 0) _ rfl (by refine bu ?_; refine blk_put (cs := #[.int .u8 a0_1, .int .i64 x649001_5, .int .i64 x649002_5, .int .i64 x647003_5]) ?_ 3 _ rfl; refine bu ?_; refine blk_put (cs := #[.int .u8 a0_1, .int .i64 x649001_5, .int .i64 x647002_5, .int .i64 x647003_5]) ?_ 2 _ rfl; refine bu ?_; refine blk_put (cs := #[.int .u8 a0_1, .int .i64 x647001_5, .int .i64 x647002_5, .int .i64 x647003_5]) ?_ 1 _ rfl; refine bu ?_; refine blk_put (cs := #[.int .u8 x647000_5, .int .i64 x647001_5, .int .i64 x647002_5, .int .i64 x647003_5]) ?_ 0 _ rfl; refine bu ?_; refine blk_far ?_ NB646_648.out _; refine bu ?_; exact BK646.out) Tryd.underlying37 rfl (by kernel_rfl)) rfl ?_
     exact ⟨er, bs⟩
end Go.Proofs.YtlmijjekaelhcaaDoor.EDi
