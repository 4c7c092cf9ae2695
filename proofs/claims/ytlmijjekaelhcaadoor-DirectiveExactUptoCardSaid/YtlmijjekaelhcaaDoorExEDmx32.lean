/-
 A text of this session's own.
-/
import Derived.Test.YtlmijjekaelhcaaDoorExA0
import Derived.Test.YtlmijjekaelhcaaDoorExEDpx0
import Derived.Test.YtlmijjekaelhcaaDoorExEDix22
import Derived.Test.YtlmijjekaelhcaaDoorExEDix29
import Derived.Test.YtlmijjekaelhcaaDoorExX
import Derived.Test.YtlmijjekaelhcaaDoorExXB2
namespace Go.Proofs.YtlmijjekaelhcaaDoor.EDi
open Go.RowKit Go.Proofs.YtlmijjekaelhcaaDoorW.PrintWords Go.Proofs.YtlmijjekaelhcaaDoorW.PrintLast Go.Proofs.YtlmijjekaelhcaaDoorW.PrintMore
attribute [local go_sem] max2_int min2_int max_two min_two max_three min_three max_four min_four
set_option linter.unusedVariables false
set_option linter.unusedSimpArgs false
open Go.Proofs.YtlmijjekaelhcaaDoor.X
mutual
def d_Single.l0 : Nat → ByteArray → Int → List (S25) → Int → Int → ByteArray → Int → Int → Int → Int → Option (ByteArray × Int × Int × Int × Int × ByteArray × Bool)
 | 0, _, _, _, _, _, _, _, _, _, _ => none
 | k + 1, x9, x11, x24, x25, x26, x84, x521000, x521001, x521002, x521003 => if x26 < x25 then (if 0 ≤ x26 then (if x26 < (x24.length : Int) then (if ((rd_T25 x24 x26).f1) = 0 then (d_Single.j1 k x9 x11 x24 x25 x26 true x84 x521000 x521001 x521002 x521003 ((rd_T25 x24 x26).f0) ((rd_T25 x24 x26).f1) ((rd_T25 x24 x26).f2) ((rd_T25 x24 x26).f3) ((rd_T25 x24 x26).f4) ((rd_T25 x24 x26).f5) ((rd_T25 x24 x26).f6)) else (d_Single.j1 k x9 x11 x24 x25 x26 (((rd_T25 x24 x26).f1) == 37) x84 x521000 x521001 x521002 x521003 ((rd_T25 x24 x26).f0) ((rd_T25 x24 x26).f1) ((rd_T25 x24 x26).f2) ((rd_T25 x24 x26).f3) ((rd_T25 x24 x26).f4) ((rd_T25 x24 x26).f5) ((rd_T25 x24 x26).f6))) else (none)) else (none)) else (if x11 = 0 then (some ((⟨#[]⟩ : ByteArray), 0, 0, 0, 0, (⟨#[]⟩ : ByteArray), false)) else (some (x9, x521000, x521001, x521002, x521003, x84, true)))
def d_Single.j1 : Nat → ByteArray → Int → List (S25) → Int → Int → Bool → ByteArray → Int → Int → Int → Int → ByteArray → Int → Int → Int → Int → Int → Int → Option (ByteArray × Int × Int × Int × Int × ByteArray × Bool)
 | 0, _, _, _, _, _, _, _, _, _, _, _, _, _, _, _, _, _, _ => none
 | k + 1, x9, x11, x24, x25, x26, x37, x84, x521000, x521001, x521002, x521003, x523000, x523001, x523002, x523003, x523004, x523005, x523006 => if x37 = true then (if x523001 = 37 then ((xSide.f x9 x84 x11 (⟨#[37]⟩ : ByteArray)).bind fun bt523 => (d_Single.l0 k bt523.1 x11 x24 x25 (wrap64 (x26 + 1)) bt523.2 x521000 x521001 x521002 x521003)) else ((xSide.f x9 x84 x11 x523000).bind fun bt525 => (d_Single.l0 k bt525.1 x11 x24 x25 (wrap64 (x26 + 1)) bt525.2 x521000 x521001 x521002 x521003))) else (if x11 = 1 then (some ((⟨#[]⟩ : ByteArray), 0, 0, 0, 0, (⟨#[]⟩ : ByteArray), false)) else ((xIndexByte.f (⟨#[101, 69, 102, 70, 103, 71]⟩ : ByteArray) x523001).bind fun t527 => (if t527 < 0 then (some ((⟨#[]⟩ : ByteArray), 0, 0, 0, 0, (⟨#[]⟩ : ByteArray), false)) else (if x523003 = 2 then (some ((⟨#[]⟩ : ByteArray), 0, 0, 0, 0, (⟨#[]⟩ : ByteArray), false)) else (if x523005 = 2 then (some ((⟨#[]⟩ : ByteArray), 0, 0, 0, 0, (⟨#[]⟩ : ByteArray), false)) else ((d_Settle.f k x523000 x523001 x523002 x523003 x523004 x523005 x523006 0 0).bind fun bt528 => (d_Single.l0 k x9 (wrap64 (x11 + 1)) x24 x25 (wrap64 (x26 + 1)) x84 bt528.1 bt528.2.1 bt528.2.2.1 bt528.2.2.2.1)))))))
end
def d_Single.f (k : Nat) (a0 : ByteArray) : Option (ByteArray × Int × Int × Int × Int × ByteArray × Bool) := (d_Parse.f k a0).bind fun bt515 => (if bt515.2.2 = 0 then (d_Single.l0 k (⟨#[]⟩ : ByteArray) 0 bt515.1 (bt515.1.length : Int) 0 (⟨#[]⟩ : ByteArray) 0 0 0 0) else (some ((⟨#[]⟩ : ByteArray), 0, 0, 0, 0, (⟨#[]⟩ : ByteArray), false)))
theorem d_Single.mono_l : ∀ k, (∀ y0 y1 y2 y3 y4 y5 y6 y7 y8 y9, LeO (d_Single.l0 k y0 y1 y2 y3 y4 y5 y6 y7 y8 y9) (d_Single.l0 (k + 1) y0 y1 y2 y3 y4 y5 y6 y7 y8 y9)) ∧ (∀ y0 y1 y2 y3 y4 y5 y6 y7 y8 y9 y10 y11 y12 y13 y14 y15 y16 y17, LeO (d_Single.j1 k y0 y1 y2 y3 y4 y5 y6 y7 y8 y9 y10 y11 y12 y13 y14 y15 y16 y17) (d_Single.j1 (k + 1) y0 y1 y2 y3 y4 y5 y6 y7 y8 y9 y10 y11 y12 y13 y14 y15 y16 y17))
 | 0 => ⟨fun _ _ _ _ _ _ _ _ _ _ r h => by simp [d_Single.l0] at h, fun _ _ _ _ _ _ _ _ _ _ _ _ _ _ _ _ _ _ r h => by simp [d_Single.j1] at h⟩
 | k + 1 => by
  obtain ⟨ih0, ih1⟩ := d_Single.mono_l k
  refine ⟨?_, ?_⟩ <;> intros
  all_goals first | unfold d_Single.l0 | unfold d_Single.j1
  all_goals repeat' first
  | (with_reducible exact ih0 _ _ _ _ _ _ _ _ _ _)
  | (with_reducible exact ih1 _ _ _ _ _ _ _ _ _ _ _ _ _ _ _ _ _ _)
  | (with_reducible exact d_Parse.mono _ _)
  | (with_reducible exact d_Settle.mono _ _ _ _ _ _ _ _ _ _)
  | (with_reducible exact LeO.refl _)
  | (with_reducible exact LeO.none _)
  | (with_reducible refine LeO.ite ?_ ?_)
  | (with_reducible refine LeO.bind ?_ (fun _ => ?_))
  | exact ih0 _ _ _ _ _ _ _ _ _ _
  | exact ih1 _ _ _ _ _ _ _ _ _ _ _ _ _ _ _ _ _ _
  | exact d_Parse.mono _ _
  | exact d_Settle.mono _ _ _ _ _ _ _ _ _ _
  | exact LeO.none _
  | refine LeO.ite ?_ ?_
  | refine LeO.bind ?_ (fun _ => ?_)
theorem d_Single.mono : ∀ a0 k, LeO (d_Single.f k a0) (d_Single.f (k + 1) a0) := by
 intro a0 k
 obtain ⟨ih0, ih1⟩ := d_Single.mono_l k
 unfold d_Single.f
 repeat' first
   | (with_reducible exact ih0 _ _ _ _ _ _ _ _ _ _)
   | (with_reducible exact ih1 _ _ _ _ _ _ _ _ _ _ _ _ _ _ _ _ _ _)
   | (with_reducible exact d_Parse.mono _ _)
   | (with_reducible exact d_Settle.mono _ _ _ _ _ _ _ _ _ _)
   | (with_reducible exact LeO.refl _)
   | (with_reducible exact LeO.none _)
   | (with_reducible refine LeO.ite ?_ ?_)
   | (with_reducible refine LeO.bind ?_ (fun _ => ?_))
   | exact ih0 _ _ _ _ _ _ _ _ _ _
   | exact ih1 _ _ _ _ _ _ _ _ _ _ _ _ _ _ _ _ _ _
   | exact d_Parse.mono _ _
   | exact d_Settle.mono _ _ _ _ _ _ _ _ _ _
   | exact LeO.none _
   | refine LeO.ite ?_ ?_
   | refine LeO.bind ?_ (fun _ => ?_)
set_option maxHeartbeats 8000000 in
set_option maxRecDepth 100000 in
theorem d_Single.calls (k : Nat) (a0 : ByteArray) (r1 : ByteArray) (r2 : Int) (r3 : Int) (r4 : Int) (r5 : Int) (r6 : ByteArray) (r7 : Bool) (w : World) (h : d_Single.f k a0 = some (r1, r2, r3, r4, r5, r6, r7)) :
  Calls Tryd.prog 23 #[.string a0] w fun e w' => e = .returned (.tuple #[.string r1, .agg #[.int .u8 r2, .int .i64 r3, .int .i64 r4, .int .i64 r5], .string r6, .bool r7]) ∧ Below w.heap.size w w' := by
 have hu37 := Tryd.underlying37
 have hu25 := Tryd.underlying25
 have HB := am (Below.refl w.heap.size w)
 have H : ((d_Parse.f k a0).bind fun bt515 => (if bt515.2.2 = 0 then (d_Single.l0 k (⟨#[]⟩ : ByteArray) 0 bt515.1 (bt515.1.length : Int) 0 (⟨#[]⟩ : ByteArray) 0 0 0 0) else (some ((⟨#[]⟩ : ByteArray), 0, 0, 0, 0, (⟨#[]⟩ : ByteArray), false)))) = some (r1, r2, r3, r4, r5, r6, r7) := h
 clear h
 replace H := Option.bind_eq_some_iff.mp H
 obtain ⟨⟨t515, t516, t517⟩, A20, H⟩ := H
 replace H : (if t517 = 0 then (d_Single.l0 k (⟨#[]⟩ : ByteArray) 0 t515 (t515.length : Int) 0 (⟨#[]⟩ : ByteArray) 0 0 0 0) else (some ((⟨#[]⟩ : ByteArray), 0, 0, 0, 0, (⟨#[]⟩ : ByteArray), false))) = some (r1, r2, r3, r4, r5, r6, r7) := H
 have A2 := am A20
 clear A20
 by_cases c3 : t517 = 0
 rotate_left
 ·rw [if_neg c3] at H
  have c3b0 : (t517 == 0) = false := beq_eq_false_iff_ne.mpr c3
  have c3b1 : (t517 != 0) = true := bne_iff_ne.mpr c3
  simp only [Option.some.injEq, Prod.mk.injEq] at H
  obtain ⟨rfl, rfl, rfl, rfl, rfl, rfl, rfl⟩ := H
  go_enter Tryd.func23, Tryd.ntmps23
  go_wp2_with (first | ((with_reducible refine gate_dst (N := 3) rfl ?_); refine box_event ?hg (N := 3) ?hd (cs := #[.int .u8 0, .int .i64 0, .int .i64 0, .int .i64 0]) (t := 37) ?hr ?_; (case hd => rfl); (case hg => rfl); (case hr => first | (go_simp; done) | (go_simp; rfl)); intro gb514 hg w78 hbox hb; have n0_ := am (below_step bl hb); have n1_ := am (hbox); have n2_ := am ((by rw [hg]; exact (below_size bl) : w.heap.size ≤ gb514)); have n3_ := n2_; clear HB; have HB := n0_; have BK514 := n1_; have GW514 := n2_; have GE514 := n3_; clear n0_ n1_ n2_ n3_; clear hb hbox hg) | ((with_reducible refine gate_callee (f := 13) rfl ?_); refine goesL_ (some 17) rfl rfl Tryd.func13 (by kernel_rfl) rfl #[.string a0] rfl ls ?_; (with_reducible refine (d_Parse.calls k a0 t515 t516 t517 _ A2.out).mono ?_); rintro e w79 ⟨v518, rfl, ho0, hb⟩; refine ⟨_, rfl, ?_⟩; have n0_ := am (Kd.R_lower ho0 (below_size bs)); have n1_ := am (blk_below (bu BK514.out) hb); have n2_ := am (below_step bs hb); clear BK514; clear HB; have HO519 := n0_; have BK514 := n1_; have HB := n2_; clear n0_ n1_ n2_; (try clear hb); (try clear hb2); (try clear hk); (try clear hi); (try clear ho0); obtain ⟨⟨hcz80_0, hcz80_1, hcz80_2, hcz80_3⟩, hfz80_0, hfz80_1, hfz80_2, hfz80_3⟩ := blkAll4 BK514))
  refine bodyPost_ret (results_list (rs := [.tmp 2, .cell 3 37, .tmp 4, .tmp 5]) rfl (by simp) (.tmp (.cell gb514 37 #[.int .u8 0, .int .i64 0, .int .i64 0, .int .i64 0] (0, 0) _ rfl (by refine bu ?_; refine blk_put (cs := #[.int .u8 0, .int .i64 0, .int .i64 0, .int .i64 0]) ?_ 3 _ rfl; refine bu ?_; refine blk_put (cs := #[.int .u8 0, .int .i64 0, .int .i64 0, .int .i64 0]) ?_ 2 _ rfl; refine bu ?_; refine blk_put (cs := #[.int .u8 0, .int .i64 0, .int .i64 0, .int .i64 0]) ?_ 1 _ rfl; refine bu ?_; refine blk_put (cs := #[.int .u8 0, .int .i64 0, .int .i64 0, .int .i64 0]) ?_ 0 _ rfl; refine bu ?_; exact BK514.out) Tryd.underlying37 rfl (by kernel_rfl) (.tmp (.tmp .nil))))) rfl ?_
  exact ⟨er, bs⟩
 rw [if_pos c3] at H
 have c3b0 : (t517 == 0) = true := beq_iff_eq.mpr c3
 have c3b1 : (t517 != 0) = false := bne_eq_false_iff_eq.mpr c3
 clear c3
 have H' := am H
 clear H
 go_enter Tryd.func23, Tryd.ntmps23
 go_wp2_with (first | ((with_reducible refine gate_dst (N := 3) rfl ?_); refine box_event ?hg (N := 3) ?hd (cs := #[.int .u8 0, .int .i64 0, .int .i64 0, .int .i64 0]) (t := 37) ?hr ?_; (case hd => rfl); (case hg => rfl); (case hr => first | (go_simp; done) | (go_simp; rfl)); intro gb514 hg w4 hbox hb; have n0_ := am (below_step bl hb); have n1_ := am (hbox); have n2_ := am ((by rw [hg]; exact (below_size bl) : w.heap.size ≤ gb514)); have n3_ := n2_; clear HB; have HB := n0_; have BK514 := n1_; have GW514 := n2_; have GE514 := n3_; clear n0_ n1_ n2_ n3_; clear hb hbox hg) | ((with_reducible refine gate_callee (f := 13) rfl ?_); refine goesL_ (some 17) rfl rfl Tryd.func13 (by kernel_rfl) rfl #[.string a0] rfl ls ?_; (with_reducible refine (d_Parse.calls k a0 t515 t516 t517 _ A2.out).mono ?_); rintro e w5 ⟨v518, rfl, ho0, hb⟩; refine ⟨_, rfl, ?_⟩; have n0_ := am (Kd.R_lower ho0 (below_size bs)); have n1_ := am (blk_below (bu BK514.out) hb); have n2_ := am (below_step bs hb); clear BK514; clear HB; have HO519 := n0_; have BK514 := n1_; have HB := n2_; clear n0_ n1_ n2_; (try clear hb); (try clear hb2); (try clear hk); (try clear hi); (try clear ho0)) | ((with_reducible refine gate_dst (N := 9) rfl ?_); refine B2.new w.heap.size rfl (N := 9) rfl rfl bs (below_size bs) ?_; intro gbb w9 hbf hb hb9; have n0_ := am (Kd.R_below (by (with_reducible repeat (first | apply Kd.R_alloc | apply Kd.R_drewN | apply Kd.R_drew)); exact HO519.out) hb9); have n1_ := am (blk_below (bu BK514.out) hb9); clear HO519 BK514 HB; have HO519 := n0_; have BK514 := n1_; have HB := am hb; have HF := am hbf; clear n0_ n1_ hbf hb hb9) | ((with_reducible refine gate_dst (N := 10) rfl ?_); refine box_event ?hg (N := 10) ?hd (cs := #[.int .u8 0, .int .i64 0, .int .i64 0, .int .i64 0]) (t := 37) ?hr ?_; (case hd => rfl); (case hg => rfl); (case hr => first | (go_simp; done) | (go_simp; rfl)); intro gb520 hg w6 hbox hb; have nf_ := am (B2.below (by (with_reducible repeat (first | apply B2.alloc | apply B2.drewN | apply B2.drew)); exact HF.out) hb); clear HF; have HF := nf_; clear nf_; have n0_ := am (Kd.R_below (by (with_reducible repeat (first | apply Kd.R_alloc | apply Kd.R_drewN | apply Kd.R_drew)); exact HO519.out) hb); have n1_ := am (blk_below (bu BK514.out) hb); have n2_ := am (below_step bs hb); have n3_ := am (hbox); have n4_ := am ((by rw [hg]; exact (below_size bs) : w.heap.size ≤ gb520)); have n5_ := am ((by rw [hg]; exact (below_size bs) : w.heap.size ≤ gb520)); have n6_ := am ((by rw [hg]; exact Nat.ne_of_lt (blk_lt (bu BK514.out)) : gb514 ≠ gb520)); have n7_ := am ((by rw [hg]; exact Nat.ne_of_gt (blk_lt (bu BK514.out)) : gb520 ≠ gb514)); clear HO519; clear BK514; clear HB; have HO519 := n0_; have BK514 := n1_; have HB := n2_; have BK520 := n3_; have GW520 := n4_; have GE520 := n5_; have NB514_520 := n6_; have NB520_514 := n7_; clear n0_ n1_ n2_ n3_ n4_ n5_ n6_ n7_; clear hb hbox hg; obtain ⟨Ao7, co7, eo7⟩ := Kd.R_slice HO519.out; subst eo7))
 go_loopg [11, 26] k (fun kq v11 v26 w' => ∃ (x9_1 : ByteArray) (x11_1 : Int) (x26_1 : Int) (x84_1 : ByteArray) (x515000_1 : Int) (x515001_1 : Int) (x515002_1 : Int) (x515003_1 : Int) (x521000_1 : Int) (x521001_1 : Int) (x521002_1 : Int) (x521003_1 : Int), v11 = .int .i64 x11_1 ∧ v26 = .int .i64 x26_1 ∧ Aside0 (d_Single.l0 kq x9_1 x11_1 t515 (t515.length : Int) x26_1 x84_1 x521000_1 x521001_1 x521002_1 x521003_1 = some (r1, r2, r3, r4, r5, r6, r7)) ∧ Aside0 (kq ≤ k) ∧ Aside0 (Kd.R k25 25 w' w.heap.size (fun _ => True) (.slice Ao7 t515.length co7) t515) ∧ Aside0 (w'.heap[gb514]? = some (.cells #[.int .u8 x515000_1, .int .i64 x515001_1, .int .i64 x515002_1, .int .i64 x515003_1] 37 (0, 0))) ∧ Aside0 (w'.heap[gb520]? = some (.cells #[.int .u8 x521000_1, .int .i64 x521001_1, .int .i64 x521002_1, .int .i64 x521003_1] 37 (0, 0))) ∧ Aside0 (B2 w' w.heap.size gbb x9_1 x84_1) ∧ Aside0 (Below w.heap.size w w'))
 case atStart => exact ⟨((⟨#[]⟩ : ByteArray)), (0), (0), ((⟨#[]⟩ : ByteArray)), (0), (0), (0), (0), (0), (0), (0), (0), tv, tv, H', ⟨Nat.le_refl _⟩, ⟨by (with_reducible repeat (first | apply Kd.R_alloc | apply Kd.R_drewN | apply Kd.R_drew)); exact HO519.out⟩, ⟨by refine bu ?_; exact BK514.out⟩, ⟨by refine bu ?_; exact BK520.out⟩, ⟨by repeat (first | (with_reducible first | exact HF.out | apply B2.alloc | apply B2.drewN | apply B2.drew | refine B2.far25 (g := gb522) ?_ (by repeat (first | (with_reducible first | exact Ty.of BK522.out | apply Ty.set | apply Ty.alloc | apply Ty.drewN | apply Ty.drew))) _ _ | refine B2.far37 (g := gb520) ?_ (by repeat (first | (with_reducible first | exact Ty.of BK520.out | apply Ty.set | apply Ty.alloc | apply Ty.drewN | apply Ty.drew))) _ _))⟩, ⟨bs⟩⟩
 case round =>
  clear H'
  try clear c1
  try clear c2
  try clear p2
  try clear c3
  try clear c3b0
  try clear c3b1
  obtain ⟨x9_1, x11_1, x26_1, x84_1, x515000_1, x515001_1, x515002_1, x515003_1, x521000_1, x521001_1, x521002_1, x521003_1, rfl, rfl, HA, HK1, HO_24, BK514, BK520, HF, HB⟩ := hrel
  cases gk with
  | zero => exact absurd HA.out (by simp [d_Single.l0])
  | succ k1 =>
   have H := HA.out
   clear HA
   simp only [d_Single.l0] at H
   by_cases c8 : x26_1 < (t515.length : Int)
   rotate_left
   ·rw [if_neg c8] at H
    have c8b0 := decide_eq_false c8
    clear c8
    by_cases c72 : x11_1 = 0
    ·rw [if_pos c72] at H
     have c72b0 : (x11_1 == 0) = true := beq_iff_eq.mpr c72
     have c72b1 : (x11_1 != 0) = false := bne_eq_false_iff_eq.mpr c72
     clear c72
     simp only [Option.some.injEq, Prod.mk.injEq] at H
     obtain ⟨rfl, rfl, rfl, rfl, rfl, rfl, rfl⟩ := H
     have hnb73 := NB514_520.out
     have hnc73 := NB520_514.out
     obtain ⟨⟨hcz74_0, hcz74_1, hcz74_2, hcz74_3⟩, hfz74_0, hfz74_1, hfz74_2, hfz74_3⟩ := blkAll4 BK514
     go_wp2
     refine bodyPost_ret (results_list (rs := [.tmp 2, .cell 3 37, .tmp 4, .tmp 5]) rfl (by simp) (.tmp (.cell gb514 37 #[.int .u8 0, .int .i64 0, .int .i64 0, .int .i64 0] (0, 0) _ rfl (by refine bu ?_; refine blk_put (cs := #[.int .u8 0, .int .i64 0, .int .i64 0, .int .i64 x515003_1]) ?_ 3 _ rfl; refine bu ?_; refine blk_put (cs := #[.int .u8 0, .int .i64 0, .int .i64 x515002_1, .int .i64 x515003_1]) ?_ 2 _ rfl; refine bu ?_; refine blk_put (cs := #[.int .u8 0, .int .i64 x515001_1, .int .i64 x515002_1, .int .i64 x515003_1]) ?_ 1 _ rfl; refine bu ?_; refine blk_put (cs := #[.int .u8 x515000_1, .int .i64 x515001_1, .int .i64 x515002_1, .int .i64 x515003_1]) ?_ 0 _ rfl; refine bu ?_; exact BK514.out) Tryd.underlying37 rfl (by kernel_rfl) (.tmp (.tmp .nil))))) rfl ?_
     exact ⟨er, bs⟩
    rw [if_neg c72] at H
    have c72b0 : (x11_1 == 0) = false := beq_eq_false_iff_ne.mpr c72
    have c72b1 : (x11_1 != 0) = true := bne_iff_ne.mpr c72
    simp only [Option.some.injEq, Prod.mk.injEq] at H
    obtain ⟨rfl, rfl, rfl, rfl, rfl, rfl, rfl⟩ := H
    have hnb75 := NB520_514.out
    have hnc75 := NB514_520.out
    obtain ⟨⟨hcz76_0, hcz76_1, hcz76_2, hcz76_3⟩, hfz76_0, hfz76_1, hfz76_2, hfz76_3⟩ := blkAll4 BK520
    obtain ⟨⟨hcz77_0, hcz77_1, hcz77_2, hcz77_3⟩, hfz77_0, hfz77_1, hfz77_2, hfz77_3⟩ := blkAll4 BK514
    go_wp2
    refine start_ (n := 9) (S := fun w' => w'.cell? ⟨gb520, 0, none⟩ = some (.int .u8 x521000_1) ∧ w'.cell? ⟨gb520, 1, none⟩ = some (.int .i64 x521001_1) ∧ w'.cell? ⟨gb520, 2, none⟩ = some (.int .i64 x521002_1) ∧ w'.cell? ⟨gb520, 3, none⟩ = some (.int .i64 x521003_1)) (ds := [6]) #[false, false, false, false, false, false, false, false, false] (by kernel_rfl) rfl rfl ⟨((blk_cell (blk_drew BK520.out) 0).trans rfl), ((blk_cell (blk_drew BK520.out) 1).trans rfl), ((blk_cell (blk_drew BK520.out) 2).trans rfl), ((blk_cell (blk_drew BK520.out) 3).trans rfl)⟩ (fun hHeld => ?_)
    have n0_ := am (below_drew1 HB.out); have n1_ := am (blk_drew BK514.out); have n2_ := am (blk_drew BK520.out); have n3_ := am (B2.drew HF.out)
    clear HB BK514 BK520 HF; have HB := n0_; have BK514 := n1_; have BK520 := n2_; have HF := n3_; clear n0_ n1_ n2_ n3_
    generalize wr.drew = w13 at HB BK514 BK520 HF hHeld ⊢
    refine pure_ (i := 0) (N := some 79) (v := ?_) (a' := ?_) #[true, false, false, false, false, false, false, false, false] rfl rfl (by kernel_rfl) (fun _ _ _ h => h) (Or.inl ⟨by rfl, ?_⟩) ?_ ?_
    rotate_left
    ·intro w'
     go_simp
     with_reducible rfl
    rotate_left
    ·simp only [Act.put, List.setIfInBounds_toArray, List.set_cons_zero, List.set_cons_succ, i64_w, i32_w]
     rfl
    refine pure_ (i := 3) (N := some 82) (v := ?_) (a' := ?_) #[true, false, false, true, false, false, false, false, false] rfl rfl (by kernel_rfl) (fun _ _ _ h => h) (Or.inl ⟨by rfl, ?_⟩) ?_ ?_
    rotate_left
    ·intro w'
     go_simp
     with_reducible rfl
    rotate_left
    ·simp only [Act.put, List.setIfInBounds_toArray, List.set_cons_zero, List.set_cons_succ, i64_w, i32_w]
     rfl
    refine take_ (i := 2) (N := some 81) (v := ?_) (a' := ?_) #[true, false, true, true, false, false, false, false, false] rfl rfl (by kernel_rfl) (fun _ _ _ h => h) (Or.inl ⟨by rfl, ?_⟩) hHeld ?_ ?_
    rotate_left
    ·rintro w' ⟨s0, s1, s2, s3⟩
     go_simp
     with_reducible rfl
    rotate_left
    ·simp only [Act.put, List.setIfInBounds_toArray, List.set_cons_zero, List.set_cons_succ, i64_w, i32_w]
     rfl
    refine one_ (i := 1) (N := some 80) #[true, true, true, true, false, false, false, false, false] rfl rfl (by kernel_rfl) (by decide) (fun K hK => ?_)
    refine goes_ Tryd.func28 (by kernel_rfl) rfl #[.pointer (some ⟨gbb, 0, none⟩)] (by rfl) rfl rfl (by simp only [List.map_toArray, List.map_cons, List.map_nil]; rfl) ?_
    with_reducible refine (B2.text0 HF.out).mono ?_
    rintro e wt0 ⟨rfl, hs, hb, hk⟩
    refine ⟨_, rfl, ?_⟩
    have n0_ := am (Below.trans HB.out hb); have n1_ := am (hk.blk BK514.out (by decide) (by decide)); have n2_ := am (hk.blk BK520.out (by decide) (by decide)); clear HB BK514 BK520; have HB := n0_; have BK514 := n1_; have BK520 := n2_; clear n0_ n1_ n2_ hb hk; have HS := am hs; clear hs
    refine hK.out _ _ ⟨((blk_cell BK520.out 0).trans rfl), ((blk_cell BK520.out 1).trans rfl), ((blk_cell BK520.out 2).trans rfl), ((blk_cell BK520.out 3).trans rfl)⟩ (fun hHeld => ?_)
    clear hK K
    refine norm_ (a' := ?_) ?_ ?_
    rotate_left
    ·show Act.put _ (some 80) _ = _
     simp only [Act.put, List.setIfInBounds_toArray, List.set_cons_zero, List.set_cons_succ, i64_w, i32_w]
     rfl
    refine one_ (i := 4) (N := some 83) #[true, true, true, true, true, false, false, false, false] rfl rfl (by kernel_rfl) (by decide) (fun K hK => ?_)
    refine goes_ Tryd.func28 (by kernel_rfl) rfl #[.pointer (some ⟨gbb, 2, none⟩)] (by rfl) rfl rfl (by simp only [List.map_toArray, List.map_cons, List.map_nil]; rfl) ?_
    with_reducible refine (Sec.text HS.out).mono ?_
    rintro e wt1 ⟨rfl, hb, hk⟩
    refine ⟨_, rfl, ?_⟩
    have n0_ := am (Below.trans HB.out hb); have n1_ := am (hk.blk BK514.out (by decide) (by decide)); have n2_ := am (hk.blk BK520.out (by decide) (by decide)); clear HB BK514 BK520; have HB := n0_; have BK514 := n1_; have BK520 := n2_; clear n0_ n1_ n2_ hb hk
    have hcq_0 : wt1.cell? ⟨gb514, 0, none⟩ = some (.int .u8 x515000_1) := (blk_cell BK514.out 0).trans rfl; have hfq_0 := blk_frozen BK514.out 0; have hcq_1 : wt1.cell? ⟨gb514, 1, none⟩ = some (.int .i64 x515001_1) := (blk_cell BK514.out 1).trans rfl; have hfq_1 := blk_frozen BK514.out 1; have hcq_2 : wt1.cell? ⟨gb514, 2, none⟩ = some (.int .i64 x515002_1) := (blk_cell BK514.out 2).trans rfl; have hfq_2 := blk_frozen BK514.out 2; have hcq_3 : wt1.cell? ⟨gb514, 3, none⟩ = some (.int .i64 x515003_1) := (blk_cell BK514.out 3).trans rfl; have hfq_3 := blk_frozen BK514.out 3
    refine hK.out _ _ ⟨((blk_cell BK520.out 0).trans rfl), ((blk_cell BK520.out 1).trans rfl), ((blk_cell BK520.out 2).trans rfl), ((blk_cell BK520.out 3).trans rfl)⟩ (fun hHeld => ?_)
    clear hK K
    refine norm_ (a' := ?_) ?_ ?_
    rotate_left
    ·show Act.put _ (some 83) _ = _
     simp only [Act.put, List.setIfInBounds_toArray, List.set_cons_zero, List.set_cons_succ, i64_w, i32_w]
     rfl
    refine pure_ (i := 5) (N := some 2) (v := ?_) (a' := ?_) #[true, true, true, true, true, true, false, false, false] rfl rfl (by kernel_rfl) (fun _ _ _ h => h) (Or.inl ⟨by rfl, ?_⟩) ?_ ?_
    rotate_left
    ·intro w'
     go_simp
     with_reducible rfl
    rotate_left
    ·simp only [Act.put, List.setIfInBounds_toArray, List.set_cons_zero, List.set_cons_succ, i64_w, i32_w]
     rfl
    refine last_ (i := 6) (N := none) #[true, true, true, true, true, true, true, false, false] rfl rfl (by kernel_rfl) (by decide) (fun K hK => ?_)
    refine skip_ (w1 := ?_) (by rfl) rfl ?_ ?_
    rotate_left
    ·go_simp
     rfl
    refine hK.out _ _ ?_
    clear hK K
    refine pure_ (i := 7) (N := some 4) (v := ?_) (a' := ?_) #[true, true, true, true, true, true, true, true, false] rfl rfl (by kernel_rfl) (fun _ _ _ h => h) (Or.inl ⟨by rfl, ?_⟩) ?_ ?_
    rotate_left
    ·intro w'
     go_simp
     with_reducible rfl
    rotate_left
    ·simp only [Act.put, List.setIfInBounds_toArray, List.set_cons_zero, List.set_cons_succ, i64_w, i32_w]
     rfl
    refine pure_ (i := 8) (N := some 5) (v := ?_) (a' := ?_) #[true, true, true, true, true, true, true, true, true] rfl rfl (by kernel_rfl) (fun _ _ _ h => h) (Or.inl ⟨by rfl, ?_⟩) ?_ ?_
    rotate_left
    ·intro w'
     go_simp
     with_reducible rfl
    rotate_left
    ·simp only [Act.put, List.setIfInBounds_toArray, List.set_cons_zero, List.set_cons_succ, i64_w, i32_w]
     rfl
    refine done_ (by kernel_rfl) ?_
    go_wp2 
    refine bodyPost_ret (results_list (rs := [.tmp 2, .cell 3 37, .tmp 4, .tmp 5]) rfl (by simp) (.tmp (.cell gb514 37 #[.int .u8 x521000_1, .int .i64 x521001_1, .int .i64 x521002_1, .int .i64 x521003_1] (0, 0) _ rfl (by refine bu ?_; refine blk_put (cs := #[.int .u8 x521000_1, .int .i64 x521001_1, .int .i64 x521002_1, .int .i64 x515003_1]) ?_ 3 _ rfl; refine bu ?_; refine blk_put (cs := #[.int .u8 x521000_1, .int .i64 x521001_1, .int .i64 x515002_1, .int .i64 x515003_1]) ?_ 2 _ rfl; refine bu ?_; refine blk_put (cs := #[.int .u8 x521000_1, .int .i64 x515001_1, .int .i64 x515002_1, .int .i64 x515003_1]) ?_ 1 _ rfl; refine bu ?_; refine blk_put (cs := #[.int .u8 x515000_1, .int .i64 x515001_1, .int .i64 x515002_1, .int .i64 x515003_1]) ?_ 0 _ rfl; refine bu ?_; exact BK514.out) Tryd.underlying37 rfl (by kernel_rfl) (.tmp (.tmp .nil))))) rfl ?_
    exact ⟨er, bs⟩
   rw [if_pos c8] at H
   have c8b0 := decide_eq_true c8
   clear c8
   by_cases c9 : 0 ≤ x26_1
   rotate_left
   ·rw [if_neg c9] at H
    exact absurd H (by simp)
   rw [if_pos c9] at H
   have c9b0 := decide_eq_true c9
   clear c9
   by_cases c10 : x26_1 < (t515.length : Int)
   rotate_left
   ·rw [if_neg c10] at H
    exact absurd H (by simp)
   rw [if_pos c10] at H
   have c10b0 := decide_eq_true c10
   clear c10
   have HC11 := am H
   clear H
   have p521 : 0 ≤ (x26_1 : Int) := of_decide_eq_true od
   have q521 : x26_1 < (t515.length : Int) := of_decide_eq_true od
   obtain ⟨ad521, e521, hx521_0, hx521_1, hx521_2, hx521_3, hx521_4, hx521_5, hx521_6⟩ := at_T25 (Kd.R_reads' HO_24.out).2.2 x26_1 p521 q521
   cases e521
   replace p521 := eq_true p521
   replace q521 := eq_true q521
   go_upto_region 12 with (first | ((with_reducible refine gate_dst (N := 13) rfl ?_); refine box_event ?hg (N := 13) ?hd (cs := #[.string (⟨#[]⟩ : ByteArray), .int .u8 0, .int .i64 0, .int .i64 0, .int .i64 0, .int .i64 0, .int .i64 0]) (t := 25) ?hr ?_; (case hd => rfl); (case hg => rfl); (case hr => first | (go_simp; done) | (go_simp; rfl)); intro gb522 hg w12 hbox hb; have nf_ := am (B2.below (by (with_reducible repeat (first | apply B2.alloc | apply B2.drewN | apply B2.drew)); exact HF.out) hb); clear HF; have HF := nf_; clear nf_; have n0_ := am (Kd.R_below (Kd.R_elderB (by (with_reducible repeat (first | apply Kd.R_alloc | apply Kd.R_drewN | apply Kd.R_drew)); exact HO_24.out) gb522 (Nat.le_of_eq hg.symm)) hb); have n1_ := am (blk_below (bu BK514.out) hb); have n2_ := am (blk_below (bu BK520.out) hb); have n3_ := am (below_step bs hb); have n4_ := am (hbox); have n5_ := am ((by rw [hg]; exact (below_size bs) : w.heap.size ≤ gb522)); have n6_ := am ((by rw [hg]; exact (below_size bs) : w.heap.size ≤ gb522)); have n7_ := am ((by rw [hg]; exact Nat.ne_of_lt (blk_lt (bu BK514.out)) : gb514 ≠ gb522)); have n8_ := am ((by rw [hg]; exact Nat.ne_of_gt (blk_lt (bu BK514.out)) : gb522 ≠ gb514)); have n9_ := am ((by rw [hg]; exact Nat.ne_of_lt (blk_lt (bu BK520.out)) : gb520 ≠ gb522)); have n10_ := am ((by rw [hg]; exact Nat.ne_of_gt (blk_lt (bu BK520.out)) : gb522 ≠ gb520)); clear HO_24; clear BK514; clear BK520; clear HB; have HO_24 := n0_; have BK514 := n1_; have BK520 := n2_; have HB := n3_; have BK522 := n4_; have GW522 := n5_; have GE522 := n6_; have NB514_522 := n7_; have NB522_514 := n8_; have NB520_522 := n9_; have NB522_520 := n10_; clear n0_ n1_ n2_ n3_ n4_ n5_ n6_ n7_ n8_ n9_ n10_; clear hb hbox hg; have hnb13 := NB522_514.out; have hnc13 := NB514_522.out; have hnb14 := NB522_520.out; have hnc14 := NB520_522.out; obtain ⟨⟨hcz15_0, hcz15_1, hcz15_2, hcz15_3, hcz15_4, hcz15_5, hcz15_6⟩, hfz15_0, hfz15_1, hfz15_2, hfz15_3, hfz15_4, hfz15_5, hfz15_6⟩ := blkAll7 BK522))
   (try simp only [Act.put, List.setIfInBounds_toArray, List.set_cons_zero, List.set_cons_succ])
   go_cut [37] (fun v37 wc => ∃ (kq : Nat) (x37_10 : Bool), v37 = .bool x37_10 ∧ Aside0 (d_Single.j1 kq x9_1 x11_1 t515 (t515.length : Int) x26_1 x37_10 x84_1 x521000_1 x521001_1 x521002_1 x521003_1 ((rd_T25 t515 x26_1).f0) ((rd_T25 t515 x26_1).f1) ((rd_T25 t515 x26_1).f2) ((rd_T25 t515 x26_1).f3) ((rd_T25 t515 x26_1).f4) ((rd_T25 t515 x26_1).f5) ((rd_T25 t515 x26_1).f6) = some (r1, r2, r3, r4, r5, r6, r7)) ∧ Aside0 (kq ≤ k1) ∧ Aside0 (Kd.R k25 25 wc w.heap.size (fun k_ => k_ ≠ gb522) (.slice (some ad521) t515.length co7) t515) ∧ Aside0 (wc.heap[gb514]? = some (.cells #[.int .u8 x515000_1, .int .i64 x515001_1, .int .i64 x515002_1, .int .i64 x515003_1] 37 (0, 0))) ∧ Aside0 (wc.heap[gb520]? = some (.cells #[.int .u8 x521000_1, .int .i64 x521001_1, .int .i64 x521002_1, .int .i64 x521003_1] 37 (0, 0))) ∧ Aside0 (wc.heap[gb522]? = some (.cells #[.string ((rd_T25 t515 x26_1).f0), .int .u8 ((rd_T25 t515 x26_1).f1), .int .i64 ((rd_T25 t515 x26_1).f2), .int .i64 ((rd_T25 t515 x26_1).f3), .int .i64 ((rd_T25 t515 x26_1).f4), .int .i64 ((rd_T25 t515 x26_1).f5), .int .i64 ((rd_T25 t515 x26_1).f6)] 25 (0, 0))) ∧ Aside0 (B2 wc w.heap.size gbb x9_1 x84_1) ∧ Aside0 (Below w.heap.size w wc))
   case first =>
    have H := HC11.out
    clear HC11
    by_cases c16 : ((rd_T25 t515 x26_1).f1) = 0
    ·rw [if_pos c16] at H
     have c16b0 : (((rd_T25 t515 x26_1).f1) == 0) = true := beq_iff_eq.mpr c16
     have c16b1 : (((rd_T25 t515 x26_1).f1) != 0) = false := bne_eq_false_iff_eq.mpr c16
     clear c16
     (first | rw [c16b0] | (simp only [i64_w, i32_w]; rw [c16b0]) | skip)
     have H' := am H
     clear H
     have hnb17 := NB522_514.out
     have hnc17 := NB514_522.out
     have hnb18 := NB522_520.out
     have hnc18 := NB520_522.out
     obtain ⟨⟨hcz19_0, hcz19_1, hcz19_2, hcz19_3, hcz19_4, hcz19_5, hcz19_6⟩, hfz19_0, hfz19_1, hfz19_2, hfz19_3, hfz19_4, hfz19_5, hfz19_6⟩ := blkAll7 BK522
     go_wp2
     go_meet
     case rel => exact ⟨_, (true), tv, H', ⟨by have := HK1.out; first | omega | exact Nat.le_refl _⟩, ⟨by (with_reducible repeat (first | apply Kd.R_alloc | apply Kd.R_drewN | apply Kd.R_drew)); exact Kd.R_mono (Kd.R_far (p := ⟨gb522, 6, none⟩) (Kd.R_far (p := ⟨gb522, 5, none⟩) (Kd.R_far (p := ⟨gb522, 4, none⟩) (Kd.R_far (p := ⟨gb522, 3, none⟩) (Kd.R_far (p := ⟨gb522, 2, none⟩) (Kd.R_far (p := ⟨gb522, 1, none⟩) (Kd.R_far (p := ⟨gb522, 0, none⟩) (Kd.R_mono HO_24.out (fun k_ hk => (⟨hk, hk.2⟩ : _ ∧ k_ ≠ gb522))) (fun _ hk => hk.2) (.string ((rd_T25 t515 x26_1).f0))) (fun _ hk => hk.2) (.int .u8 ((rd_T25 t515 x26_1).f1))) (fun _ hk => hk.2) (.int .i64 ((rd_T25 t515 x26_1).f2))) (fun _ hk => hk.2) (.int .i64 ((rd_T25 t515 x26_1).f3))) (fun _ hk => hk.2) (.int .i64 ((rd_T25 t515 x26_1).f4))) (fun _ hk => hk.2) (.int .i64 ((rd_T25 t515 x26_1).f5))) (fun _ hk => hk.2) (.int .i64 ((rd_T25 t515 x26_1).f6))) (fun _ hk => hk.1.2)⟩, ⟨by refine bu ?_; refine blk_far ?_ NB514_522.out _; refine bu ?_; refine blk_far ?_ NB514_522.out _; refine bu ?_; refine blk_far ?_ NB514_522.out _; refine bu ?_; refine blk_far ?_ NB514_522.out _; refine bu ?_; refine blk_far ?_ NB514_522.out _; refine bu ?_; refine blk_far ?_ NB514_522.out _; refine bu ?_; refine blk_far ?_ NB514_522.out _; refine bu ?_; exact BK514.out⟩, ⟨by refine bu ?_; refine blk_far ?_ NB520_522.out _; refine bu ?_; refine blk_far ?_ NB520_522.out _; refine bu ?_; refine blk_far ?_ NB520_522.out _; refine bu ?_; refine blk_far ?_ NB520_522.out _; refine bu ?_; refine blk_far ?_ NB520_522.out _; refine bu ?_; refine blk_far ?_ NB520_522.out _; refine bu ?_; refine blk_far ?_ NB520_522.out _; refine bu ?_; exact BK520.out⟩, ⟨by refine bu ?_; refine blk_put (cs := #[.string ((rd_T25 t515 x26_1).f0), .int .u8 ((rd_T25 t515 x26_1).f1), .int .i64 ((rd_T25 t515 x26_1).f2), .int .i64 ((rd_T25 t515 x26_1).f3), .int .i64 ((rd_T25 t515 x26_1).f4), .int .i64 ((rd_T25 t515 x26_1).f5), .int .i64 0]) ?_ 6 _ rfl; refine bu ?_; refine blk_put (cs := #[.string ((rd_T25 t515 x26_1).f0), .int .u8 ((rd_T25 t515 x26_1).f1), .int .i64 ((rd_T25 t515 x26_1).f2), .int .i64 ((rd_T25 t515 x26_1).f3), .int .i64 ((rd_T25 t515 x26_1).f4), .int .i64 0, .int .i64 0]) ?_ 5 _ rfl; refine bu ?_; refine blk_put (cs := #[.string ((rd_T25 t515 x26_1).f0), .int .u8 ((rd_T25 t515 x26_1).f1), .int .i64 ((rd_T25 t515 x26_1).f2), .int .i64 ((rd_T25 t515 x26_1).f3), .int .i64 0, .int .i64 0, .int .i64 0]) ?_ 4 _ rfl; refine bu ?_; refine blk_put (cs := #[.string ((rd_T25 t515 x26_1).f0), .int .u8 ((rd_T25 t515 x26_1).f1), .int .i64 ((rd_T25 t515 x26_1).f2), .int .i64 0, .int .i64 0, .int .i64 0, .int .i64 0]) ?_ 3 _ rfl; refine bu ?_; refine blk_put (cs := #[.string ((rd_T25 t515 x26_1).f0), .int .u8 ((rd_T25 t515 x26_1).f1), .int .i64 0, .int .i64 0, .int .i64 0, .int .i64 0, .int .i64 0]) ?_ 2 _ rfl; refine bu ?_; refine blk_put (cs := #[.string ((rd_T25 t515 x26_1).f0), .int .u8 0, .int .i64 0, .int .i64 0, .int .i64 0, .int .i64 0, .int .i64 0]) ?_ 1 _ rfl; refine bu ?_; refine blk_put (cs := #[.string (⟨#[]⟩ : ByteArray), .int .u8 0, .int .i64 0, .int .i64 0, .int .i64 0, .int .i64 0, .int .i64 0]) ?_ 0 _ rfl; refine bu ?_; exact BK522.out⟩, ⟨by repeat (first | (with_reducible first | exact HF.out | apply B2.alloc | apply B2.drewN | apply B2.drew | refine B2.far25 (g := gb522) ?_ (by repeat (first | (with_reducible first | exact Ty.of BK522.out | apply Ty.set | apply Ty.alloc | apply Ty.drewN | apply Ty.drew))) _ _ | refine B2.far37 (g := gb520) ?_ (by repeat (first | (with_reducible first | exact Ty.of BK520.out | apply Ty.set | apply Ty.alloc | apply Ty.drewN | apply Ty.drew))) _ _))⟩, ⟨bs⟩⟩
    rw [if_neg c16] at H
    have c16b0 : (((rd_T25 t515 x26_1).f1) == 0) = false := beq_eq_false_iff_ne.mpr c16
    have c16b1 : (((rd_T25 t515 x26_1).f1) != 0) = true := bne_iff_ne.mpr c16
    (first | rw [c16b0] | (simp only [i64_w, i32_w]; rw [c16b0]) | skip)
    have H' := am H
    clear H
    have hnb20 := NB522_514.out
    have hnc20 := NB514_522.out
    have hnb21 := NB522_520.out
    have hnc21 := NB520_522.out
    obtain ⟨⟨hcz22_0, hcz22_1, hcz22_2, hcz22_3, hcz22_4, hcz22_5, hcz22_6⟩, hfz22_0, hfz22_1, hfz22_2, hfz22_3, hfz22_4, hfz22_5, hfz22_6⟩ := blkAll7 BK522
    go_wp2
    go_meet
    case rel => exact ⟨_, ((((rd_T25 t515 x26_1).f1) == 37)), tv, H', ⟨by have := HK1.out; first | omega | exact Nat.le_refl _⟩, ⟨by (with_reducible repeat (first | apply Kd.R_alloc | apply Kd.R_drewN | apply Kd.R_drew)); exact Kd.R_mono (Kd.R_far (p := ⟨gb522, 6, none⟩) (Kd.R_far (p := ⟨gb522, 5, none⟩) (Kd.R_far (p := ⟨gb522, 4, none⟩) (Kd.R_far (p := ⟨gb522, 3, none⟩) (Kd.R_far (p := ⟨gb522, 2, none⟩) (Kd.R_far (p := ⟨gb522, 1, none⟩) (Kd.R_far (p := ⟨gb522, 0, none⟩) (Kd.R_mono HO_24.out (fun k_ hk => (⟨hk, hk.2⟩ : _ ∧ k_ ≠ gb522))) (fun _ hk => hk.2) (.string ((rd_T25 t515 x26_1).f0))) (fun _ hk => hk.2) (.int .u8 ((rd_T25 t515 x26_1).f1))) (fun _ hk => hk.2) (.int .i64 ((rd_T25 t515 x26_1).f2))) (fun _ hk => hk.2) (.int .i64 ((rd_T25 t515 x26_1).f3))) (fun _ hk => hk.2) (.int .i64 ((rd_T25 t515 x26_1).f4))) (fun _ hk => hk.2) (.int .i64 ((rd_T25 t515 x26_1).f5))) (fun _ hk => hk.2) (.int .i64 ((rd_T25 t515 x26_1).f6))) (fun _ hk => hk.1.2)⟩, ⟨by refine bu ?_; refine blk_far ?_ NB514_522.out _; refine bu ?_; refine blk_far ?_ NB514_522.out _; refine bu ?_; refine blk_far ?_ NB514_522.out _; refine bu ?_; refine blk_far ?_ NB514_522.out _; refine bu ?_; refine blk_far ?_ NB514_522.out _; refine bu ?_; refine blk_far ?_ NB514_522.out _; refine bu ?_; refine blk_far ?_ NB514_522.out _; refine bu ?_; exact BK514.out⟩, ⟨by refine bu ?_; refine blk_far ?_ NB520_522.out _; refine bu ?_; refine blk_far ?_ NB520_522.out _; refine bu ?_; refine blk_far ?_ NB520_522.out _; refine bu ?_; refine blk_far ?_ NB520_522.out _; refine bu ?_; refine blk_far ?_ NB520_522.out _; refine bu ?_; refine blk_far ?_ NB520_522.out _; refine bu ?_; refine blk_far ?_ NB520_522.out _; refine bu ?_; exact BK520.out⟩, ⟨by refine bu ?_; refine blk_put (cs := #[.string ((rd_T25 t515 x26_1).f0), .int .u8 ((rd_T25 t515 x26_1).f1), .int .i64 ((rd_T25 t515 x26_1).f2), .int .i64 ((rd_T25 t515 x26_1).f3), .int .i64 ((rd_T25 t515 x26_1).f4), .int .i64 ((rd_T25 t515 x26_1).f5), .int .i64 0]) ?_ 6 _ rfl; refine bu ?_; refine blk_put (cs := #[.string ((rd_T25 t515 x26_1).f0), .int .u8 ((rd_T25 t515 x26_1).f1), .int .i64 ((rd_T25 t515 x26_1).f2), .int .i64 ((rd_T25 t515 x26_1).f3), .int .i64 ((rd_T25 t515 x26_1).f4), .int .i64 0, .int .i64 0]) ?_ 5 _ rfl; refine bu ?_; refine blk_put (cs := #[.string ((rd_T25 t515 x26_1).f0), .int .u8 ((rd_T25 t515 x26_1).f1), .int .i64 ((rd_T25 t515 x26_1).f2), .int .i64 ((rd_T25 t515 x26_1).f3), .int .i64 0, .int .i64 0, .int .i64 0]) ?_ 4 _ rfl; refine bu ?_; refine blk_put (cs := #[.string ((rd_T25 t515 x26_1).f0), .int .u8 ((rd_T25 t515 x26_1).f1), .int .i64 ((rd_T25 t515 x26_1).f2), .int .i64 0, .int .i64 0, .int .i64 0, .int .i64 0]) ?_ 3 _ rfl; refine bu ?_; refine blk_put (cs := #[.string ((rd_T25 t515 x26_1).f0), .int .u8 ((rd_T25 t515 x26_1).f1), .int .i64 0, .int .i64 0, .int .i64 0, .int .i64 0, .int .i64 0]) ?_ 2 _ rfl; refine bu ?_; refine blk_put (cs := #[.string ((rd_T25 t515 x26_1).f0), .int .u8 0, .int .i64 0, .int .i64 0, .int .i64 0, .int .i64 0, .int .i64 0]) ?_ 1 _ rfl; refine bu ?_; refine blk_put (cs := #[.string (⟨#[]⟩ : ByteArray), .int .u8 0, .int .i64 0, .int .i64 0, .int .i64 0, .int .i64 0, .int .i64 0]) ?_ 0 _ rfl; refine bu ?_; exact BK522.out⟩, ⟨by repeat (first | (with_reducible first | exact HF.out | apply B2.alloc | apply B2.drewN | apply B2.drew | refine B2.far25 (g := gb522) ?_ (by repeat (first | (with_reducible first | exact Ty.of BK522.out | apply Ty.set | apply Ty.alloc | apply Ty.drewN | apply Ty.drew))) _ _ | refine B2.far37 (g := gb520) ?_ (by repeat (first | (with_reducible first | exact Ty.of BK520.out | apply Ty.set | apply Ty.alloc | apply Ty.drewN | apply Ty.drew))) _ _))⟩, ⟨bs⟩⟩
   case rest =>
    clear HC11
    try clear c1
    try clear c2
    try clear p2
    try clear c3
    try clear c3b0
    try clear c3b1
    try clear p5
    try clear q5
    try clear hx5
    try clear c8
    try clear c8b0
    try clear c9
    try clear c9b0
    try clear c10
    try clear c10b0
    try clear c13
    try clear c14
    try clear c16
    try clear c16b0
    try clear c16b1
    try clear c17
    try clear c18
    try clear c20
    try clear c21
    try clear hcz15_0 hcz15_1 hcz15_2 hcz15_3 hcz15_4 hcz15_5 hcz15_6
    try clear hcz19_0 hcz19_1 hcz19_2 hcz19_3 hcz19_4 hcz19_5 hcz19_6
    try clear hcz22_0 hcz22_1 hcz22_2 hcz22_3 hcz22_4 hcz22_5 hcz22_6
    try clear hfz15_0 hfz15_1 hfz15_2 hfz15_3 hfz15_4 hfz15_5 hfz15_6
    try clear hfz19_0 hfz19_1 hfz19_2 hfz19_3 hfz19_4 hfz19_5 hfz19_6
    try clear hfz22_0 hfz22_1 hfz22_2 hfz22_3 hfz22_4 hfz22_5 hfz22_6
    try clear hx521_0
    try clear hx521_1
    try clear hx521_2
    try clear hx521_3
    try clear hx521_4
    try clear hx521_5
    try clear hx521_6
    try clear p2
    try clear p521
    try clear q521
    obtain ⟨kq, x37_10, rfl, HA, HJ10, HO_24, BK514, BK520, BK522, HF, HB⟩ := hcut
    cases kq with
    | zero => exact absurd HA.out (by simp [d_Single.j1])
    | succ kj10 =>
     have H := HA.out
     clear HA
     simp only [d_Single.j1] at H
     by_cases c23 : x37_10 = true
     ·subst c23
      have H1 : (if ((rd_T25 t515 x26_1).f1) = 37 then ((xSide.f x9_1 x84_1 x11_1 (⟨#[37]⟩ : ByteArray)).bind fun bt523 => (d_Single.l0 kj10 bt523.1 x11_1 t515 (t515.length : Int) (wrap64 (x26_1 + 1)) bt523.2 x521000_1 x521001_1 x521002_1 x521003_1)) else ((xSide.f x9_1 x84_1 x11_1 ((rd_T25 t515 x26_1).f0)).bind fun bt525 => (d_Single.l0 kj10 bt525.1 x11_1 t515 (t515.length : Int) (wrap64 (x26_1 + 1)) bt525.2 x521000_1 x521001_1 x521002_1 x521003_1))) = some (r1, r2, r3, r4, r5, r6, r7) := by rw [if_pos rfl] at H; exact H
      clear H
      have H := H1
      clear H1
      by_cases c24 : ((rd_T25 t515 x26_1).f1) = 37
      ·rw [if_pos c24] at H
       have c24b0 : (((rd_T25 t515 x26_1).f1) == 37) = true := beq_iff_eq.mpr c24
       have c24b1 : (((rd_T25 t515 x26_1).f1) != 37) = false := bne_eq_false_iff_eq.mpr c24
       clear c24
       replace H := Option.bind_eq_some_iff.mp H
       obtain ⟨⟨t523, t524⟩, A250, H⟩ := H
       replace H : (d_Single.l0 kj10 t523 x11_1 t515 (t515.length : Int) (wrap64 (x26_1 + 1)) t524 x521000_1 x521001_1 x521002_1 x521003_1) = some (r1, r2, r3, r4, r5, r6, r7) := H
       have A25 := am A250
       clear A250
       have H' := am H
       clear H
       have hnb26 := NB522_514.out
       have hnc26 := NB514_522.out
       have hnb27 := NB522_520.out
       have hnc27 := NB520_522.out
       obtain ⟨⟨hcz28_0, hcz28_1, hcz28_2, hcz28_3, hcz28_4, hcz28_5, hcz28_6⟩, hfz28_0, hfz28_1, hfz28_2, hfz28_3, hfz28_4, hfz28_5, hfz28_6⟩ := blkAll7 BK522
       rcases xSide_cases A25.out with ⟨hx_, rfl, rfl, hl_⟩ | ⟨hx_, rfl, rfl, hl_⟩
       ·subst hx_
        go_wp2_with (first | ((with_reducible refine gate_callee (f := 27) rfl ?_); refine goesL_ (some 54) rfl rfl Tryd.func27 (by kernel_rfl) rfl #[.pointer (some ⟨gbb, 0, none⟩), .string (⟨#[37]⟩ : ByteArray)] rfl ls ?_; refine (B2.write0 (by (with_reducible repeat (first | apply B2.alloc | apply B2.drewN | apply B2.drew)); exact HF.out) (⟨#[37]⟩ : ByteArray) hl_ (below_size bs)).mono ?_; rintro e wv ⟨rfl, hbf, hb, hk⟩; refine ⟨_, rfl, ?_⟩; have n0_ := am (Kp.R (by (with_reducible repeat (first | apply Kd.R_alloc | apply Kd.R_drewN | apply Kd.R_drew)); exact HO_24.out) hk (by decide)); have n1_ := am (hk.blk (bu BK514.out) (by decide) (by decide)); have n2_ := am (hk.blk (bu BK520.out) (by decide) (by decide)); have n4_ := am (Below.trans bs hb); have n3_ := am (hk.blk (bu BK522.out) (by decide) (by decide)); clear HO_24 BK514 BK520 BK522 HB HF; have HO_24 := n0_; have BK514 := n1_; have BK520 := n2_; have BK522 := n3_; have HB := n4_; have HF := am hbf; clear n0_ n1_ n2_ n3_ n4_ hbf hb hk))
        go_roundg kj10
        case measure => have := HK1.out; have := HJ10.out; omega
        case rel => exact ⟨(x9_1 ++ (⟨#[37]⟩ : ByteArray)), (0), (wrap64 (x26_1 + 1)), (t524), (x515000_1), (x515001_1), (x515002_1), (x515003_1), (x521000_1), (x521001_1), (x521002_1), (x521003_1), tv, tv, H', ⟨by have := HK1.out; have := HJ10.out; omega⟩, ⟨by (with_reducible repeat (first | apply Kd.R_alloc | apply Kd.R_drewN | apply Kd.R_drew)); exact Kd.R_mono HO_24.out (fun _ hk => trivial)⟩, ⟨by refine bu ?_; exact BK514.out⟩, ⟨by refine bu ?_; exact BK520.out⟩, ⟨by repeat (first | (with_reducible first | exact HF.out | apply B2.alloc | apply B2.drewN | apply B2.drew | refine B2.far25 (g := gb522) ?_ (by repeat (first | (with_reducible first | exact Ty.of BK522.out | apply Ty.set | apply Ty.alloc | apply Ty.drewN | apply Ty.drew))) _ _ | refine B2.far37 (g := gb520) ?_ (by repeat (first | (with_reducible first | exact Ty.of BK520.out | apply Ty.set | apply Ty.alloc | apply Ty.drewN | apply Ty.drew))) _ _))⟩, ⟨bs⟩⟩
       ·subst hx_
        go_wp2_with (first | ((with_reducible refine gate_callee (f := 27) rfl ?_); refine goesL_ (some 54) rfl rfl Tryd.func27 (by kernel_rfl) rfl #[.pointer (some ⟨gbb, 2, none⟩), .string (⟨#[37]⟩ : ByteArray)] rfl ls ?_; refine (B2.write1 (by (with_reducible repeat (first | apply B2.alloc | apply B2.drewN | apply B2.drew)); exact HF.out) (⟨#[37]⟩ : ByteArray) hl_ (below_size bs)).mono ?_; rintro e wv ⟨rfl, hbf, hb, hk⟩; refine ⟨_, rfl, ?_⟩; have n0_ := am (Kp.R (by (with_reducible repeat (first | apply Kd.R_alloc | apply Kd.R_drewN | apply Kd.R_drew)); exact HO_24.out) hk (by decide)); have n1_ := am (hk.blk (bu BK514.out) (by decide) (by decide)); have n2_ := am (hk.blk (bu BK520.out) (by decide) (by decide)); have n4_ := am (Below.trans bs hb); have n3_ := am (hk.blk (bu BK522.out) (by decide) (by decide)); clear HO_24 BK514 BK520 BK522 HB HF; have HO_24 := n0_; have BK514 := n1_; have BK520 := n2_; have BK522 := n3_; have HB := n4_; have HF := am hbf; clear n0_ n1_ n2_ n3_ n4_ hbf hb hk))
        go_roundg kj10
        case measure => have := HK1.out; have := HJ10.out; omega
        case rel => exact ⟨(t523), (1), (wrap64 (x26_1 + 1)), (x84_1 ++ (⟨#[37]⟩ : ByteArray)), (x515000_1), (x515001_1), (x515002_1), (x515003_1), (x521000_1), (x521001_1), (x521002_1), (x521003_1), tv, tv, H', ⟨by have := HK1.out; have := HJ10.out; omega⟩, ⟨by (with_reducible repeat (first | apply Kd.R_alloc | apply Kd.R_drewN | apply Kd.R_drew)); exact Kd.R_mono HO_24.out (fun _ hk => trivial)⟩, ⟨by refine bu ?_; exact BK514.out⟩, ⟨by refine bu ?_; exact BK520.out⟩, ⟨by repeat (first | (with_reducible first | exact HF.out | apply B2.alloc | apply B2.drewN | apply B2.drew | refine B2.far25 (g := gb522) ?_ (by repeat (first | (with_reducible first | exact Ty.of BK522.out | apply Ty.set | apply Ty.alloc | apply Ty.drewN | apply Ty.drew))) _ _ | refine B2.far37 (g := gb520) ?_ (by repeat (first | (with_reducible first | exact Ty.of BK520.out | apply Ty.set | apply Ty.alloc | apply Ty.drewN | apply Ty.drew))) _ _))⟩, ⟨bs⟩⟩
      rw [if_neg c24] at H
      have c24b0 : (((rd_T25 t515 x26_1).f1) == 37) = false := beq_eq_false_iff_ne.mpr c24
      have c24b1 : (((rd_T25 t515 x26_1).f1) != 37) = true := bne_iff_ne.mpr c24
      replace H := Option.bind_eq_some_iff.mp H
      obtain ⟨⟨t525, t526⟩, A300, H⟩ := H
      replace H : (d_Single.l0 kj10 t525 x11_1 t515 (t515.length : Int) (wrap64 (x26_1 + 1)) t526 x521000_1 x521001_1 x521002_1 x521003_1) = some (r1, r2, r3, r4, r5, r6, r7) := H
      have A30 := am A300
      clear A300
      have H' := am H
      clear H
      have hnb31 := NB522_514.out
      have hnc31 := NB514_522.out
      have hnb32 := NB522_520.out
      have hnc32 := NB520_522.out
      obtain ⟨⟨hcz33_0, hcz33_1, hcz33_2, hcz33_3, hcz33_4, hcz33_5, hcz33_6⟩, hfz33_0, hfz33_1, hfz33_2, hfz33_3, hfz33_4, hfz33_5, hfz33_6⟩ := blkAll7 BK522
      rcases xSide_cases A30.out with ⟨hx_, rfl, rfl, hl_⟩ | ⟨hx_, rfl, rfl, hl_⟩
      ·subst hx_
       go_wp2_with (first | ((with_reducible refine gate_callee (f := 27) rfl ?_); refine goesL_ (some 54) rfl rfl Tryd.func27 (by kernel_rfl) rfl #[.pointer (some ⟨gbb, 0, none⟩), .string ((rd_T25 t515 x26_1).f0)] rfl ls ?_; refine (B2.write0 (by (with_reducible repeat (first | apply B2.alloc | apply B2.drewN | apply B2.drew)); exact HF.out) ((rd_T25 t515 x26_1).f0) hl_ (below_size bs)).mono ?_; rintro e wv ⟨rfl, hbf, hb, hk⟩; refine ⟨_, rfl, ?_⟩; have n0_ := am (Kp.R (by (with_reducible repeat (first | apply Kd.R_alloc | apply Kd.R_drewN | apply Kd.R_drew)); exact HO_24.out) hk (by decide)); have n1_ := am (hk.blk (bu BK514.out) (by decide) (by decide)); have n2_ := am (hk.blk (bu BK520.out) (by decide) (by decide)); have n4_ := am (Below.trans bs hb); have n3_ := am (hk.blk (bu BK522.out) (by decide) (by decide)); clear HO_24 BK514 BK520 BK522 HB HF; have HO_24 := n0_; have BK514 := n1_; have BK520 := n2_; have BK522 := n3_; have HB := n4_; have HF := am hbf; clear n0_ n1_ n2_ n3_ n4_ hbf hb hk))
       go_roundg kj10
       case measure => have := HK1.out; have := HJ10.out; omega
       case rel => exact ⟨(x9_1 ++ ((rd_T25 t515 x26_1).f0)), (0), (wrap64 (x26_1 + 1)), (t526), (x515000_1), (x515001_1), (x515002_1), (x515003_1), (x521000_1), (x521001_1), (x521002_1), (x521003_1), tv, tv, H', ⟨by have := HK1.out; have := HJ10.out; omega⟩, ⟨by (with_reducible repeat (first | apply Kd.R_alloc | apply Kd.R_drewN | apply Kd.R_drew)); exact Kd.R_mono HO_24.out (fun _ hk => trivial)⟩, ⟨by refine bu ?_; exact BK514.out⟩, ⟨by refine bu ?_; exact BK520.out⟩, ⟨by repeat (first | (with_reducible first | exact HF.out | apply B2.alloc | apply B2.drewN | apply B2.drew | refine B2.far25 (g := gb522) ?_ (by repeat (first | (with_reducible first | exact Ty.of BK522.out | apply Ty.set | apply Ty.alloc | apply Ty.drewN | apply Ty.drew))) _ _ | refine B2.far37 (g := gb520) ?_ (by repeat (first | (with_reducible first | exact Ty.of BK520.out | apply Ty.set | apply Ty.alloc | apply Ty.drewN | apply Ty.drew))) _ _))⟩, ⟨bs⟩⟩
      ·subst hx_
       go_wp2_with (first | ((with_reducible refine gate_callee (f := 27) rfl ?_); refine goesL_ (some 54) rfl rfl Tryd.func27 (by kernel_rfl) rfl #[.pointer (some ⟨gbb, 2, none⟩), .string ((rd_T25 t515 x26_1).f0)] rfl ls ?_; refine (B2.write1 (by (with_reducible repeat (first | apply B2.alloc | apply B2.drewN | apply B2.drew)); exact HF.out) ((rd_T25 t515 x26_1).f0) hl_ (below_size bs)).mono ?_; rintro e wv ⟨rfl, hbf, hb, hk⟩; refine ⟨_, rfl, ?_⟩; have n0_ := am (Kp.R (by (with_reducible repeat (first | apply Kd.R_alloc | apply Kd.R_drewN | apply Kd.R_drew)); exact HO_24.out) hk (by decide)); have n1_ := am (hk.blk (bu BK514.out) (by decide) (by decide)); have n2_ := am (hk.blk (bu BK520.out) (by decide) (by decide)); have n4_ := am (Below.trans bs hb); have n3_ := am (hk.blk (bu BK522.out) (by decide) (by decide)); clear HO_24 BK514 BK520 BK522 HB HF; have HO_24 := n0_; have BK514 := n1_; have BK520 := n2_; have BK522 := n3_; have HB := n4_; have HF := am hbf; clear n0_ n1_ n2_ n3_ n4_ hbf hb hk))
       go_roundg kj10
       case measure => have := HK1.out; have := HJ10.out; omega
       case rel => exact ⟨(t525), (1), (wrap64 (x26_1 + 1)), (x84_1 ++ ((rd_T25 t515 x26_1).f0)), (x515000_1), (x515001_1), (x515002_1), (x515003_1), (x521000_1), (x521001_1), (x521002_1), (x521003_1), tv, tv, H', ⟨by have := HK1.out; have := HJ10.out; omega⟩, ⟨by (with_reducible repeat (first | apply Kd.R_alloc | apply Kd.R_drewN | apply Kd.R_drew)); exact Kd.R_mono HO_24.out (fun _ hk => trivial)⟩, ⟨by refine bu ?_; exact BK514.out⟩, ⟨by refine bu ?_; exact BK520.out⟩, ⟨by repeat (first | (with_reducible first | exact HF.out | apply B2.alloc | apply B2.drewN | apply B2.drew | refine B2.far25 (g := gb522) ?_ (by repeat (first | (with_reducible first | exact Ty.of BK522.out | apply Ty.set | apply Ty.alloc | apply Ty.drewN | apply Ty.drew))) _ _ | refine B2.far37 (g := gb520) ?_ (by repeat (first | (with_reducible first | exact Ty.of BK520.out | apply Ty.set | apply Ty.alloc | apply Ty.drewN | apply Ty.drew))) _ _))⟩, ⟨bs⟩⟩
     replace c23 := Bool.eq_false_iff.mpr c23
     subst c23
     have H1 : (if x11_1 = 1 then (some ((⟨#[]⟩ : ByteArray), 0, 0, 0, 0, (⟨#[]⟩ : ByteArray), false)) else ((xIndexByte.f (⟨#[101, 69, 102, 70, 103, 71]⟩ : ByteArray) ((rd_T25 t515 x26_1).f1)).bind fun t527 => (if t527 < 0 then (some ((⟨#[]⟩ : ByteArray), 0, 0, 0, 0, (⟨#[]⟩ : ByteArray), false)) else (if ((rd_T25 t515 x26_1).f3) = 2 then (some ((⟨#[]⟩ : ByteArray), 0, 0, 0, 0, (⟨#[]⟩ : ByteArray), false)) else (if ((rd_T25 t515 x26_1).f5) = 2 then (some ((⟨#[]⟩ : ByteArray), 0, 0, 0, 0, (⟨#[]⟩ : ByteArray), false)) else ((d_Settle.f kj10 ((rd_T25 t515 x26_1).f0) ((rd_T25 t515 x26_1).f1) ((rd_T25 t515 x26_1).f2) ((rd_T25 t515 x26_1).f3) ((rd_T25 t515 x26_1).f4) ((rd_T25 t515 x26_1).f5) ((rd_T25 t515 x26_1).f6) 0 0).bind fun bt528 => (d_Single.l0 kj10 x9_1 (wrap64 (x11_1 + 1)) t515 (t515.length : Int) (wrap64 (x26_1 + 1)) x84_1 bt528.1 bt528.2.1 bt528.2.2.1 bt528.2.2.2.1))))))) = some (r1, r2, r3, r4, r5, r6, r7) := by rw [if_neg (show ¬ (false = true) by decide)] at H; exact H
     clear H
     have H := H1
     clear H1
     by_cases c35 : x11_1 = 1
     ·rw [if_pos c35] at H
      have c35b0 : (x11_1 == 1) = true := beq_iff_eq.mpr c35
      have c35b1 : (x11_1 != 1) = false := bne_eq_false_iff_eq.mpr c35
      clear c35
      simp only [Option.some.injEq, Prod.mk.injEq] at H
      obtain ⟨rfl, rfl, rfl, rfl, rfl, rfl, rfl⟩ := H
      have hnb36 := NB514_520.out
      have hnc36 := NB520_514.out
      have hnb37 := NB514_522.out
      have hnc37 := NB522_514.out
      obtain ⟨⟨hcz38_0, hcz38_1, hcz38_2, hcz38_3⟩, hfz38_0, hfz38_1, hfz38_2, hfz38_3⟩ := blkAll4 BK514
      go_wp2
      refine bodyPost_ret (results_list (rs := [.tmp 2, .cell 3 37, .tmp 4, .tmp 5]) rfl (by simp) (.tmp (.cell gb514 37 #[.int .u8 0, .int .i64 0, .int .i64 0, .int .i64 0] (0, 0) _ rfl (by refine bu ?_; refine blk_put (cs := #[.int .u8 0, .int .i64 0, .int .i64 0, .int .i64 x515003_1]) ?_ 3 _ rfl; refine bu ?_; refine blk_put (cs := #[.int .u8 0, .int .i64 0, .int .i64 x515002_1, .int .i64 x515003_1]) ?_ 2 _ rfl; refine bu ?_; refine blk_put (cs := #[.int .u8 0, .int .i64 x515001_1, .int .i64 x515002_1, .int .i64 x515003_1]) ?_ 1 _ rfl; refine bu ?_; refine blk_put (cs := #[.int .u8 x515000_1, .int .i64 x515001_1, .int .i64 x515002_1, .int .i64 x515003_1]) ?_ 0 _ rfl; refine bu ?_; exact BK514.out) Tryd.underlying37 rfl (by kernel_rfl) (.tmp (.tmp .nil))))) rfl ?_
      exact ⟨er, bs⟩
     rw [if_neg c35] at H
     have c35b0 : (x11_1 == 1) = false := beq_eq_false_iff_ne.mpr c35
     have c35b1 : (x11_1 != 1) = true := bne_iff_ne.mpr c35
     replace H := Option.bind_eq_some_iff.mp H
     obtain ⟨t527, A390, H⟩ := H
     replace H : (if t527 < 0 then (some ((⟨#[]⟩ : ByteArray), 0, 0, 0, 0, (⟨#[]⟩ : ByteArray), false)) else (if ((rd_T25 t515 x26_1).f3) = 2 then (some ((⟨#[]⟩ : ByteArray), 0, 0, 0, 0, (⟨#[]⟩ : ByteArray), false)) else (if ((rd_T25 t515 x26_1).f5) = 2 then (some ((⟨#[]⟩ : ByteArray), 0, 0, 0, 0, (⟨#[]⟩ : ByteArray), false)) else ((d_Settle.f kj10 ((rd_T25 t515 x26_1).f0) ((rd_T25 t515 x26_1).f1) ((rd_T25 t515 x26_1).f2) ((rd_T25 t515 x26_1).f3) ((rd_T25 t515 x26_1).f4) ((rd_T25 t515 x26_1).f5) ((rd_T25 t515 x26_1).f6) 0 0).bind fun bt528 => (d_Single.l0 kj10 x9_1 (wrap64 (x11_1 + 1)) t515 (t515.length : Int) (wrap64 (x26_1 + 1)) x84_1 bt528.1 bt528.2.1 bt528.2.2.1 bt528.2.2.2.1))))) = some (r1, r2, r3, r4, r5, r6, r7) := H
     have A39 := am A390
     clear A390
     by_cases c40 : t527 < 0
     ·rw [if_pos c40] at H
      have c40b0 := decide_eq_true c40
      clear c40
      simp only [Option.some.injEq, Prod.mk.injEq] at H
      obtain ⟨rfl, rfl, rfl, rfl, rfl, rfl, rfl⟩ := H
      have hnb41 := NB522_514.out
      have hnc41 := NB514_522.out
      have hnb42 := NB522_520.out
      have hnc42 := NB520_522.out
      obtain ⟨⟨hcz43_0, hcz43_1, hcz43_2, hcz43_3, hcz43_4, hcz43_5, hcz43_6⟩, hfz43_0, hfz43_1, hfz43_2, hfz43_3, hfz43_4, hfz43_5, hfz43_6⟩ := blkAll7 BK522
      go_wp2_with (first | (go_at_call 25; (with_reducible refine (xIndexByte.calls (⟨#[101, 69, 102, 70, 103, 71]⟩ : ByteArray) ((rd_T25 t515 x26_1).f1) t527 _ A39.out).mono ?_); rintro e w44 ⟨rfl, hb⟩; have nf_ := am (B2.below (by (with_reducible repeat (first | apply B2.alloc | apply B2.drewN | apply B2.drew)); exact HF.out) hb); clear HF; have HF := nf_; clear nf_; have n0_ := am (Kd.R_below (by (with_reducible repeat (first | apply Kd.R_alloc | apply Kd.R_drewN | apply Kd.R_drew)); exact HO_24.out) hb); have n1_ := am (blk_below (bu BK514.out) hb); have n2_ := am (blk_below (bu BK520.out) hb); have n3_ := am (blk_below (bu BK522.out) hb); have n4_ := am (below_step bs hb); clear HO_24; clear BK514; clear BK520; clear BK522; clear HB; have HO_24 := n0_; have BK514 := n1_; have BK520 := n2_; have BK522 := n3_; have HB := n4_; clear n0_ n1_ n2_ n3_ n4_; (try clear hb); (try clear hb2); (try clear hk); (try clear hi); have hnb45 := NB514_520.out; have hnc45 := NB520_514.out; obtain ⟨⟨hcz46_0, hcz46_1, hcz46_2, hcz46_3⟩, hfz46_0, hfz46_1, hfz46_2, hfz46_3⟩ := blkAll4 BK514))
      refine bodyPost_ret (results_list (rs := [.tmp 2, .cell 3 37, .tmp 4, .tmp 5]) rfl (by simp) (.tmp (.cell gb514 37 #[.int .u8 0, .int .i64 0, .int .i64 0, .int .i64 0] (0, 0) _ rfl (by refine bu ?_; refine blk_put (cs := #[.int .u8 0, .int .i64 0, .int .i64 0, .int .i64 x515003_1]) ?_ 3 _ rfl; refine bu ?_; refine blk_put (cs := #[.int .u8 0, .int .i64 0, .int .i64 x515002_1, .int .i64 x515003_1]) ?_ 2 _ rfl; refine bu ?_; refine blk_put (cs := #[.int .u8 0, .int .i64 x515001_1, .int .i64 x515002_1, .int .i64 x515003_1]) ?_ 1 _ rfl; refine bu ?_; refine blk_put (cs := #[.int .u8 x515000_1, .int .i64 x515001_1, .int .i64 x515002_1, .int .i64 x515003_1]) ?_ 0 _ rfl; refine bu ?_; exact BK514.out) Tryd.underlying37 rfl (by kernel_rfl) (.tmp (.tmp .nil))))) rfl ?_
      exact ⟨er, bs⟩
     rw [if_neg c40] at H
     have c40b0 := decide_eq_false c40
     clear c40
     by_cases c47 : ((rd_T25 t515 x26_1).f3) = 2
     ·rw [if_pos c47] at H
      have c47b0 : (((rd_T25 t515 x26_1).f3) == 2) = true := beq_iff_eq.mpr c47
      have c47b1 : (((rd_T25 t515 x26_1).f3) != 2) = false := bne_eq_false_iff_eq.mpr c47
      clear c47
      simp only [Option.some.injEq, Prod.mk.injEq] at H
      obtain ⟨rfl, rfl, rfl, rfl, rfl, rfl, rfl⟩ := H
      have hnb48 := NB522_514.out
      have hnc48 := NB514_522.out
      have hnb49 := NB522_520.out
      have hnc49 := NB520_522.out
      obtain ⟨⟨hcz50_0, hcz50_1, hcz50_2, hcz50_3, hcz50_4, hcz50_5, hcz50_6⟩, hfz50_0, hfz50_1, hfz50_2, hfz50_3, hfz50_4, hfz50_5, hfz50_6⟩ := blkAll7 BK522
      go_wp2_with (first | (go_at_call 25; (with_reducible refine (xIndexByte.calls (⟨#[101, 69, 102, 70, 103, 71]⟩ : ByteArray) ((rd_T25 t515 x26_1).f1) t527 _ A39.out).mono ?_); rintro e w51 ⟨rfl, hb⟩; have nf_ := am (B2.below (by (with_reducible repeat (first | apply B2.alloc | apply B2.drewN | apply B2.drew)); exact HF.out) hb); clear HF; have HF := nf_; clear nf_; have n0_ := am (Kd.R_below (by (with_reducible repeat (first | apply Kd.R_alloc | apply Kd.R_drewN | apply Kd.R_drew)); exact HO_24.out) hb); have n1_ := am (blk_below (bu BK514.out) hb); have n2_ := am (blk_below (bu BK520.out) hb); have n3_ := am (blk_below (bu BK522.out) hb); have n4_ := am (below_step bs hb); clear HO_24; clear BK514; clear BK520; clear BK522; clear HB; have HO_24 := n0_; have BK514 := n1_; have BK520 := n2_; have BK522 := n3_; have HB := n4_; clear n0_ n1_ n2_ n3_ n4_; (try clear hb); (try clear hb2); (try clear hk); (try clear hi); obtain ⟨⟨hcz52_0, hcz52_1, hcz52_2, hcz52_3, hcz52_4, hcz52_5, hcz52_6⟩, hfz52_0, hfz52_1, hfz52_2, hfz52_3, hfz52_4, hfz52_5, hfz52_6⟩ := blkAll7 BK522; have hnb53 := NB514_520.out; have hnc53 := NB520_514.out; obtain ⟨⟨hcz54_0, hcz54_1, hcz54_2, hcz54_3⟩, hfz54_0, hfz54_1, hfz54_2, hfz54_3⟩ := blkAll4 BK514))
      refine bodyPost_ret (results_list (rs := [.tmp 2, .cell 3 37, .tmp 4, .tmp 5]) rfl (by simp) (.tmp (.cell gb514 37 #[.int .u8 0, .int .i64 0, .int .i64 0, .int .i64 0] (0, 0) _ rfl (by refine bu ?_; refine blk_put (cs := #[.int .u8 0, .int .i64 0, .int .i64 0, .int .i64 x515003_1]) ?_ 3 _ rfl; refine bu ?_; refine blk_put (cs := #[.int .u8 0, .int .i64 0, .int .i64 x515002_1, .int .i64 x515003_1]) ?_ 2 _ rfl; refine bu ?_; refine blk_put (cs := #[.int .u8 0, .int .i64 x515001_1, .int .i64 x515002_1, .int .i64 x515003_1]) ?_ 1 _ rfl; refine bu ?_; refine blk_put (cs := #[.int .u8 x515000_1, .int .i64 x515001_1, .int .i64 x515002_1, .int .i64 x515003_1]) ?_ 0 _ rfl; refine bu ?_; exact BK514.out) Tryd.underlying37 rfl (by kernel_rfl) (.tmp (.tmp .nil))))) rfl ?_
      exact ⟨er, bs⟩
     rw [if_neg c47] at H
     have c47b0 : (((rd_T25 t515 x26_1).f3) == 2) = false := beq_eq_false_iff_ne.mpr c47
     have c47b1 : (((rd_T25 t515 x26_1).f3) != 2) = true := bne_iff_ne.mpr c47
     by_cases c55 : ((rd_T25 t515 x26_1).f5) = 2
     ·rw [if_pos c55] at H
      have c55b0 : (((rd_T25 t515 x26_1).f5) == 2) = true := beq_iff_eq.mpr c55
      have c55b1 : (((rd_T25 t515 x26_1).f5) != 2) = false := bne_eq_false_iff_eq.mpr c55
      clear c55
      simp only [Option.some.injEq, Prod.mk.injEq] at H
      obtain ⟨rfl, rfl, rfl, rfl, rfl, rfl, rfl⟩ := H
      have hnb56 := NB522_514.out
      have hnc56 := NB514_522.out
      have hnb57 := NB522_520.out
      have hnc57 := NB520_522.out
      obtain ⟨⟨hcz58_0, hcz58_1, hcz58_2, hcz58_3, hcz58_4, hcz58_5, hcz58_6⟩, hfz58_0, hfz58_1, hfz58_2, hfz58_3, hfz58_4, hfz58_5, hfz58_6⟩ := blkAll7 BK522
      go_wp2_with (first | (go_at_call 25; (with_reducible refine (xIndexByte.calls (⟨#[101, 69, 102, 70, 103, 71]⟩ : ByteArray) ((rd_T25 t515 x26_1).f1) t527 _ A39.out).mono ?_); rintro e w59 ⟨rfl, hb⟩; have nf_ := am (B2.below (by (with_reducible repeat (first | apply B2.alloc | apply B2.drewN | apply B2.drew)); exact HF.out) hb); clear HF; have HF := nf_; clear nf_; have n0_ := am (Kd.R_below (by (with_reducible repeat (first | apply Kd.R_alloc | apply Kd.R_drewN | apply Kd.R_drew)); exact HO_24.out) hb); have n1_ := am (blk_below (bu BK514.out) hb); have n2_ := am (blk_below (bu BK520.out) hb); have n3_ := am (blk_below (bu BK522.out) hb); have n4_ := am (below_step bs hb); clear HO_24; clear BK514; clear BK520; clear BK522; clear HB; have HO_24 := n0_; have BK514 := n1_; have BK520 := n2_; have BK522 := n3_; have HB := n4_; clear n0_ n1_ n2_ n3_ n4_; (try clear hb); (try clear hb2); (try clear hk); (try clear hi); obtain ⟨⟨hcz60_0, hcz60_1, hcz60_2, hcz60_3, hcz60_4, hcz60_5, hcz60_6⟩, hfz60_0, hfz60_1, hfz60_2, hfz60_3, hfz60_4, hfz60_5, hfz60_6⟩ := blkAll7 BK522; have hnb61 := NB514_520.out; have hnc61 := NB520_514.out; obtain ⟨⟨hcz62_0, hcz62_1, hcz62_2, hcz62_3⟩, hfz62_0, hfz62_1, hfz62_2, hfz62_3⟩ := blkAll4 BK514))
      refine bodyPost_ret (results_list (rs := [.tmp 2, .cell 3 37, .tmp 4, .tmp 5]) rfl (by simp) (.tmp (.cell gb514 37 #[.int .u8 0, .int .i64 0, .int .i64 0, .int .i64 0] (0, 0) _ rfl (by refine bu ?_; refine blk_put (cs := #[.int .u8 0, .int .i64 0, .int .i64 0, .int .i64 x515003_1]) ?_ 3 _ rfl; refine bu ?_; refine blk_put (cs := #[.int .u8 0, .int .i64 0, .int .i64 x515002_1, .int .i64 x515003_1]) ?_ 2 _ rfl; refine bu ?_; refine blk_put (cs := #[.int .u8 0, .int .i64 x515001_1, .int .i64 x515002_1, .int .i64 x515003_1]) ?_ 1 _ rfl; refine bu ?_; refine blk_put (cs := #[.int .u8 x515000_1, .int .i64 x515001_1, .int .i64 x515002_1, .int .i64 x515003_1]) ?_ 0 _ rfl; refine bu ?_; exact BK514.out) Tryd.underlying37 rfl (by kernel_rfl) (.tmp (.tmp .nil))))) rfl ?_
      exact ⟨er, bs⟩
     rw [if_neg c55] at H
     have c55b0 : (((rd_T25 t515 x26_1).f5) == 2) = false := beq_eq_false_iff_ne.mpr c55
     have c55b1 : (((rd_T25 t515 x26_1).f5) != 2) = true := bne_iff_ne.mpr c55
     replace H := Option.bind_eq_some_iff.mp H
     obtain ⟨⟨t528, t529, t530, t531, t532⟩, A630, H⟩ := H
     replace H : (d_Single.l0 kj10 x9_1 (wrap64 (x11_1 + 1)) t515 (t515.length : Int) (wrap64 (x26_1 + 1)) x84_1 t528 t529 t530 t531) = some (r1, r2, r3, r4, r5, r6, r7) := H
     have A63 := am A630
     clear A630
     have H' := am H
     clear H
     have hnb64 := NB522_514.out
     have hnc64 := NB514_522.out
     have hnb65 := NB522_520.out
     have hnc65 := NB520_522.out
     obtain ⟨⟨hcz66_0, hcz66_1, hcz66_2, hcz66_3, hcz66_4, hcz66_5, hcz66_6⟩, hfz66_0, hfz66_1, hfz66_2, hfz66_3, hfz66_4, hfz66_5, hfz66_6⟩ := blkAll7 BK522
     go_wp2_with (first | (go_at_call 25; (with_reducible refine (xIndexByte.calls (⟨#[101, 69, 102, 70, 103, 71]⟩ : ByteArray) ((rd_T25 t515 x26_1).f1) t527 _ A39.out).mono ?_); rintro e w67 ⟨rfl, hb⟩; have nf_ := am (B2.below (by (with_reducible repeat (first | apply B2.alloc | apply B2.drewN | apply B2.drew)); exact HF.out) hb); clear HF; have HF := nf_; clear nf_; have n0_ := am (Kd.R_below (by (with_reducible repeat (first | apply Kd.R_alloc | apply Kd.R_drewN | apply Kd.R_drew)); exact HO_24.out) hb); have n1_ := am (blk_below (bu BK514.out) hb); have n2_ := am (blk_below (bu BK520.out) hb); have n3_ := am (blk_below (bu BK522.out) hb); have n4_ := am (below_step bs hb); clear HO_24; clear BK514; clear BK520; clear BK522; clear HB; have HO_24 := n0_; have BK514 := n1_; have BK520 := n2_; have BK522 := n3_; have HB := n4_; clear n0_ n1_ n2_ n3_ n4_; (try clear hb); (try clear hb2); (try clear hk); (try clear hi); obtain ⟨⟨hcz68_0, hcz68_1, hcz68_2, hcz68_3, hcz68_4, hcz68_5, hcz68_6⟩, hfz68_0, hfz68_1, hfz68_2, hfz68_3, hfz68_4, hfz68_5, hfz68_6⟩ := blkAll7 BK522) | ((with_reducible refine gate_callee (f := 16) rfl ?_); refine goesL_ (some 32) rfl rfl Tryd.func16 (by kernel_rfl) rfl #[.agg #[.string ((rd_T25 t515 x26_1).f0), .int .u8 ((rd_T25 t515 x26_1).f1), .int .i64 ((rd_T25 t515 x26_1).f2), .int .i64 ((rd_T25 t515 x26_1).f3), .int .i64 ((rd_T25 t515 x26_1).f4), .int .i64 ((rd_T25 t515 x26_1).f5), .int .i64 ((rd_T25 t515 x26_1).f6)], .int .i64 0, .int .i64 0] rfl ls ?_; (with_reducible refine (d_Settle.calls kj10 ((rd_T25 t515 x26_1).f0) ((rd_T25 t515 x26_1).f1) ((rd_T25 t515 x26_1).f2) ((rd_T25 t515 x26_1).f3) ((rd_T25 t515 x26_1).f4) ((rd_T25 t515 x26_1).f5) ((rd_T25 t515 x26_1).f6) 0 0 t528 t529 t530 t531 t532 _ A63.out).mono ?_); rintro e w69 ⟨rfl, hb⟩; refine ⟨_, rfl, ?_⟩; have nf_ := am (B2.below (by (with_reducible repeat (first | apply B2.alloc | apply B2.drewN | apply B2.drew)); exact HF.out) hb); clear HF; have HF := nf_; clear nf_; have n0_ := am (Kd.R_below (by (with_reducible repeat (first | apply Kd.R_alloc | apply Kd.R_drewN | apply Kd.R_drew)); exact HO_24.out) hb); have n1_ := am (blk_below (bu BK514.out) hb); have n2_ := am (blk_below (bu BK520.out) hb); have n3_ := am (blk_below (bu BK522.out) hb); have n4_ := am (below_step bs hb); clear HO_24; clear BK514; clear BK520; clear BK522; clear HB; have HO_24 := n0_; have BK514 := n1_; have BK520 := n2_; have BK522 := n3_; have HB := n4_; clear n0_ n1_ n2_ n3_ n4_; (try clear hb); (try clear hb2); (try clear hk); (try clear hi); have hnb70 := NB520_514.out; have hnc70 := NB514_520.out; obtain ⟨⟨hcz71_0, hcz71_1, hcz71_2, hcz71_3⟩, hfz71_0, hfz71_1, hfz71_2, hfz71_3⟩ := blkAll4 BK520))
     go_roundg kj10
     case measure => have := HK1.out; have := HJ10.out; omega
     case rel => exact ⟨(x9_1), (wrap64 (x11_1 + 1)), (wrap64 (x26_1 + 1)), (x84_1), (x515000_1), (x515001_1), (x515002_1), (x515003_1), (t528), (t529), (t530), (t531), tv, tv, H', ⟨by have := HK1.out; have := HJ10.out; omega⟩, ⟨by (with_reducible repeat (first | apply Kd.R_alloc | apply Kd.R_drewN | apply Kd.R_drew)); exact Kd.R_mono (Kd.R_far (p := ⟨gb520, 3, none⟩) (Kd.R_far (p := ⟨gb520, 2, none⟩) (Kd.R_far (p := ⟨gb520, 1, none⟩) (Kd.R_far (p := ⟨gb520, 0, none⟩) (Kd.R_types HO_24.out BK520.out (by decide)) (fun _ hk => hk.2) (.int .u8 t528)) (fun _ hk => hk.2) (.int .i64 t529)) (fun _ hk => hk.2) (.int .i64 t530)) (fun _ hk => hk.2) (.int .i64 t531)) (fun _ hk => trivial)⟩, ⟨by refine bu ?_; refine blk_far ?_ NB514_520.out _; refine bu ?_; refine blk_far ?_ NB514_520.out _; refine bu ?_; refine blk_far ?_ NB514_520.out _; refine bu ?_; refine blk_far ?_ NB514_520.out _; refine bu ?_; exact BK514.out⟩, ⟨by refine bu ?_; refine blk_put (cs := #[.int .u8 t528, .int .i64 t529, .int .i64 t530, .int .i64 x521003_1]) ?_ 3 _ rfl; refine bu ?_; refine blk_put (cs := #[.int .u8 t528, .int .i64 t529, .int .i64 x521002_1, .int .i64 x521003_1]) ?_ 2 _ rfl; refine bu ?_; refine blk_put (cs := #[.int .u8 t528, .int .i64 x521001_1, .int .i64 x521002_1, .int .i64 x521003_1]) ?_ 1 _ rfl; refine bu ?_; refine blk_put (cs := #[.int .u8 x521000_1, .int .i64 x521001_1, .int .i64 x521002_1, .int .i64 x521003_1]) ?_ 0 _ rfl; refine bu ?_; exact BK520.out⟩, ⟨by repeat (first | (with_reducible first | exact HF.out | apply B2.alloc | apply B2.drewN | apply B2.drew | refine B2.far25 (g := gb522) ?_ (by repeat (first | (with_reducible first | exact Ty.of BK522.out | apply Ty.set | apply Ty.alloc | apply Ty.drewN | apply Ty.drew))) _ _ | refine B2.far37 (g := gb520) ?_ (by repeat (first | (with_reducible first | exact Ty.of BK520.out | apply Ty.set | apply Ty.alloc | apply Ty.drewN | apply Ty.drew))) _ _))⟩, ⟨bs⟩⟩
end Go.Proofs.YtlmijjekaelhcaaDoor.EDi
