/-
 A text of this session's own.
-/
import Derived.Test.YtlmijjekaelhcaaDoorExA0
import Derived.Test.YtlmijjekaelhcaaDoorExEDpx0
import Derived.Test.YtlmijjekaelhcaaDoorExEDpx36
import Derived.Test.YtlmijjekaelhcaaDoorExEDpx40
import Derived.Test.YtlmijjekaelhcaaDoorExEDpx48
import Derived.Test.YtlmijjekaelhcaaDoorExEDpx49
import Derived.Test.YtlmijjekaelhcaaDoorExEDpx50
namespace Go.Proofs.YtlmijjekaelhcaaDoor.EDi
open Go.RowKit Go.Proofs.YtlmijjekaelhcaaDoorW.PrintWords Go.Proofs.YtlmijjekaelhcaaDoorW.PrintLast Go.Proofs.YtlmijjekaelhcaaDoorW.PrintMore
attribute [local go_sem] max2_int min2_int max_two min_two max_three min_three max_four min_four
set_option linter.unusedVariables false
set_option linter.unusedSimpArgs false
mutual
def q_Single.l0 : Nat → List (S25) → Int → Int → Int → Option (ByteArray × Int × Int × Int × Int × ByteArray × Bool)
 | 0, _, _, _, _ => none
 | k + 1, x6, x9, x10, x11 => if x11 < (x6.length : Int) then (if 0 ≤ x11 then (if ((rd_T25 x6 x11).f1) = 0 then (q_Single.l0 k x6 x9 x10 (wrap64 (x11 + 1))) else (if ((rd_T25 x6 x11).f1) = 37 then (q_Single.l0 k x6 x9 x10 (wrap64 (x11 + 1))) else (q_Single.l0 k x6 (wrap64 (x9 + 1)) x11 (wrap64 (x11 + 1))))) else (none)) else (if x9 = 1 then (if 0 ≤ x10 then (if x10 < (x6.length : Int) then ((q_at.f k (⟨#[101, 69, 102, 70, 103, 71]⟩ : ByteArray) ((rd_T25 x6 x10).f1)).bind fun t670 => (if t670 < 0 then (q_Single.j1 k x6 x10 true ((rd_T25 x6 x10).f0) ((rd_T25 x6 x10).f1) ((rd_T25 x6 x10).f2) ((rd_T25 x6 x10).f3) ((rd_T25 x6 x10).f4) ((rd_T25 x6 x10).f5) ((rd_T25 x6 x10).f6)) else ((q_Takes.f k ((rd_T25 x6 x10).f0) ((rd_T25 x6 x10).f1) ((rd_T25 x6 x10).f2) ((rd_T25 x6 x10).f3) ((rd_T25 x6 x10).f4) ((rd_T25 x6 x10).f5) ((rd_T25 x6 x10).f6)).bind fun t671 => (q_Single.j1 k x6 x10 (t671 != 1) ((rd_T25 x6 x10).f0) ((rd_T25 x6 x10).f1) ((rd_T25 x6 x10).f2) ((rd_T25 x6 x10).f3) ((rd_T25 x6 x10).f4) ((rd_T25 x6 x10).f5) ((rd_T25 x6 x10).f6))))) else (none)) else (none)) else (some ((⟨#[]⟩ : ByteArray), 0, 0, 0, 0, (⟨#[]⟩ : ByteArray), false)))
def q_Single.j1 : Nat → List (S25) → Int → Bool → ByteArray → Int → Int → Int → Int → Int → Int → Option (ByteArray × Int × Int × Int × Int × ByteArray × Bool)
 | 0, _, _, _, _, _, _, _, _, _, _ => none
 | k + 1, x6, x10, x62, x670000, x670001, x670002, x670003, x670004, x670005, x670006 => if x62 = true then (some ((⟨#[]⟩ : ByteArray), 0, 0, 0, 0, (⟨#[]⟩ : ByteArray), false)) else ((q_Settle.f k x670000 x670001 x670002 x670003 x670004 x670005 x670006 0 0).bind fun bt672 => (if 0 ≤ x10 then (if x10 ≤ (x6.length : Int) then ((q_plain.f k (x6.take (x10 : Int).toNat)).bind fun t682 => (if 0 ≤ (wrap64 (x10 + 1)) then (if (wrap64 (x10 + 1)) ≤ (x6.length : Int) then ((q_plain.f k (x6.drop ((wrap64 (x10 + 1)) : Int).toNat)).bind fun t687 => (some (t682, bt672.1, bt672.2.1, bt672.2.2.1, bt672.2.2.2.1, t687, true))) else (none)) else (none))) else (none)) else (none)))
end
def q_Single.f (k : Nat) (a0 : ByteArray) : Option (ByteArray × Int × Int × Int × Int × ByteArray × Bool) := (q_Parse.f k a0).bind fun bt661 => (if bt661.2.2 = 0 then (q_Single.l0 k bt661.1 0 0 0) else (some ((⟨#[]⟩ : ByteArray), 0, 0, 0, 0, (⟨#[]⟩ : ByteArray), false)))
theorem q_Single.mono_l : ∀ k, (∀ y0 y1 y2 y3, LeO (q_Single.l0 k y0 y1 y2 y3) (q_Single.l0 (k + 1) y0 y1 y2 y3)) ∧ (∀ y0 y1 y2 y3 y4 y5 y6 y7 y8 y9, LeO (q_Single.j1 k y0 y1 y2 y3 y4 y5 y6 y7 y8 y9) (q_Single.j1 (k + 1) y0 y1 y2 y3 y4 y5 y6 y7 y8 y9))
 | 0 => ⟨fun _ _ _ _ r h => by simp [q_Single.l0] at h, fun _ _ _ _ _ _ _ _ _ _ r h => by simp [q_Single.j1] at h⟩
 | k + 1 => by
  obtain ⟨ih0, ih1⟩ := q_Single.mono_l k
  refine ⟨?_, ?_⟩ <;> intros
  all_goals first | unfold q_Single.l0 | unfold q_Single.j1
  all_goals repeat' first
  | (with_reducible exact ih0 _ _ _ _)
  | (with_reducible exact ih1 _ _ _ _ _ _ _ _ _ _)
  | (with_reducible exact q_Parse.mono _ _)
  | (with_reducible exact q_Settle.mono _ _ _ _ _ _ _ _ _ _)
  | (with_reducible exact q_Takes.mono _ _ _ _ _ _ _ _)
  | (with_reducible exact q_at.mono _ _ _)
  | (with_reducible exact q_plain.mono _ _)
  | (with_reducible exact LeO.refl _)
  | (with_reducible exact LeO.none _)
  | (with_reducible refine LeO.ite ?_ ?_)
  | (with_reducible refine LeO.bind ?_ (fun _ => ?_))
  | exact ih0 _ _ _ _
  | exact ih1 _ _ _ _ _ _ _ _ _ _
  | exact q_Parse.mono _ _
  | exact q_Settle.mono _ _ _ _ _ _ _ _ _ _
  | exact q_Takes.mono _ _ _ _ _ _ _ _
  | exact q_at.mono _ _ _
  | exact q_plain.mono _ _
  | exact LeO.none _
  | refine LeO.ite ?_ ?_
  | refine LeO.bind ?_ (fun _ => ?_)
theorem q_Single.mono : ∀ a0 k, LeO (q_Single.f k a0) (q_Single.f (k + 1) a0) := by
 intro a0 k
 obtain ⟨ih0, ih1⟩ := q_Single.mono_l k
 unfold q_Single.f
 repeat' first
   | (with_reducible exact ih0 _ _ _ _)
   | (with_reducible exact ih1 _ _ _ _ _ _ _ _ _ _)
   | (with_reducible exact q_Parse.mono _ _)
   | (with_reducible exact q_Settle.mono _ _ _ _ _ _ _ _ _ _)
   | (with_reducible exact q_Takes.mono _ _ _ _ _ _ _ _)
   | (with_reducible exact q_at.mono _ _ _)
   | (with_reducible exact q_plain.mono _ _)
   | (with_reducible exact LeO.refl _)
   | (with_reducible exact LeO.none _)
   | (with_reducible refine LeO.ite ?_ ?_)
   | (with_reducible refine LeO.bind ?_ (fun _ => ?_))
   | exact ih0 _ _ _ _
   | exact ih1 _ _ _ _ _ _ _ _ _ _
   | exact q_Parse.mono _ _
   | exact q_Settle.mono _ _ _ _ _ _ _ _ _ _
   | exact q_Takes.mono _ _ _ _ _ _ _ _
   | exact q_at.mono _ _ _
   | exact q_plain.mono _ _
   | exact LeO.none _
   | refine LeO.ite ?_ ?_
   | refine LeO.bind ?_ (fun _ => ?_)
def q_Single.T18 : Bool × List (List Nat × List Nat) := (true, [([], []), ([], []), ([0, 1], [0, 1]), ([2], [2]), ([], []), ([], []), ([], []), ([6], [6]), ([5, 7], [5, 7]), ([8, 3], [8]), ([3, 9, 0, 1, 2, 3], [3]), ([4, 10, 0, 1, 2, 3, 4, 10], [4]), ([9, 11, 0, 1, 2, 3, 4, 5, 6, 7, 8, 9, 10, 11], [9]), ([12, 0, 1, 2, 3, 4, 5, 6, 7, 8, 9, 10, 11, 12], [])])
def q_Single.B18 : List Nat := [0, 0, 3, 7, 0, 0, 0, 64, 224, 495, 1007, 2047, 4095, 8191]
theorem q_Single.tab18 : rtab .any (opsOf Tryd.f35 18) = q_Single.T18 := by kernel_rfl
theorem q_Single.bits18 : waitsOk q_Single.T18.2 q_Single.B18 = true := by kernel_rfl
set_option maxHeartbeats 8000000 in
set_option maxRecDepth 100000 in
theorem q_Single.calls (k : Nat) (a0 : ByteArray) (r1 : ByteArray) (r2 : Int) (r3 : Int) (r4 : Int) (r5 : Int) (r6 : ByteArray) (r7 : Bool) (w : World) (h : q_Single.f k a0 = some (r1, r2, r3, r4, r5, r6, r7)) :
  Calls Tryd.prog 35 #[.string a0] w fun e w' => e = .returned (.tuple #[.string r1, .agg #[.int .u8 r2, .int .i64 r3, .int .i64 r4, .int .i64 r5], .string r6, .bool r7]) ∧ Below w.heap.size w w' := by
 have hu37 := Tryd.underlying37
 have hu25 := Tryd.underlying25
 have HB := am (Below.refl w.heap.size w)
 have H : ((q_Parse.f k a0).bind fun bt661 => (if bt661.2.2 = 0 then (q_Single.l0 k bt661.1 0 0 0) else (some ((⟨#[]⟩ : ByteArray), 0, 0, 0, 0, (⟨#[]⟩ : ByteArray), false)))) = some (r1, r2, r3, r4, r5, r6, r7) := h
 clear h
 replace H := Option.bind_eq_some_iff.mp H
 obtain ⟨⟨t661, t662, t663⟩, A20, H⟩ := H
 replace H : (if t663 = 0 then (q_Single.l0 k t661 0 0 0) else (some ((⟨#[]⟩ : ByteArray), 0, 0, 0, 0, (⟨#[]⟩ : ByteArray), false))) = some (r1, r2, r3, r4, r5, r6, r7) := H
 have A2 := am A20
 clear A20
 by_cases c3 : t663 = 0
 rotate_left
 ·rw [if_neg c3] at H
  have c3b0 : (t663 == 0) = false := beq_eq_false_iff_ne.mpr c3
  have c3b1 : (t663 != 0) = true := bne_iff_ne.mpr c3
  simp only [Option.some.injEq, Prod.mk.injEq] at H
  obtain ⟨rfl, rfl, rfl, rfl, rfl, rfl, rfl⟩ := H
  go_enter Tryd.func35, Tryd.ntmps35
  go_wp2_with (first | ((with_reducible refine gate_dst (N := 3) rfl ?_); refine box_event ?hg (N := 3) ?hd (cs := #[.int .u8 0, .int .i64 0, .int .i64 0, .int .i64 0]) (t := 37) ?hr ?_; (case hd => rfl); (case hg => rfl); (case hr => first | (go_simp; done) | (go_simp; rfl)); intro gb660 hg w59 hbox hb; have n0_ := am (below_step bl hb); have n1_ := am (hbox); have n2_ := am ((by rw [hg]; exact (below_size bl) : w.heap.size ≤ gb660)); have n3_ := n2_; clear HB; have HB := n0_; have BK660 := n1_; have GW660 := n2_; have GE660 := n3_; clear n0_ n1_ n2_ n3_; clear hb hbox hg) | ((with_reducible refine gate_callee (f := 20) rfl ?_); refine goesL_ (some 17) rfl rfl Tryd.func20 (by kernel_rfl) rfl #[.string a0] rfl ls ?_; (with_reducible refine (q_Parse.calls k a0 t661 t662 t663 _ A2.out).mono ?_); rintro e w60 ⟨v664, rfl, ho0, hb⟩; refine ⟨_, rfl, ?_⟩; have n0_ := am (Kd.R_lower ho0 (below_size bs)); have n1_ := am (blk_below (bu BK660.out) hb); have n2_ := am (below_step bs hb); clear BK660; clear HB; have HO665 := n0_; have BK660 := n1_; have HB := n2_; clear n0_ n1_ n2_; (try clear hb); (try clear hb2); (try clear hk); (try clear hi); (try clear ho0); obtain ⟨⟨hcz61_0, hcz61_1, hcz61_2, hcz61_3⟩, hfz61_0, hfz61_1, hfz61_2, hfz61_3⟩ := blkAll4 BK660))
  refine bodyPost_ret (results_list (rs := [.tmp 2, .cell 3 37, .tmp 4, .tmp 5]) rfl (by simp) (.tmp (.cell gb660 37 #[.int .u8 0, .int .i64 0, .int .i64 0, .int .i64 0] (0, 0) _ rfl (by refine bu ?_; refine blk_put (cs := #[.int .u8 0, .int .i64 0, .int .i64 0, .int .i64 0]) ?_ 3 _ rfl; refine bu ?_; refine blk_put (cs := #[.int .u8 0, .int .i64 0, .int .i64 0, .int .i64 0]) ?_ 2 _ rfl; refine bu ?_; refine blk_put (cs := #[.int .u8 0, .int .i64 0, .int .i64 0, .int .i64 0]) ?_ 1 _ rfl; refine bu ?_; refine blk_put (cs := #[.int .u8 0, .int .i64 0, .int .i64 0, .int .i64 0]) ?_ 0 _ rfl; refine bu ?_; exact BK660.out) Tryd.underlying37 rfl (by kernel_rfl) (.tmp (.tmp .nil))))) rfl ?_
  exact ⟨er, bs⟩
 rw [if_pos c3] at H
 have c3b0 : (t663 == 0) = true := beq_iff_eq.mpr c3
 have c3b1 : (t663 != 0) = false := bne_eq_false_iff_eq.mpr c3
 clear c3
 have H' := am H
 clear H
 go_enter Tryd.func35, Tryd.ntmps35
 go_wp2_with (first | ((with_reducible refine gate_dst (N := 3) rfl ?_); refine box_event ?hg (N := 3) ?hd (cs := #[.int .u8 0, .int .i64 0, .int .i64 0, .int .i64 0]) (t := 37) ?hr ?_; (case hd => rfl); (case hg => rfl); (case hr => first | (go_simp; done) | (go_simp; rfl)); intro gb660 hg w4 hbox hb; have n0_ := am (below_step bl hb); have n1_ := am (hbox); have n2_ := am ((by rw [hg]; exact (below_size bl) : w.heap.size ≤ gb660)); have n3_ := n2_; clear HB; have HB := n0_; have BK660 := n1_; have GW660 := n2_; have GE660 := n3_; clear n0_ n1_ n2_ n3_; clear hb hbox hg) | ((with_reducible refine gate_callee (f := 20) rfl ?_); refine goesL_ (some 17) rfl rfl Tryd.func20 (by kernel_rfl) rfl #[.string a0] rfl ls ?_; (with_reducible refine (q_Parse.calls k a0 t661 t662 t663 _ A2.out).mono ?_); rintro e w5 ⟨v664, rfl, ho0, hb⟩; refine ⟨_, rfl, ?_⟩; have n0_ := am (Kd.R_lower ho0 (below_size bs)); have n1_ := am (blk_below (bu BK660.out) hb); have n2_ := am (below_step bs hb); clear BK660; clear HB; have HO665 := n0_; have BK660 := n1_; have HB := n2_; clear n0_ n1_ n2_; (try clear hb); (try clear hb2); (try clear hk); (try clear hi); (try clear ho0)))
 go_loopg [9, 10, 11] k (fun kq v9 v10 v11 w' => ∃ (x9_1 : Int) (x10_1 : Int) (x11_1 : Int), v9 = .int .i64 x9_1 ∧ v10 = .int .i64 x10_1 ∧ v11 = .int .i64 x11_1 ∧ Aside0 (q_Single.l0 kq t661 x9_1 x10_1 x11_1 = some (r1, r2, r3, r4, r5, r6, r7)) ∧ Aside0 (kq ≤ k) ∧ Aside0 (Kd.R k25 25 w' w.heap.size (fun _ => True) v664 t661) ∧ Aside0 (w'.heap[gb660]? = some (.cells #[.int .u8 0, .int .i64 0, .int .i64 0, .int .i64 0] 37 (0, 0))) ∧ Aside0 (Below w.heap.size w w'))
 case atStart => exact ⟨(0), (0), (0), tv, tv, tv, H', ⟨Nat.le_refl _⟩, ⟨by (with_reducible repeat (first | apply Kd.R_alloc | apply Kd.R_drewN | apply Kd.R_drew)); exact HO665.out⟩, ⟨by refine bu ?_; exact BK660.out⟩, ⟨bs⟩⟩
 case round =>
  clear H'
  try clear c2
  try clear p2
  try clear c3
  try clear c3b0
  try clear c3b1
  obtain ⟨x9_1, x10_1, x11_1, rfl, rfl, rfl, HA, HK1, HO_6, BK660, HB⟩ := hrel
  cases gk with
  | zero => exact absurd HA.out (by simp [q_Single.l0])
  | succ k1 =>
   have H := HA.out
   clear HA
   simp only [q_Single.l0] at H
   by_cases c6 : x11_1 < (t661.length : Int)
   ·rw [if_pos c6] at H
    have c6b0 := decide_eq_true c6
    clear c6
    by_cases c7 : 0 ≤ x11_1
    rotate_left
    ·rw [if_neg c7] at H
     exact absurd H (by simp)
    rw [if_pos c7] at H
    have c7b0 := decide_eq_true c7
    clear c7
    by_cases c8 : ((rd_T25 t661 x11_1).f1) = 0
    ·rw [if_pos c8] at H
     have c8b0 : (((rd_T25 t661 x11_1).f1) == 0) = true := beq_iff_eq.mpr c8
     have c8b1 : (((rd_T25 t661 x11_1).f1) != 0) = false := bne_eq_false_iff_eq.mpr c8
     clear c8
     have H' := am H
     clear H
     obtain ⟨Ao9, co9, eo9⟩ := Kd.R_slice HO_6.out
     subst eo9
     have p666 : 0 ≤ (x11_1 : Int) := of_decide_eq_true od
     have q666 : x11_1 < (t661.length : Int) := of_decide_eq_true od
     obtain ⟨ad666, e666, hx666_0, hx666_1, hx666_2, hx666_3, hx666_4, hx666_5, hx666_6⟩ := at_T25 (Kd.R_reads' HO_6.out).2.2 x11_1 p666 q666
     cases e666
     replace p666 := eq_true p666
     replace q666 := eq_true q666
     go_wp2
     go_roundg k1
     case measure => have := HK1.out; omega
     case rel => exact ⟨(x9_1), (x10_1), (wrap64 (x11_1 + 1)), tv, tv, tv, H', ⟨by have := HK1.out; omega⟩, ⟨by (with_reducible repeat (first | apply Kd.R_alloc | apply Kd.R_drewN | apply Kd.R_drew)); exact HO_6.out⟩, ⟨by refine bu ?_; exact BK660.out⟩, ⟨bs⟩⟩
    rw [if_neg c8] at H
    have c8b0 : (((rd_T25 t661 x11_1).f1) == 0) = false := beq_eq_false_iff_ne.mpr c8
    have c8b1 : (((rd_T25 t661 x11_1).f1) != 0) = true := bne_iff_ne.mpr c8
    by_cases c10 : ((rd_T25 t661 x11_1).f1) = 37
    rotate_left
    ·rw [if_neg c10] at H
     have c10b0 : (((rd_T25 t661 x11_1).f1) == 37) = false := beq_eq_false_iff_ne.mpr c10
     have c10b1 : (((rd_T25 t661 x11_1).f1) != 37) = true := bne_iff_ne.mpr c10
     have H' := am H
     clear H
     obtain ⟨Ao12, co12, eo12⟩ := Kd.R_slice HO_6.out
     subst eo12
     have p666 : 0 ≤ (x11_1 : Int) := of_decide_eq_true od
     have q666 : x11_1 < (t661.length : Int) := of_decide_eq_true od
     obtain ⟨ad666, e666, hx666_0, hx666_1, hx666_2, hx666_3, hx666_4, hx666_5, hx666_6⟩ := at_T25 (Kd.R_reads' HO_6.out).2.2 x11_1 p666 q666
     cases e666
     replace p666 := eq_true p666
     replace q666 := eq_true q666
     have p667 : 0 ≤ (x11_1 : Int) := of_decide_eq_true od
     have q667 : x11_1 < (t661.length : Int) := of_decide_eq_true od
     obtain ⟨ad667, e667, hx667_0, hx667_1, hx667_2, hx667_3, hx667_4, hx667_5, hx667_6⟩ := at_T25 (Kd.R_reads' HO_6.out).2.2 x11_1 p667 q667
     obtain rfl : ad666 = ad667 := (by injection e667)
     replace p667 := eq_true p667
     replace q667 := eq_true q667
     go_wp2
     go_roundg k1
     case measure => have := HK1.out; omega
     case rel => exact ⟨(wrap64 (x9_1 + 1)), (x11_1), (wrap64 (x11_1 + 1)), tv, tv, tv, H', ⟨by have := HK1.out; omega⟩, ⟨by (with_reducible repeat (first | apply Kd.R_alloc | apply Kd.R_drewN | apply Kd.R_drew)); exact HO_6.out⟩, ⟨by refine bu ?_; exact BK660.out⟩, ⟨bs⟩⟩
    rw [if_pos c10] at H
    have c10b0 : (((rd_T25 t661 x11_1).f1) == 37) = true := beq_iff_eq.mpr c10
    have c10b1 : (((rd_T25 t661 x11_1).f1) != 37) = false := bne_eq_false_iff_eq.mpr c10
    clear c10
    have H' := am H
    clear H
    obtain ⟨Ao11, co11, eo11⟩ := Kd.R_slice HO_6.out
    subst eo11
    have p666 : 0 ≤ (x11_1 : Int) := of_decide_eq_true od
    have q666 : x11_1 < (t661.length : Int) := of_decide_eq_true od
    obtain ⟨ad666, e666, hx666_0, hx666_1, hx666_2, hx666_3, hx666_4, hx666_5, hx666_6⟩ := at_T25 (Kd.R_reads' HO_6.out).2.2 x11_1 p666 q666
    cases e666
    replace p666 := eq_true p666
    replace q666 := eq_true q666
    have p667 : 0 ≤ (x11_1 : Int) := of_decide_eq_true od
    have q667 : x11_1 < (t661.length : Int) := of_decide_eq_true od
    obtain ⟨ad667, e667, hx667_0, hx667_1, hx667_2, hx667_3, hx667_4, hx667_5, hx667_6⟩ := at_T25 (Kd.R_reads' HO_6.out).2.2 x11_1 p667 q667
    obtain rfl : ad666 = ad667 := (by injection e667)
    replace p667 := eq_true p667
    replace q667 := eq_true q667
    go_wp2
    go_roundg k1
    case measure => have := HK1.out; omega
    case rel => exact ⟨(x9_1), (x10_1), (wrap64 (x11_1 + 1)), tv, tv, tv, H', ⟨by have := HK1.out; omega⟩, ⟨by (with_reducible repeat (first | apply Kd.R_alloc | apply Kd.R_drewN | apply Kd.R_drew)); exact HO_6.out⟩, ⟨by refine bu ?_; exact BK660.out⟩, ⟨bs⟩⟩
   rw [if_neg c6] at H
   have c6b0 := decide_eq_false c6
   clear c6
   by_cases c13 : x9_1 = 1
   rotate_left
   ·rw [if_neg c13] at H
    have c13b0 : (x9_1 == 1) = false := beq_eq_false_iff_ne.mpr c13
    have c13b1 : (x9_1 != 1) = true := bne_iff_ne.mpr c13
    simp only [Option.some.injEq, Prod.mk.injEq] at H
    obtain ⟨rfl, rfl, rfl, rfl, rfl, rfl, rfl⟩ := H
    obtain ⟨Ao57, co57, eo57⟩ := Kd.R_slice HO_6.out
    subst eo57
    obtain ⟨⟨hcz58_0, hcz58_1, hcz58_2, hcz58_3⟩, hfz58_0, hfz58_1, hfz58_2, hfz58_3⟩ := blkAll4 BK660
    go_wp2
    refine bodyPost_ret (results_list (rs := [.tmp 2, .cell 3 37, .tmp 4, .tmp 5]) rfl (by simp) (.tmp (.cell gb660 37 #[.int .u8 0, .int .i64 0, .int .i64 0, .int .i64 0] (0, 0) _ rfl (by refine bu ?_; refine blk_put (cs := #[.int .u8 0, .int .i64 0, .int .i64 0, .int .i64 0]) ?_ 3 _ rfl; refine bu ?_; refine blk_put (cs := #[.int .u8 0, .int .i64 0, .int .i64 0, .int .i64 0]) ?_ 2 _ rfl; refine bu ?_; refine blk_put (cs := #[.int .u8 0, .int .i64 0, .int .i64 0, .int .i64 0]) ?_ 1 _ rfl; refine bu ?_; refine blk_put (cs := #[.int .u8 0, .int .i64 0, .int .i64 0, .int .i64 0]) ?_ 0 _ rfl; refine bu ?_; exact BK660.out) Tryd.underlying37 rfl (by kernel_rfl) (.tmp (.tmp .nil))))) rfl ?_
    exact ⟨er, bs⟩
   rw [if_pos c13] at H
   have c13b0 : (x9_1 == 1) = true := beq_iff_eq.mpr c13
   have c13b1 : (x9_1 != 1) = false := bne_eq_false_iff_eq.mpr c13
   clear c13
   by_cases c14 : 0 ≤ x10_1
   rotate_left
   ·rw [if_neg c14] at H
    exact absurd H (by simp)
   rw [if_pos c14] at H
   have c14b0 := decide_eq_true c14
   clear c14
   by_cases c15 : x10_1 < (t661.length : Int)
   rotate_left
   ·rw [if_neg c15] at H
    exact absurd H (by simp)
   rw [if_pos c15] at H
   have c15b0 := decide_eq_true c15
   clear c15
   have HC16 := am H
   clear H
   obtain ⟨Ao17, co17, eo17⟩ := Kd.R_slice HO_6.out
   subst eo17
   have p668 : 0 ≤ (x10_1 : Int) := of_decide_eq_true od
   have q668 : x10_1 < (t661.length : Int) := of_decide_eq_true od
   obtain ⟨ad668, e668, hx668_0, hx668_1, hx668_2, hx668_3, hx668_4, hx668_5, hx668_6⟩ := at_T25 (Kd.R_reads' HO_6.out).2.2 x10_1 p668 q668
   cases e668
   replace p668 := eq_true p668
   replace q668 := eq_true q668
   go_upto_region 15 with (first | ((with_reducible refine gate_dst (N := 12) rfl ?_); refine box_event ?hg (N := 12) ?hd (cs := #[.string (⟨#[]⟩ : ByteArray), .int .u8 0, .int .i64 0, .int .i64 0, .int .i64 0, .int .i64 0, .int .i64 0]) (t := 25) ?hr ?_; (case hd => rfl); (case hg => rfl); (case hr => first | (go_simp; done) | (go_simp; rfl)); intro gb669 hg w18 hbox hb; have n0_ := am (Kd.R_below (Kd.R_elderB (by (with_reducible repeat (first | apply Kd.R_alloc | apply Kd.R_drewN | apply Kd.R_drew)); exact HO_6.out) gb669 (Nat.le_of_eq hg.symm)) hb); have n1_ := am (blk_below (bu BK660.out) hb); have n2_ := am (below_step bs hb); have n3_ := am (hbox); have n4_ := am ((by rw [hg]; exact (below_size bs) : w.heap.size ≤ gb669)); have n5_ := am ((by rw [hg]; exact (below_size bs) : w.heap.size ≤ gb669)); have n6_ := am ((by rw [hg]; exact Nat.ne_of_lt (blk_lt (bu BK660.out)) : gb660 ≠ gb669)); have n7_ := am ((by rw [hg]; exact Nat.ne_of_gt (blk_lt (bu BK660.out)) : gb669 ≠ gb660)); clear HO_6; clear BK660; clear HB; have HO_6 := n0_; have BK660 := n1_; have HB := n2_; have BK669 := n3_; have GW669 := n4_; have GE669 := n5_; have NB660_669 := n6_; have NB669_660 := n7_; clear n0_ n1_ n2_ n3_ n4_ n5_ n6_ n7_; clear hb hbox hg; have hnb19 := NB669_660.out; have hnc19 := NB660_669.out; obtain ⟨⟨hcz20_0, hcz20_1, hcz20_2, hcz20_3, hcz20_4, hcz20_5, hcz20_6⟩, hfz20_0, hfz20_1, hfz20_2, hfz20_3, hfz20_4, hfz20_5, hfz20_6⟩ := blkAll7 BK669))
   (try simp only [Act.put, List.setIfInBounds_toArray, List.set_cons_zero, List.set_cons_succ])
   go_cut [62] (fun v62 wc => ∃ (kq : Nat) (x62_15 : Bool), v62 = .bool x62_15 ∧ Aside0 (q_Single.j1 kq t661 x10_1 x62_15 ((rd_T25 t661 x10_1).f0) ((rd_T25 t661 x10_1).f1) ((rd_T25 t661 x10_1).f2) ((rd_T25 t661 x10_1).f3) ((rd_T25 t661 x10_1).f4) ((rd_T25 t661 x10_1).f5) ((rd_T25 t661 x10_1).f6) = some (r1, r2, r3, r4, r5, r6, r7)) ∧ Aside0 (kq ≤ k1) ∧ Aside0 (Kd.R k25 25 wc w.heap.size (fun k_ => k_ ≠ gb669) (.slice (some ad668) t661.length co17) t661) ∧ Aside0 (wc.heap[gb660]? = some (.cells #[.int .u8 0, .int .i64 0, .int .i64 0, .int .i64 0] 37 (0, 0))) ∧ Aside0 (wc.heap[gb669]? = some (.cells #[.string ((rd_T25 t661 x10_1).f0), .int .u8 ((rd_T25 t661 x10_1).f1), .int .i64 ((rd_T25 t661 x10_1).f2), .int .i64 ((rd_T25 t661 x10_1).f3), .int .i64 ((rd_T25 t661 x10_1).f4), .int .i64 ((rd_T25 t661 x10_1).f5), .int .i64 ((rd_T25 t661 x10_1).f6)] 25 (0, 0))) ∧ Aside0 (Below w.heap.size w wc))
   case first =>
    have H := HC16.out
    clear HC16
    replace H := Option.bind_eq_some_iff.mp H
    obtain ⟨t670, A210, H⟩ := H
    replace H : (if t670 < 0 then (q_Single.j1 k1 t661 x10_1 true ((rd_T25 t661 x10_1).f0) ((rd_T25 t661 x10_1).f1) ((rd_T25 t661 x10_1).f2) ((rd_T25 t661 x10_1).f3) ((rd_T25 t661 x10_1).f4) ((rd_T25 t661 x10_1).f5) ((rd_T25 t661 x10_1).f6)) else ((q_Takes.f k1 ((rd_T25 t661 x10_1).f0) ((rd_T25 t661 x10_1).f1) ((rd_T25 t661 x10_1).f2) ((rd_T25 t661 x10_1).f3) ((rd_T25 t661 x10_1).f4) ((rd_T25 t661 x10_1).f5) ((rd_T25 t661 x10_1).f6)).bind fun t671 => (q_Single.j1 k1 t661 x10_1 (t671 != 1) ((rd_T25 t661 x10_1).f0) ((rd_T25 t661 x10_1).f1) ((rd_T25 t661 x10_1).f2) ((rd_T25 t661 x10_1).f3) ((rd_T25 t661 x10_1).f4) ((rd_T25 t661 x10_1).f5) ((rd_T25 t661 x10_1).f6)))) = some (r1, r2, r3, r4, r5, r6, r7) := H
    have A21 := am A210
    clear A210
    by_cases c22 : t670 < 0
    ·rw [if_pos c22] at H
     have c22b0 := decide_eq_true c22
     clear c22
     (first | rw [c22b0] | (simp only [i64_w, i32_w]; rw [c22b0]) | skip)
     have H' := am H
     clear H
     have hnb23 := NB669_660.out
     have hnc23 := NB660_669.out
     obtain ⟨⟨hcz24_0, hcz24_1, hcz24_2, hcz24_3, hcz24_4, hcz24_5, hcz24_6⟩, hfz24_0, hfz24_1, hfz24_2, hfz24_3, hfz24_4, hfz24_5, hfz24_6⟩ := blkAll7 BK669
     go_wp2_with (first | ((with_reducible refine gate_callee (f := 39) rfl ?_); refine goesL_ (some 56) rfl rfl Tryd.func39 (by kernel_rfl) rfl #[.string (⟨#[101, 69, 102, 70, 103, 71]⟩ : ByteArray), .int .u8 ((rd_T25 t661 x10_1).f1)] rfl ls ?_; (with_reducible refine (q_at.calls k1 (⟨#[101, 69, 102, 70, 103, 71]⟩ : ByteArray) ((rd_T25 t661 x10_1).f1) t670 _ A21.out).mono ?_); rintro e w' ⟨rfl, ⟨nd, rfl⟩⟩; refine ⟨_, rfl, ?_⟩))
     go_meet
     case rel => exact ⟨_, (true), tv, H', ⟨by have := HK1.out; first | omega | exact Nat.le_refl _⟩, ⟨by (with_reducible repeat (first | apply Kd.R_alloc | apply Kd.R_drewN | apply Kd.R_drew)); exact Kd.R_mono (Kd.R_far (p := ⟨gb669, 6, none⟩) (Kd.R_far (p := ⟨gb669, 5, none⟩) (Kd.R_far (p := ⟨gb669, 4, none⟩) (Kd.R_far (p := ⟨gb669, 3, none⟩) (Kd.R_far (p := ⟨gb669, 2, none⟩) (Kd.R_far (p := ⟨gb669, 1, none⟩) (Kd.R_far (p := ⟨gb669, 0, none⟩) (Kd.R_mono HO_6.out (fun k_ hk => (⟨hk, hk.2⟩ : _ ∧ k_ ≠ gb669))) (fun _ hk => hk.2) (.string ((rd_T25 t661 x10_1).f0))) (fun _ hk => hk.2) (.int .u8 ((rd_T25 t661 x10_1).f1))) (fun _ hk => hk.2) (.int .i64 ((rd_T25 t661 x10_1).f2))) (fun _ hk => hk.2) (.int .i64 ((rd_T25 t661 x10_1).f3))) (fun _ hk => hk.2) (.int .i64 ((rd_T25 t661 x10_1).f4))) (fun _ hk => hk.2) (.int .i64 ((rd_T25 t661 x10_1).f5))) (fun _ hk => hk.2) (.int .i64 ((rd_T25 t661 x10_1).f6))) (fun _ hk => hk.1.2)⟩, ⟨by refine bu ?_; refine blk_far ?_ NB660_669.out _; refine bu ?_; refine blk_far ?_ NB660_669.out _; refine bu ?_; refine blk_far ?_ NB660_669.out _; refine bu ?_; refine blk_far ?_ NB660_669.out _; refine bu ?_; refine blk_far ?_ NB660_669.out _; refine bu ?_; refine blk_far ?_ NB660_669.out _; refine bu ?_; refine blk_far ?_ NB660_669.out _; refine bu ?_; exact BK660.out⟩, ⟨by refine bu ?_; refine blk_put (cs := #[.string ((rd_T25 t661 x10_1).f0), .int .u8 ((rd_T25 t661 x10_1).f1), .int .i64 ((rd_T25 t661 x10_1).f2), .int .i64 ((rd_T25 t661 x10_1).f3), .int .i64 ((rd_T25 t661 x10_1).f4), .int .i64 ((rd_T25 t661 x10_1).f5), .int .i64 0]) ?_ 6 _ rfl; refine bu ?_; refine blk_put (cs := #[.string ((rd_T25 t661 x10_1).f0), .int .u8 ((rd_T25 t661 x10_1).f1), .int .i64 ((rd_T25 t661 x10_1).f2), .int .i64 ((rd_T25 t661 x10_1).f3), .int .i64 ((rd_T25 t661 x10_1).f4), .int .i64 0, .int .i64 0]) ?_ 5 _ rfl; refine bu ?_; refine blk_put (cs := #[.string ((rd_T25 t661 x10_1).f0), .int .u8 ((rd_T25 t661 x10_1).f1), .int .i64 ((rd_T25 t661 x10_1).f2), .int .i64 ((rd_T25 t661 x10_1).f3), .int .i64 0, .int .i64 0, .int .i64 0]) ?_ 4 _ rfl; refine bu ?_; refine blk_put (cs := #[.string ((rd_T25 t661 x10_1).f0), .int .u8 ((rd_T25 t661 x10_1).f1), .int .i64 ((rd_T25 t661 x10_1).f2), .int .i64 0, .int .i64 0, .int .i64 0, .int .i64 0]) ?_ 3 _ rfl; refine bu ?_; refine blk_put (cs := #[.string ((rd_T25 t661 x10_1).f0), .int .u8 ((rd_T25 t661 x10_1).f1), .int .i64 0, .int .i64 0, .int .i64 0, .int .i64 0, .int .i64 0]) ?_ 2 _ rfl; refine bu ?_; refine blk_put (cs := #[.string ((rd_T25 t661 x10_1).f0), .int .u8 0, .int .i64 0, .int .i64 0, .int .i64 0, .int .i64 0, .int .i64 0]) ?_ 1 _ rfl; refine bu ?_; refine blk_put (cs := #[.string (⟨#[]⟩ : ByteArray), .int .u8 0, .int .i64 0, .int .i64 0, .int .i64 0, .int .i64 0, .int .i64 0]) ?_ 0 _ rfl; refine bu ?_; exact BK669.out⟩, ⟨bs⟩⟩
    rw [if_neg c22] at H
    have c22b0 := decide_eq_false c22
    clear c22
    (first | rw [c22b0] | (simp only [i64_w, i32_w]; rw [c22b0]) | skip)
    replace H := Option.bind_eq_some_iff.mp H
    obtain ⟨t671, A250, H⟩ := H
    replace H : (q_Single.j1 k1 t661 x10_1 (t671 != 1) ((rd_T25 t661 x10_1).f0) ((rd_T25 t661 x10_1).f1) ((rd_T25 t661 x10_1).f2) ((rd_T25 t661 x10_1).f3) ((rd_T25 t661 x10_1).f4) ((rd_T25 t661 x10_1).f5) ((rd_T25 t661 x10_1).f6)) = some (r1, r2, r3, r4, r5, r6, r7) := H
    have A25 := am A250
    clear A250
    have H' := am H
    clear H
    have hnb26 := NB669_660.out
    have hnc26 := NB660_669.out
    obtain ⟨⟨hcz27_0, hcz27_1, hcz27_2, hcz27_3, hcz27_4, hcz27_5, hcz27_6⟩, hfz27_0, hfz27_1, hfz27_2, hfz27_3, hfz27_4, hfz27_5, hfz27_6⟩ := blkAll7 BK669
    go_wp2_with (first | ((with_reducible refine gate_callee (f := 39) rfl ?_); refine goesL_ (some 56) rfl rfl Tryd.func39 (by kernel_rfl) rfl #[.string (⟨#[101, 69, 102, 70, 103, 71]⟩ : ByteArray), .int .u8 ((rd_T25 t661 x10_1).f1)] rfl ls ?_; (with_reducible refine (q_at.calls k1 (⟨#[101, 69, 102, 70, 103, 71]⟩ : ByteArray) ((rd_T25 t661 x10_1).f1) t670 _ A21.out).mono ?_); rintro e w' ⟨rfl, ⟨nd, rfl⟩⟩; refine ⟨_, rfl, ?_⟩) | (go_at_call 51; (with_reducible refine (q_Takes.calls k1 ((rd_T25 t661 x10_1).f0) ((rd_T25 t661 x10_1).f1) ((rd_T25 t661 x10_1).f2) ((rd_T25 t661 x10_1).f3) ((rd_T25 t661 x10_1).f4) ((rd_T25 t661 x10_1).f5) ((rd_T25 t661 x10_1).f6) t671 _ A25.out).mono ?_); rintro e w28 ⟨rfl, hb⟩; have n0_ := am (Kd.R_below (by (with_reducible repeat (first | apply Kd.R_alloc | apply Kd.R_drewN | apply Kd.R_drew)); exact (Kd.R_mono (Kd.R_far (p := ⟨gb669, 6, none⟩) (Kd.R_far (p := ⟨gb669, 5, none⟩) (Kd.R_far (p := ⟨gb669, 4, none⟩) (Kd.R_far (p := ⟨gb669, 3, none⟩) (Kd.R_far (p := ⟨gb669, 2, none⟩) (Kd.R_far (p := ⟨gb669, 1, none⟩) (Kd.R_far (p := ⟨gb669, 0, none⟩) (Kd.R_mono HO_6.out (fun k_ hk => (⟨hk, hk.2⟩ : _ ∧ k_ ≠ gb669))) (fun _ hk => hk.2) (.string ((rd_T25 t661 x10_1).f0))) (fun _ hk => hk.2) (.int .u8 ((rd_T25 t661 x10_1).f1))) (fun _ hk => hk.2) (.int .i64 ((rd_T25 t661 x10_1).f2))) (fun _ hk => hk.2) (.int .i64 ((rd_T25 t661 x10_1).f3))) (fun _ hk => hk.2) (.int .i64 ((rd_T25 t661 x10_1).f4))) (fun _ hk => hk.2) (.int .i64 ((rd_T25 t661 x10_1).f5))) (fun _ hk => hk.2) (.int .i64 ((rd_T25 t661 x10_1).f6))) (fun _ h_ => h_.1))) hb); have n1_ := am (blk_below (g := gb660) (o := .cells #[.int .u8 0, .int .i64 0, .int .i64 0, .int .i64 0] 37 (0, 0)) (by refine bu ?_; refine blk_far ?_ NB660_669.out _; refine bu ?_; refine blk_far ?_ NB660_669.out _; refine bu ?_; refine blk_far ?_ NB660_669.out _; refine bu ?_; refine blk_far ?_ NB660_669.out _; refine bu ?_; refine blk_far ?_ NB660_669.out _; refine bu ?_; refine blk_far ?_ NB660_669.out _; refine bu ?_; refine blk_far ?_ NB660_669.out _; refine bu ?_; exact BK660.out) hb); have n2_ := am (blk_below (g := gb669) (o := .cells #[.string ((rd_T25 t661 x10_1).f0), .int .u8 ((rd_T25 t661 x10_1).f1), .int .i64 ((rd_T25 t661 x10_1).f2), .int .i64 ((rd_T25 t661 x10_1).f3), .int .i64 ((rd_T25 t661 x10_1).f4), .int .i64 ((rd_T25 t661 x10_1).f5), .int .i64 ((rd_T25 t661 x10_1).f6)] 25 (0, 0)) (by refine bu ?_; refine blk_put (cs := #[.string ((rd_T25 t661 x10_1).f0), .int .u8 ((rd_T25 t661 x10_1).f1), .int .i64 ((rd_T25 t661 x10_1).f2), .int .i64 ((rd_T25 t661 x10_1).f3), .int .i64 ((rd_T25 t661 x10_1).f4), .int .i64 ((rd_T25 t661 x10_1).f5), .int .i64 0]) ?_ 6 _ rfl; refine bu ?_; refine blk_put (cs := #[.string ((rd_T25 t661 x10_1).f0), .int .u8 ((rd_T25 t661 x10_1).f1), .int .i64 ((rd_T25 t661 x10_1).f2), .int .i64 ((rd_T25 t661 x10_1).f3), .int .i64 ((rd_T25 t661 x10_1).f4), .int .i64 0, .int .i64 0]) ?_ 5 _ rfl; refine bu ?_; refine blk_put (cs := #[.string ((rd_T25 t661 x10_1).f0), .int .u8 ((rd_T25 t661 x10_1).f1), .int .i64 ((rd_T25 t661 x10_1).f2), .int .i64 ((rd_T25 t661 x10_1).f3), .int .i64 0, .int .i64 0, .int .i64 0]) ?_ 4 _ rfl; refine bu ?_; refine blk_put (cs := #[.string ((rd_T25 t661 x10_1).f0), .int .u8 ((rd_T25 t661 x10_1).f1), .int .i64 ((rd_T25 t661 x10_1).f2), .int .i64 0, .int .i64 0, .int .i64 0, .int .i64 0]) ?_ 3 _ rfl; refine bu ?_; refine blk_put (cs := #[.string ((rd_T25 t661 x10_1).f0), .int .u8 ((rd_T25 t661 x10_1).f1), .int .i64 0, .int .i64 0, .int .i64 0, .int .i64 0, .int .i64 0]) ?_ 2 _ rfl; refine bu ?_; refine blk_put (cs := #[.string ((rd_T25 t661 x10_1).f0), .int .u8 0, .int .i64 0, .int .i64 0, .int .i64 0, .int .i64 0, .int .i64 0]) ?_ 1 _ rfl; refine bu ?_; refine blk_put (cs := #[.string (⟨#[]⟩ : ByteArray), .int .u8 0, .int .i64 0, .int .i64 0, .int .i64 0, .int .i64 0, .int .i64 0]) ?_ 0 _ rfl; refine bu ?_; exact BK669.out) hb); have n3_ := am (below_step bs hb); clear HO_6; clear BK660; clear BK669; clear HB; have HO_6 := n0_; have BK660 := n1_; have BK669 := n2_; have HB := n3_; clear n0_ n1_ n2_ n3_; (try clear hb); (try clear hb2); (try clear hk); (try clear hi)))
    go_meet
    case rel => exact ⟨_, ((t671 != 1)), tv, H', ⟨by have := HK1.out; first | omega | exact Nat.le_refl _⟩, ⟨by (with_reducible repeat (first | apply Kd.R_alloc | apply Kd.R_drewN | apply Kd.R_drew)); exact Kd.R_mono HO_6.out (fun _ hk => hk.2)⟩, ⟨by refine bu ?_; exact BK660.out⟩, ⟨by refine bu ?_; exact BK669.out⟩, ⟨bs⟩⟩
   case rest =>
    clear HC16
    try clear c1
    try clear c2
    try clear p2
    try clear c3
    try clear c3b0
    try clear c3b1
    try clear c6
    try clear c6b0
    try clear p6
    try clear q6
    try clear hx6
    try clear c7
    try clear c7b0
    try clear c8
    try clear c8b0
    try clear c8b1
    try clear c10
    try clear c10b0
    try clear c10b1
    try clear c13
    try clear c13b0
    try clear c13b1
    try clear c14
    try clear c14b0
    try clear c15
    try clear c15b0
    try clear c19
    try clear c20
    try clear c22
    try clear c22b0
    try clear c23
    try clear c26
    try clear hcz20_0 hcz20_1 hcz20_2 hcz20_3 hcz20_4 hcz20_5 hcz20_6
    try clear hcz24_0 hcz24_1 hcz24_2 hcz24_3 hcz24_4 hcz24_5 hcz24_6
    try clear hcz27_0 hcz27_1 hcz27_2 hcz27_3 hcz27_4 hcz27_5 hcz27_6
    try clear hfz20_0 hfz20_1 hfz20_2 hfz20_3 hfz20_4 hfz20_5 hfz20_6
    try clear hfz24_0 hfz24_1 hfz24_2 hfz24_3 hfz24_4 hfz24_5 hfz24_6
    try clear hfz27_0 hfz27_1 hfz27_2 hfz27_3 hfz27_4 hfz27_5 hfz27_6
    try clear hx666_0
    try clear hx666_1
    try clear hx666_2
    try clear hx666_3
    try clear hx666_4
    try clear hx666_5
    try clear hx666_6
    try clear hx667_0
    try clear hx667_1
    try clear hx667_2
    try clear hx667_3
    try clear hx667_4
    try clear hx667_5
    try clear hx667_6
    try clear hx668_0
    try clear hx668_1
    try clear hx668_2
    try clear hx668_3
    try clear hx668_4
    try clear hx668_5
    try clear hx668_6
    try clear p2
    try clear p666
    try clear p667
    try clear p668
    try clear q666
    try clear q667
    try clear q668
    obtain ⟨kq, x62_15, rfl, HA, HJ15, HO_6, BK660, BK669, HB⟩ := hcut
    cases kq with
    | zero => exact absurd HA.out (by simp [q_Single.j1])
    | succ kj15 =>
     have H := HA.out
     clear HA
     simp only [q_Single.j1] at H
     by_cases c29 : x62_15 = true
     ·subst c29
      have H1 : (some ((⟨#[]⟩ : ByteArray), 0, 0, 0, 0, (⟨#[]⟩ : ByteArray), false)) = some (r1, r2, r3, r4, r5, r6, r7) := by rw [if_pos rfl] at H; exact H
      clear H
      have H := H1
      clear H1
      simp only [Option.some.injEq, Prod.mk.injEq] at H
      obtain ⟨rfl, rfl, rfl, rfl, rfl, rfl, rfl⟩ := H
      have hnb30 := NB660_669.out
      have hnc30 := NB669_660.out
      obtain ⟨⟨hcz31_0, hcz31_1, hcz31_2, hcz31_3⟩, hfz31_0, hfz31_1, hfz31_2, hfz31_3⟩ := blkAll4 BK660
      go_wp2
      refine bodyPost_ret (results_list (rs := [.tmp 2, .cell 3 37, .tmp 4, .tmp 5]) rfl (by simp) (.tmp (.cell gb660 37 #[.int .u8 0, .int .i64 0, .int .i64 0, .int .i64 0] (0, 0) _ rfl (by refine bu ?_; refine blk_put (cs := #[.int .u8 0, .int .i64 0, .int .i64 0, .int .i64 0]) ?_ 3 _ rfl; refine bu ?_; refine blk_put (cs := #[.int .u8 0, .int .i64 0, .int .i64 0, .int .i64 0]) ?_ 2 _ rfl; refine bu ?_; refine blk_put (cs := #[.int .u8 0, .int .i64 0, .int .i64 0, .int .i64 0]) ?_ 1 _ rfl; refine bu ?_; refine blk_put (cs := #[.int .u8 0, .int .i64 0, .int .i64 0, .int .i64 0]) ?_ 0 _ rfl; refine bu ?_; exact BK660.out) Tryd.underlying37 rfl (by kernel_rfl) (.tmp (.tmp .nil))))) rfl ?_
      exact ⟨er, bs⟩
     replace c29 := Bool.eq_false_iff.mpr c29
     subst c29
     have H1 : ((q_Settle.f kj15 ((rd_T25 t661 x10_1).f0) ((rd_T25 t661 x10_1).f1) ((rd_T25 t661 x10_1).f2) ((rd_T25 t661 x10_1).f3) ((rd_T25 t661 x10_1).f4) ((rd_T25 t661 x10_1).f5) ((rd_T25 t661 x10_1).f6) 0 0).bind fun bt672 => (if 0 ≤ x10_1 then (if x10_1 ≤ (t661.length : Int) then ((q_plain.f kj15 (t661.take (x10_1 : Int).toNat)).bind fun t682 => (if 0 ≤ (wrap64 (x10_1 + 1)) then (if (wrap64 (x10_1 + 1)) ≤ (t661.length : Int) then ((q_plain.f kj15 (t661.drop ((wrap64 (x10_1 + 1)) : Int).toNat)).bind fun t687 => (some (t682, bt672.1, bt672.2.1, bt672.2.2.1, bt672.2.2.2.1, t687, true))) else (none)) else (none))) else (none)) else (none))) = some (r1, r2, r3, r4, r5, r6, r7) := by rw [if_neg (show ¬ (false = true) by decide)] at H; exact H
     clear H
     have H := H1
     clear H1
     replace H := Option.bind_eq_some_iff.mp H
     obtain ⟨⟨t672, t673, t674, t675, t676⟩, A320, H⟩ := H
     replace H : (if 0 ≤ x10_1 then (if x10_1 ≤ (t661.length : Int) then ((q_plain.f kj15 (t661.take (x10_1 : Int).toNat)).bind fun t682 => (if 0 ≤ (wrap64 (x10_1 + 1)) then (if (wrap64 (x10_1 + 1)) ≤ (t661.length : Int) then ((q_plain.f kj15 (t661.drop ((wrap64 (x10_1 + 1)) : Int).toNat)).bind fun t687 => (some (t682, t672, t673, t674, t675, t687, true))) else (none)) else (none))) else (none)) else (none)) = some (r1, r2, r3, r4, r5, r6, r7) := H
     have A32 := am A320
     clear A320
     by_cases c33 : 0 ≤ x10_1
     rotate_left
     ·rw [if_neg c33] at H
      exact absurd H (by simp)
     rw [if_pos c33] at H
     have c33b0 := eq_true c33
     have c33b1 := decide_eq_true c33
     clear c33
     by_cases c34 : x10_1 ≤ (t661.length : Int)
     rotate_left
     ·rw [if_neg c34] at H
      exact absurd H (by simp)
     rw [if_pos c34] at H
     have c34b0 := eq_true c34
     have c34b1 := decide_eq_true c34
     clear c34
     obtain ⟨y678, hy678⟩ : ∃ y_ : List (S25), y_ = (t661.take (x10_1 : Int).toNat) := ⟨_, rfl⟩
     replace H : ((q_plain.f kj15 y678).bind fun t682 => (if 0 ≤ (wrap64 (x10_1 + 1)) then (if (wrap64 (x10_1 + 1)) ≤ (t661.length : Int) then ((q_plain.f kj15 (t661.drop ((wrap64 (x10_1 + 1)) : Int).toNat)).bind fun t687 => (some (t682, t672, t673, t674, t675, t687, true))) else (none)) else (none))) = some (r1, r2, r3, r4, r5, r6, r7) := by first | (rw [hy678]; with_reducible exact H) | (have H2_ := (Option.bind_some _ _).symm.trans H; rw [hy678]; with_reducible exact H2_) | (have H2_ := (Option.bind_some _ _).symm.trans H; with_reducible exact H2_) | with_reducible exact H | (rw [hy678]; exact H) | exact H
     have Ny678 := am hy678
     clear hy678
     replace H := Option.bind_eq_some_iff.mp H
     obtain ⟨t682, A350, H⟩ := H
     replace H : (if 0 ≤ (wrap64 (x10_1 + 1)) then (if (wrap64 (x10_1 + 1)) ≤ (t661.length : Int) then ((q_plain.f kj15 (t661.drop ((wrap64 (x10_1 + 1)) : Int).toNat)).bind fun t687 => (some (t682, t672, t673, t674, t675, t687, true))) else (none)) else (none)) = some (r1, r2, r3, r4, r5, r6, r7) := H
     have A35 := am A350
     clear A350
     obtain ⟨ji36, hji36⟩ : ∃ j_ : Int, (wrap64 (x10_1 + 1)) = j_ := ⟨_, rfl⟩
     replace H : (if 0 ≤ (ji36) then (if (ji36) ≤ (t661.length : Int) then ((q_plain.f kj15 (t661.drop ((ji36) : Int).toNat)).bind fun t687 => (some (t682, t672, t673, t674, t675, t687, true))) else (none)) else (none)) = some (r1, r2, r3, r4, r5, r6, r7) := by first | (rw [hji36] at H; exact H) | (simp only [hji36] at H ⊢; exact H)
     (try rw [hji36] at A32)
     (try rw [hji36] at A35)
     have hji36w : (IntKind.i64.wrap (x10_1 + 1)) = ji36 := (i64_w _).trans hji36
     by_cases c37 : 0 ≤ (ji36)
     rotate_left
     ·rw [if_neg c37] at H
      exact absurd H (by simp)
     rw [if_pos c37] at H
     have c37b0 := eq_true c37
     have c37b1 := decide_eq_true c37
     clear c37
     by_cases c38 : (ji36) ≤ (t661.length : Int)
     rotate_left
     ·rw [if_neg c38] at H
      exact absurd H (by simp)
     rw [if_pos c38] at H
     have c38b0 := eq_true c38
     have c38b1 := decide_eq_true c38
     clear c38
     obtain ⟨y683, hy683⟩ : ∃ y_ : List (S25), y_ = (t661.drop ((ji36) : Int).toNat) := ⟨_, rfl⟩
     replace H : ((q_plain.f kj15 y683).bind fun t687 => (some (t682, t672, t673, t674, t675, t687, true))) = some (r1, r2, r3, r4, r5, r6, r7) := by first | (rw [hy683]; with_reducible exact H) | (have H2_ := (Option.bind_some _ _).symm.trans H; rw [hy683]; with_reducible exact H2_) | (have H2_ := (Option.bind_some _ _).symm.trans H; with_reducible exact H2_) | with_reducible exact H | (rw [hy683]; exact H) | exact H
     have Ny683 := am hy683
     clear hy683
     replace H := Option.bind_eq_some_iff.mp H
     obtain ⟨t687, A390, H⟩ := H
     replace H : (some (t682, t672, t673, t674, t675, t687, true)) = some (r1, r2, r3, r4, r5, r6, r7) := H
     have A39 := am A390
     clear A390
     simp only [Option.some.injEq, Prod.mk.injEq] at H
     obtain ⟨rfl, rfl, rfl, rfl, rfl, rfl, rfl⟩ := H
     have hnb40 := NB669_660.out
     have hnc40 := NB660_669.out
     obtain ⟨⟨hcz41_0, hcz41_1, hcz41_2, hcz41_3, hcz41_4, hcz41_5, hcz41_6⟩, hfz41_0, hfz41_1, hfz41_2, hfz41_3, hfz41_4, hfz41_5, hfz41_6⟩ := blkAll7 BK669
     try go_wp2_with (first | ((with_reducible refine gate_callee (f := 34) rfl ?_); refine goesL_ (some 66) rfl rfl Tryd.func34 (by kernel_rfl) rfl #[.agg #[.string ((rd_T25 t661 x10_1).f0), .int .u8 ((rd_T25 t661 x10_1).f1), .int .i64 ((rd_T25 t661 x10_1).f2), .int .i64 ((rd_T25 t661 x10_1).f3), .int .i64 ((rd_T25 t661 x10_1).f4), .int .i64 ((rd_T25 t661 x10_1).f5), .int .i64 ((rd_T25 t661 x10_1).f6)], .int .i64 0, .int .i64 0] rfl ls ?_; (with_reducible refine (q_Settle.calls kj15 ((rd_T25 t661 x10_1).f0) ((rd_T25 t661 x10_1).f1) ((rd_T25 t661 x10_1).f2) ((rd_T25 t661 x10_1).f3) ((rd_T25 t661 x10_1).f4) ((rd_T25 t661 x10_1).f5) ((rd_T25 t661 x10_1).f6) 0 0 t672 t673 t674 t675 t676 _ A32.out).mono ?_); rintro e w42 ⟨rfl, hb⟩; refine ⟨_, rfl, ?_⟩; have n0_ := am (Kd.R_below (by (with_reducible repeat (first | apply Kd.R_alloc | apply Kd.R_drewN | apply Kd.R_drew)); exact HO_6.out) hb); have n1_ := am (blk_below (bu BK660.out) hb); have n2_ := am (blk_below (bu BK669.out) hb); have n3_ := am (below_step bs hb); clear HO_6; clear BK660; clear BK669; clear HB; have HO_6 := n0_; have BK660 := n1_; have BK669 := n2_; have HB := n3_; clear n0_ n1_ n2_ n3_; (try clear hb); (try clear hb2); (try clear hk); (try clear hi)) | ((with_reducible refine gate_dst (N := 13) rfl ?_); refine box_event ?hg (N := 13) ?hd (cs := #[.int .u8 0, .int .i64 0, .int .i64 0, .int .i64 0]) (t := 37) ?hr ?_; (case hd => rfl); (case hg => rfl); (case hr => first | (go_simp; done) | (go_simp; rfl)); intro gb677 hg w43 hbox hb; have n0_ := am (Kd.R_below (by (with_reducible repeat (first | apply Kd.R_alloc | apply Kd.R_drewN | apply Kd.R_drew)); exact HO_6.out) hb); have n1_ := am (blk_below (bu BK660.out) hb); have n2_ := am (blk_below (bu BK669.out) hb); have n3_ := am (below_step bs hb); have n4_ := am (hbox); have n5_ := am ((by rw [hg]; exact (below_size bs) : w.heap.size ≤ gb677)); have n6_ := am ((by rw [hg]; exact (below_size bs) : w.heap.size ≤ gb677)); have n7_ := am ((by rw [hg]; exact Nat.ne_of_lt (blk_lt (bu BK660.out)) : gb660 ≠ gb677)); have n8_ := am ((by rw [hg]; exact Nat.ne_of_gt (blk_lt (bu BK660.out)) : gb677 ≠ gb660)); have n9_ := am ((by rw [hg]; exact Nat.ne_of_lt (blk_lt (bu BK669.out)) : gb669 ≠ gb677)); have n10_ := am ((by rw [hg]; exact Nat.ne_of_gt (blk_lt (bu BK669.out)) : gb677 ≠ gb669)); clear HO_6; clear BK660; clear BK669; clear HB; have HO_6 := n0_; have BK660 := n1_; have BK669 := n2_; have HB := n3_; have BK677 := n4_; have GW677 := n5_; have GE677 := n6_; have NB660_677 := n7_; have NB677_660 := n8_; have NB669_677 := n9_; have NB677_669 := n10_; clear n0_ n1_ n2_ n3_ n4_ n5_ n6_ n7_ n8_ n9_ n10_; clear hb hbox hg; have hnb44 := NB677_660.out; have hnc44 := NB660_677.out; have hnb45 := NB677_669.out; have hnc45 := NB669_677.out; obtain ⟨⟨hcz46_0, hcz46_1, hcz46_2, hcz46_3⟩, hfz46_0, hfz46_1, hfz46_2, hfz46_3⟩ := blkAll4 BK677))
     have n0_ : Aside0 (Kd.R k25 25 ((((w43.setCell ⟨gb677, 0, none⟩ (.int .u8 t672)).setCell ⟨gb677, 1, none⟩ (.int .i64 t673)).setCell ⟨gb677, 2, none⟩ (.int .i64 t674)).setCell ⟨gb677, 3, none⟩ (.int .i64 t675)) w.heap.size (fun k_ => k_ ≠ gb669) (.slice (some ad668) t661.length co17) t661) := ⟨by (with_reducible repeat (first | apply Kd.R_alloc | apply Kd.R_drewN | apply Kd.R_drew)); exact Kd.R_mono (Kd.R_far (p := ⟨gb677, 3, none⟩) (Kd.R_far (p := ⟨gb677, 2, none⟩) (Kd.R_far (p := ⟨gb677, 1, none⟩) (Kd.R_far (p := ⟨gb677, 0, none⟩) (Kd.R_types HO_6.out BK677.out (by decide)) (fun _ hk => hk.2) (.int .u8 t672)) (fun _ hk => hk.2) (.int .i64 t673)) (fun _ hk => hk.2) (.int .i64 t674)) (fun _ hk => hk.2) (.int .i64 t675)) (fun _ hk => hk.1)⟩
     have n1_ : Aside0 (((((w43.setCell ⟨gb677, 0, none⟩ (.int .u8 t672)).setCell ⟨gb677, 1, none⟩ (.int .i64 t673)).setCell ⟨gb677, 2, none⟩ (.int .i64 t674)).setCell ⟨gb677, 3, none⟩ (.int .i64 t675)).heap[gb660]? = some (.cells #[.int .u8 0, .int .i64 0, .int .i64 0, .int .i64 0] 37 (0, 0))) := ⟨by refine bu ?_; refine blk_far ?_ NB660_677.out _; refine bu ?_; refine blk_far ?_ NB660_677.out _; refine bu ?_; refine blk_far ?_ NB660_677.out _; refine bu ?_; refine blk_far ?_ NB660_677.out _; refine bu ?_; exact BK660.out⟩
     have n2_ : Aside0 (((((w43.setCell ⟨gb677, 0, none⟩ (.int .u8 t672)).setCell ⟨gb677, 1, none⟩ (.int .i64 t673)).setCell ⟨gb677, 2, none⟩ (.int .i64 t674)).setCell ⟨gb677, 3, none⟩ (.int .i64 t675)).heap[gb669]? = some (.cells #[.string ((rd_T25 t661 x10_1).f0), .int .u8 ((rd_T25 t661 x10_1).f1), .int .i64 ((rd_T25 t661 x10_1).f2), .int .i64 ((rd_T25 t661 x10_1).f3), .int .i64 ((rd_T25 t661 x10_1).f4), .int .i64 ((rd_T25 t661 x10_1).f5), .int .i64 ((rd_T25 t661 x10_1).f6)] 25 (0, 0))) := ⟨by refine bu ?_; refine blk_far ?_ NB669_677.out _; refine bu ?_; refine blk_far ?_ NB669_677.out _; refine bu ?_; refine blk_far ?_ NB669_677.out _; refine bu ?_; refine blk_far ?_ NB669_677.out _; refine bu ?_; exact BK669.out⟩
     have n3_ : Aside0 (((((w43.setCell ⟨gb677, 0, none⟩ (.int .u8 t672)).setCell ⟨gb677, 1, none⟩ (.int .i64 t673)).setCell ⟨gb677, 2, none⟩ (.int .i64 t674)).setCell ⟨gb677, 3, none⟩ (.int .i64 t675)).heap[gb677]? = some (.cells #[.int .u8 t672, .int .i64 t673, .int .i64 t674, .int .i64 t675] 37 (0, 0))) := ⟨by refine bu ?_; refine blk_put (cs := #[.int .u8 t672, .int .i64 t673, .int .i64 t674, .int .i64 0]) ?_ 3 _ rfl; refine bu ?_; refine blk_put (cs := #[.int .u8 t672, .int .i64 t673, .int .i64 0, .int .i64 0]) ?_ 2 _ rfl; refine bu ?_; refine blk_put (cs := #[.int .u8 t672, .int .i64 0, .int .i64 0, .int .i64 0]) ?_ 1 _ rfl; refine bu ?_; refine blk_put (cs := #[.int .u8 0, .int .i64 0, .int .i64 0, .int .i64 0]) ?_ 0 _ rfl; refine bu ?_; exact BK677.out⟩
     have n4_ : Aside0 (Below w.heap.size w ((((w43.setCell ⟨gb677, 0, none⟩ (.int .u8 t672)).setCell ⟨gb677, 1, none⟩ (.int .i64 t673)).setCell ⟨gb677, 2, none⟩ (.int .i64 t674)).setCell ⟨gb677, 3, none⟩ (.int .i64 t675))) := ⟨bs⟩
     (try clear HO_6)
     (try clear BK660)
     (try clear BK669)
     (try clear BK677)
     (try clear HB)
     generalize ((((w43.setCell ⟨gb677, 0, none⟩ (.int .u8 t672)).setCell ⟨gb677, 1, none⟩ (.int .i64 t673)).setCell ⟨gb677, 2, none⟩ (.int .i64 t674)).setCell ⟨gb677, 3, none⟩ (.int .i64 t675)) = w47 at n0_ n1_ n2_ n3_ n4_ ⊢
     have HO_6 := n0_
     have BK660 := n1_
     have BK669 := n2_
     have BK677 := n3_
     have HB := n4_
     clear n0_ n1_ n2_ n3_ n4_
     have n0_ := am (Kd.R_drew HO_6.out)
     have n1_ := am (blk_drew BK660.out)
     have n2_ := am (blk_drew BK669.out)
     have n3_ := am (blk_drew BK677.out)
     have n4_ := am (below_drew1 HB.out)
     clear HO_6
     clear BK660
     clear BK669
     clear BK677
     clear HB
     have HO_6 := n0_
     have BK660 := n1_
     have BK669 := n2_
     have BK677 := n3_
     have HB := n4_
     clear n0_ n1_ n2_ n3_ n4_
     have q49 : (x10_1 : Int) ≤ ((t661.length : Int) : Int) := of_decide_eq_true od
     obtain ⟨i049, hi049, _, hsz49, _⟩ := info_parts info25
     have hroom49 : t661.length ≤ co17 := (Kd.R_reads' HO_6.out).2.1
     have hC49 : Kd.C k25 _ (some ad668) t661.length t661 := (Kd.R_reads' HO_6.out).2.2
     have hcut49 := cut_to (P := Tryd.prog) 22 25 .i64 Tryd.underlying22 hi049 (some ad668) t661.length co17 x10_1 (of_decide_eq_true od) q49 hroom49
     have hr49 := Kd.C_take (m := (x10_1 : Int).toNat) hC49 (by omega)
     have hy49 : y678.length = (x10_1 : Int).toNat := (by rw [Ny678.out, List.length_take]; omega)
     rw [← Ny678.out] at hr49
     rw [← hy49] at hcut49
     have HR681 := am hr49
     have HC681 := am (show y678.length ≤ co17 from by omega)
     clear hr49 hC49 hroom49 hi049 hsz49
     have KY49 := am hy49
     clear hy49
     have KL49 := am (show (x10_1 : Int).toNat ≤ t661.length from by omega)
     replace q49 := eq_true q49
     have q50 : ((ji36) : Int) ≤ ((t661.length : Int) : Int) := of_decide_eq_true od
     obtain ⟨i050, hi050, _, hsz50, _⟩ := info_parts info25
     have hroom50 : t661.length ≤ co17 := (Kd.R_reads' HO_6.out).2.1
     have hC50 : Kd.C k25 _ (some ad668) t661.length t661 := (Kd.R_reads' HO_6.out).2.2
     have q050 : (0 : Int) ≤ ((ji36) : Int) := of_decide_eq_true od
     have hcut50 := cut_from (P := Tryd.prog) 22 25 .i64 Tryd.underlying22 hi050 7 hsz50 (some ad668) t661.length co17 (ji36) q050 q50
     have hr50 := Kd.C_drop (m := ((ji36) : Int).toNat) (c := co17) hC50 (by omega) hroom50
     obtain ⟨A50, hA50⟩ : ∃ A1, A1 = (if co17 = ((ji36) : Int).toNat then (some ad668) else ((some ad668) : Option Addr).map (·.add (((ji36) : Int).toNat * 7))) := ⟨_, rfl⟩
     obtain ⟨c50, hc50⟩ : ∃ c1, c1 = co17 - ((ji36) : Int).toNat := ⟨_, rfl⟩
     have hy50 : y683.length = t661.length - ((ji36) : Int).toNat := (by rw [Ny683.out, List.length_drop] <;> omega)
     rw [show (t661).drop ((ji36) : Int).toNat = y683 from Ny683.out.symm] at hr50
     replace hr50 : Kd.C k25 _ A50 y683.length y683 := (by rw [hA50]; exact hr50)
     rw [← hy50, ← hA50, ← hc50] at hcut50
     have HR686 := am hr50
     have HC686 := am (show y683.length ≤ c50 from by rw [hy50, hc50]; exact Nat.sub_le_sub_right hroom50 _)
     clear hr50 hC50 hroom50 hi050 hsz50 hc50
     have KY50 := am hy50
     have KA50 := am hA50
     clear hy50 hA50
     have KL50 := am (show ((ji36) : Int).toNat ≤ t661.length from by omega)
     replace q50 := eq_true q50
     refine start_ (n := 14) (S := fun w' => w'.cell? ⟨gb677, 0, none⟩ = some (.int .u8 t672) ∧ w'.cell? ⟨gb677, 1, none⟩ = some (.int .i64 t673) ∧ w'.cell? ⟨gb677, 2, none⟩ = some (.int .i64 t674) ∧ w'.cell? ⟨gb677, 3, none⟩ = some (.int .i64 t675)) (ds := []) #[false, false, false, false, false, false, false, false, false, false, false, false, false, false] (by kernel_rfl) rfl rfl ⟨(blk_cell BK677.out 0).trans rfl, (blk_cell BK677.out 1).trans rfl, (blk_cell BK677.out 2).trans rfl, (blk_cell BK677.out 3).trans rfl⟩ (fun hHeld => ?_); refine with_tabW q_Single.tab18 q_Single.bits18 (fun HT_ HW_ => ?_)
     generalize w47.drew = w48 at HO_6 BK660 BK669 BK677 HB HR681 HR686 hHeld ⊢
     refine pure_ (i := 0) (N := some 69) (v := ?_) (a' := ?_) #[true, false, false, false, false, false, false, false, false, false, false, false, false, false] rfl rfl (any_of HT_.out (by kernel_rfl)) (fun _ _ _ h => h) (Or.inl ⟨by rfl, ?_⟩) ?_ ?_
     rotate_left
     ·intro w'
      go_simp
      with_reducible rfl
     rotate_left
     ·simp only [Act.put, List.setIfInBounds_toArray, List.set_cons_zero, List.set_cons_succ, i64_w, i32_w]
      rfl
     refine pure_ (i := 1) (N := some 70) (v := ?_) (a' := ?_) #[true, true, false, false, false, false, false, false, false, false, false, false, false, false] rfl rfl (any_of HT_.out (by kernel_rfl)) (fun _ _ _ h => h) (Or.inl ⟨by rfl, ?_⟩) ?_ ?_
     rotate_left
     ·intro w'
      go_simp
      with_reducible rfl
     rotate_left
     ·simp only [Act.put, List.setIfInBounds_toArray, List.set_cons_zero, List.set_cons_succ, i64_w, i32_w]
      rfl
     refine pure_ (i := 2) (N := some 71) (v := ?_) (a' := ?_) #[true, true, true, false, false, false, false, false, false, false, false, false, false, false] rfl rfl (any_of HT_.out (by kernel_rfl)) (fun _ _ _ h => h) (Or.inl ⟨by rfl, ?_⟩) ?_ ?_
     rotate_left
     ·intro w'
      go_simp
      with_reducible rfl
     rotate_left
     ·simp only [Act.put, List.setIfInBounds_toArray, List.set_cons_zero, List.set_cons_succ, i64_w, i32_w]
      rfl
     refine pure_ (i := 5) (N := some 74) (v := ?_) (a' := ?_) #[true, true, true, false, false, true, false, false, false, false, false, false, false, false] rfl rfl (any_of HT_.out (by kernel_rfl)) (fun _ _ _ h => h) (Or.inl ⟨by rfl, ?_⟩) ?_ ?_
     rotate_left
     ·intro w'
      go_simp
      with_reducible rfl
     rotate_left
     ·simp only [Act.put, List.setIfInBounds_toArray, List.set_cons_zero, List.set_cons_succ, i64_w, i32_w]
      rfl
     refine pure_ (i := 6) (N := some 75) (v := ?_) (a' := ?_) #[true, true, true, false, false, true, true, false, false, false, false, false, false, false] rfl rfl (any_of HT_.out (by kernel_rfl)) (fun _ _ _ h => h) (Or.inl ⟨by rfl, ?_⟩) ?_ ?_
     rotate_left
     ·intro w'
      go_simp
      with_reducible rfl
     rotate_left
     ·simp only [Act.put, List.setIfInBounds_toArray, List.set_cons_zero, List.set_cons_succ, i64_w, i32_w]
      rfl
     refine pure_ (i := 7) (N := some 76) (v := ?_) (a' := ?_) #[true, true, true, false, false, true, true, true, false, false, false, false, false, false] rfl rfl (any_of HT_.out (by kernel_rfl)) (fun _ _ _ h => h) (Or.inl ⟨by rfl, ?_⟩) ?_ ?_
     rotate_left
     ·intro w'
      go_simp
      with_reducible rfl
     rotate_left
     ·simp only [Act.put, List.setIfInBounds_toArray, List.set_cons_zero, List.set_cons_succ, i64_w, i32_w]
      rfl
     refine pure_ (i := 8) (N := some 77) (v := ?_) (a' := ?_) #[true, true, true, false, false, true, true, true, true, false, false, false, false, false] rfl rfl (any_of HT_.out (by kernel_rfl)) (fun _ _ _ h => h) (Or.inl ⟨by rfl, ?_⟩) ?_ ?_
     rotate_left
     ·intro w'
      go_simp
      with_reducible rfl
     rotate_left
     ·simp only [Act.put, List.setIfInBounds_toArray, List.set_cons_zero, List.set_cons_succ, i64_w, i32_w]
      rfl
     refine take_ (i := 4) (N := some 73) (v := ?_) (a' := ?_) #[true, true, true, false, true, true, true, true, true, false, false, false, false, false] rfl rfl (take_ofW HT_.out HW_.out (by kernel_rfl)) (fun _ _ _ h => h) (Or.inl ⟨by rfl, ?_⟩) hHeld ?_ ?_
     rotate_left
     ·rintro w' ⟨s0, s1, s2, s3⟩
      go_simp
      with_reducible rfl
     rotate_left
     ·simp only [Act.put, List.setIfInBounds_toArray, List.set_cons_zero, List.set_cons_succ, i64_w, i32_w]
      rfl
     refine one_ (i := 3) (N := some 72) #[true, true, true, true, true, true, true, true, true, false, false, false, false, false] rfl rfl (one_of HT_.out (by kernel_rfl)) (by decide) (fun K hK => ?_)
     refine goes_ Tryd.func52 (by kernel_rfl) rfl #[.slice (some ad668) y678.length co17] (by rfl) rfl rfl ls ?_
     with_reducible refine (q_plain.calls kj15 _ _ y678 t682 _ ?side1 ?side2 A35.out).mono ?_
     (case side1 => repeat (first | exact (by repeat (first | (with_reducible exact HR681.out) | (with_reducible refine Kd.C_alloc ?_ _) | (with_reducible refine Kd.C_drewN ?_ _) | (with_reducible refine Kd.C_drew ?_) | exact HR681.out)) | (with_reducible refine Kd.C_alloc ?_ _) | (with_reducible refine Kd.C_drewN ?_ _) | (with_reducible refine Kd.C_drew ?_)))
     (case side2 => exact HC681.out)
     rintro e w51 ⟨rfl, hb⟩
     refine ⟨_, rfl, ?_⟩
     have n0_ := am (Kd.R_below (by (with_reducible repeat (first | apply Kd.R_alloc | apply Kd.R_drewN | apply Kd.R_drew)); exact HO_6.out) hb)
     have n1_ := am (blk_below (bu BK660.out) hb)
     have n2_ := am (blk_below (bu BK669.out) hb)
     have n3_ := am (blk_below (bu BK677.out) hb)
     have n4_ := am (Kd.C_below (by repeat (first | (with_reducible exact HR681.out) | (with_reducible refine Kd.C_alloc ?_ _) | (with_reducible refine Kd.C_drewN ?_ _) | (with_reducible refine Kd.C_drew ?_) | exact HR681.out)) hb)
     have n5_ := am (Kd.C_below (by repeat (first | (with_reducible exact HR686.out) | (with_reducible refine Kd.C_alloc ?_ _) | (with_reducible refine Kd.C_drewN ?_ _) | (with_reducible refine Kd.C_drew ?_) | exact HR686.out)) hb)
     have n6_ := am (below_step bs hb)
     clear HO_6
     clear BK660
     clear BK669
     clear BK677
     clear HR681
     clear HR686
     clear HB
     have HO_6 := n0_
     have BK660 := n1_
     have BK669 := n2_
     have BK677 := n3_
     have HR681 := n4_
     have HR686 := n5_
     have HB := n6_
     clear n0_ n1_ n2_ n3_ n4_ n5_ n6_
     (try clear hb)
     (try clear hb2)
     (try clear hk)
     (try clear hi)
     refine hK.out _ _ ⟨(blk_cell BK677.out 0).trans rfl, (blk_cell BK677.out 1).trans rfl, (blk_cell BK677.out 2).trans rfl, (blk_cell BK677.out 3).trans rfl⟩ (fun hHeld => ?_)
     clear hK K
     refine norm_ (a' := ?_) ?_ ?_
     rotate_left
     ·show Act.put _ (some 72) _ = _
      simp only [Act.put, List.setIfInBounds_toArray, List.set_cons_zero, List.set_cons_succ, i64_w, i32_w]
      rfl
     refine one_ (i := 9) (N := some 78) #[true, true, true, true, true, true, true, true, true, true, false, false, false, false] rfl rfl (one_of HT_.out (by kernel_rfl)) (by decide) (fun K hK => ?_)
     refine goes_ Tryd.func52 (by kernel_rfl) rfl #[.slice A50 y683.length c50] (by rfl) rfl rfl ls ?_
     with_reducible refine (q_plain.calls kj15 _ _ y683 t687 _ ?side1 ?side2 A39.out).mono ?_
     (case side1 => repeat (first | exact (by repeat (first | (with_reducible exact HR686.out) | (with_reducible refine Kd.C_alloc ?_ _) | (with_reducible refine Kd.C_drewN ?_ _) | (with_reducible refine Kd.C_drew ?_) | exact HR686.out)) | (with_reducible refine Kd.C_alloc ?_ _) | (with_reducible refine Kd.C_drewN ?_ _) | (with_reducible refine Kd.C_drew ?_)))
     (case side2 => exact HC686.out)
     rintro e w52 ⟨rfl, hb⟩
     refine ⟨_, rfl, ?_⟩
     have n0_ := am (Kd.R_below (by (with_reducible repeat (first | apply Kd.R_alloc | apply Kd.R_drewN | apply Kd.R_drew)); exact HO_6.out) hb)
     have n1_ := am (blk_below (bu BK660.out) hb)
     have n2_ := am (blk_below (bu BK669.out) hb)
     have n3_ := am (blk_below (bu BK677.out) hb)
     have n4_ := am (Kd.C_below (by repeat (first | (with_reducible exact HR681.out) | (with_reducible refine Kd.C_alloc ?_ _) | (with_reducible refine Kd.C_drewN ?_ _) | (with_reducible refine Kd.C_drew ?_) | exact HR681.out)) hb)
     have n5_ := am (Kd.C_below (by repeat (first | (with_reducible exact HR686.out) | (with_reducible refine Kd.C_alloc ?_ _) | (with_reducible refine Kd.C_drewN ?_ _) | (with_reducible refine Kd.C_drew ?_) | exact HR686.out)) hb)
     have n6_ := am (below_step bs hb)
     clear HO_6
     clear BK660
     clear BK669
     clear BK677
     clear HR681
     clear HR686
     clear HB
     have HO_6 := n0_
     have BK660 := n1_
     have BK669 := n2_
     have BK677 := n3_
     have HR681 := n4_
     have HR686 := n5_
     have HB := n6_
     clear n0_ n1_ n2_ n3_ n4_ n5_ n6_
     (try clear hb)
     (try clear hb2)
     (try clear hk)
     (try clear hi)
     refine hK.out _ _ ⟨(blk_cell BK677.out 0).trans rfl, (blk_cell BK677.out 1).trans rfl, (blk_cell BK677.out 2).trans rfl, (blk_cell BK677.out 3).trans rfl⟩ (fun hHeld => ?_)
     clear hK K
     refine norm_ (a' := ?_) ?_ ?_
     rotate_left
     ·show Act.put _ (some 78) _ = _
      simp only [Act.put, List.setIfInBounds_toArray, List.set_cons_zero, List.set_cons_succ, i64_w, i32_w]
      rfl
     refine pure_ (i := 10) (N := some 2) (v := ?_) (a' := ?_) #[true, true, true, true, true, true, true, true, true, true, true, false, false, false] rfl rfl (any_of HT_.out (by kernel_rfl)) (fun _ _ _ h => h) (Or.inl ⟨by rfl, ?_⟩) ?_ ?_
     rotate_left
     ·intro w'
      go_simp
      with_reducible rfl
     rotate_left
     ·simp only [Act.put, List.setIfInBounds_toArray, List.set_cons_zero, List.set_cons_succ, i64_w, i32_w]
      rfl
     refine one_ (i := 11) (N := none) #[true, true, true, true, true, true, true, true, true, true, true, true, false, false] rfl rfl (one_of HT_.out (by kernel_rfl)) (by decide) (fun K hK => ?_)
     have hs53 : w52.cell? ⟨gb660, 0, none⟩ = some (.int .u8 0) := (blk_cell BK660.out 0).trans rfl
     have hfs53 := blk_frozen BK660.out 0
     have hns53_1 := NB669_660.out
     have hns53_2 := NB677_660.out
     have hms53_1 := NB660_669.out
     have hms53_2 := NB660_677.out
     have hs54 : w52.cell? ⟨gb660, 1, none⟩ = some (.int .i64 0) := (blk_cell BK660.out 1).trans rfl
     have hfs54 := blk_frozen BK660.out 1
     have hns54_1 := NB669_660.out
     have hns54_2 := NB677_660.out
     have hms54_1 := NB660_669.out
     have hms54_2 := NB660_677.out
     have hs55 : w52.cell? ⟨gb660, 2, none⟩ = some (.int .i64 0) := (blk_cell BK660.out 2).trans rfl
     have hfs55 := blk_frozen BK660.out 2
     have hns55_1 := NB669_660.out
     have hns55_2 := NB677_660.out
     have hms55_1 := NB660_669.out
     have hms55_2 := NB660_677.out
     have hs56 : w52.cell? ⟨gb660, 3, none⟩ = some (.int .i64 0) := (blk_cell BK660.out 3).trans rfl
     have hfs56 := blk_frozen BK660.out 3
     have hns56_1 := NB669_660.out
     have hns56_2 := NB677_660.out
     have hms56_1 := NB660_669.out
     have hms56_2 := NB660_677.out
     refine skip_ (w1 := ?_) (by rfl) rfl ?_ ?_
     rotate_left
     ·go_simp
      rfl
     refine hK.out _ _ ⟨((cell_far (p := ⟨gb660, _, none⟩) NB677_660.out _).trans (((cell_far (p := ⟨gb660, _, none⟩) NB677_660.out _).trans (((cell_far (p := ⟨gb660, _, none⟩) NB677_660.out _).trans (((cell_far (p := ⟨gb660, _, none⟩) NB677_660.out _).trans (hHeld.1)))))))), ((cell_far (p := ⟨gb660, _, none⟩) NB677_660.out _).trans (((cell_far (p := ⟨gb660, _, none⟩) NB677_660.out _).trans (((cell_far (p := ⟨gb660, _, none⟩) NB677_660.out _).trans (((cell_far (p := ⟨gb660, _, none⟩) NB677_660.out _).trans (hHeld.2.1)))))))), ((cell_far (p := ⟨gb660, _, none⟩) NB677_660.out _).trans (((cell_far (p := ⟨gb660, _, none⟩) NB677_660.out _).trans (((cell_far (p := ⟨gb660, _, none⟩) NB677_660.out _).trans (((cell_far (p := ⟨gb660, _, none⟩) NB677_660.out _).trans (hHeld.2.2.1)))))))), ((cell_far (p := ⟨gb660, _, none⟩) NB677_660.out _).trans (((cell_far (p := ⟨gb660, _, none⟩) NB677_660.out _).trans (((cell_far (p := ⟨gb660, _, none⟩) NB677_660.out _).trans (((cell_far (p := ⟨gb660, _, none⟩) NB677_660.out _).trans (hHeld.2.2.2))))))))⟩ (fun hHeld => ?_)
     clear hK K
     refine pure_ (i := 12) (N := some 4) (v := ?_) (a' := ?_) #[true, true, true, true, true, true, true, true, true, true, true, true, true, false] rfl rfl (any_of HT_.out (by kernel_rfl)) (fun _ _ _ h => h) (Or.inl ⟨by rfl, ?_⟩) ?_ ?_
     rotate_left
     ·intro w'
      go_simp
      with_reducible rfl
     rotate_left
     ·simp only [Act.put, List.setIfInBounds_toArray, List.set_cons_zero, List.set_cons_succ, i64_w, i32_w]
      rfl
     refine pure_ (i := 13) (N := some 5) (v := ?_) (a' := ?_) #[true, true, true, true, true, true, true, true, true, true, true, true, true, true] rfl rfl (any_of HT_.out (by kernel_rfl)) (fun _ _ _ h => h) (Or.inl ⟨by rfl, ?_⟩) ?_ ?_
     rotate_left
     ·intro w'
      go_simp
      with_reducible rfl
     rotate_left
     ·simp only [Act.put, List.setIfInBounds_toArray, List.set_cons_zero, List.set_cons_succ, i64_w, i32_w]
      rfl
     refine done_ (done_of HT_.out (by kernel_rfl)) ?_
     try go_wp2
     refine bodyPost_ret (results_list (rs := [.tmp 2, .cell 3 37, .tmp 4, .tmp 5]) rfl (by simp) (.tmp (.cell gb660 37 #[.int .u8 t672, .int .i64 t673, .int .i64 t674, .int .i64 t675] (0, 0) _ rfl (by refine bu ?_; refine blk_put (cs := #[.int .u8 t672, .int .i64 t673, .int .i64 t674, .int .i64 0]) ?_ 3 _ rfl; refine bu ?_; refine blk_put (cs := #[.int .u8 t672, .int .i64 t673, .int .i64 0, .int .i64 0]) ?_ 2 _ rfl; refine bu ?_; refine blk_put (cs := #[.int .u8 t672, .int .i64 0, .int .i64 0, .int .i64 0]) ?_ 1 _ rfl; refine bu ?_; refine blk_put (cs := #[.int .u8 0, .int .i64 0, .int .i64 0, .int .i64 0]) ?_ 0 _ rfl; refine bu ?_; exact BK660.out) Tryd.underlying37 rfl (by kernel_rfl) (.tmp (.tmp .nil))))) rfl ?_
     exact ⟨by first | rfl | (simp [errW_none, errW_some] <;> rfl) | (simp only [← hji36]; first | rfl | (simp [errW_none, errW_some] <;> rfl)) | (simp [*, errW_none, errW_some] <;> rfl), bs⟩
end Go.Proofs.YtlmijjekaelhcaaDoor.EDi
