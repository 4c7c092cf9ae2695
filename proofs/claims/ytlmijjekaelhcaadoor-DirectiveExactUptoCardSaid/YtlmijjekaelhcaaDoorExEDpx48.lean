/-
  Several texts of this session's own in one: EDpx46 EDpx47 EDpx48.
-/
import Derived.Test.YtlmijjekaelhcaaDoorExA0
import Derived.Test.YtlmijjekaelhcaaDoorExEDpx0
import Derived.Test.YtlmijjekaelhcaaDoorExEDpx44
import Derived.Test.YtlmijjekaelhcaaDoorExEDpx45
section
namespace Go.Proofs.YtlmijjekaelhcaaDoor.EDi
open Go.RowKit Go.Proofs.YtlmijjekaelhcaaDoorW.PrintWords Go.Proofs.YtlmijjekaelhcaaDoorW.PrintLast Go.Proofs.YtlmijjekaelhcaaDoorW.PrintMore
attribute [local go_sem] max2_int min2_int max_two min_two max_three min_three max_four min_four
set_option linter.unusedVariables false
mutual
def q_Print.l0 : Nat → List (S25) → Int → Option (ByteArray × Int)
 | 0, _, _ => none
 | k + 1, x0, x4 => if x4 < (x0.length : Int) then (if 0 ≤ x4 then ((q_Check.f k ((rd_T25 x0 x4).f0) ((rd_T25 x0 x4).f1) ((rd_T25 x0 x4).f2) ((rd_T25 x0 x4).f3) ((rd_T25 x0 x4).f4) ((rd_T25 x0 x4).f5) ((rd_T25 x0 x4).f6)).bind fun t633 => (if t633 = 0 then (q_Print.l0 k x0 (wrap64 (x4 + 1))) else (some ((⟨#[]⟩ : ByteArray), 132)))) else (none)) else (q_Print.l1 k x0 (([] : List Int)) 0)
def q_Print.l1 : Nat → List (S25) → List Int → Int → Option (ByteArray × Int)
 | 0, _, _, _ => none
 | k + 1, x0, x5, x6 => if x6 < (x0.length : Int) then (if 0 ≤ x6 then ((q_printed.f k ((rd_T25 x0 x6).f0) ((rd_T25 x0 x6).f1) ((rd_T25 x0 x6).f2) ((rd_T25 x0 x6).f3) ((rd_T25 x0 x6).f4) ((rd_T25 x0 x6).f5) ((rd_T25 x0 x6).f6)).bind fun t638 => (if x5.length + t638.size < 140737488355328 then ((some (x5 ++ bytesOf t638 : List Int)).bind fun y639 => (if (y639.length : Int) > 16777216 then (some ((⟨#[]⟩ : ByteArray), 3)) else (q_Print.l1 k x0 y639 (wrap64 (x6 + 1))))) else (none))) else (none)) else (some (strOfNums x5, 0))
end
def q_Print.f (k : Nat) (l0 : List (S25)) : Option (ByteArray × Int) := q_Print.l0 k l0 0
theorem q_Print.mono_l : ∀ k, (∀ y0 y1, LeO (q_Print.l0 k y0 y1) (q_Print.l0 (k + 1) y0 y1)) ∧ (∀ y0 y1 y2, LeO (q_Print.l1 k y0 y1 y2) (q_Print.l1 (k + 1) y0 y1 y2))
 | 0 => ⟨fun _ _ r h => by simp [q_Print.l0] at h, fun _ _ _ r h => by simp [q_Print.l1] at h⟩
 | k + 1 => by
  obtain ⟨ih0, ih1⟩ := q_Print.mono_l k
  refine ⟨?_, ?_⟩ <;> intros
  all_goals first | unfold q_Print.l0 | unfold q_Print.l1
  all_goals repeat' first
  | (with_reducible exact ih0 _ _)
  | (with_reducible exact ih1 _ _ _)
  | (with_reducible exact q_Check.mono _ _ _ _ _ _ _ _)
  | (with_reducible exact q_printed.mono _ _ _ _ _ _ _ _)
  | (with_reducible exact LeO.refl _)
  | (with_reducible exact LeO.none _)
  | (with_reducible refine LeO.ite ?_ ?_)
  | (with_reducible refine LeO.bind ?_ (fun _ => ?_))
  | exact ih0 _ _
  | exact ih1 _ _ _
  | exact q_Check.mono _ _ _ _ _ _ _ _
  | exact q_printed.mono _ _ _ _ _ _ _ _
  | exact LeO.none _
  | refine LeO.ite ?_ ?_
  | refine LeO.bind ?_ (fun _ => ?_)
theorem q_Print.mono : ∀ a0 k, LeO (q_Print.f k a0) (q_Print.f (k + 1) a0) := by
 intro a0 k
 obtain ⟨ih0, ih1⟩ := q_Print.mono_l k
 unfold q_Print.f
 repeat' first
   | (with_reducible exact ih0 _ _)
   | (with_reducible exact ih1 _ _ _)
   | (with_reducible exact q_Check.mono _ _ _ _ _ _ _ _)
   | (with_reducible exact q_printed.mono _ _ _ _ _ _ _ _)
   | (with_reducible exact LeO.refl _)
   | (with_reducible exact LeO.none _)
   | (with_reducible refine LeO.ite ?_ ?_)
   | (with_reducible refine LeO.bind ?_ (fun _ => ?_))
   | exact ih0 _ _
   | exact ih1 _ _ _
   | exact q_Check.mono _ _ _ _ _ _ _ _
   | exact q_printed.mono _ _ _ _ _ _ _ _
   | exact LeO.none _
   | refine LeO.ite ?_ ?_
   | refine LeO.bind ?_ (fun _ => ?_)
set_option maxHeartbeats 8000000 in
set_option maxRecDepth 100000 in
theorem q_Print.calls (k : Nat) (A0 : Option Addr) (c0 : Nat) (l0 : List (S25)) (r1 : ByteArray) (r2 : Int) (w : World) (hr0 : Kd.C k25 w A0 l0.length l0) (hc0 : l0.length ≤ c0) (h : q_Print.f k l0 = some (r1, r2)) :
  Calls Tryd.prog 32 #[.slice A0 l0.length c0] w fun e w' => e = .returned (.tuple #[.string r1, .int .i64 r2]) ∧ Below w.heap.size w w' := by
 have hu25 := Tryd.underlying25
 have HR0 := am hr0
 have HC0 := am hc0
 clear hr0 hc0
 have HB := am (Below.refl w.heap.size w)
 have H : (q_Print.l0 k l0 0) = some (r1, r2) := h
 clear h
 have H' := am H
 clear H
 go_enter Tryd.func32, Tryd.ntmps32
 go_wp2
 go_loopg [4] k (fun kq v4 w' => ∃ (x4_1 : Int), v4 = .int .i64 x4_1 ∧ Aside0 (q_Print.l0 kq l0 x4_1 = some (r1, r2)) ∧ Aside0 (kq ≤ k) ∧ Aside0 (Below w.heap.size w w'))
 case atStart => exact ⟨(0), tv, H', ⟨Nat.le_refl _⟩, ⟨bl⟩⟩
 case round =>
  clear H'
  obtain ⟨x4_1, rfl, HA, HK1, HB⟩ := hrel
  cases gk with
  | zero => exact absurd HA.out (by simp [q_Print.l0])
  | succ k1 =>
   have H := HA.out
   clear HA
   simp only [q_Print.l0] at H
   by_cases c2 : x4_1 < (l0.length : Int)
   ·rw [if_pos c2] at H
    have c2b0 := decide_eq_true c2
    clear c2
    by_cases c3 : 0 ≤ x4_1
    rotate_left
    ·rw [if_neg c3] at H
     exact absurd H (by simp)
    rw [if_pos c3] at H
    have c3b0 := decide_eq_true c3
    clear c3
    replace H := Option.bind_eq_some_iff.mp H
    obtain ⟨t633, A40, H⟩ := H
    replace H : (if t633 = 0 then (q_Print.l0 k1 l0 (wrap64 (x4_1 + 1))) else (some ((⟨#[]⟩ : ByteArray), 132))) = some (r1, r2) := H
    have A4 := am A40
    clear A40
    by_cases c5 : t633 = 0
    rotate_left
    ·rw [if_neg c5] at H
     have c5b0 : (t633 == 0) = false := beq_eq_false_iff_ne.mpr c5
     have c5b1 : (t633 != 0) = true := bne_iff_ne.mpr c5
     simp only [Option.some.injEq, Prod.mk.injEq] at H
     obtain ⟨rfl, rfl⟩ := H
     have p632 : 0 ≤ (x4_1 : Int) := of_decide_eq_true od
     have q632 : x4_1 < (l0.length : Int) := of_decide_eq_true od
     obtain ⟨ad632, e632, hx632_0, hx632_1, hx632_2, hx632_3, hx632_4, hx632_5, hx632_6⟩ := at_T25 HR0.out x4_1 p632 q632
     cases e632
     replace hx632_0 := (HB.out.cell (World.block_lt_of_cell? w _ hx632_0)).trans hx632_0
     replace hx632_1 := (HB.out.cell (World.block_lt_of_cell? w _ hx632_1)).trans hx632_1
     replace hx632_2 := (HB.out.cell (World.block_lt_of_cell? w _ hx632_2)).trans hx632_2
     replace hx632_3 := (HB.out.cell (World.block_lt_of_cell? w _ hx632_3)).trans hx632_3
     replace hx632_4 := (HB.out.cell (World.block_lt_of_cell? w _ hx632_4)).trans hx632_4
     replace hx632_5 := (HB.out.cell (World.block_lt_of_cell? w _ hx632_5)).trans hx632_5
     replace hx632_6 := (HB.out.cell (World.block_lt_of_cell? w _ hx632_6)).trans hx632_6
     replace p632 := eq_true p632
     replace q632 := eq_true q632
     go_wp2_with (first | ((with_reducible refine gate_callee (f := 31) rfl ?_); refine goesL_ (some 17) rfl rfl Tryd.func31 (by kernel_rfl) rfl #[.agg #[.string ((rd_T25 l0 x4_1).f0), .int .u8 ((rd_T25 l0 x4_1).f1), .int .i64 ((rd_T25 l0 x4_1).f2), .int .i64 ((rd_T25 l0 x4_1).f3), .int .i64 ((rd_T25 l0 x4_1).f4), .int .i64 ((rd_T25 l0 x4_1).f5), .int .i64 ((rd_T25 l0 x4_1).f6)]] rfl ls ?_; (with_reducible refine (q_Check.calls k1 ((rd_T25 l0 x4_1).f0) ((rd_T25 l0 x4_1).f1) ((rd_T25 l0 x4_1).f2) ((rd_T25 l0 x4_1).f3) ((rd_T25 l0 x4_1).f4) ((rd_T25 l0 x4_1).f5) ((rd_T25 l0 x4_1).f6) t633 _ A4.out).mono ?_); rintro e w7 ⟨rfl, hb⟩; refine ⟨_, rfl, ?_⟩; have n0_ := am (below_step bl hb); clear HB; have HB := n0_; clear n0_; (try clear hb); (try clear hb2); (try clear hk); (try clear hi)))
     go_ret2
     exact ⟨er, bl⟩
    rw [if_pos c5] at H
    have c5b0 : (t633 == 0) = true := beq_iff_eq.mpr c5
    have c5b1 : (t633 != 0) = false := bne_eq_false_iff_eq.mpr c5
    clear c5
    have H' := am H
    clear H
    have p632 : 0 ≤ (x4_1 : Int) := of_decide_eq_true od
    have q632 : x4_1 < (l0.length : Int) := of_decide_eq_true od
    obtain ⟨ad632, e632, hx632_0, hx632_1, hx632_2, hx632_3, hx632_4, hx632_5, hx632_6⟩ := at_T25 HR0.out x4_1 p632 q632
    cases e632
    replace hx632_0 := (HB.out.cell (World.block_lt_of_cell? w _ hx632_0)).trans hx632_0
    replace hx632_1 := (HB.out.cell (World.block_lt_of_cell? w _ hx632_1)).trans hx632_1
    replace hx632_2 := (HB.out.cell (World.block_lt_of_cell? w _ hx632_2)).trans hx632_2
    replace hx632_3 := (HB.out.cell (World.block_lt_of_cell? w _ hx632_3)).trans hx632_3
    replace hx632_4 := (HB.out.cell (World.block_lt_of_cell? w _ hx632_4)).trans hx632_4
    replace hx632_5 := (HB.out.cell (World.block_lt_of_cell? w _ hx632_5)).trans hx632_5
    replace hx632_6 := (HB.out.cell (World.block_lt_of_cell? w _ hx632_6)).trans hx632_6
    replace p632 := eq_true p632
    replace q632 := eq_true q632
    go_wp2_with (first | ((with_reducible refine gate_callee (f := 31) rfl ?_); refine goesL_ (some 17) rfl rfl Tryd.func31 (by kernel_rfl) rfl #[.agg #[.string ((rd_T25 l0 x4_1).f0), .int .u8 ((rd_T25 l0 x4_1).f1), .int .i64 ((rd_T25 l0 x4_1).f2), .int .i64 ((rd_T25 l0 x4_1).f3), .int .i64 ((rd_T25 l0 x4_1).f4), .int .i64 ((rd_T25 l0 x4_1).f5), .int .i64 ((rd_T25 l0 x4_1).f6)]] rfl ls ?_; (with_reducible refine (q_Check.calls k1 ((rd_T25 l0 x4_1).f0) ((rd_T25 l0 x4_1).f1) ((rd_T25 l0 x4_1).f2) ((rd_T25 l0 x4_1).f3) ((rd_T25 l0 x4_1).f4) ((rd_T25 l0 x4_1).f5) ((rd_T25 l0 x4_1).f6) t633 _ A4.out).mono ?_); rintro e w6 ⟨rfl, hb⟩; refine ⟨_, rfl, ?_⟩; have n0_ := am (below_step bl hb); clear HB; have HB := n0_; clear n0_; (try clear hb); (try clear hb2); (try clear hk); (try clear hi)))
    go_roundg k1
    case measure => have := HK1.out; omega
    case rel => exact ⟨(wrap64 (x4_1 + 1)), tv, H', ⟨by have := HK1.out; omega⟩, ⟨bl⟩⟩
   rw [if_neg c2] at H
   have c2b0 := decide_eq_false c2
   clear c2
   obtain ⟨y634, hy634⟩ : ∃ y_ : List Int, y_ = (([] : List Int)) := ⟨_, rfl⟩
   replace H : (q_Print.l1 k1 l0 y634 0) = some (r1, r2) := by first | (rw [hy634]; with_reducible exact H) | (have H2_ := (Option.bind_some _ _).symm.trans H; rw [hy634]; with_reducible exact H2_) | (have H2_ := (Option.bind_some _ _).symm.trans H; with_reducible exact H2_) | with_reducible exact H | (rw [hy634]; exact H) | exact H
   have Ny634 := am hy634
   clear hy634
   have H' := am H
   clear H
   go_wp2_with (first | ((with_reducible refine gate_dst (N := 19) rfl ?_); refine Kd.R_lit (Kd.int .u8) _ 5 ?hg (N := 19) ?hd (xs := ([] : List Int)) (inner := []) (ok := fun _ => True) (okp := fun _ => True) ?hr ?hp (fun _ hk => hk) trivial (Below.refl _ _) (Nat.le_refl _) (by simp) ?_; (case hd => rfl); (case hg => rfl); (case hr => first | (go_simp; done) | (go_simp; rfl)); (case hp => exact (Reps.none _ _)); intro v635 w8 ho9 hb hg_ hnew_; clear hg_ hnew_; (first | rw [← Ny634.out] at ho9 | (simp only [Int.reduceToNat] at ho9; rw [← Ny634.out] at ho9)); have n0_ := am (Kd.R_lower ho9 (below_size bl)); have n1_ := am (below_step bl hb); clear HB; have HO636 := n0_; have HB := n1_; clear n0_ n1_; clear hb ho9))
   go_loopg [5, 6] k1 (fun kq v5 v6 w' => ∃ (x5_2 : List Int) (x6_2 : Int), v6 = .int .i64 x6_2 ∧ Aside0 (q_Print.l1 kq l0 x5_2 x6_2 = some (r1, r2)) ∧ Aside0 (kq ≤ k1) ∧ Aside0 (Kd.R (Kd.int .u8) 5 w' w.heap.size (fun _ => True) v5 x5_2) ∧ Aside0 (Below w.heap.size w w'))
   case atStart => exact ⟨(y634), (0), tv, H', ⟨Nat.le_refl _⟩, ⟨by (with_reducible repeat (first | apply Kd.R_alloc | apply Kd.R_drewN | apply Kd.R_drew)); exact HO636.out⟩, ⟨bl⟩⟩
   case round =>
    clear H'
    try clear c2
    try clear c2b0
    try clear p2
    try clear c3
    try clear c3b0
    try clear c5
    try clear c5b0
    try clear c5b1
    try clear p6
    try clear q6
    try clear hx6
    try clear hx632_0
    try clear hx632_1
    try clear hx632_2
    try clear hx632_3
    try clear hx632_4
    try clear hx632_5
    try clear hx632_6
    try clear p632
    try clear q632
    obtain ⟨x5_2, x6_2, rfl, HA, HK2, HO_5, HB⟩ := hrel
    cases gk with
    | zero => exact absurd HA.out (by simp [q_Print.l1])
    | succ k2 =>
     have H := HA.out
     clear HA
     simp only [q_Print.l1] at H
     by_cases c10 : x6_2 < (l0.length : Int)
     rotate_left
     ·rw [if_neg c10] at H
      have c10b0 := decide_eq_false c10
      clear c10
      simp only [Option.some.injEq, Prod.mk.injEq] at H
      obtain ⟨rfl, rfl⟩ := H
      have hcv21 := own_string (P := Tryd.prog) Tryd.underlying60 Tryd.underlying5 Tryd.underlying9 (Kd.own_of_R HO_5.out)
      go_wp2
      go_ret2
      exact ⟨er, bl⟩
     rw [if_pos c10] at H
     have c10b0 := decide_eq_true c10
     clear c10
     by_cases c11 : 0 ≤ x6_2
     rotate_left
     ·rw [if_neg c11] at H
      exact absurd H (by simp)
     rw [if_pos c11] at H
     have c11b0 := decide_eq_true c11
     clear c11
     replace H := Option.bind_eq_some_iff.mp H
     obtain ⟨t638, A120, H⟩ := H
     replace H : (if x5_2.length + t638.size < 140737488355328 then ((some (x5_2 ++ bytesOf t638 : List Int)).bind fun y639 => (if (y639.length : Int) > 16777216 then (some ((⟨#[]⟩ : ByteArray), 3)) else (q_Print.l1 k2 l0 y639 (wrap64 (x6_2 + 1))))) else (none)) = some (r1, r2) := H
     have A12 := am A120
     clear A120
     by_cases c13 : x5_2.length + t638.size < 140737488355328
     rotate_left
     ·rw [if_neg c13] at H
      exact absurd H (by simp)
     rw [if_pos c13] at H
     have LMc13 := am c13
     clear c13
     obtain ⟨y639, hy639⟩ : ∃ y_ : List Int, y_ = (x5_2 ++ bytesOf t638) := ⟨_, rfl⟩
     replace H : (if (y639.length : Int) > 16777216 then (some ((⟨#[]⟩ : ByteArray), 3)) else (q_Print.l1 k2 l0 y639 (wrap64 (x6_2 + 1)))) = some (r1, r2) := by first | (rw [hy639]; with_reducible exact H) | (have H2_ := (Option.bind_some _ _).symm.trans H; rw [hy639]; with_reducible exact H2_) | (have H2_ := (Option.bind_some _ _).symm.trans H; with_reducible exact H2_) | with_reducible exact H | (rw [hy639]; exact H) | exact H
     have Ny639 := am hy639
     clear hy639
     by_cases c14 : (y639.length : Int) > 16777216
     ·rw [if_pos c14] at H
      have c14b0 : decide (16777216 < (y639.length : Int)) = true := decide_eq_true c14
      have c14b1 : decide (16777216 < y639.length) = true := decide_eq_true (by omega)
      clear c14
      simp only [Option.some.injEq, Prod.mk.injEq] at H
      obtain ⟨rfl, rfl⟩ := H
      have p637 : 0 ≤ (x6_2 : Int) := of_decide_eq_true od
      have q637 : x6_2 < (l0.length : Int) := of_decide_eq_true od
      obtain ⟨ad637, e637, hx637_0, hx637_1, hx637_2, hx637_3, hx637_4, hx637_5, hx637_6⟩ := at_T25 HR0.out x6_2 p637 q637
      cases e637
      replace hx637_0 := (HB.out.cell (World.block_lt_of_cell? w _ hx637_0)).trans hx637_0
      replace hx637_1 := (HB.out.cell (World.block_lt_of_cell? w _ hx637_1)).trans hx637_1
      replace hx637_2 := (HB.out.cell (World.block_lt_of_cell? w _ hx637_2)).trans hx637_2
      replace hx637_3 := (HB.out.cell (World.block_lt_of_cell? w _ hx637_3)).trans hx637_3
      replace hx637_4 := (HB.out.cell (World.block_lt_of_cell? w _ hx637_4)).trans hx637_4
      replace hx637_5 := (HB.out.cell (World.block_lt_of_cell? w _ hx637_5)).trans hx637_5
      replace hx637_6 := (HB.out.cell (World.block_lt_of_cell? w _ hx637_6)).trans hx637_6
      replace p637 := eq_true p637
      replace q637 := eq_true q637
      go_wp2_with (first | ((with_reducible refine gate_callee (f := 50) rfl ?_); refine goesL_ (some 31) rfl rfl Tryd.func50 (by kernel_rfl) rfl #[.agg #[.string ((rd_T25 l0 x6_2).f0), .int .u8 ((rd_T25 l0 x6_2).f1), .int .i64 ((rd_T25 l0 x6_2).f2), .int .i64 ((rd_T25 l0 x6_2).f3), .int .i64 ((rd_T25 l0 x6_2).f4), .int .i64 ((rd_T25 l0 x6_2).f5), .int .i64 ((rd_T25 l0 x6_2).f6)]] rfl ls ?_; (with_reducible refine (q_printed.calls k2 ((rd_T25 l0 x6_2).f0) ((rd_T25 l0 x6_2).f1) ((rd_T25 l0 x6_2).f2) ((rd_T25 l0 x6_2).f3) ((rd_T25 l0 x6_2).f4) ((rd_T25 l0 x6_2).f5) ((rd_T25 l0 x6_2).f6) t638 _ A12.out).mono ?_); rintro e w15 ⟨rfl, hb⟩; refine ⟨_, rfl, ?_⟩; have n0_ := am (Kd.R_below (by (with_reducible repeat (first | apply Kd.R_alloc | apply Kd.R_drewN | apply Kd.R_drew)); exact HO_5.out) hb); have n1_ := am (below_step bl hb); clear HO_5; clear HB; have HO_5 := n0_; have HB := n1_; clear n0_ n1_; (try clear hb); (try clear hb2); (try clear hk); (try clear hi)) | (at_builtin; refine print_append_str (w0 := w) w.heap.size rfl (.tmp 26) _ 60 9 5 rfl Tryd.underlying60 Tryd.underlying9 info5 u5 x5_2 t638 rfl rfl ?aO ?aB ?aS ?aL ?_; (case aB => exact bl); (case aO => exact (Kd.own_of_R (by (with_reducible repeat (first | apply Kd.R_alloc | apply Kd.R_drewN | apply Kd.R_drew)); exact HO_5.out))); (case aS => exact (below_size bl)); (case aL => have := LMc13.out; omega); intro v640 w16 ho0 hb hg; have ho := Kd.R_of_own (h1 := fun _ => rfl) (ok := fun _ => True) ho0 (fun _ _ => trivial); clear ho0; have hat := True.intro; rw [← Ny639.out] at ho; change Kd.R (Kd.int .u8) 5 w16 w.heap.size (fun _ => True) v640 y639 at ho; have n0_ := am (hb); have n1_ := am (ho); clear HB; clear HO_5; have HB := n0_; have HO641 := n1_; clear n0_ n1_; clear ho hb hg hat; obtain ⟨Ao17, co17, eo17⟩ := Kd.R_slice HO641.out; subst eo17))
      go_ret2
      exact ⟨er, bl⟩
     rw [if_neg c14] at H
     have c14b0 : decide (16777216 < (y639.length : Int)) = false := decide_eq_false c14
     have c14b1 : decide (16777216 < y639.length) = false := decide_eq_false (by omega)
     clear c14
     have H' := am H
     clear H
     have p637 : 0 ≤ (x6_2 : Int) := of_decide_eq_true od
     have q637 : x6_2 < (l0.length : Int) := of_decide_eq_true od
     obtain ⟨ad637, e637, hx637_0, hx637_1, hx637_2, hx637_3, hx637_4, hx637_5, hx637_6⟩ := at_T25 HR0.out x6_2 p637 q637
     cases e637
     replace hx637_0 := (HB.out.cell (World.block_lt_of_cell? w _ hx637_0)).trans hx637_0
     replace hx637_1 := (HB.out.cell (World.block_lt_of_cell? w _ hx637_1)).trans hx637_1
     replace hx637_2 := (HB.out.cell (World.block_lt_of_cell? w _ hx637_2)).trans hx637_2
     replace hx637_3 := (HB.out.cell (World.block_lt_of_cell? w _ hx637_3)).trans hx637_3
     replace hx637_4 := (HB.out.cell (World.block_lt_of_cell? w _ hx637_4)).trans hx637_4
     replace hx637_5 := (HB.out.cell (World.block_lt_of_cell? w _ hx637_5)).trans hx637_5
     replace hx637_6 := (HB.out.cell (World.block_lt_of_cell? w _ hx637_6)).trans hx637_6
     replace p637 := eq_true p637
     replace q637 := eq_true q637
     go_wp2_with (first | ((with_reducible refine gate_callee (f := 50) rfl ?_); refine goesL_ (some 31) rfl rfl Tryd.func50 (by kernel_rfl) rfl #[.agg #[.string ((rd_T25 l0 x6_2).f0), .int .u8 ((rd_T25 l0 x6_2).f1), .int .i64 ((rd_T25 l0 x6_2).f2), .int .i64 ((rd_T25 l0 x6_2).f3), .int .i64 ((rd_T25 l0 x6_2).f4), .int .i64 ((rd_T25 l0 x6_2).f5), .int .i64 ((rd_T25 l0 x6_2).f6)]] rfl ls ?_; (with_reducible refine (q_printed.calls k2 ((rd_T25 l0 x6_2).f0) ((rd_T25 l0 x6_2).f1) ((rd_T25 l0 x6_2).f2) ((rd_T25 l0 x6_2).f3) ((rd_T25 l0 x6_2).f4) ((rd_T25 l0 x6_2).f5) ((rd_T25 l0 x6_2).f6) t638 _ A12.out).mono ?_); rintro e w18 ⟨rfl, hb⟩; refine ⟨_, rfl, ?_⟩; have n0_ := am (Kd.R_below (by (with_reducible repeat (first | apply Kd.R_alloc | apply Kd.R_drewN | apply Kd.R_drew)); exact HO_5.out) hb); have n1_ := am (below_step bl hb); clear HO_5; clear HB; have HO_5 := n0_; have HB := n1_; clear n0_ n1_; (try clear hb); (try clear hb2); (try clear hk); (try clear hi)) | (at_builtin; refine print_append_str (w0 := w) w.heap.size rfl (.tmp 26) _ 60 9 5 rfl Tryd.underlying60 Tryd.underlying9 info5 u5 x5_2 t638 rfl rfl ?aO ?aB ?aS ?aL ?_; (case aB => exact bl); (case aO => exact (Kd.own_of_R (by (with_reducible repeat (first | apply Kd.R_alloc | apply Kd.R_drewN | apply Kd.R_drew)); exact HO_5.out))); (case aS => exact (below_size bl)); (case aL => have := LMc13.out; omega); intro v640 w19 ho0 hb hg; have ho := Kd.R_of_own (h1 := fun _ => rfl) (ok := fun _ => True) ho0 (fun _ _ => trivial); clear ho0; have hat := True.intro; rw [← Ny639.out] at ho; change Kd.R (Kd.int .u8) 5 w19 w.heap.size (fun _ => True) v640 y639 at ho; have n0_ := am (hb); have n1_ := am (ho); clear HB; clear HO_5; have HB := n0_; have HO641 := n1_; clear n0_ n1_; clear ho hb hg hat; obtain ⟨Ao20, co20, eo20⟩ := Kd.R_slice HO641.out; subst eo20))
     go_roundg k2
     case measure => have := HK1.out; have := HK2.out; omega
     case rel => exact ⟨(y639), (wrap64 (x6_2 + 1)), tv, H', ⟨by have := HK1.out; have := HK2.out; omega⟩, ⟨by (with_reducible repeat (first | apply Kd.R_alloc | apply Kd.R_drewN | apply Kd.R_drew)); exact HO641.out⟩, ⟨bl⟩⟩
end Go.Proofs.YtlmijjekaelhcaaDoor.EDi
end
section
namespace Go.Proofs.YtlmijjekaelhcaaDoor.EDi
open Go.RowKit Go.Proofs.YtlmijjekaelhcaaDoorW.PrintWords Go.Proofs.YtlmijjekaelhcaaDoorW.PrintLast Go.Proofs.YtlmijjekaelhcaaDoorW.PrintMore
attribute [local go_sem] max2_int min2_int max_two min_two max_three min_three max_four min_four
set_option linter.unusedVariables false
def q_Takes.j0 : Nat → Bool → ByteArray → Int → Int → Int → Int → Int → Int → Option (Int)
 | 0, _, _, _, _, _, _, _, _ => none
 | k + 1, x11, x643000, x643001, x643002, x643003, x643004, x643005, x643006 => if x11 = true then (some 0) else (if x643003 = 2 then (if x643005 = 2 then (some ((1 + 1) + 1)) else (some (1 + 1))) else (if x643005 = 2 then (some (1 + 1)) else (some 1)))
def q_Takes.f (k : Nat) (a0_0 : ByteArray) (a0_1 : Int) (a0_2 : Int) (a0_3 : Int) (a0_4 : Int) (a0_5 : Int) (a0_6 : Int) : Option (Int) := if a0_1 = 0 then (q_Takes.j0 k true a0_0 a0_1 a0_2 a0_3 a0_4 a0_5 a0_6) else (q_Takes.j0 k (a0_1 == 37) a0_0 a0_1 a0_2 a0_3 a0_4 a0_5 a0_6)
theorem q_Takes.mono_l : ∀ k, (∀ y0 y1 y2 y3 y4 y5 y6 y7, LeO (q_Takes.j0 k y0 y1 y2 y3 y4 y5 y6 y7) (q_Takes.j0 (k + 1) y0 y1 y2 y3 y4 y5 y6 y7))
 | 0 => fun _ _ _ _ _ _ _ _ r h => by simp [q_Takes.j0] at h
 | k + 1 => by
  have ih0 := q_Takes.mono_l k
  ·intro y0 y1 y2 y3 y4 y5 y6 y7
   unfold q_Takes.j0
   repeat' first
   | (with_reducible exact ih0 _ _ _ _ _ _ _ _)
   | (with_reducible exact LeO.refl _)
   | (with_reducible exact LeO.none _)
   | (with_reducible refine LeO.ite ?_ ?_)
   | (with_reducible refine LeO.bind ?_ (fun _ => ?_))
   | exact ih0 _ _ _ _ _ _ _ _
   | exact LeO.none _
   | refine LeO.ite ?_ ?_
   | refine LeO.bind ?_ (fun _ => ?_)
theorem q_Takes.mono : ∀ a0 a1 a2 a3 a4 a5 a6 k, LeO (q_Takes.f k a0 a1 a2 a3 a4 a5 a6) (q_Takes.f (k + 1) a0 a1 a2 a3 a4 a5 a6) := by
 intro a0 a1 a2 a3 a4 a5 a6 k
 have ih0 := q_Takes.mono_l k
 unfold q_Takes.f
 repeat' first
   | (with_reducible exact ih0 _ _ _ _ _ _ _ _)
   | (with_reducible exact LeO.refl _)
   | (with_reducible exact LeO.none _)
   | (with_reducible refine LeO.ite ?_ ?_)
   | (with_reducible refine LeO.bind ?_ (fun _ => ?_))
   | exact ih0 _ _ _ _ _ _ _ _
   | exact LeO.none _
   | refine LeO.ite ?_ ?_
   | refine LeO.bind ?_ (fun _ => ?_)
set_option maxHeartbeats 8000000 in
set_option maxRecDepth 100000 in
theorem q_Takes.calls (k : Nat) (a0_0 : ByteArray) (a0_1 : Int) (a0_2 : Int) (a0_3 : Int) (a0_4 : Int) (a0_5 : Int) (a0_6 : Int) (r : Int) (w : World) (h : q_Takes.f k a0_0 a0_1 a0_2 a0_3 a0_4 a0_5 a0_6 = some r) :
  Calls Tryd.prog 51 #[.agg #[.string a0_0, .int .u8 a0_1, .int .i64 a0_2, .int .i64 a0_3, .int .i64 a0_4, .int .i64 a0_5, .int .i64 a0_6]] w fun e w' => e = .returned (.int .i64 r) ∧ Below w.heap.size w w' := by
 have hu25 := Tryd.underlying25
 have HB := am (Below.refl w.heap.size w)
 have H : (if a0_1 = 0 then (q_Takes.j0 k true a0_0 a0_1 a0_2 a0_3 a0_4 a0_5 a0_6) else (q_Takes.j0 k (a0_1 == 37) a0_0 a0_1 a0_2 a0_3 a0_4 a0_5 a0_6)) = some r := h
 clear h
 have HC2 := am H
 clear H
 go_enter Tryd.func51, Tryd.ntmps51
 go_upto_region 1 with (first | ((with_reducible refine gate_dst (N := 1) rfl ?_); refine box_event ?hg (N := 1) ?hd (cs := #[.string a0_0, .int .u8 a0_1, .int .i64 a0_2, .int .i64 a0_3, .int .i64 a0_4, .int .i64 a0_5, .int .i64 a0_6]) (t := 25) ?hr ?_; (case hd => rfl); (case hg => rfl); (case hr => first | (go_simp; done) | (go_simp; rfl)); intro gb642 hg w3 hbox hb; have n0_ := am (below_step bl hb); have n1_ := am (hbox); have n2_ := am ((by rw [hg]; exact (below_size bl) : w.heap.size ≤ gb642)); have n3_ := n2_; clear HB; have HB := n0_; have BK642 := n1_; have GW642 := n2_; have GE642 := n3_; clear n0_ n1_ n2_ n3_; clear hb hbox hg))
 (try simp only [Act.put, List.setIfInBounds_toArray, List.set_cons_zero, List.set_cons_succ])
 go_cut [11] (fun v11 wc => ∃ (kq : Nat) (x11_1 : Bool), v11 = .bool x11_1 ∧ Aside0 (q_Takes.j0 kq x11_1 a0_0 a0_1 a0_2 a0_3 a0_4 a0_5 a0_6 = some r) ∧ Aside0 (kq ≤ k) ∧ Aside0 (wc.heap[gb642]? = some (.cells #[.string a0_0, .int .u8 a0_1, .int .i64 a0_2, .int .i64 a0_3, .int .i64 a0_4, .int .i64 a0_5, .int .i64 a0_6] 25 (0, 0))) ∧ Aside0 (Below w.heap.size w wc))
 case first =>
  have H := HC2.out
  clear HC2
  by_cases c4 : a0_1 = 0
  rotate_left
  ·rw [if_neg c4] at H
   have c4b0 : (a0_1 == 0) = false := beq_eq_false_iff_ne.mpr c4
   have c4b1 : (a0_1 != 0) = true := bne_iff_ne.mpr c4
   (first | rw [c4b0] | (simp only [i64_w, i32_w]; rw [c4b0]) | skip)
   have H' := am H
   clear H
   obtain ⟨⟨hcz6_0, hcz6_1, hcz6_2, hcz6_3, hcz6_4, hcz6_5, hcz6_6⟩, hfz6_0, hfz6_1, hfz6_2, hfz6_3, hfz6_4, hfz6_5, hfz6_6⟩ := blkAll7 BK642
   go_wp2
   go_meet
   case rel => exact ⟨_, ((a0_1 == 37)), tv, H', ⟨by first | omega | exact Nat.le_refl _⟩, ⟨by refine bu ?_; exact BK642.out⟩, ⟨bs⟩⟩
  rw [if_pos c4] at H
  have c4b0 : (a0_1 == 0) = true := beq_iff_eq.mpr c4
  have c4b1 : (a0_1 != 0) = false := bne_eq_false_iff_eq.mpr c4
  clear c4
  (first | rw [c4b0] | (simp only [i64_w, i32_w]; rw [c4b0]) | skip)
  have H' := am H
  clear H
  obtain ⟨⟨hcz5_0, hcz5_1, hcz5_2, hcz5_3, hcz5_4, hcz5_5, hcz5_6⟩, hfz5_0, hfz5_1, hfz5_2, hfz5_3, hfz5_4, hfz5_5, hfz5_6⟩ := blkAll7 BK642
  go_wp2
  go_meet
  case rel => exact ⟨_, (true), tv, H', ⟨by first | omega | exact Nat.le_refl _⟩, ⟨by refine bu ?_; exact BK642.out⟩, ⟨bs⟩⟩
 case rest =>
  clear HC2
  try clear p2
  try clear c4
  try clear c4b0
  try clear c4b1
  try clear c5
  try clear hcz5_0 hcz5_1 hcz5_2 hcz5_3 hcz5_4 hcz5_5 hcz5_6
  try clear hcz6_0 hcz6_1 hcz6_2 hcz6_3 hcz6_4 hcz6_5 hcz6_6
  try clear hfz5_0 hfz5_1 hfz5_2 hfz5_3 hfz5_4 hfz5_5 hfz5_6
  try clear hfz6_0 hfz6_1 hfz6_2 hfz6_3 hfz6_4 hfz6_5 hfz6_6
  obtain ⟨kq, x11_1, rfl, HA, HJ1, BK642, HB⟩ := hcut
  cases kq with
  | zero => exact absurd HA.out (by simp [q_Takes.j0])
  | succ kj1 =>
   have H := HA.out
   clear HA
   simp only [q_Takes.j0] at H
   by_cases c7 : x11_1 = true
   ·subst c7
    have H1 : (some 0) = some r := by rw [if_pos rfl] at H; exact H
    clear H
    have H := H1
    clear H1
    obtain rfl := Option.some.inj H
    go_wp2
    go_ret
    exact ⟨er, bs⟩
   replace c7 := Bool.eq_false_iff.mpr c7
   subst c7
   have H1 : (if a0_3 = 2 then (if a0_5 = 2 then (some ((1 + 1) + 1)) else (some (1 + 1))) else (if a0_5 = 2 then (some (1 + 1)) else (some 1))) = some r := by rw [if_neg (show ¬ (false = true) by decide)] at H; exact H
   clear H
   have H := H1
   clear H1
   by_cases c8 : a0_3 = 2
   rotate_left
   ·rw [if_neg c8] at H
    have c8b0 : (a0_3 == 2) = false := beq_eq_false_iff_ne.mpr c8
    have c8b1 : (a0_3 != 2) = true := bne_iff_ne.mpr c8
    by_cases c12 : a0_5 = 2
    rotate_left
    ·rw [if_neg c12] at H
     have c12b0 : (a0_5 == 2) = false := beq_eq_false_iff_ne.mpr c12
     have c12b1 : (a0_5 != 2) = true := bne_iff_ne.mpr c12
     obtain rfl := Option.some.inj H
     obtain ⟨⟨hcz14_0, hcz14_1, hcz14_2, hcz14_3, hcz14_4, hcz14_5, hcz14_6⟩, hfz14_0, hfz14_1, hfz14_2, hfz14_3, hfz14_4, hfz14_5, hfz14_6⟩ := blkAll7 BK642
     go_wp2
     go_ret
     exact ⟨er, bs⟩
    rw [if_pos c12] at H
    have c12b0 : (a0_5 == 2) = true := beq_iff_eq.mpr c12
    have c12b1 : (a0_5 != 2) = false := bne_eq_false_iff_eq.mpr c12
    clear c12
    obtain rfl := Option.some.inj H
    obtain ⟨⟨hcz13_0, hcz13_1, hcz13_2, hcz13_3, hcz13_4, hcz13_5, hcz13_6⟩, hfz13_0, hfz13_1, hfz13_2, hfz13_3, hfz13_4, hfz13_5, hfz13_6⟩ := blkAll7 BK642
    go_wp2
    go_ret
    exact ⟨er, bs⟩
   rw [if_pos c8] at H
   have c8b0 : (a0_3 == 2) = true := beq_iff_eq.mpr c8
   have c8b1 : (a0_3 != 2) = false := bne_eq_false_iff_eq.mpr c8
   clear c8
   by_cases c9 : a0_5 = 2
   rotate_left
   ·rw [if_neg c9] at H
    have c9b0 : (a0_5 == 2) = false := beq_eq_false_iff_ne.mpr c9
    have c9b1 : (a0_5 != 2) = true := bne_iff_ne.mpr c9
    obtain rfl := Option.some.inj H
    obtain ⟨⟨hcz11_0, hcz11_1, hcz11_2, hcz11_3, hcz11_4, hcz11_5, hcz11_6⟩, hfz11_0, hfz11_1, hfz11_2, hfz11_3, hfz11_4, hfz11_5, hfz11_6⟩ := blkAll7 BK642
    go_wp2
    go_ret
    exact ⟨er, bs⟩
   rw [if_pos c9] at H
   have c9b0 : (a0_5 == 2) = true := beq_iff_eq.mpr c9
   have c9b1 : (a0_5 != 2) = false := bne_eq_false_iff_eq.mpr c9
   clear c9
   obtain rfl := Option.some.inj H
   obtain ⟨⟨hcz10_0, hcz10_1, hcz10_2, hcz10_3, hcz10_4, hcz10_5, hcz10_6⟩, hfz10_0, hfz10_1, hfz10_2, hfz10_3, hfz10_4, hfz10_5, hfz10_6⟩ := blkAll7 BK642
   go_wp2
   go_ret
   exact ⟨er, bs⟩
end Go.Proofs.YtlmijjekaelhcaaDoor.EDi
end
section
namespace Go.Proofs.YtlmijjekaelhcaaDoor.EDi
open Go.RowKit Go.Proofs.YtlmijjekaelhcaaDoorW.PrintWords Go.Proofs.YtlmijjekaelhcaaDoorW.PrintLast Go.Proofs.YtlmijjekaelhcaaDoorW.PrintMore
attribute [local go_sem] max2_int min2_int max_two min_two max_three min_three max_four min_four
set_option linter.unusedVariables false
def q_Wants.l0 : Nat → List (S25) → Int → Int → Option (Int)
 | 0, _, _, _ => none
 | k + 1, x0, x3, x4 => if x4 < (x0.length : Int) then (if 0 ≤ x4 then ((q_Takes.f k ((rd_T25 x0 x4).f0) ((rd_T25 x0 x4).f1) ((rd_T25 x0 x4).f2) ((rd_T25 x0 x4).f3) ((rd_T25 x0 x4).f4) ((rd_T25 x0 x4).f5) ((rd_T25 x0 x4).f6)).bind fun t644 => (q_Wants.l0 k x0 (wrap64 (x3 + t644)) (wrap64 (x4 + 1)))) else (none)) else (some x3)
def q_Wants.f (k : Nat) (l0 : List (S25)) : Option (Int) := q_Wants.l0 k l0 0 0
theorem q_Wants.mono_l : ∀ k, (∀ y0 y1 y2, LeO (q_Wants.l0 k y0 y1 y2) (q_Wants.l0 (k + 1) y0 y1 y2))
 | 0 => fun _ _ _ r h => by simp [q_Wants.l0] at h
 | k + 1 => by
  have ih0 := q_Wants.mono_l k
  ·intro y0 y1 y2
   unfold q_Wants.l0
   repeat' first
   | (with_reducible exact ih0 _ _ _)
   | (with_reducible exact q_Takes.mono _ _ _ _ _ _ _ _)
   | (with_reducible exact LeO.refl _)
   | (with_reducible exact LeO.none _)
   | (with_reducible refine LeO.ite ?_ ?_)
   | (with_reducible refine LeO.bind ?_ (fun _ => ?_))
   | exact ih0 _ _ _
   | exact q_Takes.mono _ _ _ _ _ _ _ _
   | exact LeO.none _
   | refine LeO.ite ?_ ?_
   | refine LeO.bind ?_ (fun _ => ?_)
theorem q_Wants.mono : ∀ a0 k, LeO (q_Wants.f k a0) (q_Wants.f (k + 1) a0) := by
 intro a0 k
 have ih0 := q_Wants.mono_l k
 unfold q_Wants.f
 repeat' first
   | (with_reducible exact ih0 _ _ _)
   | (with_reducible exact q_Takes.mono _ _ _ _ _ _ _ _)
   | (with_reducible exact LeO.refl _)
   | (with_reducible exact LeO.none _)
   | (with_reducible refine LeO.ite ?_ ?_)
   | (with_reducible refine LeO.bind ?_ (fun _ => ?_))
   | exact ih0 _ _ _
   | exact q_Takes.mono _ _ _ _ _ _ _ _
   | exact LeO.none _
   | refine LeO.ite ?_ ?_
   | refine LeO.bind ?_ (fun _ => ?_)
set_option maxHeartbeats 8000000 in
set_option maxRecDepth 100000 in
theorem q_Wants.calls (k : Nat) (A0 : Option Addr) (c0 : Nat) (l0 : List (S25)) (r : Int) (w : World) (hr0 : Kd.C k25 w A0 l0.length l0) (hc0 : l0.length ≤ c0) (h : q_Wants.f k l0 = some r) :
  Calls Tryd.prog 33 #[.slice A0 l0.length c0] w fun e w' => e = .returned (.int .i64 r) ∧ Below w.heap.size w w' := by
 have hu25 := Tryd.underlying25
 have HR0 := am hr0
 have HC0 := am hc0
 clear hr0 hc0
 have HB := am (Below.refl w.heap.size w)
 have H : (q_Wants.l0 k l0 0 0) = some r := h
 clear h
 have H' := am H
 clear H
 go_enter Tryd.func33, Tryd.ntmps33
 go_wp2
 go_loopg [3, 4] k (fun kq v3 v4 w' => ∃ (x3_1 : Int) (x4_1 : Int), v3 = .int .i64 x3_1 ∧ v4 = .int .i64 x4_1 ∧ Aside0 (q_Wants.l0 kq l0 x3_1 x4_1 = some r) ∧ Aside0 (kq ≤ k) ∧ Aside0 (Below w.heap.size w w'))
 case atStart => exact ⟨(0), (0), tv, tv, H', ⟨Nat.le_refl _⟩, ⟨bl⟩⟩
 case round =>
  clear H'
  obtain ⟨x3_1, x4_1, rfl, rfl, HA, HK1, HB⟩ := hrel
  cases gk with
  | zero => exact absurd HA.out (by simp [q_Wants.l0])
  | succ k1 =>
   have H := HA.out
   clear HA
   simp only [q_Wants.l0] at H
   by_cases c2 : x4_1 < (l0.length : Int)
   rotate_left
   ·rw [if_neg c2] at H
    have c2b0 := decide_eq_false c2
    clear c2
    obtain rfl := Option.some.inj H
    go_wp2
    go_ret
    exact ⟨er, bl⟩
   rw [if_pos c2] at H
   have c2b0 := decide_eq_true c2
   clear c2
   by_cases c3 : 0 ≤ x4_1
   rotate_left
   ·rw [if_neg c3] at H
    exact absurd H (by simp)
   rw [if_pos c3] at H
   have c3b0 := decide_eq_true c3
   clear c3
   replace H := Option.bind_eq_some_iff.mp H
   obtain ⟨t644, A40, H⟩ := H
   replace H : (q_Wants.l0 k1 l0 (wrap64 (x3_1 + t644)) (wrap64 (x4_1 + 1))) = some r := H
   have A4 := am A40
   clear A40
   have H' := am H
   clear H
   have p643 : 0 ≤ (x4_1 : Int) := of_decide_eq_true od
   have q643 : x4_1 < (l0.length : Int) := of_decide_eq_true od
   obtain ⟨ad643, e643, hx643_0, hx643_1, hx643_2, hx643_3, hx643_4, hx643_5, hx643_6⟩ := at_T25 HR0.out x4_1 p643 q643
   cases e643
   replace hx643_0 := (HB.out.cell (World.block_lt_of_cell? w _ hx643_0)).trans hx643_0
   replace hx643_1 := (HB.out.cell (World.block_lt_of_cell? w _ hx643_1)).trans hx643_1
   replace hx643_2 := (HB.out.cell (World.block_lt_of_cell? w _ hx643_2)).trans hx643_2
   replace hx643_3 := (HB.out.cell (World.block_lt_of_cell? w _ hx643_3)).trans hx643_3
   replace hx643_4 := (HB.out.cell (World.block_lt_of_cell? w _ hx643_4)).trans hx643_4
   replace hx643_5 := (HB.out.cell (World.block_lt_of_cell? w _ hx643_5)).trans hx643_5
   replace hx643_6 := (HB.out.cell (World.block_lt_of_cell? w _ hx643_6)).trans hx643_6
   replace p643 := eq_true p643
   replace q643 := eq_true q643
   go_wp2_with (first | ((with_reducible refine gate_callee (f := 51) rfl ?_); refine goesL_ (some 16) rfl rfl Tryd.func51 (by kernel_rfl) rfl #[.agg #[.string ((rd_T25 l0 x4_1).f0), .int .u8 ((rd_T25 l0 x4_1).f1), .int .i64 ((rd_T25 l0 x4_1).f2), .int .i64 ((rd_T25 l0 x4_1).f3), .int .i64 ((rd_T25 l0 x4_1).f4), .int .i64 ((rd_T25 l0 x4_1).f5), .int .i64 ((rd_T25 l0 x4_1).f6)]] rfl ls ?_; (with_reducible refine (q_Takes.calls k1 ((rd_T25 l0 x4_1).f0) ((rd_T25 l0 x4_1).f1) ((rd_T25 l0 x4_1).f2) ((rd_T25 l0 x4_1).f3) ((rd_T25 l0 x4_1).f4) ((rd_T25 l0 x4_1).f5) ((rd_T25 l0 x4_1).f6) t644 _ A4.out).mono ?_); rintro e w5 ⟨rfl, hb⟩; refine ⟨_, rfl, ?_⟩; have n0_ := am (below_step bl hb); clear HB; have HB := n0_; clear n0_; (try clear hb); (try clear hb2); (try clear hk); (try clear hi)))
   go_roundg k1
   case measure => have := HK1.out; omega
   case rel => exact ⟨(wrap64 (x3_1 + t644)), (wrap64 (x4_1 + 1)), tv, tv, H', ⟨by have := HK1.out; omega⟩, ⟨bl⟩⟩
end Go.Proofs.YtlmijjekaelhcaaDoor.EDi
end
