/-
 A text of this session's own.
-/
import Derived.Test.YtlmijjekaelhcaaDoorExA0
import Derived.Test.YtlmijjekaelhcaaDoorExEDpx0
namespace Go.Proofs.YtlmijjekaelhcaaDoor.EDi
open Go.RowKit Go.Proofs.YtlmijjekaelhcaaDoorW.PrintWords Go.Proofs.YtlmijjekaelhcaaDoorW.PrintLast Go.Proofs.YtlmijjekaelhcaaDoorW.PrintMore
attribute [local go_sem] max2_int min2_int max_two min_two max_three min_three max_four min_four
set_option linter.unusedVariables false
def q_plain.l0 : Nat → List (S25) → List Int → Int → Option (ByteArray)
 | 0, _, _, _ => none
 | k + 1, x0, x3, x4 => if x4 < (x0.length : Int) then (if 0 ≤ x4 then (if ((rd_T25 x0 x4).f1) = 37 then (if x3.length < 140737488355328 then (q_plain.l0 k x0 (x3 ++ [37]) (wrap64 (x4 + 1))) else (none)) else (if x3.length + ((rd_T25 x0 x4).f0).size < 140737488355328 then (q_plain.l0 k x0 (x3 ++ bytesOf ((rd_T25 x0 x4).f0)) (wrap64 (x4 + 1))) else (none))) else (none)) else (some (strOfNums x3))
def q_plain.f (k : Nat) (l0 : List (S25)) : Option (ByteArray) := q_plain.l0 k l0 (([] : List Int)) 0
theorem q_plain.mono_l : ∀ k, (∀ y0 y1 y2, LeO (q_plain.l0 k y0 y1 y2) (q_plain.l0 (k + 1) y0 y1 y2))
 | 0 => fun _ _ _ r h => by simp [q_plain.l0] at h
 | k + 1 => by
  have ih0 := q_plain.mono_l k
  ·intro y0 y1 y2
   unfold q_plain.l0
   repeat' first
   | (with_reducible exact ih0 _ _ _)
   | (with_reducible exact LeO.refl _)
   | (with_reducible exact LeO.none _)
   | (with_reducible refine LeO.ite ?_ ?_)
   | (with_reducible refine LeO.bind ?_ (fun _ => ?_))
   | exact ih0 _ _ _
   | exact LeO.none _
   | refine LeO.ite ?_ ?_
   | refine LeO.bind ?_ (fun _ => ?_)
theorem q_plain.mono : ∀ a0 k, LeO (q_plain.f k a0) (q_plain.f (k + 1) a0) := by
 intro a0 k
 have ih0 := q_plain.mono_l k
 unfold q_plain.f
 repeat' first
   | (with_reducible exact ih0 _ _ _)
   | (with_reducible exact LeO.refl _)
   | (with_reducible exact LeO.none _)
   | (with_reducible refine LeO.ite ?_ ?_)
   | (with_reducible refine LeO.bind ?_ (fun _ => ?_))
   | exact ih0 _ _ _
   | exact LeO.none _
   | refine LeO.ite ?_ ?_
   | refine LeO.bind ?_ (fun _ => ?_)
set_option maxHeartbeats 8000000 in
set_option maxRecDepth 100000 in
theorem q_plain.calls (k : Nat) (A0 : Option Addr) (c0 : Nat) (l0 : List (S25)) (r : ByteArray) (w : World) (hr0 : Kd.C k25 w A0 l0.length l0) (hc0 : l0.length ≤ c0) (h : q_plain.f k l0 = some r) :
  Calls Tryd.prog 52 #[.slice A0 l0.length c0] w fun e w' => e = .returned (.string r) ∧ Below w.heap.size w w' := by
 have HR0 := am hr0
 have HC0 := am hc0
 clear hr0 hc0
 have HB := am (Below.refl w.heap.size w)
 have H : (q_plain.l0 k l0 (([] : List Int)) 0) = some r := h
 clear h
 obtain ⟨y649, hy649⟩ : ∃ y_ : List Int, y_ = (([] : List Int)) := ⟨_, rfl⟩
 replace H : (q_plain.l0 k l0 y649 0) = some r := by first | (rw [hy649]; with_reducible exact H) | (have H2_ := (Option.bind_some _ _).symm.trans H; rw [hy649]; with_reducible exact H2_) | (have H2_ := (Option.bind_some _ _).symm.trans H; with_reducible exact H2_) | with_reducible exact H | (rw [hy649]; exact H) | exact H
 have Ny649 := am hy649
 clear hy649
 have H' := am H
 clear H
 go_enter Tryd.func52, Tryd.ntmps52
 go_wp2_with (first | ((with_reducible refine gate_dst (N := 5) rfl ?_); refine Kd.R_lit (Kd.int .u8) _ 5 ?hg (N := 5) ?hd (xs := ([] : List Int)) (inner := []) (ok := fun _ => True) (okp := fun _ => True) ?hr ?hp (fun _ hk => hk) trivial (Below.refl _ _) (Nat.le_refl _) (by simp) ?_; (case hd => rfl); (case hg => rfl); (case hr => first | (go_simp; done) | (go_simp; rfl)); (case hp => exact (Reps.none _ _)); intro v650 w2 ho3 hb hg_ hnew_; clear hg_ hnew_; (first | rw [← Ny649.out] at ho3 | (simp only [Int.reduceToNat] at ho3; rw [← Ny649.out] at ho3)); have n0_ := am (Kd.R_lower ho3 (below_size bl)); have n1_ := am (below_step bl hb); clear HB; have HO651 := n0_; have HB := n1_; clear n0_ n1_; clear hb ho3))
 go_loopg [3, 4] k (fun kq v3 v4 w' => ∃ (x3_1 : List Int) (x4_1 : Int), v4 = .int .i64 x4_1 ∧ Aside0 (q_plain.l0 kq l0 x3_1 x4_1 = some r) ∧ Aside0 (kq ≤ k) ∧ Aside0 (Kd.R (Kd.int .u8) 5 w' w.heap.size (fun _ => True) v3 x3_1) ∧ Aside0 (Below w.heap.size w w'))
 case atStart => exact ⟨(y649), (0), tv, H', ⟨Nat.le_refl _⟩, ⟨by (with_reducible repeat (first | apply Kd.R_alloc | apply Kd.R_drewN | apply Kd.R_drew)); exact HO651.out⟩, ⟨bl⟩⟩
 case round =>
  clear H'
  try clear p2
  obtain ⟨x3_1, x4_1, rfl, HA, HK1, HO_3, HB⟩ := hrel
  cases gk with
  | zero => exact absurd HA.out (by simp [q_plain.l0])
  | succ k1 =>
   have H := HA.out
   clear HA
   simp only [q_plain.l0] at H
   by_cases c4 : x4_1 < (l0.length : Int)
   rotate_left
   ·rw [if_neg c4] at H
    have c4b0 := decide_eq_false c4
    clear c4
    obtain rfl := Option.some.inj H
    have hcv11 := own_string (P := Tryd.prog) Tryd.underlying60 Tryd.underlying5 Tryd.underlying9 (Kd.own_of_R HO_3.out)
    go_wp2
    go_ret
    exact ⟨er, bl⟩
   rw [if_pos c4] at H
   have c4b0 := decide_eq_true c4
   clear c4
   by_cases c5 : 0 ≤ x4_1
   rotate_left
   ·rw [if_neg c5] at H
    exact absurd H (by simp)
   rw [if_pos c5] at H
   have c5b0 := decide_eq_true c5
   clear c5
   by_cases c6 : ((rd_T25 l0 x4_1).f1) = 37
   ·rw [if_pos c6] at H
    have c6b0 : (((rd_T25 l0 x4_1).f1) == 37) = true := beq_iff_eq.mpr c6
    have c6b1 : (((rd_T25 l0 x4_1).f1) != 37) = false := bne_eq_false_iff_eq.mpr c6
    clear c6
    by_cases c7 : x3_1.length < 140737488355328
    rotate_left
    ·rw [if_neg c7] at H
     exact absurd H (by simp)
    rw [if_pos c7] at H
    have LMc7 := am c7
    clear c7
    obtain ⟨y653, hy653⟩ : ∃ y_ : List Int, y_ = (x3_1 ++ [37]) := ⟨_, rfl⟩
    replace H : (q_plain.l0 k1 l0 y653 (wrap64 (x4_1 + 1))) = some r := by first | (rw [hy653]; with_reducible exact H) | (have H2_ := (Option.bind_some _ _).symm.trans H; rw [hy653]; with_reducible exact H2_) | (have H2_ := (Option.bind_some _ _).symm.trans H; with_reducible exact H2_) | with_reducible exact H | (rw [hy653]; exact H) | exact H
    have Ny653 := am hy653
    clear hy653
    have H' := am H
    clear H
    have p652 : 0 ≤ (x4_1 : Int) := of_decide_eq_true od
    have q652 : x4_1 < (l0.length : Int) := of_decide_eq_true od
    obtain ⟨ad652, e652, hx652_0, hx652_1, hx652_2, hx652_3, hx652_4, hx652_5, hx652_6⟩ := at_T25 HR0.out x4_1 p652 q652
    cases e652
    replace hx652_0 := (HB.out.cell (World.block_lt_of_cell? w _ hx652_0)).trans hx652_0
    replace hx652_1 := (HB.out.cell (World.block_lt_of_cell? w _ hx652_1)).trans hx652_1
    replace hx652_2 := (HB.out.cell (World.block_lt_of_cell? w _ hx652_2)).trans hx652_2
    replace hx652_3 := (HB.out.cell (World.block_lt_of_cell? w _ hx652_3)).trans hx652_3
    replace hx652_4 := (HB.out.cell (World.block_lt_of_cell? w _ hx652_4)).trans hx652_4
    replace hx652_5 := (HB.out.cell (World.block_lt_of_cell? w _ hx652_5)).trans hx652_5
    replace hx652_6 := (HB.out.cell (World.block_lt_of_cell? w _ hx652_6)).trans hx652_6
    replace p652 := eq_true p652
    replace q652 := eq_true q652
    go_wp2_with (first | ((with_reducible refine gate_builtin (b := .append) (xs := #[.tmp 18, .tmp 19]) rfl ?_); at_builtin; refine Kd.R_append (Kd.int .u8) (w0 := w) w.heap.size rfl (.tmp 18) (.tmp 19) 60 5 (.int .u8 0) 1 rfl Tryd.underlying60 info5 rfl (by decide) (by omega) u3 x3_1 37 [.int .u8 37] (fun _ => True) (fun _ => False) rfl rfl ?aP (fun _ hk => hk.elim) ?aF ?aO ?aB ?aS ?aL ?_; (case aP => exact rfl); (case aB => exact bl); (case aF => exact (fun _ _ => trivial)); (case aO => exact (by (with_reducible repeat (first | apply Kd.R_alloc | apply Kd.R_drewN | apply Kd.R_drew)); exact HO_3.out)); (case aS => exact (below_size bl)); (case aL => have := LMc7.out; omega); intro v654 w8 ho hb hg hat; rw [← Ny653.out] at ho; have n0_ := am (hb); have n1_ := am (ho); clear HB; clear HO_3; have HB := n0_; have HO655 := n1_; clear n0_ n1_; clear ho hb hg hat))
    go_roundg k1
    case measure => have := HK1.out; omega
    case rel => exact ⟨(y653), (wrap64 (x4_1 + 1)), tv, H', ⟨by have := HK1.out; omega⟩, ⟨by (with_reducible repeat (first | apply Kd.R_alloc | apply Kd.R_drewN | apply Kd.R_drew)); exact HO655.out⟩, ⟨bl⟩⟩
   rw [if_neg c6] at H
   have c6b0 : (((rd_T25 l0 x4_1).f1) == 37) = false := beq_eq_false_iff_ne.mpr c6
   have c6b1 : (((rd_T25 l0 x4_1).f1) != 37) = true := bne_iff_ne.mpr c6
   by_cases c9 : x3_1.length + ((rd_T25 l0 x4_1).f0).size < 140737488355328
   rotate_left
   ·rw [if_neg c9] at H
    exact absurd H (by simp)
   rw [if_pos c9] at H
   have LMc9 := am c9
   clear c9
   obtain ⟨y657, hy657⟩ : ∃ y_ : List Int, y_ = (x3_1 ++ bytesOf ((rd_T25 l0 x4_1).f0)) := ⟨_, rfl⟩
   replace H : (q_plain.l0 k1 l0 y657 (wrap64 (x4_1 + 1))) = some r := by first | (rw [hy657]; with_reducible exact H) | (have H2_ := (Option.bind_some _ _).symm.trans H; rw [hy657]; with_reducible exact H2_) | (have H2_ := (Option.bind_some _ _).symm.trans H; with_reducible exact H2_) | with_reducible exact H | (rw [hy657]; exact H) | exact H
   have Ny657 := am hy657
   clear hy657
   have H' := am H
   clear H
   have p652 : 0 ≤ (x4_1 : Int) := of_decide_eq_true od
   have q652 : x4_1 < (l0.length : Int) := of_decide_eq_true od
   obtain ⟨ad652, e652, hx652_0, hx652_1, hx652_2, hx652_3, hx652_4, hx652_5, hx652_6⟩ := at_T25 HR0.out x4_1 p652 q652
   cases e652
   replace hx652_0 := (HB.out.cell (World.block_lt_of_cell? w _ hx652_0)).trans hx652_0
   replace hx652_1 := (HB.out.cell (World.block_lt_of_cell? w _ hx652_1)).trans hx652_1
   replace hx652_2 := (HB.out.cell (World.block_lt_of_cell? w _ hx652_2)).trans hx652_2
   replace hx652_3 := (HB.out.cell (World.block_lt_of_cell? w _ hx652_3)).trans hx652_3
   replace hx652_4 := (HB.out.cell (World.block_lt_of_cell? w _ hx652_4)).trans hx652_4
   replace hx652_5 := (HB.out.cell (World.block_lt_of_cell? w _ hx652_5)).trans hx652_5
   replace hx652_6 := (HB.out.cell (World.block_lt_of_cell? w _ hx652_6)).trans hx652_6
   replace p652 := eq_true p652
   replace q652 := eq_true q652
   have p656 : 0 ≤ (x4_1 : Int) := of_decide_eq_true od
   have q656 : x4_1 < (l0.length : Int) := of_decide_eq_true od
   obtain ⟨ad656, e656, hx656_0, hx656_1, hx656_2, hx656_3, hx656_4, hx656_5, hx656_6⟩ := at_T25 HR0.out x4_1 p656 q656
   obtain rfl : ad652 = ad656 := (by injection e656)
   replace hx656_0 := (HB.out.cell (World.block_lt_of_cell? w _ hx656_0)).trans hx656_0
   replace hx656_1 := (HB.out.cell (World.block_lt_of_cell? w _ hx656_1)).trans hx656_1
   replace hx656_2 := (HB.out.cell (World.block_lt_of_cell? w _ hx656_2)).trans hx656_2
   replace hx656_3 := (HB.out.cell (World.block_lt_of_cell? w _ hx656_3)).trans hx656_3
   replace hx656_4 := (HB.out.cell (World.block_lt_of_cell? w _ hx656_4)).trans hx656_4
   replace hx656_5 := (HB.out.cell (World.block_lt_of_cell? w _ hx656_5)).trans hx656_5
   replace hx656_6 := (HB.out.cell (World.block_lt_of_cell? w _ hx656_6)).trans hx656_6
   replace p656 := eq_true p656
   replace q656 := eq_true q656
   go_wp2_with (first | (at_builtin; refine print_append_str (w0 := w) w.heap.size rfl (.tmp 21) _ 60 9 5 rfl Tryd.underlying60 Tryd.underlying9 info5 u3 x3_1 ((rd_T25 l0 x4_1).f0) rfl rfl ?aO ?aB ?aS ?aL ?_; (case aB => exact bl); (case aO => exact (Kd.own_of_R (by (with_reducible repeat (first | apply Kd.R_alloc | apply Kd.R_drewN | apply Kd.R_drew)); exact HO_3.out))); (case aS => exact (below_size bl)); (case aL => have := LMc9.out; omega); intro v658 w10 ho0 hb hg; have ho := Kd.R_of_own (h1 := fun _ => rfl) (ok := fun _ => True) ho0 (fun _ _ => trivial); clear ho0; have hat := True.intro; rw [← Ny657.out] at ho; change Kd.R (Kd.int .u8) 5 w10 w.heap.size (fun _ => True) v658 y657 at ho; have n0_ := am (hb); have n1_ := am (ho); clear HB; clear HO_3; have HB := n0_; have HO659 := n1_; clear n0_ n1_; clear ho hb hg hat))
   go_roundg k1
   case measure => have := HK1.out; omega
   case rel => exact ⟨(y657), (wrap64 (x4_1 + 1)), tv, H', ⟨by have := HK1.out; omega⟩, ⟨by (with_reducible repeat (first | apply Kd.R_alloc | apply Kd.R_drewN | apply Kd.R_drew)); exact HO659.out⟩, ⟨bl⟩⟩
end Go.Proofs.YtlmijjekaelhcaaDoor.EDi
