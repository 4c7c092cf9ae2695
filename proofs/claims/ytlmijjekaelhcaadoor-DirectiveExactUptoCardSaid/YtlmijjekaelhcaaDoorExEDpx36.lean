/-
  Several texts of this session's own in one: EDpx34 EDpx35 EDpx36.
-/
import Derived.Test.YtlmijjekaelhcaaDoorExA0
import Derived.Test.YtlmijjekaelhcaaDoorExEDpx0
import Derived.Test.YtlmijjekaelhcaaDoorExXMk
section
namespace Go.Proofs.YtlmijjekaelhcaaDoor.EDi
open Go.Proofs.YtlmijjekaelhcaaDoor.X
open Go.RowKit Go.Proofs.YtlmijjekaelhcaaDoorW.PrintWords Go.Proofs.YtlmijjekaelhcaaDoorW.PrintLast Go.Proofs.YtlmijjekaelhcaaDoorW.PrintMore
attribute [local go_sem] max2_int min2_int max_two min_two max_three min_three max_four min_four
set_option linter.unusedVariables false
def w_copied.f (l0 : List (S25)) : Option ((List (S25))) := if ([] : List (S25)).length + l0.length < 2199023255552 then (some (([] : List (S25)) ++ l0)) else (none)
set_option maxHeartbeats 8000000 in
set_option maxRecDepth 100000 in
theorem w_copied.calls (A0 : Option Addr) (c0 : Nat) (l0 : List (S25)) (r : List (S25)) (w : World) (hr0 : Kd.C k25 w A0 l0.length l0) (hc0 : l0.length ≤ c0) (h : w_copied.f l0 = some r) :
  Calls Tryd.prog 17 #[.slice A0 l0.length c0] w fun e w' => ∃ v0_ : Value, e = .returned (v0_) ∧ Kd.R k25 25 w' w.heap.size (fun _ => True) v0_ r ∧ Below w.heap.size w w' := by
 have HR0 := am hr0
 have HC0 := am hc0
 clear hr0 hc0
 have HB := am (Below.refl w.heap.size w)
 have H : (if ([] : List (S25)).length + l0.length < 2199023255552 then (some (([] : List (S25)) ++ l0)) else (none)) = some r := h
 clear h
 by_cases c2 : ([] : List (S25)).length + l0.length < 2199023255552
 rotate_left
 ·rw [if_neg c2] at H
  exact absurd H (by simp)
 rw [if_pos c2] at H
 have LMc2 := am c2
 clear c2
 obtain ⟨y575, hy575⟩ : ∃ y_ : List (S25), y_ = (([] : List (S25)) ++ l0) := ⟨_, rfl⟩
 replace H : (some y575) = some r := by first | (rw [hy575]; with_reducible exact H) | (have H2_ := (Option.bind_some _ _).symm.trans H; rw [hy575]; with_reducible exact H2_) | (have H2_ := (Option.bind_some _ _).symm.trans H; with_reducible exact H2_) | with_reducible exact H | (rw [hy575]; exact H) | exact H
 have Ny575 := am hy575
 clear hy575
 obtain rfl := Option.some.inj H
 go_enter Tryd.func17, Tryd.ntmps17
 go_wp2_with (first | ((with_reducible refine gate_dst (N := 6) rfl ?_); refine R_make0 k25 (w0 := w) w.heap.size 25 rfl (N := 6) rfl 22 _ _ rfl (l0.length : Int) rfl rfl Tryd.underlying22 (.agg #[(.string ⟨#[]⟩), (.int .u8 0), (.int .i64 0), (.int .i64 0), (.int .i64 0), (.int .i64 0), (.int .i64 0)]) 64 info25 rfl (by decide) (ok := fun _ => True) trivial (by omega) (by have := LMc2.out; simp only [List.length_nil, Int.toNat_natCast] at this ⊢; omega) bl (below_size bl) ?_; intro vmk wmk hmk hb hb2; have n0_ := am hb; have n1_ := am (Kd.C_below HR0.out hb); have HMK := am hmk; clear HB HR0; have HB := n0_; have HR0 := n1_; clear n0_ n1_ hmk hb hb2) | ((with_reducible refine gate_builtin (b := .append) (xs := #[.tmp 7, .tmp 8]) rfl ?_); at_builtin; refine Kd.R_append_rows k25 (w0 := w) w.heap.size rfl (.tmp 7) (.tmp 8) 22 25 (.agg #[(.string ⟨#[]⟩), (.int .u8 0), (.int .i64 0), (.int .i64 0), (.int .i64 0), (.int .i64 0), (.int .i64 0)]) 64 rfl Tryd.underlying22 info25 rfl (by decide) (by omega) vmk ([] : List (S25)) l0 _ _ _ (fun _ => True) (fun _ => False) rfl rfl ?aO ?aR (fun _ _ h => h) (fun _ h => h.elim) ?aF ?aB ?aS ?aL ?_; (case aR => repeat (first | exact HR0.out | (with_reducible refine Kd.C_alloc ?_ _) | (with_reducible refine Kd.C_drewN ?_ _) | (with_reducible refine Kd.C_drew ?_))); (case aB => exact bl); (case aF => exact (fun _ _ => trivial)); (case aO => exact HMK.out); (case aS => exact (below_size bl)); (case aL => have := LMc2.out; omega); intro v576 w3 ho hb hg hat; rw [← Ny575.out] at ho; have n0_ := am (hb); have n1_ := am (ho); clear HB; have HB := n0_; have HO577 := n1_; clear n0_ n1_; clear ho hb hg hat))
 go_ret
 exact ⟨_, er, by (with_reducible repeat (first | apply Kd.R_alloc | apply Kd.R_drewN | apply Kd.R_drew)); exact HO577.out, bl⟩
end Go.Proofs.YtlmijjekaelhcaaDoor.EDi
end
section
namespace Go.Proofs.YtlmijjekaelhcaaDoor.EDi
open Go.RowKit Go.Proofs.YtlmijjekaelhcaaDoorW.PrintWords Go.Proofs.YtlmijjekaelhcaaDoorW.PrintLast Go.Proofs.YtlmijjekaelhcaaDoorW.PrintMore
attribute [local go_sem] max2_int min2_int max_two min_two max_three min_three max_four min_four
set_option linter.unusedVariables false
def q_at.l0 : Nat → ByteArray → Int → Int → Option (Int)
 | 0, _, _, _ => none
 | k + 1, x0, x1, x5 => if x5 < (x0.size : Int) then (if 0 ≤ x5 then (if (bt x0 x5) = x1 then (some x5) else (q_at.l0 k x0 x1 (wrap64 (x5 + 1)))) else (none)) else (some (-1))
def q_at.f (k : Nat) (a0 : ByteArray) (a1 : Int) : Option (Int) := q_at.l0 k a0 a1 0
theorem q_at.mono_l : ∀ k, (∀ y0 y1 y2, LeO (q_at.l0 k y0 y1 y2) (q_at.l0 (k + 1) y0 y1 y2))
 | 0 => fun _ _ _ r h => by simp [q_at.l0] at h
 | k + 1 => by
  have ih0 := q_at.mono_l k
  ·intro y0 y1 y2
   unfold q_at.l0
   repeat' first
   | (with_reducible exact ih0 _ _ _)
   | (with_reducible exact LeO.refl _)
   | (with_reducible exact LeO.none _)
   | (with_reducible refine LeO.ite ?_ ?_)
   | (with_reducible refine LeO.bind ?_ (fun _ => ?_))
   | exact ih0 _ _ _
   | exact LeO.none _
   | refine LeO.ite ?_ ?_
   | refine LeO.bind ?_ (fun _ => ?_)
theorem q_at.mono : ∀ a0 a1 k, LeO (q_at.f k a0 a1) (q_at.f (k + 1) a0 a1) := by
 intro a0 a1 k
 have ih0 := q_at.mono_l k
 unfold q_at.f
 repeat' first
   | (with_reducible exact ih0 _ _ _)
   | (with_reducible exact LeO.refl _)
   | (with_reducible exact LeO.none _)
   | (with_reducible refine LeO.ite ?_ ?_)
   | (with_reducible refine LeO.bind ?_ (fun _ => ?_))
   | exact ih0 _ _ _
   | exact LeO.none _
   | refine LeO.ite ?_ ?_
   | refine LeO.bind ?_ (fun _ => ?_)
set_option maxHeartbeats 8000000 in
set_option maxRecDepth 100000 in
theorem q_at.calls (k : Nat) (a0 : ByteArray) (a1 : Int) (r : Int) (w : World) (h : q_at.f k a0 a1 = some r) :
  Calls Tryd.prog 39 #[.string a0, .int .u8 a1] w fun e w' => e = .returned (.int .i64 r) ∧ Drawn0 w w' := by
 have H : (q_at.l0 k a0 a1 0) = some r := h
 clear h
 have H' := am H
 clear H
 go_enter Tryd.func39, Tryd.ntmps39
 go_wp2
 go_loopg [5] k (fun kq v5 w' => ∃ (x5_1 : Int), v5 = .int .i64 x5_1 ∧ Aside0 (q_at.l0 kq a0 a1 x5_1 = some r) ∧ Aside0 (kq ≤ k) ∧ Drawn0 w w')
 case atStart => exact ⟨(0), tv, H', ⟨Nat.le_refl _⟩, by repeat (first | exact Drawn0.refl _ | apply Drawn0.step)⟩
 case round =>
  clear H'
  try clear p2
  obtain ⟨x5_1, rfl, HA, HK1, ⟨m1, rfl⟩⟩ := hrel
  cases gk with
  | zero => exact absurd HA.out (by simp [q_at.l0])
  | succ k1 =>
   have H := HA.out
   clear HA
   simp only [q_at.l0] at H
   by_cases c3 : x5_1 < (a0.size : Int)
   rotate_left
   ·rw [if_neg c3] at H
    have c3b0 := decide_eq_false c3
    clear c3
    obtain rfl := Option.some.inj H
    go_wp2
    go_ret
    exact ⟨by first | rfl | (simp; done) | (simp [*]; done), by repeat (first | exact Drawn0.refl _ | apply Drawn0.step)⟩
   rw [if_pos c3] at H
   have c3b0 := decide_eq_true c3
   clear c3
   by_cases c4 : 0 ≤ x5_1
   rotate_left
   ·rw [if_neg c4] at H
    exact absurd H (by simp)
   rw [if_pos c4] at H
   have c4b0 := decide_eq_true c4
   clear c4
   by_cases c6 : (bt a0 x5_1) = a1
   ·rw [if_pos c6] at H
    have c6b0 : ((bt a0 x5_1) == a1) = true := beq_iff_eq.mpr c6
    have c6b1 : ((bt a0 x5_1) != a1) = false := bne_eq_false_iff_eq.mpr c6
    clear c6
    obtain rfl := Option.some.inj H
    have p5 : 0 ≤ (x5_1 : Int) := of_decide_eq_true od
    have q5 : x5_1 < (a0.size : Int) := of_decide_eq_true od
    have hx5 := bt_at a0 x5_1
    replace p5 := eq_true p5
    replace q5 := eq_true q5
    go_wp2
    go_ret
    exact ⟨by first | rfl | (simp; done) | (simp [*]; done), by repeat (first | exact Drawn0.refl _ | apply Drawn0.step)⟩
   rw [if_neg c6] at H
   have c6b0 : ((bt a0 x5_1) == a1) = false := beq_eq_false_iff_ne.mpr c6
   have c6b1 : ((bt a0 x5_1) != a1) = true := bne_iff_ne.mpr c6
   have H' := am H
   clear H
   have p5 : 0 ≤ (x5_1 : Int) := of_decide_eq_true od
   have q5 : x5_1 < (a0.size : Int) := of_decide_eq_true od
   have hx5 := bt_at a0 x5_1
   replace p5 := eq_true p5
   replace q5 := eq_true q5
   go_wp2
   go_roundg k1
   case measure => have := HK1.out; omega
   case rel => exact ⟨(wrap64 (x5_1 + 1)), tv, H', ⟨by have := HK1.out; omega⟩, by repeat (first | exact Drawn0.refl _ | apply Drawn0.step)⟩
end Go.Proofs.YtlmijjekaelhcaaDoor.EDi
end
section
namespace Go.Proofs.YtlmijjekaelhcaaDoor.EDi
open Go.RowKit Go.Proofs.YtlmijjekaelhcaaDoorW.PrintWords Go.Proofs.YtlmijjekaelhcaaDoorW.PrintLast Go.Proofs.YtlmijjekaelhcaaDoorW.PrintMore
attribute [local go_sem] max2_int min2_int max_two min_two max_three min_three max_four min_four
set_option linter.unusedVariables false
def q_digit.f (a0 : Int) : Option (Bool) := if a0 ≥ 48 then (some (decide (a0 ≤ 57))) else (some false)
set_option maxHeartbeats 8000000 in
set_option maxRecDepth 100000 in
theorem q_digit.calls (a0 : Int) (r : Bool) (w : World) (h : q_digit.f a0 = some r) :
  Calls Tryd.prog 53 #[.int .u8 a0] w fun e w' => e = .returned (.bool r) ∧ Drawn0 w w' := by
 have H : (if a0 ≥ 48 then (some (decide (a0 ≤ 57))) else (some false)) = some r := h
 clear h
 by_cases c2 : a0 ≥ 48
 ·rw [if_pos c2] at H
  have c2b0 : decide (48 ≤ a0) = true := decide_eq_true c2
  clear c2
  obtain rfl := Option.some.inj H
  go_enter Tryd.func53, Tryd.ntmps53
  go_wp2
  go_ret
  exact ⟨by first | rfl | (simp; done) | (simp [*]; done), by repeat (first | exact Drawn0.refl _ | apply Drawn0.step)⟩
 rw [if_neg c2] at H
 have c2b0 : decide (48 ≤ a0) = false := decide_eq_false c2
 clear c2
 obtain rfl := Option.some.inj H
 go_enter Tryd.func53, Tryd.ntmps53
 go_wp2
 go_ret
 exact ⟨by first | rfl | (simp; done) | (simp [*]; done), by repeat (first | exact Drawn0.refl _ | apply Drawn0.step)⟩
end Go.Proofs.YtlmijjekaelhcaaDoor.EDi
end
