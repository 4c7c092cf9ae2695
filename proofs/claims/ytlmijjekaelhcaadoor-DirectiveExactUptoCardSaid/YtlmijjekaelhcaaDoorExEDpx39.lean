/-
  Several texts of this session's own in one: EDpx38 EDpx39.
-/
import Derived.Test.YtlmijjekaelhcaaDoorExA0
import Derived.Test.YtlmijjekaelhcaaDoorExEDpx0
import Derived.Test.YtlmijjekaelhcaaDoorExEDpx36
section
namespace Go.Proofs.YtlmijjekaelhcaaDoor.EDi
open Go.RowKit Go.Proofs.YtlmijjekaelhcaaDoorW.PrintWords Go.Proofs.YtlmijjekaelhcaaDoorW.PrintLast Go.Proofs.YtlmijjekaelhcaaDoorW.PrintMore
attribute [local go_sem] max2_int min2_int max_two min_two max_three min_three max_four min_four
set_option linter.unusedVariables false
def q_bit.l0 : Nat → Int → Int → Option (Int)
 | 0, _, _ => none
 | k + 1, x3, x4 => if x4 > 0 then (q_bit.l0 k (wrap64 (x3 * 2)) (wrap64 (x4 - 1))) else (some x3)
def q_bit.f (k : Nat) (a0 : Int) : Option (Int) := (q_at.f k (⟨#[45, 43, 32, 35, 48]⟩ : ByteArray) a0).bind fun t583 => (q_bit.l0 k 1 t583)
theorem q_bit.mono_l : ∀ k, (∀ y0 y1, LeO (q_bit.l0 k y0 y1) (q_bit.l0 (k + 1) y0 y1))
 | 0 => fun _ _ r h => by simp [q_bit.l0] at h
 | k + 1 => by
  have ih0 := q_bit.mono_l k
  ·intro y0 y1
   unfold q_bit.l0
   repeat' first
   | (with_reducible exact ih0 _ _)
   | (with_reducible exact q_at.mono _ _ _)
   | (with_reducible exact LeO.refl _)
   | (with_reducible exact LeO.none _)
   | (with_reducible refine LeO.ite ?_ ?_)
   | (with_reducible refine LeO.bind ?_ (fun _ => ?_))
   | exact ih0 _ _
   | exact q_at.mono _ _ _
   | exact LeO.none _
   | refine LeO.ite ?_ ?_
   | refine LeO.bind ?_ (fun _ => ?_)
theorem q_bit.mono : ∀ a0 k, LeO (q_bit.f k a0) (q_bit.f (k + 1) a0) := by
 intro a0 k
 have ih0 := q_bit.mono_l k
 unfold q_bit.f
 repeat' first
   | (with_reducible exact ih0 _ _)
   | (with_reducible exact q_at.mono _ _ _)
   | (with_reducible exact LeO.refl _)
   | (with_reducible exact LeO.none _)
   | (with_reducible refine LeO.ite ?_ ?_)
   | (with_reducible refine LeO.bind ?_ (fun _ => ?_))
   | exact ih0 _ _
   | exact q_at.mono _ _ _
   | exact LeO.none _
   | refine LeO.ite ?_ ?_
   | refine LeO.bind ?_ (fun _ => ?_)
set_option maxHeartbeats 8000000 in
set_option maxRecDepth 100000 in
theorem q_bit.calls (k : Nat) (a0 : Int) (r : Int) (w : World) (h : q_bit.f k a0 = some r) :
  Calls Tryd.prog 37 #[.int .u8 a0] w fun e w' => e = .returned (.int .i64 r) ∧ Drawn0 w w' := by
 have H : ((q_at.f k (⟨#[45, 43, 32, 35, 48]⟩ : ByteArray) a0).bind fun t583 => (q_bit.l0 k 1 t583)) = some r := h
 clear h
 replace H := Option.bind_eq_some_iff.mp H
 obtain ⟨t583, A20, H⟩ := H
 replace H : (q_bit.l0 k 1 t583) = some r := H
 have A2 := am A20
 clear A20
 have H' := am H
 clear H
 go_enter Tryd.func37, Tryd.ntmps37
 go_wp2_with (first | ((with_reducible refine gate_callee (f := 39) rfl ?_); refine goesL_ (some 6) rfl rfl Tryd.func39 (by kernel_rfl) rfl #[.string (⟨#[45, 43, 32, 35, 48]⟩ : ByteArray), .int .u8 a0] rfl ls ?_; (with_reducible refine (q_at.calls k (⟨#[45, 43, 32, 35, 48]⟩ : ByteArray) a0 t583 _ A2.out).mono ?_); rintro e w' ⟨rfl, ⟨nd, rfl⟩⟩; refine ⟨_, rfl, ?_⟩))
 go_loopg [3, 4] k (fun kq v3 v4 w' => ∃ (x3_1 : Int) (x4_1 : Int), v3 = .int .i64 x3_1 ∧ v4 = .int .i64 x4_1 ∧ Aside0 (q_bit.l0 kq x3_1 x4_1 = some r) ∧ Aside0 (kq ≤ k) ∧ Drawn0 w w')
 case atStart => exact ⟨(1), (t583), tv, tv, H', ⟨Nat.le_refl _⟩, by repeat (first | exact Drawn0.refl _ | apply Drawn0.step)⟩
 case round =>
  clear H'
  try clear p2
  obtain ⟨x3_1, x4_1, rfl, rfl, HA, HK1, ⟨m1, rfl⟩⟩ := hrel
  cases gk with
  | zero => exact absurd HA.out (by simp [q_bit.l0])
  | succ k1 =>
   have H := HA.out
   clear HA
   simp only [q_bit.l0] at H
   by_cases c3 : x4_1 > 0
   rotate_left
   ·rw [if_neg c3] at H
    have c3b0 : decide (0 < x4_1) = false := decide_eq_false c3
    clear c3
    obtain rfl := Option.some.inj H
    go_wp2
    go_ret
    exact ⟨by first | rfl | (simp; done) | (simp [*]; done), by repeat (first | exact Drawn0.refl _ | apply Drawn0.step)⟩
   rw [if_pos c3] at H
   have c3b0 : decide (0 < x4_1) = true := decide_eq_true c3
   clear c3
   have H' := am H
   clear H
   go_wp2
   go_roundg k1
   case measure => have := HK1.out; omega
   case rel => exact ⟨(wrap64 (x3_1 * 2)), (wrap64 (x4_1 - 1)), tv, tv, H', ⟨by have := HK1.out; omega⟩, by repeat (first | exact Drawn0.refl _ | apply Drawn0.step)⟩
end Go.Proofs.YtlmijjekaelhcaaDoor.EDi
end
section
namespace Go.Proofs.YtlmijjekaelhcaaDoor.EDi
open Go.RowKit Go.Proofs.YtlmijjekaelhcaaDoorW.PrintWords Go.Proofs.YtlmijjekaelhcaaDoorW.PrintLast Go.Proofs.YtlmijjekaelhcaaDoorW.PrintMore
attribute [local go_sem] max2_int min2_int max_two min_two max_three min_three max_four min_four
set_option linter.unusedVariables false
def q_number.l0 : Nat → ByteArray → Int → Int → Option (Int)
 | 0, _, _, _ => none
 | k + 1, x0, x3, x4 => if x4 < (x0.size : Int) then (if 0 ≤ x4 then (if (wrap64 ((wrap64 (10 * x3)) + (((bt x0 x4) - 48) % 256))) > 4096 then (q_number.l0 k x0 4097 (wrap64 (x4 + 1))) else (q_number.l0 k x0 (wrap64 ((wrap64 (10 * x3)) + (((bt x0 x4) - 48) % 256))) (wrap64 (x4 + 1)))) else (none)) else (some x3)
def q_number.f (k : Nat) (a0 : ByteArray) : Option (Int) := q_number.l0 k a0 0 0
theorem q_number.mono_l : ∀ k, (∀ y0 y1 y2, LeO (q_number.l0 k y0 y1 y2) (q_number.l0 (k + 1) y0 y1 y2))
 | 0 => fun _ _ _ r h => by simp [q_number.l0] at h
 | k + 1 => by
  have ih0 := q_number.mono_l k
  ·intro y0 y1 y2
   unfold q_number.l0
   repeat' first
   | (with_reducible exact ih0 _ _ _)
   | (with_reducible exact LeO.refl _)
   | (with_reducible exact LeO.none _)
   | (with_reducible refine LeO.ite ?_ ?_)
   | (with_reducible refine LeO.bind ?_ (fun _ => ?_))
   | exact ih0 _ _ _
   | exact LeO.none _
   | refine LeO.ite ?_ ?_
   | refine LeO.bind ?_ (fun _ => ?_)
theorem q_number.mono : ∀ a0 k, LeO (q_number.f k a0) (q_number.f (k + 1) a0) := by
 intro a0 k
 have ih0 := q_number.mono_l k
 unfold q_number.f
 repeat' first
   | (with_reducible exact ih0 _ _ _)
   | (with_reducible exact LeO.refl _)
   | (with_reducible exact LeO.none _)
   | (with_reducible refine LeO.ite ?_ ?_)
   | (with_reducible refine LeO.bind ?_ (fun _ => ?_))
   | exact ih0 _ _ _
   | exact LeO.none _
   | refine LeO.ite ?_ ?_
   | refine LeO.bind ?_ (fun _ => ?_)
set_option maxHeartbeats 8000000 in
set_option maxRecDepth 100000 in
theorem q_number.calls (k : Nat) (a0 : ByteArray) (r : Int) (w : World) (h : q_number.f k a0 = some r) :
  Calls Tryd.prog 38 #[.string a0] w fun e w' => e = .returned (.int .i64 r) ∧ Drawn0 w w' := by
 have H : (q_number.l0 k a0 0 0) = some r := h
 clear h
 have H' := am H
 clear H
 go_enter Tryd.func38, Tryd.ntmps38
 go_wp2
 go_loopg [3, 4] k (fun kq v3 v4 w' => ∃ (x3_1 : Int) (x4_1 : Int), v3 = .int .i64 x3_1 ∧ v4 = .int .i64 x4_1 ∧ Aside0 (q_number.l0 kq a0 x3_1 x4_1 = some r) ∧ Aside0 (kq ≤ k) ∧ Drawn0 w w')
 case atStart => exact ⟨(0), (0), tv, tv, H', ⟨Nat.le_refl _⟩, by repeat (first | exact Drawn0.refl _ | apply Drawn0.step)⟩
 case round =>
  clear H'
  obtain ⟨x3_1, x4_1, rfl, rfl, HA, HK1, ⟨m1, rfl⟩⟩ := hrel
  cases gk with
  | zero => exact absurd HA.out (by simp [q_number.l0])
  | succ k1 =>
   have H := HA.out
   clear HA
   simp only [q_number.l0] at H
   by_cases c2 : x4_1 < (a0.size : Int)
   rotate_left
   ·rw [if_neg c2] at H
    have c2b0 := decide_eq_false c2
    clear c2
    obtain rfl := Option.some.inj H
    go_wp2
    go_ret
    exact ⟨by first | rfl | (simp; done) | (simp [*]; done), by repeat (first | exact Drawn0.refl _ | apply Drawn0.step)⟩
   rw [if_pos c2] at H
   have c2b0 := decide_eq_true c2
   clear c2
   by_cases c3 : 0 ≤ x4_1
   rotate_left
   ·rw [if_neg c3] at H
    exact absurd H (by simp)
   rw [if_pos c3] at H
   have c3b0 := decide_eq_true c3
   clear c3
   by_cases c5 : (wrap64 ((wrap64 (10 * x3_1)) + (((bt a0 x4_1) - 48) % 256))) > 4096
   ·rw [if_pos c5] at H
    have c5b0 : decide (4096 < (wrap64 ((wrap64 (10 * x3_1)) + (((bt a0 x4_1) - 48) % 256)))) = true := decide_eq_true c5
    clear c5
    have H' := am H
    clear H
    have p4 : 0 ≤ (x4_1 : Int) := of_decide_eq_true od
    have q4 : x4_1 < (a0.size : Int) := of_decide_eq_true od
    have hx4 := bt_at a0 x4_1
    replace p4 := eq_true p4
    replace q4 := eq_true q4
    go_wp2
    go_roundg k1
    case measure => have := HK1.out; omega
    case rel => exact ⟨(4097), (wrap64 (x4_1 + 1)), tv, tv, H', ⟨by have := HK1.out; omega⟩, by repeat (first | exact Drawn0.refl _ | apply Drawn0.step)⟩
   rw [if_neg c5] at H
   have c5b0 : decide (4096 < (wrap64 ((wrap64 (10 * x3_1)) + (((bt a0 x4_1) - 48) % 256)))) = false := decide_eq_false c5
   clear c5
   have H' := am H
   clear H
   have p4 : 0 ≤ (x4_1 : Int) := of_decide_eq_true od
   have q4 : x4_1 < (a0.size : Int) := of_decide_eq_true od
   have hx4 := bt_at a0 x4_1
   replace p4 := eq_true p4
   replace q4 := eq_true q4
   go_wp2
   go_roundg k1
   case measure => have := HK1.out; omega
   case rel => exact ⟨(wrap64 ((wrap64 (10 * x3_1)) + (((bt a0 x4_1) - 48) % 256))), (wrap64 (x4_1 + 1)), tv, tv, H', ⟨by have := HK1.out; omega⟩, by repeat (first | exact Drawn0.refl _ | apply Drawn0.step)⟩
end Go.Proofs.YtlmijjekaelhcaaDoor.EDi
end
