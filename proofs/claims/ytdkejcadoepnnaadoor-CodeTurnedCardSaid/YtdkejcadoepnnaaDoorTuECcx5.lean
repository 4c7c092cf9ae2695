/-
 A text of this session's own.
-/
import Derived.Test.YtdkejcadoepnnaaDoorTuA0
import Derived.Test.YtdkejcadoepnnaaDoorTuECcx0
namespace Go.Proofs.YtdkejcadoepnnaaDoor.ECc
open Go.RowKit Go.Proofs.YtdkejcadoepnnaaDoorW.PrintWords Go.Proofs.YtdkejcadoepnnaaDoorW.PrintLast Go.Proofs.YtdkejcadoepnnaaDoorW.PrintMore
attribute [local go_sem] max2_int min2_int max_two min_two max_three min_three max_four min_four   -- for this text's walks alone
set_option linter.unusedVariables false
set_option linter.unusedSimpArgs false
def code_arity.j0 : Nat → Int → Bool → Option (Int × Int)
 | 0, _, _ => none
 | k + 1, x4, x5 => if x5 = true then (some (1, 1)) else (if x4 = 2 then (some (2, 3)) else (if x4 = 3 then (some (2, 2)) else (if x4 = 4 then (some (1, 32768)) else (if x4 = 12 then (some (1, 32768)) else (some (1, 0))))))
def code_arity.f (k : Nat) (a0 : Int) : Option (Int × Int) := if a0 = 1 then (code_arity.j0 k a0 (a0 == 1)) else (if a0 = 6 then (code_arity.j0 k a0 (a0 == 6)) else (if a0 = 7 then (code_arity.j0 k a0 (a0 == 7)) else (if a0 = 8 then (code_arity.j0 k a0 (a0 == 8)) else (code_arity.j0 k a0 (a0 == 9)))))
set_option maxHeartbeats 8000000 in
set_option maxRecDepth 100000 in
theorem code_arity.calls (k : Nat) (a0 : Int) (r1 : Int) (r2 : Int) (w : World) (h : code_arity.f k a0 = some (r1, r2)) :
  Calls Tryd.prog 66 #[.int .i64 a0] w fun e w' => e = .returned (.tuple #[.int .i64 r1, .int .i64 r2]) ∧ Drawn0 w w' := by
 have H : (if a0 = 1 then (code_arity.j0 k a0 (a0 == 1)) else (if a0 = 6 then (code_arity.j0 k a0 (a0 == 6)) else (if a0 = 7 then (code_arity.j0 k a0 (a0 == 7)) else (if a0 = 8 then (code_arity.j0 k a0 (a0 == 8)) else (code_arity.j0 k a0 (a0 == 9)))))) = some (r1, r2) := h
 clear h
 have HC2 := Aside0.mk H
 clear H
 go_enter Tryd.func66, Tryd.ntmps66
 go_upto_if 5 with (fail)
 go_cut [5] (fun v5 wc => ∃ (kq : Nat) (x5_1 : Bool), v5 = .bool x5_1 ∧ Aside0 (code_arity.j0 kq a0 x5_1 = some (r1, r2)) ∧ Aside0 (kq ≤ k) ∧ Drawn0 w wc)
 case first =>
  have H := HC2.out
  clear HC2
  by_cases c3 : a0 = 1
  ·rw [if_pos c3] at H
   have c3b0 : (a0 == 1) = true := beq_iff_eq.mpr c3
   have c3b1 : (a0 != 1) = false := bne_eq_false_iff_eq.mpr c3
   clear c3
   (first | rw [c3b0] | (simp only [i64_w, i32_w]; rw [c3b0]) | skip)
   have H' := Aside0.mk H
   clear H
   go_wp2
   go_meet
   case rel => exact ⟨_, ((a0 == 1)), tv, H', ⟨by first | omega | exact Nat.le_refl _⟩, by repeat (first | exact Drawn0.refl _ | apply Drawn0.step)⟩
  rw [if_neg c3] at H
  have c3b0 : (a0 == 1) = false := beq_eq_false_iff_ne.mpr c3
  have c3b1 : (a0 != 1) = true := bne_iff_ne.mpr c3
  (first | rw [c3b0] | (simp only [i64_w, i32_w]; rw [c3b0]) | skip)
  by_cases c4 : a0 = 6
  ·rw [if_pos c4] at H
   have c4b0 : (a0 == 6) = true := beq_iff_eq.mpr c4
   have c4b1 : (a0 != 6) = false := bne_eq_false_iff_eq.mpr c4
   clear c4
   have H' := Aside0.mk H
   clear H
   go_wp2
   go_meet
   case rel => exact ⟨_, ((a0 == 6)), tv, H', ⟨by first | omega | exact Nat.le_refl _⟩, by repeat (first | exact Drawn0.refl _ | apply Drawn0.step)⟩
  rw [if_neg c4] at H
  have c4b0 : (a0 == 6) = false := beq_eq_false_iff_ne.mpr c4
  have c4b1 : (a0 != 6) = true := bne_iff_ne.mpr c4
  by_cases c5 : a0 = 7
  ·rw [if_pos c5] at H
   have c5b0 : (a0 == 7) = true := beq_iff_eq.mpr c5
   have c5b1 : (a0 != 7) = false := bne_eq_false_iff_eq.mpr c5
   clear c5
   have H' := Aside0.mk H
   clear H
   go_wp2
   go_meet
   case rel => exact ⟨_, ((a0 == 7)), tv, H', ⟨by first | omega | exact Nat.le_refl _⟩, by repeat (first | exact Drawn0.refl _ | apply Drawn0.step)⟩
  rw [if_neg c5] at H
  have c5b0 : (a0 == 7) = false := beq_eq_false_iff_ne.mpr c5
  have c5b1 : (a0 != 7) = true := bne_iff_ne.mpr c5
  by_cases c6 : a0 = 8
  rotate_left
  ·rw [if_neg c6] at H
   have c6b0 : (a0 == 8) = false := beq_eq_false_iff_ne.mpr c6
   have c6b1 : (a0 != 8) = true := bne_iff_ne.mpr c6
   have H' := Aside0.mk H
   clear H
   go_wp2
   go_meet
   case rel => exact ⟨_, ((a0 == 9)), tv, H', ⟨by first | omega | exact Nat.le_refl _⟩, by repeat (first | exact Drawn0.refl _ | apply Drawn0.step)⟩
  rw [if_pos c6] at H
  have c6b0 : (a0 == 8) = true := beq_iff_eq.mpr c6
  have c6b1 : (a0 != 8) = false := bne_eq_false_iff_eq.mpr c6
  clear c6
  have H' := Aside0.mk H
  clear H
  go_wp2
  go_meet
  case rel => exact ⟨_, ((a0 == 8)), tv, H', ⟨by first | omega | exact Nat.le_refl _⟩, by repeat (first | exact Drawn0.refl _ | apply Drawn0.step)⟩
 case rest =>
  clear HC2
  try clear p2
  try clear c3
  try clear c3b0
  try clear c3b1
  try clear c4
  try clear c4b0
  try clear c4b1
  try clear c5
  try clear c5b0
  try clear c5b1
  try clear c6
  try clear c6b0
  try clear c6b1
  obtain ⟨kq, x5_1, rfl, HA, HJ1, ⟨mc1, rfl⟩⟩ := hcut
  cases kq with
  | zero => exact absurd HA.out (by simp [code_arity.j0])
  | succ kj1 =>
   have H := HA.out
   clear HA
   simp only [code_arity.j0] at H
   by_cases c7 : x5_1 = true
   ·subst c7
    have H1 : (some (1, 1)) = some (r1, r2) := by rw [if_pos rfl] at H; exact H
    clear H
    have H := H1
    clear H1
    simp only [Option.some.injEq, Prod.mk.injEq] at H
    obtain ⟨rfl, rfl⟩ := H
    go_wp2
    go_ret2
    exact ⟨by first | rfl | (simp; done) | (simp [*]; done), by repeat (first | exact Drawn0.refl _ | apply Drawn0.step)⟩
   replace c7 := Bool.eq_false_iff.mpr c7
   subst c7
   have H1 : (if a0 = 2 then (some (2, 3)) else (if a0 = 3 then (some (2, 2)) else (if a0 = 4 then (some (1, 32768)) else (if a0 = 12 then (some (1, 32768)) else (some (1, 0)))))) = some (r1, r2) := by rw [if_neg (show ¬ (false = true) by decide)] at H; exact H
   clear H
   have H := H1
   clear H1
   by_cases c8 : a0 = 2
   ·rw [if_pos c8] at H
    have c8b0 : (a0 == 2) = true := beq_iff_eq.mpr c8
    have c8b1 : (a0 != 2) = false := bne_eq_false_iff_eq.mpr c8
    clear c8
    simp only [Option.some.injEq, Prod.mk.injEq] at H
    obtain ⟨rfl, rfl⟩ := H
    go_wp2
    go_ret2
    exact ⟨by first | rfl | (simp; done) | (simp [*]; done), by repeat (first | exact Drawn0.refl _ | apply Drawn0.step)⟩
   rw [if_neg c8] at H
   have c8b0 : (a0 == 2) = false := beq_eq_false_iff_ne.mpr c8
   have c8b1 : (a0 != 2) = true := bne_iff_ne.mpr c8
   by_cases c9 : a0 = 3
   ·rw [if_pos c9] at H
    have c9b0 : (a0 == 3) = true := beq_iff_eq.mpr c9
    have c9b1 : (a0 != 3) = false := bne_eq_false_iff_eq.mpr c9
    clear c9
    simp only [Option.some.injEq, Prod.mk.injEq] at H
    obtain ⟨rfl, rfl⟩ := H
    go_wp2
    go_ret2
    exact ⟨by first | rfl | (simp; done) | (simp [*]; done), by repeat (first | exact Drawn0.refl _ | apply Drawn0.step)⟩
   rw [if_neg c9] at H
   have c9b0 : (a0 == 3) = false := beq_eq_false_iff_ne.mpr c9
   have c9b1 : (a0 != 3) = true := bne_iff_ne.mpr c9
   by_cases c10 : a0 = 4
   ·rw [if_pos c10] at H
    have c10b0 : (a0 == 4) = true := beq_iff_eq.mpr c10
    have c10b1 : (a0 != 4) = false := bne_eq_false_iff_eq.mpr c10
    clear c10
    simp only [Option.some.injEq, Prod.mk.injEq] at H
    obtain ⟨rfl, rfl⟩ := H
    go_wp2
    go_ret2
    exact ⟨by first | rfl | (simp; done) | (simp [*]; done), by repeat (first | exact Drawn0.refl _ | apply Drawn0.step)⟩
   rw [if_neg c10] at H
   have c10b0 : (a0 == 4) = false := beq_eq_false_iff_ne.mpr c10
   have c10b1 : (a0 != 4) = true := bne_iff_ne.mpr c10
   by_cases c11 : a0 = 12
   rotate_left
   ·rw [if_neg c11] at H
    have c11b0 : (a0 == 12) = false := beq_eq_false_iff_ne.mpr c11
    have c11b1 : (a0 != 12) = true := bne_iff_ne.mpr c11
    simp only [Option.some.injEq, Prod.mk.injEq] at H
    obtain ⟨rfl, rfl⟩ := H
    go_wp2
    go_ret2
    exact ⟨by first | rfl | (simp; done) | (simp [*]; done), by repeat (first | exact Drawn0.refl _ | apply Drawn0.step)⟩
   rw [if_pos c11] at H
   have c11b0 : (a0 == 12) = true := beq_iff_eq.mpr c11
   have c11b1 : (a0 != 12) = false := bne_eq_false_iff_eq.mpr c11
   clear c11
   simp only [Option.some.injEq, Prod.mk.injEq] at H
   obtain ⟨rfl, rfl⟩ := H
   go_wp2
   go_ret2
   exact ⟨by first | rfl | (simp; done) | (simp [*]; done), by repeat (first | exact Drawn0.refl _ | apply Drawn0.step)⟩
end Go.Proofs.YtdkejcadoepnnaaDoor.ECc
