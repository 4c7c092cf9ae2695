/-
 A text of this session's own.
-/
import Derived.Test.YtdkejcadoepnnaaDoorTuECcx0
namespace Go.Proofs.YtdkejcadoepnnaaDoor.ECc
open Go.RowKit Go.Proofs.YtdkejcadoepnnaaDoorW.PrintWords Go.Proofs.YtdkejcadoepnnaaDoorW.PrintLast Go.Proofs.YtdkejcadoepnnaaDoorW.PrintMore
attribute [local go_sem] max2_int min2_int max_two min_two max_three min_three max_four min_four   -- for this text's walks alone
set_option linter.unusedVariables false
set_option linter.unusedSimpArgs false
def abacuslaw26_jumps.f (a0 : Int) : Option (Bool × Bool) := if a0 = 27 then (some (true, false)) else (if a0 = 29 then (some (true, true)) else (if a0 = 28 then (some (true, true)) else (some (false, true))))
set_option maxHeartbeats 8000000 in
set_option maxRecDepth 100000 in
theorem abacuslaw26_jumps.calls (a0 : Int) (r1 : Bool) (r2 : Bool) (w : World) (h : abacuslaw26_jumps.f a0 = some (r1, r2)) :
  Calls Tryd.prog 17 #[.int .i64 a0] w fun e w' => e = .returned (.tuple #[.bool r1, .bool r2]) ∧ Drawn0 w w' := by
 have H : (if a0 = 27 then (some (true, false)) else (if a0 = 29 then (some (true, true)) else (if a0 = 28 then (some (true, true)) else (some (false, true))))) = some (r1, r2) := h
 clear h
 by_cases c2 : a0 = 27
 ·rw [if_pos c2] at H
  have c2b0 : (a0 == 27) = true := beq_iff_eq.mpr c2
  have c2b1 : (a0 != 27) = false := bne_eq_false_iff_eq.mpr c2
  clear c2
  simp only [Option.some.injEq, Prod.mk.injEq] at H
  obtain ⟨rfl, rfl⟩ := H
  go_enter Tryd.func17, Tryd.ntmps17
  go_wp2
  go_ret2
  exact ⟨by first | rfl | (simp; done) | (simp [*]; done), by repeat (first | exact Drawn0.refl _ | apply Drawn0.step)⟩
 rw [if_neg c2] at H
 have c2b0 : (a0 == 27) = false := beq_eq_false_iff_ne.mpr c2
 have c2b1 : (a0 != 27) = true := bne_iff_ne.mpr c2
 by_cases c3 : a0 = 29
 ·rw [if_pos c3] at H
  have c3b0 : (a0 == 29) = true := beq_iff_eq.mpr c3
  have c3b1 : (a0 != 29) = false := bne_eq_false_iff_eq.mpr c3
  clear c3
  simp only [Option.some.injEq, Prod.mk.injEq] at H
  obtain ⟨rfl, rfl⟩ := H
  go_enter Tryd.func17, Tryd.ntmps17
  go_wp2
  go_ret2
  exact ⟨by first | rfl | (simp; done) | (simp [*]; done), by repeat (first | exact Drawn0.refl _ | apply Drawn0.step)⟩
 rw [if_neg c3] at H
 have c3b0 : (a0 == 29) = false := beq_eq_false_iff_ne.mpr c3
 have c3b1 : (a0 != 29) = true := bne_iff_ne.mpr c3
 by_cases c4 : a0 = 28
 rotate_left
 ·rw [if_neg c4] at H
  have c4b0 : (a0 == 28) = false := beq_eq_false_iff_ne.mpr c4
  have c4b1 : (a0 != 28) = true := bne_iff_ne.mpr c4
  simp only [Option.some.injEq, Prod.mk.injEq] at H
  obtain ⟨rfl, rfl⟩ := H
  go_enter Tryd.func17, Tryd.ntmps17
  go_wp2
  go_ret2
  exact ⟨by first | rfl | (simp; done) | (simp [*]; done), by repeat (first | exact Drawn0.refl _ | apply Drawn0.step)⟩
 rw [if_pos c4] at H
 have c4b0 : (a0 == 28) = true := beq_iff_eq.mpr c4
 have c4b1 : (a0 != 28) = false := bne_eq_false_iff_eq.mpr c4
 clear c4
 simp only [Option.some.injEq, Prod.mk.injEq] at H
 obtain ⟨rfl, rfl⟩ := H
 go_enter Tryd.func17, Tryd.ntmps17
 go_wp2
 go_ret2
 exact ⟨by first | rfl | (simp; done) | (simp [*]; done), by repeat (first | exact Drawn0.refl _ | apply Drawn0.step)⟩
end Go.Proofs.YtdkejcadoepnnaaDoor.ECc
