/-
  Plain laws of the code statements: what a good answer of Heights tells of the heights; CodeRuns. Conditions: none but int64 numbers.
-/
import Derived.Test.YtdkejcadoepnnaaDoorTuPe
import Derived.Test.YtdkejcadoepnnaaDoorTuECcx17
set_option linter.unusedVariables false
set_option linter.unusedSimpArgs false
namespace Go.Proofs.YtdkejcadoepnnaaDoor.Pl
open Go.RowKit Go.Proofs.YtdkejcadoepnnaaDoorW.PrintWords Go.Proofs.YtdkejcadoepnnaaDoor.ECc Go.Proofs.YtdkejcadoepnnaaDoor.X
theorem eff_ans (x : S41) : Ans (fun k => code_Effect.f k x.f0 x.f1 x.f2) (efI x) := ⟨2, fun k hk => by
  obtain ⟨m, rfl⟩ := Nat.exists_eq_add_of_le hk
  show code_Effect.f (2 + m) x.f0 x.f1 x.f2 = _
  rw [Nat.add_comm]
  exact effect_eq m x⟩
def farI (x : S41) : Bool := decide (x.f0 = 27 ∨ x.f0 = 28 ∨ x.f0 = 29)
def nearI (x : S41) : Bool := decide (x.f0 ≠ 27)
theorem jumps_eq (x : S41) : abacuslaw26_jumps.f x.f0 = some (farI x, nearI x) := by
  unfold abacuslaw26_jumps.f farI nearI
  by_cases a : x.f0 = 27
  · simp [a]
  · by_cases b : x.f0 = 29
    · simp [b]
    · by_cases c : x.f0 = 28
      · simp [c]
      · simp [a, b, c]
end Go.Proofs.YtdkejcadoepnnaaDoor.Pl
