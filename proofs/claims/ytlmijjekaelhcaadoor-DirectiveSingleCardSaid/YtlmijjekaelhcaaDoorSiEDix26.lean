/-
  A text of this session's own.
-/
import Derived.Test.YtlmijjekaelhcaaDoorSiEDix0
import Derived.Test.YtlmijjekaelhcaaDoorSiEDix5
import Derived.Test.YtlmijjekaelhcaaDoorSiEDix12
import Derived.Test.YtlmijjekaelhcaaDoorSiEDix22
import Derived.Test.YtlmijjekaelhcaaDoorSiEDix24
import Derived.Test.YtlmijjekaelhcaaDoorSiEDix25
import Derived.Test.YtlmijjekaelhcaaDoorSiX
namespace Go.Proofs.YtlmijjekaelhcaaDoor.EDi
open Go.RowKit Go.Proofs.YtlmijjekaelhcaaDoorW.PrintWords Go.Proofs.YtlmijjekaelhcaaDoorW.PrintLast Go.Proofs.YtlmijjekaelhcaaDoorW.PrintMore
attribute [local go_sem] max2_int min2_int max_two min_two max_three min_three max_four min_four   -- for this text's walks alone
set_option linter.unusedVariables false
set_option linter.unusedSimpArgs false
open Go.Proofs.YtlmijjekaelhcaaDoor.X
def abacuslaw13_DirectiveBack.l0 : Nat → List (S25) → Int → Int → Option (Bool)
  | 0, _, _, _ => none
  | k + 1, x0, x3, x4 => if x4 < (x0.length : Int) then (if 0 ≤ x4 then ((directive_Check.f k ((rd_T25 x0 x4).f0) ((rd_T25 x0 x4).f1) ((rd_T25 x0 x4).f2) ((rd_T25 x0 x4).f3) ((rd_T25 x0 x4).f4) ((rd_T25 x0 x4).f5) ((rd_T25 x0 x4).f6)).bind fun t401 => (if t401 = 0 then (if ((rd_T25 x0 x4).f1) = 0 then (if x4 > 0 then (if 0 ≤ (wrap64 (x4 - 1)) then (if (wrap64 (x4 - 1)) < (x0.length : Int) then (if ((rd_T25 x0 (wrap64 (x4 - 1))).f1) = 0 then (some true) else (abacuslaw13_DirectiveBack.l0 k x0 (wrap64 (x3 + (wrap64 ((((rd_T25 x0 x4).f0).size : Int) + 20)))) (wrap64 (x4 + 1)))) else (none)) else (none)) else (abacuslaw13_DirectiveBack.l0 k x0 (wrap64 (x3 + (wrap64 ((((rd_T25 x0 x4).f0).size : Int) + 20)))) (wrap64 (x4 + 1)))) else (abacuslaw13_DirectiveBack.l0 k x0 (wrap64 (x3 + (wrap64 ((((rd_T25 x0 x4).f0).size : Int) + 20)))) (wrap64 (x4 + 1)))) else ((directive_Print.f k x0).bind fun bt403 => (some (bt403.2 == 132))))) else (none)) else (if x3 > 16777216 then (some true) else ((directive_Print.f k x0).bind fun bt405 => ((directive_Parse.f k bt405.1).bind fun bt407 => (if bt405.2 = 0 then (if bt407.2.2 = 0 then (if bt407.2.1 = 0 then ((abacuslaw13_same.f k bt407.1 x0).bind fun t412 => (some t412)) else (some false)) else (some false)) else (some false)))))
theorem abacuslaw13_DirectiveBack.mono_l : ∀ k, (∀ y0 y1 y2, LeO (abacuslaw13_DirectiveBack.l0 k y0 y1 y2) (abacuslaw13_DirectiveBack.l0 (k + 1) y0 y1 y2))
  | 0 => fun _ _ _ r h => by simp [abacuslaw13_DirectiveBack.l0] at h
  | k + 1 => by
    have ih0 := abacuslaw13_DirectiveBack.mono_l k
    · intro y0 y1 y2
      unfold abacuslaw13_DirectiveBack.l0
      repeat' first
      | (with_reducible exact ih0 _ _ _)
      | (with_reducible exact abacuslaw13_awake.mono _)
      | (with_reducible exact abacuslaw13_same.mono _ _ _)
      | (with_reducible exact directive_Check.mono _ _ _ _ _ _ _ _)
      | (with_reducible exact directive_Parse.mono _ _)
      | (with_reducible exact directive_Print.mono _ _)
      | (with_reducible exact LeO.refl _)
      | (with_reducible exact LeO.none _)
      | (with_reducible refine LeO.ite ?_ ?_)
      | (with_reducible refine LeO.bind ?_ (fun _ => ?_))
      | exact ih0 _ _ _
      | exact abacuslaw13_awake.mono _
      | exact abacuslaw13_same.mono _ _ _
      | exact directive_Check.mono _ _ _ _ _ _ _ _
      | exact directive_Parse.mono _ _
      | exact directive_Print.mono _ _
      | exact LeO.none _
      | refine LeO.ite ?_ ?_
      | refine LeO.bind ?_ (fun _ => ?_)
end Go.Proofs.YtlmijjekaelhcaaDoor.EDi
