/-
  A text of this session's own.
-/
import Derived.Test.YtlmijjekaelhcaaDoorSiEDix0
import Derived.Test.YtlmijjekaelhcaaDoorSiEDix22
import Derived.Test.YtlmijjekaelhcaaDoorSiEDix24
import Derived.Test.YtlmijjekaelhcaaDoorSiX
namespace Go.Proofs.YtlmijjekaelhcaaDoor.EDi
open Go.RowKit Go.Proofs.YtlmijjekaelhcaaDoorW.PrintWords Go.Proofs.YtlmijjekaelhcaaDoorW.PrintLast Go.Proofs.YtlmijjekaelhcaaDoorW.PrintMore
attribute [local go_sem] max2_int min2_int max_two min_two max_three min_three max_four min_four   -- for this text's walks alone
set_option linter.unusedVariables false
set_option linter.unusedSimpArgs false
open Go.Proofs.YtlmijjekaelhcaaDoor.X
mutual
def abacuslaw13_DirectiveFault.j0 : Nat → ByteArray → ByteArray → Int → Int → Bool → Option (Bool)
  | 0, _, _, _, _, _ => none
  | k + 1, x0, x1, x6, x7, x69 => if x69 = true then (some false) else (if 0 ≤ x6 then (if x6 ≤ (x0.size : Int) then ((directive_Parse.f k (x0.extract 0 (x6 : Int).toNat)).bind fun bt429 => (if bt429.2.2 = 131 then (abacuslaw13_DirectiveFault.j1 k x0 x1 x6 x7 (bt429.2.1 != x6)) else (abacuslaw13_DirectiveFault.j1 k x0 x1 x6 x7 true))) else (none)) else (none))
def abacuslaw13_DirectiveFault.j1 : Nat → ByteArray → ByteArray → Int → Int → Bool → Option (Bool)
  | 0, _, _, _, _, _ => none
  | k + 1, x0, x1, x6, x7, x84 => if x84 = true then (some false) else (if x7 = 131 then (some (x6 == (x0.size : Int))) else (abacuslaw13_DirectiveFault.l0 k x0 x1 x6 x7 (wrap64 (x6 + 1))))
def abacuslaw13_DirectiveFault.l0 : Nat → ByteArray → ByteArray → Int → Int → Int → Option (Bool)
  | 0, _, _, _, _, _ => none
  | k + 1, x0, x1, x6, x7, x15 => if x7 = 6 then (if x15 < (x0.size : Int) then (if 0 ≤ x15 then (if (bt x0 x15) ≥ 48 then (if (bt x0 x15) ≤ 57 then (abacuslaw13_DirectiveFault.l0 k x0 x1 x6 x7 (wrap64 (x15 + 1))) else (if x15 ≤ (x0.size : Int) then (if (x0.extract 0 (x15 : Int).toNat).size + x1.size ≤ 9223372036854775807 then ((directive_Parse.f k ((x0.extract 0 (x15 : Int).toNat) ++ x1)).bind fun bt434 => (if bt434.2.2 = x7 then (some (bt434.2.1 == x6)) else (some false))) else (none)) else (none))) else (if x15 ≤ (x0.size : Int) then (if (x0.extract 0 (x15 : Int).toNat).size + x1.size ≤ 9223372036854775807 then ((directive_Parse.f k ((x0.extract 0 (x15 : Int).toNat) ++ x1)).bind fun bt439 => (if bt439.2.2 = x7 then (some (bt439.2.1 == x6)) else (some false))) else (none)) else (none))) else (none)) else (if 0 ≤ x15 then (if x15 ≤ (x0.size : Int) then (if (x0.extract 0 (x15 : Int).toNat).size + x1.size ≤ 9223372036854775807 then ((directive_Parse.f k ((x0.extract 0 (x15 : Int).toNat) ++ x1)).bind fun bt444 => (if bt444.2.2 = x7 then (some (bt444.2.1 == x6)) else (some false))) else (none)) else (none)) else (none))) else (if 0 ≤ x15 then (if x15 ≤ (x0.size : Int) then (if (x0.extract 0 (x15 : Int).toNat).size + x1.size ≤ 9223372036854775807 then ((directive_Parse.f k ((x0.extract 0 (x15 : Int).toNat) ++ x1)).bind fun bt449 => (if bt449.2.2 = x7 then (some (bt449.2.1 == x6)) else (some false))) else (none)) else (none)) else (none))
end
theorem abacuslaw13_DirectiveFault.mono_l : ∀ k, (∀ y0 y1 y2 y3 y4, LeO (abacuslaw13_DirectiveFault.j0 k y0 y1 y2 y3 y4) (abacuslaw13_DirectiveFault.j0 (k + 1) y0 y1 y2 y3 y4)) ∧ (∀ y0 y1 y2 y3 y4, LeO (abacuslaw13_DirectiveFault.j1 k y0 y1 y2 y3 y4) (abacuslaw13_DirectiveFault.j1 (k + 1) y0 y1 y2 y3 y4)) ∧ (∀ y0 y1 y2 y3 y4, LeO (abacuslaw13_DirectiveFault.l0 k y0 y1 y2 y3 y4) (abacuslaw13_DirectiveFault.l0 (k + 1) y0 y1 y2 y3 y4))
  | 0 => ⟨fun _ _ _ _ _ r h => by simp [abacuslaw13_DirectiveFault.j0] at h, fun _ _ _ _ _ r h => by simp [abacuslaw13_DirectiveFault.j1] at h, fun _ _ _ _ _ r h => by simp [abacuslaw13_DirectiveFault.l0] at h⟩
  | k + 1 => by
    obtain ⟨ih0, ih1, ih2⟩ := abacuslaw13_DirectiveFault.mono_l k
    refine ⟨?_, ?_, ?_⟩
    · intro y0 y1 y2 y3 y4
      unfold abacuslaw13_DirectiveFault.j0
      repeat' first
      | (with_reducible exact ih0 _ _ _ _ _)
      | (with_reducible exact ih1 _ _ _ _ _)
      | (with_reducible exact ih2 _ _ _ _ _)
      | (with_reducible exact abacuslaw13_awake.mono _)
      | (with_reducible exact directive_Parse.mono _ _)
      | (with_reducible exact LeO.refl _)
      | (with_reducible exact LeO.none _)
      | (with_reducible refine LeO.ite ?_ ?_)
      | (with_reducible refine LeO.bind ?_ (fun _ => ?_))
      | exact ih0 _ _ _ _ _
      | exact ih1 _ _ _ _ _
      | exact ih2 _ _ _ _ _
      | exact abacuslaw13_awake.mono _
      | exact directive_Parse.mono _ _
      | exact LeO.none _
      | refine LeO.ite ?_ ?_
      | refine LeO.bind ?_ (fun _ => ?_)
    · intro y0 y1 y2 y3 y4
      unfold abacuslaw13_DirectiveFault.j1
      repeat' first
      | (with_reducible exact ih0 _ _ _ _ _)
      | (with_reducible exact ih1 _ _ _ _ _)
      | (with_reducible exact ih2 _ _ _ _ _)
      | (with_reducible exact abacuslaw13_awake.mono _)
      | (with_reducible exact directive_Parse.mono _ _)
      | (with_reducible exact LeO.refl _)
      | (with_reducible exact LeO.none _)
      | (with_reducible refine LeO.ite ?_ ?_)
      | (with_reducible refine LeO.bind ?_ (fun _ => ?_))
      | exact ih0 _ _ _ _ _
      | exact ih1 _ _ _ _ _
      | exact ih2 _ _ _ _ _
      | exact abacuslaw13_awake.mono _
      | exact directive_Parse.mono _ _
      | exact LeO.none _
      | refine LeO.ite ?_ ?_
      | refine LeO.bind ?_ (fun _ => ?_)
    · intro y0 y1 y2 y3 y4
      unfold abacuslaw13_DirectiveFault.l0
      repeat' first
      | (with_reducible exact ih0 _ _ _ _ _)
      | (with_reducible exact ih1 _ _ _ _ _)
      | (with_reducible exact ih2 _ _ _ _ _)
      | (with_reducible exact abacuslaw13_awake.mono _)
      | (with_reducible exact directive_Parse.mono _ _)
      | (with_reducible exact LeO.refl _)
      | (with_reducible exact LeO.none _)
      | (with_reducible refine LeO.ite ?_ ?_)
      | (with_reducible refine LeO.bind ?_ (fun _ => ?_))
      | exact ih0 _ _ _ _ _
      | exact ih1 _ _ _ _ _
      | exact ih2 _ _ _ _ _
      | exact abacuslaw13_awake.mono _
      | exact directive_Parse.mono _ _
      | exact LeO.none _
      | refine LeO.ite ?_ ?_
      | refine LeO.bind ?_ (fun _ => ?_)
end Go.Proofs.YtlmijjekaelhcaaDoor.EDi
