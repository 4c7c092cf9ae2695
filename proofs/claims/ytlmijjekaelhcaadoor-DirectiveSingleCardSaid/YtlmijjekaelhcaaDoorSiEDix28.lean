/-
  A text of this session's own.
-/
import Derived.Test.YtlmijjekaelhcaaDoorSiEDix0
import Derived.Test.YtlmijjekaelhcaaDoorSiEDix22
import Derived.Test.YtlmijjekaelhcaaDoorSiEDix23
import Derived.Test.YtlmijjekaelhcaaDoorSiEDix24
import Derived.Test.YtlmijjekaelhcaaDoorSiEDix25
import Derived.Test.YtlmijjekaelhcaaDoorSiX
namespace Go.Proofs.YtlmijjekaelhcaaDoor.EDi
open Go.RowKit Go.Proofs.YtlmijjekaelhcaaDoorW.PrintWords Go.Proofs.YtlmijjekaelhcaaDoorW.PrintLast Go.Proofs.YtlmijjekaelhcaaDoorW.PrintMore
attribute [local go_sem] max2_int min2_int max_two min_two max_three min_three max_four min_four   -- for this text's walks alone
set_option linter.unusedVariables false
set_option linter.unusedSimpArgs false
open Go.Proofs.YtlmijjekaelhcaaDoor.X
mutual
def abacuslaw13_DirectiveChain.j0 : Nat → List (S25) → List (S25) → List (S25) → Int → Int → Int → Bool → Option (Bool)
  | 0, _, _, _, _, _, _, _ => none
  | k + 1, x5, x8, x11, x12, x13, x14, x82 => if x82 = true then (if 0 ≤ (wrap64 (x14 - 1)) then (if (wrap64 (x14 - 1)) < (x5.length : Int) then (if 0 < (x8.length : Int) then (if ((rd_T25 x5 (wrap64 (x14 - 1))).f0).size + ((rd_T25 x8 0).f0).size ≤ 9223372036854775807 then (if (wrap64 (x14 - 1)) ≤ (x5.length : Int) then (abacuslaw13_DirectiveChain.j1 k (x5.take ((wrap64 (x14 - 1)) : Int).toNat) (x8.set (0 : Int).toNat (⟨((rd_T25 x5 (wrap64 (x14 - 1))).f0) ++ ((rd_T25 x8 0).f0), (rd_T25 x8 0).f1, (rd_T25 x8 0).f2, (rd_T25 x8 0).f3, (rd_T25 x8 0).f4, (rd_T25 x8 0).f5, (rd_T25 x8 0).f6⟩ : S25)) x11 x12 x13) else (none)) else (none)) else (none)) else (none)) else (none)) else (abacuslaw13_DirectiveChain.j1 k x5 x8 x11 x12 x13)
def abacuslaw13_DirectiveChain.j1 : Nat → List (S25) → List (S25) → List (S25) → Int → Int → Option (Bool)
  | 0, _, _, _, _, _ => none
  | k + 1, x5, x8, x11, x12, x13 => abacuslaw13_DirectiveChain.l0 k x5 x8 x11 x12 x13 0
def abacuslaw13_DirectiveChain.l0 : Nat → List (S25) → List (S25) → List (S25) → Int → Int → Int → Option (Bool)
  | 0, _, _, _, _, _, _ => none
  | k + 1, x5, x8, x11, x12, x13, x15 => if x15 < (x8.length : Int) then (if 0 ≤ x15 then (if x5.length < 2199023255552 then (abacuslaw13_DirectiveChain.l0 k (x5 ++ [(⟨(rd_T25 x8 x15).f0, (rd_T25 x8 x15).f1, (rd_T25 x8 x15).f2, (rd_T25 x8 x15).f3, (rd_T25 x8 x15).f4, (rd_T25 x8 x15).f5, (rd_T25 x8 x15).f6⟩ : S25)]) x8 x11 x12 x13 (wrap64 (x15 + 1))) else (none)) else (none)) else (if x13 = 0 then (if x12 = 0 then ((abacuslaw13_same.f k x11 x5).bind fun t482 => (if t482 = true then ((directive_Wants.f k x11).bind fun t483 => ((directive_Wants.f k x5).bind fun t484 => (some (t483 == t484)))) else (some false))) else (some false)) else (some false))
end
theorem abacuslaw13_DirectiveChain.mono_l : ∀ k, (∀ y0 y1 y2 y3 y4 y5 y6, LeO (abacuslaw13_DirectiveChain.j0 k y0 y1 y2 y3 y4 y5 y6) (abacuslaw13_DirectiveChain.j0 (k + 1) y0 y1 y2 y3 y4 y5 y6)) ∧ (∀ y0 y1 y2 y3 y4, LeO (abacuslaw13_DirectiveChain.j1 k y0 y1 y2 y3 y4) (abacuslaw13_DirectiveChain.j1 (k + 1) y0 y1 y2 y3 y4)) ∧ (∀ y0 y1 y2 y3 y4 y5, LeO (abacuslaw13_DirectiveChain.l0 k y0 y1 y2 y3 y4 y5) (abacuslaw13_DirectiveChain.l0 (k + 1) y0 y1 y2 y3 y4 y5))
  | 0 => ⟨fun _ _ _ _ _ _ _ r h => by simp [abacuslaw13_DirectiveChain.j0] at h, fun _ _ _ _ _ r h => by simp [abacuslaw13_DirectiveChain.j1] at h, fun _ _ _ _ _ _ r h => by simp [abacuslaw13_DirectiveChain.l0] at h⟩
  | k + 1 => by
    obtain ⟨ih0, ih1, ih2⟩ := abacuslaw13_DirectiveChain.mono_l k
    refine ⟨?_, ?_, ?_⟩
    · intro y0 y1 y2 y3 y4 y5 y6
      unfold abacuslaw13_DirectiveChain.j0
      repeat' first
      | (with_reducible exact ih0 _ _ _ _ _ _ _)
      | (with_reducible exact ih1 _ _ _ _ _)
      | (with_reducible exact ih2 _ _ _ _ _ _)
      | (with_reducible exact abacuslaw13_awake.mono _)
      | (with_reducible exact abacuslaw13_same.mono _ _ _)
      | (with_reducible exact directive_Parse.mono _ _)
      | (with_reducible exact directive_Wants.mono _ _)
      | (with_reducible exact LeO.refl _)
      | (with_reducible exact LeO.none _)
      | (with_reducible refine LeO.ite ?_ ?_)
      | (with_reducible refine LeO.bind ?_ (fun _ => ?_))
      | exact ih0 _ _ _ _ _ _ _
      | exact ih1 _ _ _ _ _
      | exact ih2 _ _ _ _ _ _
      | exact abacuslaw13_awake.mono _
      | exact abacuslaw13_same.mono _ _ _
      | exact directive_Parse.mono _ _
      | exact directive_Wants.mono _ _
      | exact LeO.none _
      | refine LeO.ite ?_ ?_
      | refine LeO.bind ?_ (fun _ => ?_)
    · intro y0 y1 y2 y3 y4
      unfold abacuslaw13_DirectiveChain.j1
      repeat' first
      | (with_reducible exact ih0 _ _ _ _ _ _ _)
      | (with_reducible exact ih1 _ _ _ _ _)
      | (with_reducible exact ih2 _ _ _ _ _ _)
      | (with_reducible exact abacuslaw13_awake.mono _)
      | (with_reducible exact abacuslaw13_same.mono _ _ _)
      | (with_reducible exact directive_Parse.mono _ _)
      | (with_reducible exact directive_Wants.mono _ _)
      | (with_reducible exact LeO.refl _)
      | (with_reducible exact LeO.none _)
      | (with_reducible refine LeO.ite ?_ ?_)
      | (with_reducible refine LeO.bind ?_ (fun _ => ?_))
      | exact ih0 _ _ _ _ _ _ _
      | exact ih1 _ _ _ _ _
      | exact ih2 _ _ _ _ _ _
      | exact abacuslaw13_awake.mono _
      | exact abacuslaw13_same.mono _ _ _
      | exact directive_Parse.mono _ _
      | exact directive_Wants.mono _ _
      | exact LeO.none _
      | refine LeO.ite ?_ ?_
      | refine LeO.bind ?_ (fun _ => ?_)
    · intro y0 y1 y2 y3 y4 y5
      unfold abacuslaw13_DirectiveChain.l0
      repeat' first
      | (with_reducible exact ih0 _ _ _ _ _ _ _)
      | (with_reducible exact ih1 _ _ _ _ _)
      | (with_reducible exact ih2 _ _ _ _ _ _)
      | (with_reducible exact abacuslaw13_awake.mono _)
      | (with_reducible exact abacuslaw13_same.mono _ _ _)
      | (with_reducible exact directive_Parse.mono _ _)
      | (with_reducible exact directive_Wants.mono _ _)
      | (with_reducible exact LeO.refl _)
      | (with_reducible exact LeO.none _)
      | (with_reducible refine LeO.ite ?_ ?_)
      | (with_reducible refine LeO.bind ?_ (fun _ => ?_))
      | exact ih0 _ _ _ _ _ _ _
      | exact ih1 _ _ _ _ _
      | exact ih2 _ _ _ _ _ _
      | exact abacuslaw13_awake.mono _
      | exact abacuslaw13_same.mono _ _ _
      | exact directive_Parse.mono _ _
      | exact directive_Wants.mono _ _
      | exact LeO.none _
      | refine LeO.ite ?_ ?_
      | refine LeO.bind ?_ (fun _ => ?_)
end Go.Proofs.YtlmijjekaelhcaaDoor.EDi
