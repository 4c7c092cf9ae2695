/-
  Several texts of this session's own in one: EDix30 EDmx31.
-/
import Derived.Test.YtlmijjekaelhcaaDoorExEDpx0
import Derived.Test.YtlmijjekaelhcaaDoorExEDix2
import Derived.Test.YtlmijjekaelhcaaDoorExEDix5
import Derived.Test.YtlmijjekaelhcaaDoorExEDix24
import Derived.Test.YtlmijjekaelhcaaDoorExEDix29
import Derived.Test.YtlmijjekaelhcaaDoorExX
section
namespace Go.Proofs.YtlmijjekaelhcaaDoor.EDi
open Go.RowKit Go.Proofs.YtlmijjekaelhcaaDoorW.PrintWords Go.Proofs.YtlmijjekaelhcaaDoorW.PrintLast Go.Proofs.YtlmijjekaelhcaaDoorW.PrintMore
attribute [local go_sem] max2_int min2_int max_two min_two max_three min_three max_four min_four
set_option linter.unusedVariables false
open Go.Proofs.YtlmijjekaelhcaaDoor.X
attribute [local go_sem high] eqA37
mutual
def w_DirectiveStars.j0 : Nat → Int → Int → Int → Bool → ByteArray → Int → Int → Int → Int → Int → Int → Int → Int → Int → Int → Option (Bool)
 | 0, _, _, _, _, _, _, _, _, _, _, _, _, _, _, _ => none
 | k + 1, x1, x2, x8, x34, x490000, x490001, x490002, x490003, x490004, x490005, x490006, x497000, x497001, x497002, x497003 => if x34 = true then (if x8 = 132 then (some (x497000 == 0 && (x497001 == 0 && (x497002 == 0 && (x497003 == 0))))) else (some false)) else (if x490003 = 2 then (if x1 > 4096 then (w_DirectiveStars.j1 k x1 x2 x8 true x490000 x490001 x490002 x490003 x490004 x490005 x490006 x497000 x497001 x497002 x497003 x490000 x490001 x490002 x490003 x490004 x490005 x490006) else (w_DirectiveStars.j1 k x1 x2 x8 (decide (x1 < (-4096))) x490000 x490001 x490002 x490003 x490004 x490005 x490006 x497000 x497001 x497002 x497003 x490000 x490001 x490002 x490003 x490004 x490005 x490006)) else (w_DirectiveStars.j2 k x1 x2 x8 false x490000 x490001 x490002 x490003 x490004 x490005 x490006 x497000 x497001 x497002 x497003 x490000 x490001 x490002 x490003 x490004 x490005 x490006))
def w_DirectiveStars.j2 : Nat → Int → Int → Int → Bool → ByteArray → Int → Int → Int → Int → Int → Int → Int → Int → Int → Int → ByteArray → Int → Int → Int → Int → Int → Int → Option (Bool)
 | 0, _, _, _, _, _, _, _, _, _, _, _, _, _, _, _, _, _, _, _, _, _, _ => none
 | k + 1, x1, x2, x8, x10, x490000, x490001, x490002, x490003, x490004, x490005, x490006, x497000, x497001, x497002, x497003, x499000, x499001, x499002, x499003, x499004, x499005, x499006 => if x490005 = 2 then (if x10 = true then (if x2 < 0 then (w_DirectiveStars.j3 k x1 x2 x8 true x490000 x490001 x490002 x490003 x490004 x490005 x490006 x497000 x497001 x497002 x497003 x499000 x499001 x499002 x499003 x499004 0 0) else (w_DirectiveStars.j3 k x1 x2 x8 true x490000 x490001 x490002 x490003 x490004 x490005 x490006 x497000 x497001 x497002 x497003 x499000 x499001 x499002 x499003 x499004 1 x2)) else (if x2 < 0 then (w_DirectiveStars.j3 k x1 x2 x8 (decide (x2 > 4096)) x490000 x490001 x490002 x490003 x490004 x490005 x490006 x497000 x497001 x497002 x497003 x499000 x499001 x499002 x499003 x499004 0 0) else (w_DirectiveStars.j3 k x1 x2 x8 (decide (x2 > 4096)) x490000 x490001 x490002 x490003 x490004 x490005 x490006 x497000 x497001 x497002 x497003 x499000 x499001 x499002 x499003 x499004 1 x2))) else (w_DirectiveStars.j3 k x1 x2 x8 x10 x490000 x490001 x490002 x490003 x490004 x490005 x490006 x497000 x497001 x497002 x497003 x499000 x499001 x499002 x499003 x499004 x499005 x499006)
def w_DirectiveStars.j3 : Nat → Int → Int → Int → Bool → ByteArray → Int → Int → Int → Int → Int → Int → Int → Int → Int → Int → ByteArray → Int → Int → Int → Int → Int → Int → Option (Bool)
 | 0, _, _, _, _, _, _, _, _, _, _, _, _, _, _, _, _, _, _, _, _, _, _ => none
 | k + 1, x1, x2, x8, x10, x490000, x490001, x490002, x490003, x490004, x490005, x490006, x497000, x497001, x497002, x497003, x499000, x499001, x499002, x499003, x499004, x499005, x499006 => if x10 = true then (if x8 = 6 then (some (x497000 == 0 && (x497001 == 0 && (x497002 == 0 && (x497003 == 0))))) else (some false)) else ((d_Settle.f k x499000 x499001 x499002 x499003 x499004 x499005 x499006 x2 x1).bind fun bt499 => (if x8 = 0 then (if bt499.2.2.2.2 = 0 then (if (!(x497000 == bt499.1) || (!(x497001 == bt499.2.1) || (!(x497002 == bt499.2.2.1) || (!(x497003 == bt499.2.2.2.1))))) = true then (w_DirectiveStars.j4 k true x497000 x497001 x497002 x497003 x499000 x499001 x499002 x499003 x499004 x499005 x499006) else (if x497000 = x490001 then (if x497001 = x499002 then (w_DirectiveStars.j4 k (x497002 != x499004) x497000 x497001 x497002 x497003 x499000 x499001 x499002 x499003 x499004 x499005 x499006) else (w_DirectiveStars.j4 k true x497000 x497001 x497002 x497003 x499000 x499001 x499002 x499003 x499004 x499005 x499006)) else (w_DirectiveStars.j4 k true x497000 x497001 x497002 x497003 x499000 x499001 x499002 x499003 x499004 x499005 x499006))) else (w_DirectiveStars.j4 k true x497000 x497001 x497002 x497003 x499000 x499001 x499002 x499003 x499004 x499005 x499006)) else (w_DirectiveStars.j4 k true x497000 x497001 x497002 x497003 x499000 x499001 x499002 x499003 x499004 x499005 x499006)))
def w_DirectiveStars.j4 : Nat → Bool → Int → Int → Int → Int → ByteArray → Int → Int → Int → Int → Int → Int → Option (Bool)
 | 0, _, _, _, _, _, _, _, _, _, _, _, _ => none
 | k + 1, x128, x497000, x497001, x497002, x497003, x499000, x499001, x499002, x499003, x499004, x499005, x499006 => if x128 = true then (some false) else (if x499005 = 0 then (some (x497003 == (-1))) else (some (x497003 == x499006)))
def w_DirectiveStars.j1 : Nat → Int → Int → Int → Bool → ByteArray → Int → Int → Int → Int → Int → Int → Int → Int → Int → Int → ByteArray → Int → Int → Int → Int → Int → Int → Option (Bool)
 | 0, _, _, _, _, _, _, _, _, _, _, _, _, _, _, _, _, _, _, _, _, _, _ => none
 | k + 1, x1, x2, x8, x10, x490000, x490001, x490002, x490003, x490004, x490005, x490006, x497000, x497001, x497002, x497003, x499000, x499001, x499002, x499003, x499004, x499005, x499006 => if x1 < 0 then (if x1 = 0 then (w_DirectiveStars.j2 k x1 x2 x8 x10 x490000 x490001 x490002 x490003 x490004 x490005 x490006 x497000 x497001 x497002 x497003 x499000 x499001 (Go.bits .or .i64 x499002 1) 0 (wrap64 (-x1)) x499005 x499006) else (w_DirectiveStars.j2 k x1 x2 x8 x10 x490000 x490001 x490002 x490003 x490004 x490005 x490006 x497000 x497001 x497002 x497003 x499000 x499001 (Go.bits .or .i64 x499002 1) 1 (wrap64 (-x1)) x499005 x499006)) else (if x1 = 0 then (w_DirectiveStars.j2 k x1 x2 x8 x10 x490000 x490001 x490002 x490003 x490004 x490005 x490006 x497000 x497001 x497002 x497003 x499000 x499001 x499002 0 x1 x499005 x499006) else (w_DirectiveStars.j2 k x1 x2 x8 x10 x490000 x490001 x490002 x490003 x490004 x490005 x490006 x497000 x497001 x497002 x497003 x499000 x499001 x499002 1 x1 x499005 x499006))
end
theorem w_DirectiveStars.mono_l : ∀ k, (∀ y0 y1 y2 y3 y4 y5 y6 y7 y8 y9 y10 y11 y12 y13 y14, LeO (w_DirectiveStars.j0 k y0 y1 y2 y3 y4 y5 y6 y7 y8 y9 y10 y11 y12 y13 y14) (w_DirectiveStars.j0 (k + 1) y0 y1 y2 y3 y4 y5 y6 y7 y8 y9 y10 y11 y12 y13 y14)) ∧ (∀ y0 y1 y2 y3 y4 y5 y6 y7 y8 y9 y10 y11 y12 y13 y14 y15 y16 y17 y18 y19 y20 y21, LeO (w_DirectiveStars.j2 k y0 y1 y2 y3 y4 y5 y6 y7 y8 y9 y10 y11 y12 y13 y14 y15 y16 y17 y18 y19 y20 y21) (w_DirectiveStars.j2 (k + 1) y0 y1 y2 y3 y4 y5 y6 y7 y8 y9 y10 y11 y12 y13 y14 y15 y16 y17 y18 y19 y20 y21)) ∧ (∀ y0 y1 y2 y3 y4 y5 y6 y7 y8 y9 y10 y11 y12 y13 y14 y15 y16 y17 y18 y19 y20 y21, LeO (w_DirectiveStars.j3 k y0 y1 y2 y3 y4 y5 y6 y7 y8 y9 y10 y11 y12 y13 y14 y15 y16 y17 y18 y19 y20 y21) (w_DirectiveStars.j3 (k + 1) y0 y1 y2 y3 y4 y5 y6 y7 y8 y9 y10 y11 y12 y13 y14 y15 y16 y17 y18 y19 y20 y21)) ∧ (∀ y0 y1 y2 y3 y4 y5 y6 y7 y8 y9 y10 y11, LeO (w_DirectiveStars.j4 k y0 y1 y2 y3 y4 y5 y6 y7 y8 y9 y10 y11) (w_DirectiveStars.j4 (k + 1) y0 y1 y2 y3 y4 y5 y6 y7 y8 y9 y10 y11)) ∧ (∀ y0 y1 y2 y3 y4 y5 y6 y7 y8 y9 y10 y11 y12 y13 y14 y15 y16 y17 y18 y19 y20 y21, LeO (w_DirectiveStars.j1 k y0 y1 y2 y3 y4 y5 y6 y7 y8 y9 y10 y11 y12 y13 y14 y15 y16 y17 y18 y19 y20 y21) (w_DirectiveStars.j1 (k + 1) y0 y1 y2 y3 y4 y5 y6 y7 y8 y9 y10 y11 y12 y13 y14 y15 y16 y17 y18 y19 y20 y21))
 | 0 => ⟨fun _ _ _ _ _ _ _ _ _ _ _ _ _ _ _ r h => by simp [w_DirectiveStars.j0] at h, fun _ _ _ _ _ _ _ _ _ _ _ _ _ _ _ _ _ _ _ _ _ _ r h => by simp [w_DirectiveStars.j2] at h, fun _ _ _ _ _ _ _ _ _ _ _ _ _ _ _ _ _ _ _ _ _ _ r h => by simp [w_DirectiveStars.j3] at h, fun _ _ _ _ _ _ _ _ _ _ _ _ r h => by simp [w_DirectiveStars.j4] at h, fun _ _ _ _ _ _ _ _ _ _ _ _ _ _ _ _ _ _ _ _ _ _ r h => by simp [w_DirectiveStars.j1] at h⟩
 | k + 1 => by
  obtain ⟨ih0, ih1, ih2, ih3, ih4⟩ := w_DirectiveStars.mono_l k
  refine ⟨?_, ?_, ?_, ?_, ?_⟩ <;> intros
  all_goals first | unfold w_DirectiveStars.j0 | unfold w_DirectiveStars.j2 | unfold w_DirectiveStars.j3 | unfold w_DirectiveStars.j4 | unfold w_DirectiveStars.j1
  all_goals repeat' first
  | (with_reducible exact ih0 _ _ _ _ _ _ _ _ _ _ _ _ _ _ _)
  | (with_reducible exact ih1 _ _ _ _ _ _ _ _ _ _ _ _ _ _ _ _ _ _ _ _ _ _)
  | (with_reducible exact ih2 _ _ _ _ _ _ _ _ _ _ _ _ _ _ _ _ _ _ _ _ _ _)
  | (with_reducible exact ih3 _ _ _ _ _ _ _ _ _ _ _ _)
  | (with_reducible exact ih4 _ _ _ _ _ _ _ _ _ _ _ _ _ _ _ _ _ _ _ _ _ _)
  | (with_reducible exact w_awake.mono _)
  | (with_reducible exact d_Check.mono _ _ _ _ _ _ _ _)
  | (with_reducible exact d_Settle.mono _ _ _ _ _ _ _ _ _ _)
  | (with_reducible exact LeO.refl _)
  | (with_reducible exact LeO.none _)
  | (with_reducible refine LeO.ite ?_ ?_)
  | (with_reducible refine LeO.bind ?_ (fun _ => ?_))
  | exact ih0 _ _ _ _ _ _ _ _ _ _ _ _ _ _ _
  | exact ih1 _ _ _ _ _ _ _ _ _ _ _ _ _ _ _ _ _ _ _ _ _ _
  | exact ih2 _ _ _ _ _ _ _ _ _ _ _ _ _ _ _ _ _ _ _ _ _ _
  | exact ih3 _ _ _ _ _ _ _ _ _ _ _ _
  | exact ih4 _ _ _ _ _ _ _ _ _ _ _ _ _ _ _ _ _ _ _ _ _ _
  | exact w_awake.mono _
  | exact d_Check.mono _ _ _ _ _ _ _ _
  | exact d_Settle.mono _ _ _ _ _ _ _ _ _ _
  | exact LeO.none _
  | refine LeO.ite ?_ ?_
  | refine LeO.bind ?_ (fun _ => ?_)
end Go.Proofs.YtlmijjekaelhcaaDoor.EDi
end
section
namespace Go.Proofs.YtlmijjekaelhcaaDoor.EDi
open Go.RowKit Go.Proofs.YtlmijjekaelhcaaDoorW.PrintWords Go.Proofs.YtlmijjekaelhcaaDoorW.PrintLast Go.Proofs.YtlmijjekaelhcaaDoorW.PrintMore
attribute [local go_sem] max2_int min2_int max_two min_two max_three min_three max_four min_four
set_option linter.unusedVariables false
mutual
def w_cut.l0 : Nat → ByteArray → List (S25) → Int → Int → Option ((List (S25)))
 | 0, _, _, _, _ => none
 | k + 1, x0, x3, x4, x5 => if x5 ≤ (x0.size : Int) then (if x5 < (x0.size : Int) then (if 0 ≤ x5 then (w_cut.j1 k x0 x3 x4 x5 ((bt x0 x5) != 37)) else (none)) else (w_cut.j1 k x0 x3 x4 x5 false)) else (some x3)
def w_cut.j1 : Nat → ByteArray → List (S25) → Int → Int → Bool → Option ((List (S25)))
 | 0, _, _, _, _, _ => none
 | k + 1, x0, x3, x4, x5, x21 => if x21 = true then (w_cut.l0 k x0 x3 x4 (wrap64 (x5 + 1))) else (if x5 > x4 then (if 0 ≤ x4 then (if x4 ≤ x5 then (if x5 ≤ (x0.size : Int) then (if x3.length < 2199023255552 then ((some (x3 ++ [(⟨x0.extract (x4 : Int).toNat (x5 : Int).toNat, 0, 0, 0, 0, 0, 0⟩ : S25)] : List (S25))).bind fun y505 => (if x5 < (x0.size : Int) then (if y505.length < 2199023255552 then (w_cut.l0 k x0 (y505 ++ [(⟨(⟨#[]⟩ : ByteArray), 37, 0, 0, 0, 0, 0⟩ : S25)]) (wrap64 (x5 + 1)) (wrap64 (x5 + 1))) else (none)) else (w_cut.l0 k x0 y505 (wrap64 (x5 + 1)) (wrap64 (x5 + 1))))) else (none)) else (none)) else (none)) else (none)) else (if x5 < (x0.size : Int) then (if x3.length < 2199023255552 then (w_cut.l0 k x0 (x3 ++ [(⟨(⟨#[]⟩ : ByteArray), 37, 0, 0, 0, 0, 0⟩ : S25)]) (wrap64 (x5 + 1)) (wrap64 (x5 + 1))) else (none)) else (w_cut.l0 k x0 x3 (wrap64 (x5 + 1)) (wrap64 (x5 + 1)))))
end
theorem w_cut.mono_l : ∀ k, (∀ y0 y1 y2 y3, LeO (w_cut.l0 k y0 y1 y2 y3) (w_cut.l0 (k + 1) y0 y1 y2 y3)) ∧ (∀ y0 y1 y2 y3 y4, LeO (w_cut.j1 k y0 y1 y2 y3 y4) (w_cut.j1 (k + 1) y0 y1 y2 y3 y4))
 | 0 => ⟨fun _ _ _ _ r h => by simp [w_cut.l0] at h, fun _ _ _ _ _ r h => by simp [w_cut.j1] at h⟩
 | k + 1 => by
  obtain ⟨ih0, ih1⟩ := w_cut.mono_l k
  refine ⟨?_, ?_⟩ <;> intros
  all_goals first | unfold w_cut.l0 | unfold w_cut.j1
  all_goals repeat' first
  | (with_reducible exact ih0 _ _ _ _)
  | (with_reducible exact ih1 _ _ _ _ _)
  | (with_reducible exact LeO.refl _)
  | (with_reducible exact LeO.none _)
  | (with_reducible refine LeO.ite ?_ ?_)
  | (with_reducible refine LeO.bind ?_ (fun _ => ?_))
  | exact ih0 _ _ _ _
  | exact ih1 _ _ _ _ _
  | exact LeO.none _
  | refine LeO.ite ?_ ?_
  | refine LeO.bind ?_ (fun _ => ?_)
end Go.Proofs.YtlmijjekaelhcaaDoor.EDi
end
