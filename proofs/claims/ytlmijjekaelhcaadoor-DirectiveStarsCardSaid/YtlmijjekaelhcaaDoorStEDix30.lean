/-
  A text of this session's own.
-/
import Derived.Test.YtlmijjekaelhcaaDoorStEDix0
import Derived.Test.YtlmijjekaelhcaaDoorStEDix2
import Derived.Test.YtlmijjekaelhcaaDoorStEDix5
import Derived.Test.YtlmijjekaelhcaaDoorStEDix24
import Derived.Test.YtlmijjekaelhcaaDoorStEDix29
import Derived.Test.YtlmijjekaelhcaaDoorStX
namespace Go.Proofs.YtlmijjekaelhcaaDoor.EDi
open Go.RowKit Go.Proofs.YtlmijjekaelhcaaDoorW.PrintWords Go.Proofs.YtlmijjekaelhcaaDoorW.PrintLast Go.Proofs.YtlmijjekaelhcaaDoorW.PrintMore
attribute [local go_sem] max2_int min2_int max_two min_two max_three min_three max_four min_four   -- for this text's walks alone
set_option linter.unusedVariables false
set_option linter.unusedSimpArgs false
open Go.Proofs.YtlmijjekaelhcaaDoor.X
attribute [local go_sem high] eqA37
mutual
def abacuslaw13_DirectiveStars.j0 : Nat → Int → Int → Int → Bool → ByteArray → Int → Int → Int → Int → Int → Int → Int → Int → Int → Int → Option (Bool)
  | 0, _, _, _, _, _, _, _, _, _, _, _, _, _, _, _ => none
  | k + 1, x1, x2, x8, x34, x490000, x490001, x490002, x490003, x490004, x490005, x490006, x497000, x497001, x497002, x497003 => if x34 = true then (if x8 = 132 then (some (x497000 == 0 && (x497001 == 0 && (x497002 == 0 && (x497003 == 0))))) else (some false)) else (if x490003 = 2 then (if x1 > 4096 then (abacuslaw13_DirectiveStars.j1 k x1 x2 x8 true x490000 x490001 x490002 x490003 x490004 x490005 x490006 x497000 x497001 x497002 x497003 x490000 x490001 x490002 x490003 x490004 x490005 x490006) else (abacuslaw13_DirectiveStars.j1 k x1 x2 x8 (decide (x1 < (-4096))) x490000 x490001 x490002 x490003 x490004 x490005 x490006 x497000 x497001 x497002 x497003 x490000 x490001 x490002 x490003 x490004 x490005 x490006)) else (abacuslaw13_DirectiveStars.j2 k x1 x2 x8 false x490000 x490001 x490002 x490003 x490004 x490005 x490006 x497000 x497001 x497002 x497003 x490000 x490001 x490002 x490003 x490004 x490005 x490006))
def abacuslaw13_DirectiveStars.j2 : Nat → Int → Int → Int → Bool → ByteArray → Int → Int → Int → Int → Int → Int → Int → Int → Int → Int → ByteArray → Int → Int → Int → Int → Int → Int → Option (Bool)
  | 0, _, _, _, _, _, _, _, _, _, _, _, _, _, _, _, _, _, _, _, _, _, _ => none
  | k + 1, x1, x2, x8, x10, x490000, x490001, x490002, x490003, x490004, x490005, x490006, x497000, x497001, x497002, x497003, x499000, x499001, x499002, x499003, x499004, x499005, x499006 => if x490005 = 2 then (if x10 = true then (if x2 < 0 then (abacuslaw13_DirectiveStars.j3 k x1 x2 x8 true x490000 x490001 x490002 x490003 x490004 x490005 x490006 x497000 x497001 x497002 x497003 x499000 x499001 x499002 x499003 x499004 0 0) else (abacuslaw13_DirectiveStars.j3 k x1 x2 x8 true x490000 x490001 x490002 x490003 x490004 x490005 x490006 x497000 x497001 x497002 x497003 x499000 x499001 x499002 x499003 x499004 1 x2)) else (if x2 < 0 then (abacuslaw13_DirectiveStars.j3 k x1 x2 x8 (decide (x2 > 4096)) x490000 x490001 x490002 x490003 x490004 x490005 x490006 x497000 x497001 x497002 x497003 x499000 x499001 x499002 x499003 x499004 0 0) else (abacuslaw13_DirectiveStars.j3 k x1 x2 x8 (decide (x2 > 4096)) x490000 x490001 x490002 x490003 x490004 x490005 x490006 x497000 x497001 x497002 x497003 x499000 x499001 x499002 x499003 x499004 1 x2))) else (abacuslaw13_DirectiveStars.j3 k x1 x2 x8 x10 x490000 x490001 x490002 x490003 x490004 x490005 x490006 x497000 x497001 x497002 x497003 x499000 x499001 x499002 x499003 x499004 x499005 x499006)
def abacuslaw13_DirectiveStars.j3 : Nat → Int → Int → Int → Bool → ByteArray → Int → Int → Int → Int → Int → Int → Int → Int → Int → Int → ByteArray → Int → Int → Int → Int → Int → Int → Option (Bool)
  | 0, _, _, _, _, _, _, _, _, _, _, _, _, _, _, _, _, _, _, _, _, _, _ => none
  | k + 1, x1, x2, x8, x10, x490000, x490001, x490002, x490003, x490004, x490005, x490006, x497000, x497001, x497002, x497003, x499000, x499001, x499002, x499003, x499004, x499005, x499006 => if x10 = true then (if x8 = 6 then (some (x497000 == 0 && (x497001 == 0 && (x497002 == 0 && (x497003 == 0))))) else (some false)) else ((directive_Settle.f k x499000 x499001 x499002 x499003 x499004 x499005 x499006 x2 x1).bind fun bt499 => (if x8 = 0 then (if bt499.2.2.2.2 = 0 then (if (!(x497000 == bt499.1) || (!(x497001 == bt499.2.1) || (!(x497002 == bt499.2.2.1) || (!(x497003 == bt499.2.2.2.1))))) = true then (abacuslaw13_DirectiveStars.j4 k true x497000 x497001 x497002 x497003 x499000 x499001 x499002 x499003 x499004 x499005 x499006) else (if x497000 = x490001 then (if x497001 = x499002 then (abacuslaw13_DirectiveStars.j4 k (x497002 != x499004) x497000 x497001 x497002 x497003 x499000 x499001 x499002 x499003 x499004 x499005 x499006) else (abacuslaw13_DirectiveStars.j4 k true x497000 x497001 x497002 x497003 x499000 x499001 x499002 x499003 x499004 x499005 x499006)) else (abacuslaw13_DirectiveStars.j4 k true x497000 x497001 x497002 x497003 x499000 x499001 x499002 x499003 x499004 x499005 x499006))) else (abacuslaw13_DirectiveStars.j4 k true x497000 x497001 x497002 x497003 x499000 x499001 x499002 x499003 x499004 x499005 x499006)) else (abacuslaw13_DirectiveStars.j4 k true x497000 x497001 x497002 x497003 x499000 x499001 x499002 x499003 x499004 x499005 x499006)))
def abacuslaw13_DirectiveStars.j4 : Nat → Bool → Int → Int → Int → Int → ByteArray → Int → Int → Int → Int → Int → Int → Option (Bool)
  | 0, _, _, _, _, _, _, _, _, _, _, _, _ => none
  | k + 1, x128, x497000, x497001, x497002, x497003, x499000, x499001, x499002, x499003, x499004, x499005, x499006 => if x128 = true then (some false) else (if x499005 = 0 then (some (x497003 == (-1))) else (some (x497003 == x499006)))
def abacuslaw13_DirectiveStars.j1 : Nat → Int → Int → Int → Bool → ByteArray → Int → Int → Int → Int → Int → Int → Int → Int → Int → Int → ByteArray → Int → Int → Int → Int → Int → Int → Option (Bool)
  | 0, _, _, _, _, _, _, _, _, _, _, _, _, _, _, _, _, _, _, _, _, _, _ => none
  | k + 1, x1, x2, x8, x10, x490000, x490001, x490002, x490003, x490004, x490005, x490006, x497000, x497001, x497002, x497003, x499000, x499001, x499002, x499003, x499004, x499005, x499006 => if x1 < 0 then (if x1 = 0 then (abacuslaw13_DirectiveStars.j2 k x1 x2 x8 x10 x490000 x490001 x490002 x490003 x490004 x490005 x490006 x497000 x497001 x497002 x497003 x499000 x499001 (Go.bits .or .i64 x499002 1) 0 (wrap64 (-x1)) x499005 x499006) else (abacuslaw13_DirectiveStars.j2 k x1 x2 x8 x10 x490000 x490001 x490002 x490003 x490004 x490005 x490006 x497000 x497001 x497002 x497003 x499000 x499001 (Go.bits .or .i64 x499002 1) 1 (wrap64 (-x1)) x499005 x499006)) else (if x1 = 0 then (abacuslaw13_DirectiveStars.j2 k x1 x2 x8 x10 x490000 x490001 x490002 x490003 x490004 x490005 x490006 x497000 x497001 x497002 x497003 x499000 x499001 x499002 0 x1 x499005 x499006) else (abacuslaw13_DirectiveStars.j2 k x1 x2 x8 x10 x490000 x490001 x490002 x490003 x490004 x490005 x490006 x497000 x497001 x497002 x497003 x499000 x499001 x499002 1 x1 x499005 x499006))
end
def abacuslaw13_DirectiveStars.f (k : Nat) (a0_0 : ByteArray) (a0_1 : Int) (a0_2 : Int) (a0_3 : Int) (a0_4 : Int) (a0_5 : Int) (a0_6 : Int) (a1 : Int) (a2 : Int) : Option (Bool) := (abacuslaw13_awake.f k).bind fun t490 => (if t490 = true then ((directive_Settle.f k a0_0 a0_1 a0_2 a0_3 a0_4 a0_5 a0_6 a1 a2).bind fun bt491 => ((directive_Check.f k a0_0 a0_1 a0_2 a0_3 a0_4 a0_5 a0_6).bind fun t497 => (if t497 = 0 then (if a0_1 = 0 then (abacuslaw13_DirectiveStars.j0 k a1 a2 bt491.2.2.2.2 true a0_0 a0_1 a0_2 a0_3 a0_4 a0_5 a0_6 bt491.1 bt491.2.1 bt491.2.2.1 bt491.2.2.2.1) else (abacuslaw13_DirectiveStars.j0 k a1 a2 bt491.2.2.2.2 (a0_1 == 37) a0_0 a0_1 a0_2 a0_3 a0_4 a0_5 a0_6 bt491.1 bt491.2.1 bt491.2.2.1 bt491.2.2.2.1)) else (abacuslaw13_DirectiveStars.j0 k a1 a2 bt491.2.2.2.2 true a0_0 a0_1 a0_2 a0_3 a0_4 a0_5 a0_6 bt491.1 bt491.2.1 bt491.2.2.1 bt491.2.2.2.1)))) else (some false))
theorem abacuslaw13_DirectiveStars.mono_l : ∀ k, (∀ y0 y1 y2 y3 y4 y5 y6 y7 y8 y9 y10 y11 y12 y13 y14, LeO (abacuslaw13_DirectiveStars.j0 k y0 y1 y2 y3 y4 y5 y6 y7 y8 y9 y10 y11 y12 y13 y14) (abacuslaw13_DirectiveStars.j0 (k + 1) y0 y1 y2 y3 y4 y5 y6 y7 y8 y9 y10 y11 y12 y13 y14)) ∧ (∀ y0 y1 y2 y3 y4 y5 y6 y7 y8 y9 y10 y11 y12 y13 y14 y15 y16 y17 y18 y19 y20 y21, LeO (abacuslaw13_DirectiveStars.j2 k y0 y1 y2 y3 y4 y5 y6 y7 y8 y9 y10 y11 y12 y13 y14 y15 y16 y17 y18 y19 y20 y21) (abacuslaw13_DirectiveStars.j2 (k + 1) y0 y1 y2 y3 y4 y5 y6 y7 y8 y9 y10 y11 y12 y13 y14 y15 y16 y17 y18 y19 y20 y21)) ∧ (∀ y0 y1 y2 y3 y4 y5 y6 y7 y8 y9 y10 y11 y12 y13 y14 y15 y16 y17 y18 y19 y20 y21, LeO (abacuslaw13_DirectiveStars.j3 k y0 y1 y2 y3 y4 y5 y6 y7 y8 y9 y10 y11 y12 y13 y14 y15 y16 y17 y18 y19 y20 y21) (abacuslaw13_DirectiveStars.j3 (k + 1) y0 y1 y2 y3 y4 y5 y6 y7 y8 y9 y10 y11 y12 y13 y14 y15 y16 y17 y18 y19 y20 y21)) ∧ (∀ y0 y1 y2 y3 y4 y5 y6 y7 y8 y9 y10 y11, LeO (abacuslaw13_DirectiveStars.j4 k y0 y1 y2 y3 y4 y5 y6 y7 y8 y9 y10 y11) (abacuslaw13_DirectiveStars.j4 (k + 1) y0 y1 y2 y3 y4 y5 y6 y7 y8 y9 y10 y11)) ∧ (∀ y0 y1 y2 y3 y4 y5 y6 y7 y8 y9 y10 y11 y12 y13 y14 y15 y16 y17 y18 y19 y20 y21, LeO (abacuslaw13_DirectiveStars.j1 k y0 y1 y2 y3 y4 y5 y6 y7 y8 y9 y10 y11 y12 y13 y14 y15 y16 y17 y18 y19 y20 y21) (abacuslaw13_DirectiveStars.j1 (k + 1) y0 y1 y2 y3 y4 y5 y6 y7 y8 y9 y10 y11 y12 y13 y14 y15 y16 y17 y18 y19 y20 y21))
  | 0 => ⟨fun _ _ _ _ _ _ _ _ _ _ _ _ _ _ _ r h => by simp [abacuslaw13_DirectiveStars.j0] at h, fun _ _ _ _ _ _ _ _ _ _ _ _ _ _ _ _ _ _ _ _ _ _ r h => by simp [abacuslaw13_DirectiveStars.j2] at h, fun _ _ _ _ _ _ _ _ _ _ _ _ _ _ _ _ _ _ _ _ _ _ r h => by simp [abacuslaw13_DirectiveStars.j3] at h, fun _ _ _ _ _ _ _ _ _ _ _ _ r h => by simp [abacuslaw13_DirectiveStars.j4] at h, fun _ _ _ _ _ _ _ _ _ _ _ _ _ _ _ _ _ _ _ _ _ _ r h => by simp [abacuslaw13_DirectiveStars.j1] at h⟩
  | k + 1 => by
    obtain ⟨ih0, ih1, ih2, ih3, ih4⟩ := abacuslaw13_DirectiveStars.mono_l k
    refine ⟨?_, ?_, ?_, ?_, ?_⟩
    · intro y0 y1 y2 y3 y4 y5 y6 y7 y8 y9 y10 y11 y12 y13 y14
      unfold abacuslaw13_DirectiveStars.j0
      repeat' first
      | (with_reducible exact ih0 _ _ _ _ _ _ _ _ _ _ _ _ _ _ _)
      | (with_reducible exact ih1 _ _ _ _ _ _ _ _ _ _ _ _ _ _ _ _ _ _ _ _ _ _)
      | (with_reducible exact ih2 _ _ _ _ _ _ _ _ _ _ _ _ _ _ _ _ _ _ _ _ _ _)
      | (with_reducible exact ih3 _ _ _ _ _ _ _ _ _ _ _ _)
      | (with_reducible exact ih4 _ _ _ _ _ _ _ _ _ _ _ _ _ _ _ _ _ _ _ _ _ _)
      | (with_reducible exact abacuslaw13_awake.mono _)
      | (with_reducible exact directive_Check.mono _ _ _ _ _ _ _ _)
      | (with_reducible exact directive_Settle.mono _ _ _ _ _ _ _ _ _ _)
      | (with_reducible exact LeO.refl _)
      | (with_reducible exact LeO.none _)
      | (with_reducible refine LeO.ite ?_ ?_)
      | (with_reducible refine LeO.bind ?_ (fun _ => ?_))
      | exact ih0 _ _ _ _ _ _ _ _ _ _ _ _ _ _ _
      | exact ih1 _ _ _ _ _ _ _ _ _ _ _ _ _ _ _ _ _ _ _ _ _ _
      | exact ih2 _ _ _ _ _ _ _ _ _ _ _ _ _ _ _ _ _ _ _ _ _ _
      | exact ih3 _ _ _ _ _ _ _ _ _ _ _ _
      | exact ih4 _ _ _ _ _ _ _ _ _ _ _ _ _ _ _ _ _ _ _ _ _ _
      | exact abacuslaw13_awake.mono _
      | exact directive_Check.mono _ _ _ _ _ _ _ _
      | exact directive_Settle.mono _ _ _ _ _ _ _ _ _ _
      | exact LeO.none _
      | refine LeO.ite ?_ ?_
      | refine LeO.bind ?_ (fun _ => ?_)
    · intro y0 y1 y2 y3 y4 y5 y6 y7 y8 y9 y10 y11 y12 y13 y14 y15 y16 y17 y18 y19 y20 y21
      unfold abacuslaw13_DirectiveStars.j2
      repeat' first
      | (with_reducible exact ih0 _ _ _ _ _ _ _ _ _ _ _ _ _ _ _)
      | (with_reducible exact ih1 _ _ _ _ _ _ _ _ _ _ _ _ _ _ _ _ _ _ _ _ _ _)
      | (with_reducible exact ih2 _ _ _ _ _ _ _ _ _ _ _ _ _ _ _ _ _ _ _ _ _ _)
      | (with_reducible exact ih3 _ _ _ _ _ _ _ _ _ _ _ _)
      | (with_reducible exact ih4 _ _ _ _ _ _ _ _ _ _ _ _ _ _ _ _ _ _ _ _ _ _)
      | (with_reducible exact abacuslaw13_awake.mono _)
      | (with_reducible exact directive_Check.mono _ _ _ _ _ _ _ _)
      | (with_reducible exact directive_Settle.mono _ _ _ _ _ _ _ _ _ _)
      | (with_reducible exact LeO.refl _)
      | (with_reducible exact LeO.none _)
      | (with_reducible refine LeO.ite ?_ ?_)
      | (with_reducible refine LeO.bind ?_ (fun _ => ?_))
      | exact ih0 _ _ _ _ _ _ _ _ _ _ _ _ _ _ _
      | exact ih1 _ _ _ _ _ _ _ _ _ _ _ _ _ _ _ _ _ _ _ _ _ _
      | exact ih2 _ _ _ _ _ _ _ _ _ _ _ _ _ _ _ _ _ _ _ _ _ _
      | exact ih3 _ _ _ _ _ _ _ _ _ _ _ _
      | exact ih4 _ _ _ _ _ _ _ _ _ _ _ _ _ _ _ _ _ _ _ _ _ _
      | exact abacuslaw13_awake.mono _
      | exact directive_Check.mono _ _ _ _ _ _ _ _
      | exact directive_Settle.mono _ _ _ _ _ _ _ _ _ _
      | exact LeO.none _
      | refine LeO.ite ?_ ?_
      | refine LeO.bind ?_ (fun _ => ?_)
    · intro y0 y1 y2 y3 y4 y5 y6 y7 y8 y9 y10 y11 y12 y13 y14 y15 y16 y17 y18 y19 y20 y21
      unfold abacuslaw13_DirectiveStars.j3
      repeat' first
      | (with_reducible exact ih0 _ _ _ _ _ _ _ _ _ _ _ _ _ _ _)
      | (with_reducible exact ih1 _ _ _ _ _ _ _ _ _ _ _ _ _ _ _ _ _ _ _ _ _ _)
      | (with_reducible exact ih2 _ _ _ _ _ _ _ _ _ _ _ _ _ _ _ _ _ _ _ _ _ _)
      | (with_reducible exact ih3 _ _ _ _ _ _ _ _ _ _ _ _)
      | (with_reducible exact ih4 _ _ _ _ _ _ _ _ _ _ _ _ _ _ _ _ _ _ _ _ _ _)
      | (with_reducible exact abacuslaw13_awake.mono _)
      | (with_reducible exact directive_Check.mono _ _ _ _ _ _ _ _)
      | (with_reducible exact directive_Settle.mono _ _ _ _ _ _ _ _ _ _)
      | (with_reducible exact LeO.refl _)
      | (with_reducible exact LeO.none _)
      | (with_reducible refine LeO.ite ?_ ?_)
      | (with_reducible refine LeO.bind ?_ (fun _ => ?_))
      | exact ih0 _ _ _ _ _ _ _ _ _ _ _ _ _ _ _
      | exact ih1 _ _ _ _ _ _ _ _ _ _ _ _ _ _ _ _ _ _ _ _ _ _
      | exact ih2 _ _ _ _ _ _ _ _ _ _ _ _ _ _ _ _ _ _ _ _ _ _
      | exact ih3 _ _ _ _ _ _ _ _ _ _ _ _
      | exact ih4 _ _ _ _ _ _ _ _ _ _ _ _ _ _ _ _ _ _ _ _ _ _
      | exact abacuslaw13_awake.mono _
      | exact directive_Check.mono _ _ _ _ _ _ _ _
      | exact directive_Settle.mono _ _ _ _ _ _ _ _ _ _
      | exact LeO.none _
      | refine LeO.ite ?_ ?_
      | refine LeO.bind ?_ (fun _ => ?_)
    · intro y0 y1 y2 y3 y4 y5 y6 y7 y8 y9 y10 y11
      unfold abacuslaw13_DirectiveStars.j4
      repeat' first
      | (with_reducible exact ih0 _ _ _ _ _ _ _ _ _ _ _ _ _ _ _)
      | (with_reducible exact ih1 _ _ _ _ _ _ _ _ _ _ _ _ _ _ _ _ _ _ _ _ _ _)
      | (with_reducible exact ih2 _ _ _ _ _ _ _ _ _ _ _ _ _ _ _ _ _ _ _ _ _ _)
      | (with_reducible exact ih3 _ _ _ _ _ _ _ _ _ _ _ _)
      | (with_reducible exact ih4 _ _ _ _ _ _ _ _ _ _ _ _ _ _ _ _ _ _ _ _ _ _)
      | (with_reducible exact abacuslaw13_awake.mono _)
      | (with_reducible exact directive_Check.mono _ _ _ _ _ _ _ _)
      | (with_reducible exact directive_Settle.mono _ _ _ _ _ _ _ _ _ _)
      | (with_reducible exact LeO.refl _)
      | (with_reducible exact LeO.none _)
      | (with_reducible refine LeO.ite ?_ ?_)
      | (with_reducible refine LeO.bind ?_ (fun _ => ?_))
      | exact ih0 _ _ _ _ _ _ _ _ _ _ _ _ _ _ _
      | exact ih1 _ _ _ _ _ _ _ _ _ _ _ _ _ _ _ _ _ _ _ _ _ _
      | exact ih2 _ _ _ _ _ _ _ _ _ _ _ _ _ _ _ _ _ _ _ _ _ _
      | exact ih3 _ _ _ _ _ _ _ _ _ _ _ _
      | exact ih4 _ _ _ _ _ _ _ _ _ _ _ _ _ _ _ _ _ _ _ _ _ _
      | exact abacuslaw13_awake.mono _
      | exact directive_Check.mono _ _ _ _ _ _ _ _
      | exact directive_Settle.mono _ _ _ _ _ _ _ _ _ _
      | exact LeO.none _
      | refine LeO.ite ?_ ?_
      | refine LeO.bind ?_ (fun _ => ?_)
    · intro y0 y1 y2 y3 y4 y5 y6 y7 y8 y9 y10 y11 y12 y13 y14 y15 y16 y17 y18 y19 y20 y21
      unfold abacuslaw13_DirectiveStars.j1
      repeat' first
      | (with_reducible exact ih0 _ _ _ _ _ _ _ _ _ _ _ _ _ _ _)
      | (with_reducible exact ih1 _ _ _ _ _ _ _ _ _ _ _ _ _ _ _ _ _ _ _ _ _ _)
      | (with_reducible exact ih2 _ _ _ _ _ _ _ _ _ _ _ _ _ _ _ _ _ _ _ _ _ _)
      | (with_reducible exact ih3 _ _ _ _ _ _ _ _ _ _ _ _)
      | (with_reducible exact ih4 _ _ _ _ _ _ _ _ _ _ _ _ _ _ _ _ _ _ _ _ _ _)
      | (with_reducible exact abacuslaw13_awake.mono _)
      | (with_reducible exact directive_Check.mono _ _ _ _ _ _ _ _)
      | (with_reducible exact directive_Settle.mono _ _ _ _ _ _ _ _ _ _)
      | (with_reducible exact LeO.refl _)
      | (with_reducible exact LeO.none _)
      | (with_reducible refine LeO.ite ?_ ?_)
      | (with_reducible refine LeO.bind ?_ (fun _ => ?_))
      | exact ih0 _ _ _ _ _ _ _ _ _ _ _ _ _ _ _
      | exact ih1 _ _ _ _ _ _ _ _ _ _ _ _ _ _ _ _ _ _ _ _ _ _
      | exact ih2 _ _ _ _ _ _ _ _ _ _ _ _ _ _ _ _ _ _ _ _ _ _
      | exact ih3 _ _ _ _ _ _ _ _ _ _ _ _
      | exact ih4 _ _ _ _ _ _ _ _ _ _ _ _ _ _ _ _ _ _ _ _ _ _
      | exact abacuslaw13_awake.mono _
      | exact directive_Check.mono _ _ _ _ _ _ _ _
      | exact directive_Settle.mono _ _ _ _ _ _ _ _ _ _
      | exact LeO.none _
      | refine LeO.ite ?_ ?_
      | refine LeO.bind ?_ (fun _ => ?_)
set_option maxHeartbeats 8000000 in
set_option maxRecDepth 100000 in
theorem abacuslaw13_DirectiveStars.calls (k : Nat) (a0_0 : ByteArray) (a0_1 : Int) (a0_2 : Int) (a0_3 : Int) (a0_4 : Int) (a0_5 : Int) (a0_6 : Int) (a1 : Int) (a2 : Int) (w : World) (hG : GW w) (h : abacuslaw13_DirectiveStars.f k a0_0 a0_1 a0_2 a0_3 a0_4 a0_5 a0_6 a1 a2 = some true) :
    Calls Tryd.prog 6 #[.agg #[.string a0_0, .int .u8 a0_1, .int .i64 a0_2, .int .i64 a0_3, .int .i64 a0_4, .int .i64 a0_5, .int .i64 a0_6], .int .i64 a1, .int .i64 a2] w fun e w' => e = .returned (.bool true) ∧ Below w.heap.size w w' := by
  have hu25 := Tryd.underlying25
  have hu37 := Tryd.underlying37
  have HB := Aside0.mk (Below.refl w.heap.size w)
  have HG := Aside0.mk hG
  clear hG
  have H : ((abacuslaw13_awake.f k).bind fun t490 => (if t490 = true then ((directive_Settle.f k a0_0 a0_1 a0_2 a0_3 a0_4 a0_5 a0_6 a1 a2).bind fun bt491 => ((directive_Check.f k a0_0 a0_1 a0_2 a0_3 a0_4 a0_5 a0_6).bind fun t497 => (if t497 = 0 then (if a0_1 = 0 then (abacuslaw13_DirectiveStars.j0 k a1 a2 bt491.2.2.2.2 true a0_0 a0_1 a0_2 a0_3 a0_4 a0_5 a0_6 bt491.1 bt491.2.1 bt491.2.2.1 bt491.2.2.2.1) else (abacuslaw13_DirectiveStars.j0 k a1 a2 bt491.2.2.2.2 (a0_1 == 37) a0_0 a0_1 a0_2 a0_3 a0_4 a0_5 a0_6 bt491.1 bt491.2.1 bt491.2.2.1 bt491.2.2.2.1)) else (abacuslaw13_DirectiveStars.j0 k a1 a2 bt491.2.2.2.2 true a0_0 a0_1 a0_2 a0_3 a0_4 a0_5 a0_6 bt491.1 bt491.2.1 bt491.2.2.1 bt491.2.2.2.1)))) else (some false))) = some true := h
  clear h
  replace H := Option.bind_eq_some_iff.mp H
  obtain ⟨t490, A40, H⟩ := H
  replace H : (if t490 = true then ((directive_Settle.f k a0_0 a0_1 a0_2 a0_3 a0_4 a0_5 a0_6 a1 a2).bind fun bt491 => ((directive_Check.f k a0_0 a0_1 a0_2 a0_3 a0_4 a0_5 a0_6).bind fun t497 => (if t497 = 0 then (if a0_1 = 0 then (abacuslaw13_DirectiveStars.j0 k a1 a2 bt491.2.2.2.2 true a0_0 a0_1 a0_2 a0_3 a0_4 a0_5 a0_6 bt491.1 bt491.2.1 bt491.2.2.1 bt491.2.2.2.1) else (abacuslaw13_DirectiveStars.j0 k a1 a2 bt491.2.2.2.2 (a0_1 == 37) a0_0 a0_1 a0_2 a0_3 a0_4 a0_5 a0_6 bt491.1 bt491.2.1 bt491.2.2.1 bt491.2.2.2.1)) else (abacuslaw13_DirectiveStars.j0 k a1 a2 bt491.2.2.2.2 true a0_0 a0_1 a0_2 a0_3 a0_4 a0_5 a0_6 bt491.1 bt491.2.1 bt491.2.2.1 bt491.2.2.2.1)))) else (some false)) = some true := H
  have A4 := Aside0.mk A40
  clear A40
  by_cases c5 : t490 = true
  · subst c5
    have H1 : ((directive_Settle.f k a0_0 a0_1 a0_2 a0_3 a0_4 a0_5 a0_6 a1 a2).bind fun bt491 => ((directive_Check.f k a0_0 a0_1 a0_2 a0_3 a0_4 a0_5 a0_6).bind fun t497 => (if t497 = 0 then (if a0_1 = 0 then (abacuslaw13_DirectiveStars.j0 k a1 a2 bt491.2.2.2.2 true a0_0 a0_1 a0_2 a0_3 a0_4 a0_5 a0_6 bt491.1 bt491.2.1 bt491.2.2.1 bt491.2.2.2.1) else (abacuslaw13_DirectiveStars.j0 k a1 a2 bt491.2.2.2.2 (a0_1 == 37) a0_0 a0_1 a0_2 a0_3 a0_4 a0_5 a0_6 bt491.1 bt491.2.1 bt491.2.2.1 bt491.2.2.2.1)) else (abacuslaw13_DirectiveStars.j0 k a1 a2 bt491.2.2.2.2 true a0_0 a0_1 a0_2 a0_3 a0_4 a0_5 a0_6 bt491.1 bt491.2.1 bt491.2.2.1 bt491.2.2.2.1)))) = some true := by rw [if_pos rfl] at H; exact H
    clear H
    have H := H1
    clear H1
    replace H := Option.bind_eq_some_iff.mp H
    obtain ⟨⟨t491, t492, t493, t494, t495⟩, A60, H⟩ := H
    replace H : ((directive_Check.f k a0_0 a0_1 a0_2 a0_3 a0_4 a0_5 a0_6).bind fun t497 => (if t497 = 0 then (if a0_1 = 0 then (abacuslaw13_DirectiveStars.j0 k a1 a2 t495 true a0_0 a0_1 a0_2 a0_3 a0_4 a0_5 a0_6 t491 t492 t493 t494) else (abacuslaw13_DirectiveStars.j0 k a1 a2 t495 (a0_1 == 37) a0_0 a0_1 a0_2 a0_3 a0_4 a0_5 a0_6 t491 t492 t493 t494)) else (abacuslaw13_DirectiveStars.j0 k a1 a2 t495 true a0_0 a0_1 a0_2 a0_3 a0_4 a0_5 a0_6 t491 t492 t493 t494))) = some true := H
    have A6 := Aside0.mk A60
    clear A60
    have HC7 := Aside0.mk H
    clear H
    go_enter Tryd.func6, Tryd.ntmps6
    go_upto_region 4 with (first | ((with_reducible refine gate_dst (N := 3) rfl ?_); refine box_event ?hg (N := 3) ?hd (cs := #[.string a0_0, .int .u8 a0_1, .int .i64 a0_2, .int .i64 a0_3, .int .i64 a0_4, .int .i64 a0_5, .int .i64 a0_6]) (t := 25) ?hr ?_; (case hd => rfl); (case hg => rfl); (case hr => first | (go_simp; done) | (go_simp; rfl)); intro gb489 hg w8 hbox hb; have n0_ := Aside0.mk (below_step (by repeat (first | (with_reducible first | exact HB.out | apply below_alloc | apply pw_below_drewN | apply below_drew1) | exact HB.out)) hb); have n1_ := Aside0.mk (hbox); have n2_ := Aside0.mk ((by rw [hg]; exact (below_size (by repeat (first | (with_reducible first | exact HB.out | apply below_alloc | apply pw_below_drewN | apply below_drew1) | exact HB.out))) : w.heap.size ≤ gb489)); have n3_ := Aside0.mk ((by rw [hg]; exact (below_size (by repeat (first | (with_reducible first | exact HB.out | apply below_alloc | apply pw_below_drewN | apply below_drew1) | exact HB.out))) : w.heap.size ≤ gb489)); clear HB; have HB := n0_; have BK489 := n1_; have GW489 := n2_; have GE489 := n3_; clear n0_ n1_ n2_ n3_; clear hb hbox hg) | ((with_reducible refine gate_callee (f := 10) rfl ?_); refine goesL_ (some 13) rfl rfl Tryd.func10 (by kernel_rfl) rfl #[] rfl (by (try simp only [List.map_toArray, List.map_cons, List.map_nil]); first | done | rfl | (simp only [List.length_drop, List.length_take]; rfl)) ?_; (with_reducible refine (abacuslaw13_awake.calls k  true _ ?side1 A4.out).mono ?_); (case side1 => exact GW.below HG.out (by repeat (first | (with_reducible first | exact HB.out | apply below_alloc | apply pw_below_drewN | apply below_drew1 | refine below_set ?_ GE489.out) | exact HB.out))); rintro e w9 ⟨rfl, hb⟩; refine ⟨_, rfl, ?_⟩; have n0_ := Aside0.mk (blk_below (g := gb489) (o := .cells #[.string a0_0, .int .u8 a0_1, .int .i64 a0_2, .int .i64 a0_3, .int .i64 a0_4, .int .i64 a0_5, .int .i64 a0_6] 25 (0, 0)) (by (with_reducible repeat (first | refine blk_drewN ?_ _ | refine blk_drew ?_ | refine blk_alloc ?_ _)); exact BK489.out) hb); have n1_ := Aside0.mk (below_step (by repeat (first | (with_reducible first | exact HB.out | apply below_alloc | apply pw_below_drewN | apply below_drew1 | refine below_set ?_ GE489.out) | exact HB.out)) hb); clear BK489; clear HB; have BK489 := n0_; have HB := n1_; clear n0_ n1_; (try clear hb); (try clear hb2); (try clear hk); (try clear hi); have hcz10_0 : w9.cell? ⟨gb489, 0, none⟩ = some (.string a0_0) := (blk_cell BK489.out 0).trans rfl; have hcz10_1 : w9.cell? ⟨gb489, 1, none⟩ = some (.int .u8 a0_1) := (blk_cell BK489.out 1).trans rfl; have hcz10_2 : w9.cell? ⟨gb489, 2, none⟩ = some (.int .i64 a0_2) := (blk_cell BK489.out 2).trans rfl; have hcz10_3 : w9.cell? ⟨gb489, 3, none⟩ = some (.int .i64 a0_3) := (blk_cell BK489.out 3).trans rfl; have hcz10_4 : w9.cell? ⟨gb489, 4, none⟩ = some (.int .i64 a0_4) := (blk_cell BK489.out 4).trans rfl; have hcz10_5 : w9.cell? ⟨gb489, 5, none⟩ = some (.int .i64 a0_5) := (blk_cell BK489.out 5).trans rfl; have hcz10_6 : w9.cell? ⟨gb489, 6, none⟩ = some (.int .i64 a0_6) := (blk_cell BK489.out 6).trans rfl; have hfz10_0 := blk_frozen BK489.out 0; have hfz10_1 := blk_frozen BK489.out 1; have hfz10_2 := blk_frozen BK489.out 2; have hfz10_3 := blk_frozen BK489.out 3; have hfz10_4 := blk_frozen BK489.out 4; have hfz10_5 := blk_frozen BK489.out 5; have hfz10_6 := blk_frozen BK489.out 6) | ((with_reducible refine gate_callee (f := 16) rfl ?_); refine goesL_ (some 19) rfl rfl Tryd.func16 (by kernel_rfl) rfl #[.agg #[.string a0_0, .int .u8 a0_1, .int .i64 a0_2, .int .i64 a0_3, .int .i64 a0_4, .int .i64 a0_5, .int .i64 a0_6], .int .i64 a1, .int .i64 a2] rfl (by (try simp only [List.map_toArray, List.map_cons, List.map_nil]); first | done | rfl | (simp only [List.length_drop, List.length_take]; rfl)) ?_; (with_reducible refine (directive_Settle.calls k a0_0 a0_1 a0_2 a0_3 a0_4 a0_5 a0_6 a1 a2 t491 t492 t493 t494 t495 _ A6.out).mono ?_); rintro e w11 ⟨rfl, hb⟩; refine ⟨_, rfl, ?_⟩; have n0_ := Aside0.mk (blk_below (g := gb489) (o := .cells #[.string a0_0, .int .u8 a0_1, .int .i64 a0_2, .int .i64 a0_3, .int .i64 a0_4, .int .i64 a0_5, .int .i64 a0_6] 25 (0, 0)) (by (with_reducible repeat (first | refine blk_drewN ?_ _ | refine blk_drew ?_ | refine blk_alloc ?_ _)); exact BK489.out) hb); have n1_ := Aside0.mk (below_step (by repeat (first | (with_reducible first | exact HB.out | apply below_alloc | apply pw_below_drewN | apply below_drew1 | refine below_set ?_ GE489.out) | exact HB.out)) hb); clear BK489; clear HB; have BK489 := n0_; have HB := n1_; clear n0_ n1_; (try clear hb); (try clear hb2); (try clear hk); (try clear hi)) | ((with_reducible refine gate_dst (N := 7) rfl ?_); refine box_event ?hg (N := 7) ?hd (cs := #[.int .u8 0, .int .i64 0, .int .i64 0, .int .i64 0]) (t := 37) ?hr ?_; (case hd => rfl); (case hg => rfl); (case hr => first | (go_simp; done) | (go_simp; rfl)); intro gb496 hg w12 hbox hb; have n0_ := Aside0.mk (blk_below (g := gb489) (o := .cells #[.string a0_0, .int .u8 a0_1, .int .i64 a0_2, .int .i64 a0_3, .int .i64 a0_4, .int .i64 a0_5, .int .i64 a0_6] 25 (0, 0)) (by (with_reducible repeat (first | refine blk_drewN ?_ _ | refine blk_drew ?_ | refine blk_alloc ?_ _)); exact BK489.out) hb); have n1_ := Aside0.mk (below_step (by repeat (first | (with_reducible first | exact HB.out | apply below_alloc | apply pw_below_drewN | apply below_drew1 | refine below_set ?_ GE489.out) | exact HB.out)) hb); have n2_ := Aside0.mk (hbox); have n3_ := Aside0.mk ((by rw [hg]; exact (below_size (by repeat (first | (with_reducible first | exact HB.out | apply below_alloc | apply pw_below_drewN | apply below_drew1 | refine below_set ?_ GE489.out) | exact HB.out))) : w.heap.size ≤ gb496)); have n4_ := Aside0.mk ((by rw [hg]; exact (below_size (by repeat (first | (with_reducible first | exact HB.out | apply below_alloc | apply pw_below_drewN | apply below_drew1 | refine below_set ?_ GE489.out) | exact HB.out))) : w.heap.size ≤ gb496)); have n5_ := Aside0.mk ((by rw [hg]; exact Nat.ne_of_lt (blk_lt (g := gb489) (o := .cells #[.string a0_0, .int .u8 a0_1, .int .i64 a0_2, .int .i64 a0_3, .int .i64 a0_4, .int .i64 a0_5, .int .i64 a0_6] 25 (0, 0)) (by (with_reducible repeat (first | refine blk_drewN ?_ _ | refine blk_drew ?_ | refine blk_alloc ?_ _)); exact BK489.out)) : gb489 ≠ gb496)); have n6_ := Aside0.mk ((by rw [hg]; exact Nat.ne_of_gt (blk_lt (g := gb489) (o := .cells #[.string a0_0, .int .u8 a0_1, .int .i64 a0_2, .int .i64 a0_3, .int .i64 a0_4, .int .i64 a0_5, .int .i64 a0_6] 25 (0, 0)) (by (with_reducible repeat (first | refine blk_drewN ?_ _ | refine blk_drew ?_ | refine blk_alloc ?_ _)); exact BK489.out)) : gb496 ≠ gb489)); clear BK489; clear HB; have BK489 := n0_; have HB := n1_; have BK496 := n2_; have GW496 := n3_; have GE496 := n4_; have NB489_496 := n5_; have NB496_489 := n6_; clear n0_ n1_ n2_ n3_ n4_ n5_ n6_; clear hb hbox hg; have hnb13 := NB496_489.out; have hnc13 := NB489_496.out; have hcz14_0 : w12.cell? ⟨gb496, 0, none⟩ = some (.int .u8 0) := (blk_cell BK496.out 0).trans rfl; have hcz14_1 : w12.cell? ⟨gb496, 1, none⟩ = some (.int .i64 0) := (blk_cell BK496.out 1).trans rfl; have hcz14_2 : w12.cell? ⟨gb496, 2, none⟩ = some (.int .i64 0) := (blk_cell BK496.out 2).trans rfl; have hcz14_3 : w12.cell? ⟨gb496, 3, none⟩ = some (.int .i64 0) := (blk_cell BK496.out 3).trans rfl; have hfz14_0 := blk_frozen BK496.out 0; have hfz14_1 := blk_frozen BK496.out 1; have hfz14_2 := blk_frozen BK496.out 2; have hfz14_3 := blk_frozen BK496.out 3))
    (try simp only [Act.put, List.setIfInBounds_toArray, List.set_cons_zero, List.set_cons_succ])
    go_cut [34] (fun v34 wc => ∃ (kq : Nat) (x34_6 : Bool), v34 = .bool x34_6 ∧ Aside0 (abacuslaw13_DirectiveStars.j0 kq a1 a2 t495 x34_6 a0_0 a0_1 a0_2 a0_3 a0_4 a0_5 a0_6 t491 t492 t493 t494 = some true) ∧ Aside0 (kq ≤ k) ∧ Aside0 (wc.heap[gb489]? = some (.cells #[.string a0_0, .int .u8 a0_1, .int .i64 a0_2, .int .i64 a0_3, .int .i64 a0_4, .int .i64 a0_5, .int .i64 a0_6] 25 (0, 0))) ∧ Aside0 (wc.heap[gb496]? = some (.cells #[.int .u8 t491, .int .i64 t492, .int .i64 t493, .int .i64 t494] 37 (0, 0))) ∧ Aside0 (Below w.heap.size w wc))
    case first =>
      have H := HC7.out
      clear HC7
      replace H := Option.bind_eq_some_iff.mp H
      obtain ⟨t497, A150, H⟩ := H
      replace H : (if t497 = 0 then (if a0_1 = 0 then (abacuslaw13_DirectiveStars.j0 k a1 a2 t495 true a0_0 a0_1 a0_2 a0_3 a0_4 a0_5 a0_6 t491 t492 t493 t494) else (abacuslaw13_DirectiveStars.j0 k a1 a2 t495 (a0_1 == 37) a0_0 a0_1 a0_2 a0_3 a0_4 a0_5 a0_6 t491 t492 t493 t494)) else (abacuslaw13_DirectiveStars.j0 k a1 a2 t495 true a0_0 a0_1 a0_2 a0_3 a0_4 a0_5 a0_6 t491 t492 t493 t494)) = some true := H
      have A15 := Aside0.mk A150
      clear A150
      by_cases c16 : t497 = 0
      · rw [if_pos c16] at H
        have c16b0 : (t497 == 0) = true := beq_iff_eq.mpr c16
        have c16b1 : (t497 != 0) = false := bne_eq_false_iff_eq.mpr c16
        clear c16
        (first | rw [c16b0] | (simp only [i64_w, i32_w]; rw [c16b0]) | skip)
        by_cases c17 : a0_1 = 0
        · rw [if_pos c17] at H
          have c17b0 : (a0_1 == 0) = true := beq_iff_eq.mpr c17
          have c17b1 : (a0_1 != 0) = false := bne_eq_false_iff_eq.mpr c17
          clear c17
          have H' := Aside0.mk H
          clear H
          have hnb18 := NB489_496.out
          have hnc18 := NB496_489.out
          have hcz19_0 : w12.cell? ⟨gb489, 0, none⟩ = some (.string a0_0) := (blk_cell BK489.out 0).trans rfl
          have hcz19_1 : w12.cell? ⟨gb489, 1, none⟩ = some (.int .u8 a0_1) := (blk_cell BK489.out 1).trans rfl
          have hcz19_2 : w12.cell? ⟨gb489, 2, none⟩ = some (.int .i64 a0_2) := (blk_cell BK489.out 2).trans rfl
          have hcz19_3 : w12.cell? ⟨gb489, 3, none⟩ = some (.int .i64 a0_3) := (blk_cell BK489.out 3).trans rfl
          have hcz19_4 : w12.cell? ⟨gb489, 4, none⟩ = some (.int .i64 a0_4) := (blk_cell BK489.out 4).trans rfl
          have hcz19_5 : w12.cell? ⟨gb489, 5, none⟩ = some (.int .i64 a0_5) := (blk_cell BK489.out 5).trans rfl
          have hcz19_6 : w12.cell? ⟨gb489, 6, none⟩ = some (.int .i64 a0_6) := (blk_cell BK489.out 6).trans rfl
          have hfz19_0 := blk_frozen BK489.out 0
          have hfz19_1 := blk_frozen BK489.out 1
          have hfz19_2 := blk_frozen BK489.out 2
          have hfz19_3 := blk_frozen BK489.out 3
          have hfz19_4 := blk_frozen BK489.out 4
          have hfz19_5 := blk_frozen BK489.out 5
          have hfz19_6 := blk_frozen BK489.out 6
          go_wp2_with (first | ((with_reducible refine gate_callee (f := 11) rfl ?_); refine goesL_ (some 23) rfl rfl Tryd.func11 (by kernel_rfl) rfl #[.agg #[.string a0_0, .int .u8 a0_1, .int .i64 a0_2, .int .i64 a0_3, .int .i64 a0_4, .int .i64 a0_5, .int .i64 a0_6]] rfl (by (try simp only [List.map_toArray, List.map_cons, List.map_nil]); first | done | rfl | (simp only [List.length_drop, List.length_take]; rfl)) ?_; (with_reducible refine (directive_Check.calls k a0_0 a0_1 a0_2 a0_3 a0_4 a0_5 a0_6 t497 _ A15.out).mono ?_); rintro e w20 ⟨rfl, hb⟩; refine ⟨_, rfl, ?_⟩; have n0_ := Aside0.mk (blk_below (g := gb489) (o := .cells #[.string a0_0, .int .u8 a0_1, .int .i64 a0_2, .int .i64 a0_3, .int .i64 a0_4, .int .i64 a0_5, .int .i64 a0_6] 25 (0, 0)) (by (with_reducible repeat (first | refine blk_drewN ?_ _ | refine blk_drew ?_ | refine blk_alloc ?_ _)); refine blk_far ?_ NB489_496.out _; (with_reducible repeat (first | refine blk_drewN ?_ _ | refine blk_drew ?_ | refine blk_alloc ?_ _)); refine blk_far ?_ NB489_496.out _; (with_reducible repeat (first | refine blk_drewN ?_ _ | refine blk_drew ?_ | refine blk_alloc ?_ _)); refine blk_far ?_ NB489_496.out _; (with_reducible repeat (first | refine blk_drewN ?_ _ | refine blk_drew ?_ | refine blk_alloc ?_ _)); refine blk_far ?_ NB489_496.out _; (with_reducible repeat (first | refine blk_drewN ?_ _ | refine blk_drew ?_ | refine blk_alloc ?_ _)); exact BK489.out) hb); have n1_ := Aside0.mk (blk_below (g := gb496) (o := .cells #[.int .u8 t491, .int .i64 t492, .int .i64 t493, .int .i64 t494] 37 (0, 0)) (by (with_reducible repeat (first | refine blk_drewN ?_ _ | refine blk_drew ?_ | refine blk_alloc ?_ _)); refine blk_put (cs := #[.int .u8 t491, .int .i64 t492, .int .i64 t493, .int .i64 0]) ?_ 3 _ rfl; (with_reducible repeat (first | refine blk_drewN ?_ _ | refine blk_drew ?_ | refine blk_alloc ?_ _)); refine blk_put (cs := #[.int .u8 t491, .int .i64 t492, .int .i64 0, .int .i64 0]) ?_ 2 _ rfl; (with_reducible repeat (first | refine blk_drewN ?_ _ | refine blk_drew ?_ | refine blk_alloc ?_ _)); refine blk_put (cs := #[.int .u8 t491, .int .i64 0, .int .i64 0, .int .i64 0]) ?_ 1 _ rfl; (with_reducible repeat (first | refine blk_drewN ?_ _ | refine blk_drew ?_ | refine blk_alloc ?_ _)); refine blk_put (cs := #[.int .u8 0, .int .i64 0, .int .i64 0, .int .i64 0]) ?_ 0 _ rfl; (with_reducible repeat (first | refine blk_drewN ?_ _ | refine blk_drew ?_ | refine blk_alloc ?_ _)); exact BK496.out) hb); have n2_ := Aside0.mk (below_step (by repeat (first | (with_reducible first | exact HB.out | apply below_alloc | apply pw_below_drewN | apply below_drew1 | refine below_set ?_ GE489.out | refine below_set ?_ GE496.out) | exact HB.out)) hb); clear BK489; clear BK496; clear HB; have BK489 := n0_; have BK496 := n1_; have HB := n2_; clear n0_ n1_ n2_; (try clear hb); (try clear hb2); (try clear hk); (try clear hi); have hcz21_0 : w20.cell? ⟨gb489, 0, none⟩ = some (.string a0_0) := (blk_cell BK489.out 0).trans rfl; have hcz21_1 : w20.cell? ⟨gb489, 1, none⟩ = some (.int .u8 a0_1) := (blk_cell BK489.out 1).trans rfl; have hcz21_2 : w20.cell? ⟨gb489, 2, none⟩ = some (.int .i64 a0_2) := (blk_cell BK489.out 2).trans rfl; have hcz21_3 : w20.cell? ⟨gb489, 3, none⟩ = some (.int .i64 a0_3) := (blk_cell BK489.out 3).trans rfl; have hcz21_4 : w20.cell? ⟨gb489, 4, none⟩ = some (.int .i64 a0_4) := (blk_cell BK489.out 4).trans rfl; have hcz21_5 : w20.cell? ⟨gb489, 5, none⟩ = some (.int .i64 a0_5) := (blk_cell BK489.out 5).trans rfl; have hcz21_6 : w20.cell? ⟨gb489, 6, none⟩ = some (.int .i64 a0_6) := (blk_cell BK489.out 6).trans rfl; have hfz21_0 := blk_frozen BK489.out 0; have hfz21_1 := blk_frozen BK489.out 1; have hfz21_2 := blk_frozen BK489.out 2; have hfz21_3 := blk_frozen BK489.out 3; have hfz21_4 := blk_frozen BK489.out 4; have hfz21_5 := blk_frozen BK489.out 5; have hfz21_6 := blk_frozen BK489.out 6))
          go_meet
          case rel => exact ⟨_, (true), (by first | rfl | (simp; done) | (simp [*]; done)), H', ⟨by first | omega | exact Nat.le_refl _⟩, ⟨by (with_reducible repeat (first | refine blk_drewN ?_ _ | refine blk_drew ?_ | refine blk_alloc ?_ _)); exact BK489.out⟩, ⟨by (with_reducible repeat (first | refine blk_drewN ?_ _ | refine blk_drew ?_ | refine blk_alloc ?_ _)); exact BK496.out⟩, ⟨by repeat (first | (with_reducible first | exact HB.out | apply below_alloc | apply pw_below_drewN | apply below_drew1 | refine below_set ?_ GE489.out | refine below_set ?_ GE496.out) | exact HB.out)⟩⟩
        · rw [if_neg c17] at H
          have c17b0 : (a0_1 == 0) = false := beq_eq_false_iff_ne.mpr c17
          have c17b1 : (a0_1 != 0) = true := bne_iff_ne.mpr c17
          have H' := Aside0.mk H
          clear H
          have hnb22 := NB489_496.out
          have hnc22 := NB496_489.out
          have hcz23_0 : w12.cell? ⟨gb489, 0, none⟩ = some (.string a0_0) := (blk_cell BK489.out 0).trans rfl
          have hcz23_1 : w12.cell? ⟨gb489, 1, none⟩ = some (.int .u8 a0_1) := (blk_cell BK489.out 1).trans rfl
          have hcz23_2 : w12.cell? ⟨gb489, 2, none⟩ = some (.int .i64 a0_2) := (blk_cell BK489.out 2).trans rfl
          have hcz23_3 : w12.cell? ⟨gb489, 3, none⟩ = some (.int .i64 a0_3) := (blk_cell BK489.out 3).trans rfl
          have hcz23_4 : w12.cell? ⟨gb489, 4, none⟩ = some (.int .i64 a0_4) := (blk_cell BK489.out 4).trans rfl
          have hcz23_5 : w12.cell? ⟨gb489, 5, none⟩ = some (.int .i64 a0_5) := (blk_cell BK489.out 5).trans rfl
          have hcz23_6 : w12.cell? ⟨gb489, 6, none⟩ = some (.int .i64 a0_6) := (blk_cell BK489.out 6).trans rfl
          have hfz23_0 := blk_frozen BK489.out 0
          have hfz23_1 := blk_frozen BK489.out 1
          have hfz23_2 := blk_frozen BK489.out 2
          have hfz23_3 := blk_frozen BK489.out 3
          have hfz23_4 := blk_frozen BK489.out 4
          have hfz23_5 := blk_frozen BK489.out 5
          have hfz23_6 := blk_frozen BK489.out 6
          go_wp2_with (first | ((with_reducible refine gate_callee (f := 11) rfl ?_); refine goesL_ (some 23) rfl rfl Tryd.func11 (by kernel_rfl) rfl #[.agg #[.string a0_0, .int .u8 a0_1, .int .i64 a0_2, .int .i64 a0_3, .int .i64 a0_4, .int .i64 a0_5, .int .i64 a0_6]] rfl (by (try simp only [List.map_toArray, List.map_cons, List.map_nil]); first | done | rfl | (simp only [List.length_drop, List.length_take]; rfl)) ?_; (with_reducible refine (directive_Check.calls k a0_0 a0_1 a0_2 a0_3 a0_4 a0_5 a0_6 t497 _ A15.out).mono ?_); rintro e w24 ⟨rfl, hb⟩; refine ⟨_, rfl, ?_⟩; have n0_ := Aside0.mk (blk_below (g := gb489) (o := .cells #[.string a0_0, .int .u8 a0_1, .int .i64 a0_2, .int .i64 a0_3, .int .i64 a0_4, .int .i64 a0_5, .int .i64 a0_6] 25 (0, 0)) (by (with_reducible repeat (first | refine blk_drewN ?_ _ | refine blk_drew ?_ | refine blk_alloc ?_ _)); refine blk_far ?_ NB489_496.out _; (with_reducible repeat (first | refine blk_drewN ?_ _ | refine blk_drew ?_ | refine blk_alloc ?_ _)); refine blk_far ?_ NB489_496.out _; (with_reducible repeat (first | refine blk_drewN ?_ _ | refine blk_drew ?_ | refine blk_alloc ?_ _)); refine blk_far ?_ NB489_496.out _; (with_reducible repeat (first | refine blk_drewN ?_ _ | refine blk_drew ?_ | refine blk_alloc ?_ _)); refine blk_far ?_ NB489_496.out _; (with_reducible repeat (first | refine blk_drewN ?_ _ | refine blk_drew ?_ | refine blk_alloc ?_ _)); exact BK489.out) hb); have n1_ := Aside0.mk (blk_below (g := gb496) (o := .cells #[.int .u8 t491, .int .i64 t492, .int .i64 t493, .int .i64 t494] 37 (0, 0)) (by (with_reducible repeat (first | refine blk_drewN ?_ _ | refine blk_drew ?_ | refine blk_alloc ?_ _)); refine blk_put (cs := #[.int .u8 t491, .int .i64 t492, .int .i64 t493, .int .i64 0]) ?_ 3 _ rfl; (with_reducible repeat (first | refine blk_drewN ?_ _ | refine blk_drew ?_ | refine blk_alloc ?_ _)); refine blk_put (cs := #[.int .u8 t491, .int .i64 t492, .int .i64 0, .int .i64 0]) ?_ 2 _ rfl; (with_reducible repeat (first | refine blk_drewN ?_ _ | refine blk_drew ?_ | refine blk_alloc ?_ _)); refine blk_put (cs := #[.int .u8 t491, .int .i64 0, .int .i64 0, .int .i64 0]) ?_ 1 _ rfl; (with_reducible repeat (first | refine blk_drewN ?_ _ | refine blk_drew ?_ | refine blk_alloc ?_ _)); refine blk_put (cs := #[.int .u8 0, .int .i64 0, .int .i64 0, .int .i64 0]) ?_ 0 _ rfl; (with_reducible repeat (first | refine blk_drewN ?_ _ | refine blk_drew ?_ | refine blk_alloc ?_ _)); exact BK496.out) hb); have n2_ := Aside0.mk (below_step (by repeat (first | (with_reducible first | exact HB.out | apply below_alloc | apply pw_below_drewN | apply below_drew1 | refine below_set ?_ GE489.out | refine below_set ?_ GE496.out) | exact HB.out)) hb); clear BK489; clear BK496; clear HB; have BK489 := n0_; have BK496 := n1_; have HB := n2_; clear n0_ n1_ n2_; (try clear hb); (try clear hb2); (try clear hk); (try clear hi); have hcz25_0 : w24.cell? ⟨gb489, 0, none⟩ = some (.string a0_0) := (blk_cell BK489.out 0).trans rfl; have hcz25_1 : w24.cell? ⟨gb489, 1, none⟩ = some (.int .u8 a0_1) := (blk_cell BK489.out 1).trans rfl; have hcz25_2 : w24.cell? ⟨gb489, 2, none⟩ = some (.int .i64 a0_2) := (blk_cell BK489.out 2).trans rfl; have hcz25_3 : w24.cell? ⟨gb489, 3, none⟩ = some (.int .i64 a0_3) := (blk_cell BK489.out 3).trans rfl; have hcz25_4 : w24.cell? ⟨gb489, 4, none⟩ = some (.int .i64 a0_4) := (blk_cell BK489.out 4).trans rfl; have hcz25_5 : w24.cell? ⟨gb489, 5, none⟩ = some (.int .i64 a0_5) := (blk_cell BK489.out 5).trans rfl; have hcz25_6 : w24.cell? ⟨gb489, 6, none⟩ = some (.int .i64 a0_6) := (blk_cell BK489.out 6).trans rfl; have hfz25_0 := blk_frozen BK489.out 0; have hfz25_1 := blk_frozen BK489.out 1; have hfz25_2 := blk_frozen BK489.out 2; have hfz25_3 := blk_frozen BK489.out 3; have hfz25_4 := blk_frozen BK489.out 4; have hfz25_5 := blk_frozen BK489.out 5; have hfz25_6 := blk_frozen BK489.out 6))
          go_meet
          case rel => exact ⟨_, ((a0_1 == 37)), (by first | rfl | (simp; done) | (simp [*]; done)), H', ⟨by first | omega | exact Nat.le_refl _⟩, ⟨by (with_reducible repeat (first | refine blk_drewN ?_ _ | refine blk_drew ?_ | refine blk_alloc ?_ _)); exact BK489.out⟩, ⟨by (with_reducible repeat (first | refine blk_drewN ?_ _ | refine blk_drew ?_ | refine blk_alloc ?_ _)); exact BK496.out⟩, ⟨by repeat (first | (with_reducible first | exact HB.out | apply below_alloc | apply pw_below_drewN | apply below_drew1 | refine below_set ?_ GE489.out | refine below_set ?_ GE496.out) | exact HB.out)⟩⟩
      · rw [if_neg c16] at H
        have c16b0 : (t497 == 0) = false := beq_eq_false_iff_ne.mpr c16
        have c16b1 : (t497 != 0) = true := bne_iff_ne.mpr c16
        (first | rw [c16b0] | (simp only [i64_w, i32_w]; rw [c16b0]) | skip)
        have H' := Aside0.mk H
        clear H
        have hnb26 := NB489_496.out
        have hnc26 := NB496_489.out
        have hcz27_0 : w12.cell? ⟨gb489, 0, none⟩ = some (.string a0_0) := (blk_cell BK489.out 0).trans rfl
        have hcz27_1 : w12.cell? ⟨gb489, 1, none⟩ = some (.int .u8 a0_1) := (blk_cell BK489.out 1).trans rfl
        have hcz27_2 : w12.cell? ⟨gb489, 2, none⟩ = some (.int .i64 a0_2) := (blk_cell BK489.out 2).trans rfl
        have hcz27_3 : w12.cell? ⟨gb489, 3, none⟩ = some (.int .i64 a0_3) := (blk_cell BK489.out 3).trans rfl
        have hcz27_4 : w12.cell? ⟨gb489, 4, none⟩ = some (.int .i64 a0_4) := (blk_cell BK489.out 4).trans rfl
        have hcz27_5 : w12.cell? ⟨gb489, 5, none⟩ = some (.int .i64 a0_5) := (blk_cell BK489.out 5).trans rfl
        have hcz27_6 : w12.cell? ⟨gb489, 6, none⟩ = some (.int .i64 a0_6) := (blk_cell BK489.out 6).trans rfl
        have hfz27_0 := blk_frozen BK489.out 0
        have hfz27_1 := blk_frozen BK489.out 1
        have hfz27_2 := blk_frozen BK489.out 2
        have hfz27_3 := blk_frozen BK489.out 3
        have hfz27_4 := blk_frozen BK489.out 4
        have hfz27_5 := blk_frozen BK489.out 5
        have hfz27_6 := blk_frozen BK489.out 6
        go_wp2_with (first | ((with_reducible refine gate_callee (f := 11) rfl ?_); refine goesL_ (some 23) rfl rfl Tryd.func11 (by kernel_rfl) rfl #[.agg #[.string a0_0, .int .u8 a0_1, .int .i64 a0_2, .int .i64 a0_3, .int .i64 a0_4, .int .i64 a0_5, .int .i64 a0_6]] rfl (by (try simp only [List.map_toArray, List.map_cons, List.map_nil]); first | done | rfl | (simp only [List.length_drop, List.length_take]; rfl)) ?_; (with_reducible refine (directive_Check.calls k a0_0 a0_1 a0_2 a0_3 a0_4 a0_5 a0_6 t497 _ A15.out).mono ?_); rintro e w28 ⟨rfl, hb⟩; refine ⟨_, rfl, ?_⟩; have n0_ := Aside0.mk (blk_below (g := gb489) (o := .cells #[.string a0_0, .int .u8 a0_1, .int .i64 a0_2, .int .i64 a0_3, .int .i64 a0_4, .int .i64 a0_5, .int .i64 a0_6] 25 (0, 0)) (by (with_reducible repeat (first | refine blk_drewN ?_ _ | refine blk_drew ?_ | refine blk_alloc ?_ _)); refine blk_far ?_ NB489_496.out _; (with_reducible repeat (first | refine blk_drewN ?_ _ | refine blk_drew ?_ | refine blk_alloc ?_ _)); refine blk_far ?_ NB489_496.out _; (with_reducible repeat (first | refine blk_drewN ?_ _ | refine blk_drew ?_ | refine blk_alloc ?_ _)); refine blk_far ?_ NB489_496.out _; (with_reducible repeat (first | refine blk_drewN ?_ _ | refine blk_drew ?_ | refine blk_alloc ?_ _)); refine blk_far ?_ NB489_496.out _; (with_reducible repeat (first | refine blk_drewN ?_ _ | refine blk_drew ?_ | refine blk_alloc ?_ _)); exact BK489.out) hb); have n1_ := Aside0.mk (blk_below (g := gb496) (o := .cells #[.int .u8 t491, .int .i64 t492, .int .i64 t493, .int .i64 t494] 37 (0, 0)) (by (with_reducible repeat (first | refine blk_drewN ?_ _ | refine blk_drew ?_ | refine blk_alloc ?_ _)); refine blk_put (cs := #[.int .u8 t491, .int .i64 t492, .int .i64 t493, .int .i64 0]) ?_ 3 _ rfl; (with_reducible repeat (first | refine blk_drewN ?_ _ | refine blk_drew ?_ | refine blk_alloc ?_ _)); refine blk_put (cs := #[.int .u8 t491, .int .i64 t492, .int .i64 0, .int .i64 0]) ?_ 2 _ rfl; (with_reducible repeat (first | refine blk_drewN ?_ _ | refine blk_drew ?_ | refine blk_alloc ?_ _)); refine blk_put (cs := #[.int .u8 t491, .int .i64 0, .int .i64 0, .int .i64 0]) ?_ 1 _ rfl; (with_reducible repeat (first | refine blk_drewN ?_ _ | refine blk_drew ?_ | refine blk_alloc ?_ _)); refine blk_put (cs := #[.int .u8 0, .int .i64 0, .int .i64 0, .int .i64 0]) ?_ 0 _ rfl; (with_reducible repeat (first | refine blk_drewN ?_ _ | refine blk_drew ?_ | refine blk_alloc ?_ _)); exact BK496.out) hb); have n2_ := Aside0.mk (below_step (by repeat (first | (with_reducible first | exact HB.out | apply below_alloc | apply pw_below_drewN | apply below_drew1 | refine below_set ?_ GE489.out | refine below_set ?_ GE496.out) | exact HB.out)) hb); clear BK489; clear BK496; clear HB; have BK489 := n0_; have BK496 := n1_; have HB := n2_; clear n0_ n1_ n2_; (try clear hb); (try clear hb2); (try clear hk); (try clear hi)))
        go_meet
        case rel => exact ⟨_, (true), (by first | rfl | (simp; done) | (simp [*]; done)), H', ⟨by first | omega | exact Nat.le_refl _⟩, ⟨by (with_reducible repeat (first | refine blk_drewN ?_ _ | refine blk_drew ?_ | refine blk_alloc ?_ _)); exact BK489.out⟩, ⟨by (with_reducible repeat (first | refine blk_drewN ?_ _ | refine blk_drew ?_ | refine blk_alloc ?_ _)); exact BK496.out⟩, ⟨by repeat (first | (with_reducible first | exact HB.out | apply below_alloc | apply pw_below_drewN | apply below_drew1 | refine below_set ?_ GE489.out | refine below_set ?_ GE496.out) | exact HB.out)⟩⟩
    case rest =>
      clear HC7
      try clear c1
      try clear c2
      try clear p2
      try clear c5
      try clear c6
      try clear c10
      try clear c11
      try clear c13
      try clear c16
      try clear c16b0
      try clear c16b1
      try clear c17
      try clear c17b0
      try clear c17b1
      try clear c18
      try clear c22
      try clear c26
      try clear hcz10_0
      try clear hcz10_1
      try clear hcz10_2
      try clear hcz10_3
      try clear hcz10_4
      try clear hcz10_5
      try clear hcz10_6
      try clear hcz14_0
      try clear hcz14_1
      try clear hcz14_2
      try clear hcz14_3
      try clear hcz19_0
      try clear hcz19_1
      try clear hcz19_2
      try clear hcz19_3
      try clear hcz19_4
      try clear hcz19_5
      try clear hcz19_6
      try clear hcz21_0
      try clear hcz21_1
      try clear hcz21_2
      try clear hcz21_3
      try clear hcz21_4
      try clear hcz21_5
      try clear hcz21_6
      try clear hcz23_0
      try clear hcz23_1
      try clear hcz23_2
      try clear hcz23_3
      try clear hcz23_4
      try clear hcz23_5
      try clear hcz23_6
      try clear hcz25_0
      try clear hcz25_1
      try clear hcz25_2
      try clear hcz25_3
      try clear hcz25_4
      try clear hcz25_5
      try clear hcz25_6
      try clear hcz27_0
      try clear hcz27_1
      try clear hcz27_2
      try clear hcz27_3
      try clear hcz27_4
      try clear hcz27_5
      try clear hcz27_6
      try clear hfz10_0
      try clear hfz10_1
      try clear hfz10_2
      try clear hfz10_3
      try clear hfz10_4
      try clear hfz10_5
      try clear hfz10_6
      try clear hfz14_0
      try clear hfz14_1
      try clear hfz14_2
      try clear hfz14_3
      try clear hfz19_0
      try clear hfz19_1
      try clear hfz19_2
      try clear hfz19_3
      try clear hfz19_4
      try clear hfz19_5
      try clear hfz19_6
      try clear hfz21_0
      try clear hfz21_1
      try clear hfz21_2
      try clear hfz21_3
      try clear hfz21_4
      try clear hfz21_5
      try clear hfz21_6
      try clear hfz23_0
      try clear hfz23_1
      try clear hfz23_2
      try clear hfz23_3
      try clear hfz23_4
      try clear hfz23_5
      try clear hfz23_6
      try clear hfz25_0
      try clear hfz25_1
      try clear hfz25_2
      try clear hfz25_3
      try clear hfz25_4
      try clear hfz25_5
      try clear hfz25_6
      try clear hfz27_0
      try clear hfz27_1
      try clear hfz27_2
      try clear hfz27_3
      try clear hfz27_4
      try clear hfz27_5
      try clear hfz27_6
      obtain ⟨kq, x34_6, rfl, HA, HJ6, BK489, BK496, HB⟩ := hcut
      cases kq with
      | zero => exact absurd HA.out (by simp [abacuslaw13_DirectiveStars.j0])
      | succ kj6 =>
        have H := HA.out
        clear HA
        simp only [abacuslaw13_DirectiveStars.j0] at H
        by_cases c29 : x34_6 = true
        · subst c29
          have H1 : (if t495 = 132 then (some (t491 == 0 && (t492 == 0 && (t493 == 0 && (t494 == 0))))) else (some false)) = some true := by rw [if_pos rfl] at H; exact H
          clear H
          have H := H1
          clear H1
          by_cases c30 : t495 = 132
          · rw [if_pos c30] at H
            have c30b0 : (t495 == 132) = true := beq_iff_eq.mpr c30
            have c30b1 : (t495 != 132) = false := bne_eq_false_iff_eq.mpr c30
            clear c30
            have HX := Aside0.mk (Option.some.inj H)
            clear H
            have hnb31 := NB496_489.out
            have hnc31 := NB489_496.out
            have hcz32_0 : wc.cell? ⟨gb496, 0, none⟩ = some (.int .u8 t491) := (blk_cell BK496.out 0).trans rfl
            have hcz32_1 : wc.cell? ⟨gb496, 1, none⟩ = some (.int .i64 t492) := (blk_cell BK496.out 1).trans rfl
            have hcz32_2 : wc.cell? ⟨gb496, 2, none⟩ = some (.int .i64 t493) := (blk_cell BK496.out 2).trans rfl
            have hcz32_3 : wc.cell? ⟨gb496, 3, none⟩ = some (.int .i64 t494) := (blk_cell BK496.out 3).trans rfl
            have hfz32_0 := blk_frozen BK496.out 0
            have hfz32_1 := blk_frozen BK496.out 1
            have hfz32_2 := blk_frozen BK496.out 2
            have hfz32_3 := blk_frozen BK496.out 3
            go_wp2
            go_ret
            exact ⟨by first | exact congrArg (fun b_ => Ending.returned (Value.bool b_)) HX.out | (have hx_ := HX.out; simp at hx_ ⊢; done) | (have hx_ := HX.out; simp at hx_ ⊢; exact hx_) | (have hx_ := HX.out; simp_all) | (simp [*, errW_none, errW_some] <;> rfl), by repeat (first | (with_reducible first | exact HB.out | apply below_alloc | apply pw_below_drewN | apply below_drew1 | refine below_set ?_ GE489.out | refine below_set ?_ GE496.out) | exact HB.out)⟩
          · rw [if_neg c30] at H
            have c30b0 : (t495 == 132) = false := beq_eq_false_iff_ne.mpr c30
            have c30b1 : (t495 != 132) = true := bne_iff_ne.mpr c30
            exact absurd H (by simp)
        · replace c29 := Bool.eq_false_iff.mpr c29
          subst c29
          have H1 : (if a0_3 = 2 then (if a1 > 4096 then (abacuslaw13_DirectiveStars.j1 kj6 a1 a2 t495 true a0_0 a0_1 a0_2 a0_3 a0_4 a0_5 a0_6 t491 t492 t493 t494 a0_0 a0_1 a0_2 a0_3 a0_4 a0_5 a0_6) else (abacuslaw13_DirectiveStars.j1 kj6 a1 a2 t495 (decide (a1 < (-4096))) a0_0 a0_1 a0_2 a0_3 a0_4 a0_5 a0_6 t491 t492 t493 t494 a0_0 a0_1 a0_2 a0_3 a0_4 a0_5 a0_6)) else (abacuslaw13_DirectiveStars.j2 kj6 a1 a2 t495 false a0_0 a0_1 a0_2 a0_3 a0_4 a0_5 a0_6 t491 t492 t493 t494 a0_0 a0_1 a0_2 a0_3 a0_4 a0_5 a0_6)) = some true := by rw [if_neg (show ¬ (false = true) by decide)] at H; exact H
          clear H
          have H := H1
          clear H1
          have HC33 := Aside0.mk H
          clear H
          have hnb34 := NB489_496.out
          have hnc34 := NB496_489.out
          have hcz35_0 : wc.cell? ⟨gb489, 0, none⟩ = some (.string a0_0) := (blk_cell BK489.out 0).trans rfl
          have hcz35_1 : wc.cell? ⟨gb489, 1, none⟩ = some (.int .u8 a0_1) := (blk_cell BK489.out 1).trans rfl
          have hcz35_2 : wc.cell? ⟨gb489, 2, none⟩ = some (.int .i64 a0_2) := (blk_cell BK489.out 2).trans rfl
          have hcz35_3 : wc.cell? ⟨gb489, 3, none⟩ = some (.int .i64 a0_3) := (blk_cell BK489.out 3).trans rfl
          have hcz35_4 : wc.cell? ⟨gb489, 4, none⟩ = some (.int .i64 a0_4) := (blk_cell BK489.out 4).trans rfl
          have hcz35_5 : wc.cell? ⟨gb489, 5, none⟩ = some (.int .i64 a0_5) := (blk_cell BK489.out 5).trans rfl
          have hcz35_6 : wc.cell? ⟨gb489, 6, none⟩ = some (.int .i64 a0_6) := (blk_cell BK489.out 6).trans rfl
          have hfz35_0 := blk_frozen BK489.out 0
          have hfz35_1 := blk_frozen BK489.out 1
          have hfz35_2 := blk_frozen BK489.out 2
          have hfz35_3 := blk_frozen BK489.out 3
          have hfz35_4 := blk_frozen BK489.out 4
          have hfz35_5 := blk_frozen BK489.out 5
          have hfz35_6 := blk_frozen BK489.out 6
          go_upto_if 45 with (first | ((with_reducible refine gate_dst (N := 9) rfl ?_); refine box_event ?hg (N := 9) ?hd (cs := #[.string (⟨#[]⟩ : ByteArray), .int .u8 0, .int .i64 0, .int .i64 0, .int .i64 0, .int .i64 0, .int .i64 0]) (t := 25) ?hr ?_; (case hd => rfl); (case hg => rfl); (case hr => first | (go_simp; done) | (go_simp; rfl)); intro gb498 hg w36 hbox hb; have n0_ := Aside0.mk (blk_below (g := gb489) (o := .cells #[.string a0_0, .int .u8 a0_1, .int .i64 a0_2, .int .i64 a0_3, .int .i64 a0_4, .int .i64 a0_5, .int .i64 a0_6] 25 (0, 0)) (by (with_reducible repeat (first | refine blk_drewN ?_ _ | refine blk_drew ?_ | refine blk_alloc ?_ _)); exact BK489.out) hb); have n1_ := Aside0.mk (blk_below (g := gb496) (o := .cells #[.int .u8 t491, .int .i64 t492, .int .i64 t493, .int .i64 t494] 37 (0, 0)) (by (with_reducible repeat (first | refine blk_drewN ?_ _ | refine blk_drew ?_ | refine blk_alloc ?_ _)); exact BK496.out) hb); have n2_ := Aside0.mk (below_step (by repeat (first | (with_reducible first | exact HB.out | apply below_alloc | apply pw_below_drewN | apply below_drew1 | refine below_set ?_ GE489.out | refine below_set ?_ GE496.out) | exact HB.out)) hb); have n3_ := Aside0.mk (hbox); have n4_ := Aside0.mk ((by rw [hg]; exact (below_size (by repeat (first | (with_reducible first | exact HB.out | apply below_alloc | apply pw_below_drewN | apply below_drew1 | refine below_set ?_ GE489.out | refine below_set ?_ GE496.out) | exact HB.out))) : w.heap.size ≤ gb498)); have n5_ := Aside0.mk ((by rw [hg]; exact (below_size (by repeat (first | (with_reducible first | exact HB.out | apply below_alloc | apply pw_below_drewN | apply below_drew1 | refine below_set ?_ GE489.out | refine below_set ?_ GE496.out) | exact HB.out))) : w.heap.size ≤ gb498)); have n6_ := Aside0.mk ((by rw [hg]; exact Nat.ne_of_lt (blk_lt (g := gb489) (o := .cells #[.string a0_0, .int .u8 a0_1, .int .i64 a0_2, .int .i64 a0_3, .int .i64 a0_4, .int .i64 a0_5, .int .i64 a0_6] 25 (0, 0)) (by (with_reducible repeat (first | refine blk_drewN ?_ _ | refine blk_drew ?_ | refine blk_alloc ?_ _)); exact BK489.out)) : gb489 ≠ gb498)); have n7_ := Aside0.mk ((by rw [hg]; exact Nat.ne_of_gt (blk_lt (g := gb489) (o := .cells #[.string a0_0, .int .u8 a0_1, .int .i64 a0_2, .int .i64 a0_3, .int .i64 a0_4, .int .i64 a0_5, .int .i64 a0_6] 25 (0, 0)) (by (with_reducible repeat (first | refine blk_drewN ?_ _ | refine blk_drew ?_ | refine blk_alloc ?_ _)); exact BK489.out)) : gb498 ≠ gb489)); have n8_ := Aside0.mk ((by rw [hg]; exact Nat.ne_of_lt (blk_lt (g := gb496) (o := .cells #[.int .u8 t491, .int .i64 t492, .int .i64 t493, .int .i64 t494] 37 (0, 0)) (by (with_reducible repeat (first | refine blk_drewN ?_ _ | refine blk_drew ?_ | refine blk_alloc ?_ _)); exact BK496.out)) : gb496 ≠ gb498)); have n9_ := Aside0.mk ((by rw [hg]; exact Nat.ne_of_gt (blk_lt (g := gb496) (o := .cells #[.int .u8 t491, .int .i64 t492, .int .i64 t493, .int .i64 t494] 37 (0, 0)) (by (with_reducible repeat (first | refine blk_drewN ?_ _ | refine blk_drew ?_ | refine blk_alloc ?_ _)); exact BK496.out)) : gb498 ≠ gb496)); clear BK489; clear BK496; clear HB; have BK489 := n0_; have BK496 := n1_; have HB := n2_; have BK498 := n3_; have GW498 := n4_; have GE498 := n5_; have NB489_498 := n6_; have NB498_489 := n7_; have NB496_498 := n8_; have NB498_496 := n9_; clear n0_ n1_ n2_ n3_ n4_ n5_ n6_ n7_ n8_ n9_; clear hb hbox hg; have hnb37 := NB498_489.out; have hnc37 := NB489_498.out; have hnb38 := NB498_496.out; have hnc38 := NB496_498.out; have hcz39_0 : w36.cell? ⟨gb498, 0, none⟩ = some (.string (⟨#[]⟩ : ByteArray)) := (blk_cell BK498.out 0).trans rfl; have hcz39_1 : w36.cell? ⟨gb498, 1, none⟩ = some (.int .u8 0) := (blk_cell BK498.out 1).trans rfl; have hcz39_2 : w36.cell? ⟨gb498, 2, none⟩ = some (.int .i64 0) := (blk_cell BK498.out 2).trans rfl; have hcz39_3 : w36.cell? ⟨gb498, 3, none⟩ = some (.int .i64 0) := (blk_cell BK498.out 3).trans rfl; have hcz39_4 : w36.cell? ⟨gb498, 4, none⟩ = some (.int .i64 0) := (blk_cell BK498.out 4).trans rfl; have hcz39_5 : w36.cell? ⟨gb498, 5, none⟩ = some (.int .i64 0) := (blk_cell BK498.out 5).trans rfl; have hcz39_6 : w36.cell? ⟨gb498, 6, none⟩ = some (.int .i64 0) := (blk_cell BK498.out 6).trans rfl; have hfz39_0 := blk_frozen BK498.out 0; have hfz39_1 := blk_frozen BK498.out 1; have hfz39_2 := blk_frozen BK498.out 2; have hfz39_3 := blk_frozen BK498.out 3; have hfz39_4 := blk_frozen BK498.out 4; have hfz39_5 := blk_frozen BK498.out 5; have hfz39_6 := blk_frozen BK498.out 6; have hcz40_0 : w36.cell? ⟨gb489, 0, none⟩ = some (.string a0_0) := (blk_cell BK489.out 0).trans rfl; have hcz40_1 : w36.cell? ⟨gb489, 1, none⟩ = some (.int .u8 a0_1) := (blk_cell BK489.out 1).trans rfl; have hcz40_2 : w36.cell? ⟨gb489, 2, none⟩ = some (.int .i64 a0_2) := (blk_cell BK489.out 2).trans rfl; have hcz40_3 : w36.cell? ⟨gb489, 3, none⟩ = some (.int .i64 a0_3) := (blk_cell BK489.out 3).trans rfl; have hcz40_4 : w36.cell? ⟨gb489, 4, none⟩ = some (.int .i64 a0_4) := (blk_cell BK489.out 4).trans rfl; have hcz40_5 : w36.cell? ⟨gb489, 5, none⟩ = some (.int .i64 a0_5) := (blk_cell BK489.out 5).trans rfl; have hcz40_6 : w36.cell? ⟨gb489, 6, none⟩ = some (.int .i64 a0_6) := (blk_cell BK489.out 6).trans rfl; have hfz40_0 := blk_frozen BK489.out 0; have hfz40_1 := blk_frozen BK489.out 1; have hfz40_2 := blk_frozen BK489.out 2; have hfz40_3 := blk_frozen BK489.out 3; have hfz40_4 := blk_frozen BK489.out 4; have hfz40_5 := blk_frozen BK489.out 5; have hfz40_6 := blk_frozen BK489.out 6))
          (try simp only [Act.put, List.setIfInBounds_toArray, List.set_cons_zero, List.set_cons_succ])
          go_cut [10] (fun v10 wc => ∃ (kq : Nat) (x10_32 : Bool) (x499002_32 : Int) (x499003_32 : Int) (x499004_32 : Int), v10 = .bool x10_32 ∧ Aside0 (abacuslaw13_DirectiveStars.j2 kq a1 a2 t495 x10_32 a0_0 a0_1 a0_2 a0_3 a0_4 a0_5 a0_6 t491 t492 t493 t494 a0_0 a0_1 x499002_32 x499003_32 x499004_32 a0_5 a0_6 = some true) ∧ Aside0 (kq ≤ kj6) ∧ Aside0 (wc.heap[gb489]? = some (.cells #[.string a0_0, .int .u8 a0_1, .int .i64 a0_2, .int .i64 a0_3, .int .i64 a0_4, .int .i64 a0_5, .int .i64 a0_6] 25 (0, 0))) ∧ Aside0 (wc.heap[gb496]? = some (.cells #[.int .u8 t491, .int .i64 t492, .int .i64 t493, .int .i64 t494] 37 (0, 0))) ∧ Aside0 (wc.heap[gb498]? = some (.cells #[.string a0_0, .int .u8 a0_1, .int .i64 x499002_32, .int .i64 x499003_32, .int .i64 x499004_32, .int .i64 a0_5, .int .i64 a0_6] 25 (0, 0))) ∧ Aside0 (Below w.heap.size w wc))
          case first =>
            have H := HC33.out
            clear HC33
            by_cases c41 : a0_3 = 2
            · rw [if_pos c41] at H
              have c41b0 : (a0_3 == 2) = true := beq_iff_eq.mpr c41
              have c41b1 : (a0_3 != 2) = false := bne_eq_false_iff_eq.mpr c41
              clear c41
              (first | rw [c41b0] | (simp only [i64_w, i32_w]; rw [c41b0]) | skip)
              have HC42 := Aside0.mk H
              clear H
              go_upto_region 9 with (fail)
              go_cut [10] (fun v10 wc => ∃ (kq : Nat) (x10_41 : Bool), v10 = .bool x10_41 ∧ Aside0 (abacuslaw13_DirectiveStars.j1 kq a1 a2 t495 x10_41 a0_0 a0_1 a0_2 a0_3 a0_4 a0_5 a0_6 t491 t492 t493 t494 a0_0 a0_1 a0_2 a0_3 a0_4 a0_5 a0_6 = some true) ∧ Aside0 (kq ≤ kj6) ∧ Aside0 (wc.heap[gb489]? = some (.cells #[.string a0_0, .int .u8 a0_1, .int .i64 a0_2, .int .i64 a0_3, .int .i64 a0_4, .int .i64 a0_5, .int .i64 a0_6] 25 (0, 0))) ∧ Aside0 (wc.heap[gb496]? = some (.cells #[.int .u8 t491, .int .i64 t492, .int .i64 t493, .int .i64 t494] 37 (0, 0))) ∧ Aside0 (wc.heap[gb498]? = some (.cells #[.string a0_0, .int .u8 a0_1, .int .i64 a0_2, .int .i64 a0_3, .int .i64 a0_4, .int .i64 a0_5, .int .i64 a0_6] 25 (0, 0))) ∧ Aside0 (Below w.heap.size w wc))
              case first =>
                have H := HC42.out
                clear HC42
                by_cases c43 : a1 > 4096
                · rw [if_pos c43] at H
                  have c43b0 : decide (4096 < a1) = true := decide_eq_true c43
                  clear c43
                  (first | rw [c43b0] | (simp only [i64_w, i32_w]; rw [c43b0]) | skip)
                  have H' := Aside0.mk H
                  clear H
                  go_wp2
                  go_meet
                  case rel => exact ⟨_, (true), (by first | rfl | (simp; done) | (simp [*]; done)), H', ⟨by have := HJ6.out; first | omega | exact Nat.le_refl _⟩, ⟨by (with_reducible repeat (first | refine blk_drewN ?_ _ | refine blk_drew ?_ | refine blk_alloc ?_ _)); refine blk_far ?_ NB489_498.out _; (with_reducible repeat (first | refine blk_drewN ?_ _ | refine blk_drew ?_ | refine blk_alloc ?_ _)); refine blk_far ?_ NB489_498.out _; (with_reducible repeat (first | refine blk_drewN ?_ _ | refine blk_drew ?_ | refine blk_alloc ?_ _)); refine blk_far ?_ NB489_498.out _; (with_reducible repeat (first | refine blk_drewN ?_ _ | refine blk_drew ?_ | refine blk_alloc ?_ _)); refine blk_far ?_ NB489_498.out _; (with_reducible repeat (first | refine blk_drewN ?_ _ | refine blk_drew ?_ | refine blk_alloc ?_ _)); refine blk_far ?_ NB489_498.out _; (with_reducible repeat (first | refine blk_drewN ?_ _ | refine blk_drew ?_ | refine blk_alloc ?_ _)); refine blk_far ?_ NB489_498.out _; (with_reducible repeat (first | refine blk_drewN ?_ _ | refine blk_drew ?_ | refine blk_alloc ?_ _)); refine blk_far ?_ NB489_498.out _; (with_reducible repeat (first | refine blk_drewN ?_ _ | refine blk_drew ?_ | refine blk_alloc ?_ _)); exact BK489.out⟩, ⟨by (with_reducible repeat (first | refine blk_drewN ?_ _ | refine blk_drew ?_ | refine blk_alloc ?_ _)); refine blk_far ?_ NB496_498.out _; (with_reducible repeat (first | refine blk_drewN ?_ _ | refine blk_drew ?_ | refine blk_alloc ?_ _)); refine blk_far ?_ NB496_498.out _; (with_reducible repeat (first | refine blk_drewN ?_ _ | refine blk_drew ?_ | refine blk_alloc ?_ _)); refine blk_far ?_ NB496_498.out _; (with_reducible repeat (first | refine blk_drewN ?_ _ | refine blk_drew ?_ | refine blk_alloc ?_ _)); refine blk_far ?_ NB496_498.out _; (with_reducible repeat (first | refine blk_drewN ?_ _ | refine blk_drew ?_ | refine blk_alloc ?_ _)); refine blk_far ?_ NB496_498.out _; (with_reducible repeat (first | refine blk_drewN ?_ _ | refine blk_drew ?_ | refine blk_alloc ?_ _)); refine blk_far ?_ NB496_498.out _; (with_reducible repeat (first | refine blk_drewN ?_ _ | refine blk_drew ?_ | refine blk_alloc ?_ _)); refine blk_far ?_ NB496_498.out _; (with_reducible repeat (first | refine blk_drewN ?_ _ | refine blk_drew ?_ | refine blk_alloc ?_ _)); exact BK496.out⟩, ⟨by (with_reducible repeat (first | refine blk_drewN ?_ _ | refine blk_drew ?_ | refine blk_alloc ?_ _)); refine blk_put (cs := #[.string a0_0, .int .u8 a0_1, .int .i64 a0_2, .int .i64 a0_3, .int .i64 a0_4, .int .i64 a0_5, .int .i64 0]) ?_ 6 _ rfl; (with_reducible repeat (first | refine blk_drewN ?_ _ | refine blk_drew ?_ | refine blk_alloc ?_ _)); refine blk_put (cs := #[.string a0_0, .int .u8 a0_1, .int .i64 a0_2, .int .i64 a0_3, .int .i64 a0_4, .int .i64 0, .int .i64 0]) ?_ 5 _ rfl; (with_reducible repeat (first | refine blk_drewN ?_ _ | refine blk_drew ?_ | refine blk_alloc ?_ _)); refine blk_put (cs := #[.string a0_0, .int .u8 a0_1, .int .i64 a0_2, .int .i64 a0_3, .int .i64 0, .int .i64 0, .int .i64 0]) ?_ 4 _ rfl; (with_reducible repeat (first | refine blk_drewN ?_ _ | refine blk_drew ?_ | refine blk_alloc ?_ _)); refine blk_put (cs := #[.string a0_0, .int .u8 a0_1, .int .i64 a0_2, .int .i64 0, .int .i64 0, .int .i64 0, .int .i64 0]) ?_ 3 _ rfl; (with_reducible repeat (first | refine blk_drewN ?_ _ | refine blk_drew ?_ | refine blk_alloc ?_ _)); refine blk_put (cs := #[.string a0_0, .int .u8 a0_1, .int .i64 0, .int .i64 0, .int .i64 0, .int .i64 0, .int .i64 0]) ?_ 2 _ rfl; (with_reducible repeat (first | refine blk_drewN ?_ _ | refine blk_drew ?_ | refine blk_alloc ?_ _)); refine blk_put (cs := #[.string a0_0, .int .u8 0, .int .i64 0, .int .i64 0, .int .i64 0, .int .i64 0, .int .i64 0]) ?_ 1 _ rfl; (with_reducible repeat (first | refine blk_drewN ?_ _ | refine blk_drew ?_ | refine blk_alloc ?_ _)); refine blk_put (cs := #[.string (⟨#[]⟩ : ByteArray), .int .u8 0, .int .i64 0, .int .i64 0, .int .i64 0, .int .i64 0, .int .i64 0]) ?_ 0 _ rfl; (with_reducible repeat (first | refine blk_drewN ?_ _ | refine blk_drew ?_ | refine blk_alloc ?_ _)); exact BK498.out⟩, ⟨by repeat (first | (with_reducible first | exact HB.out | apply below_alloc | apply pw_below_drewN | apply below_drew1 | refine below_set ?_ GE489.out | refine below_set ?_ GE496.out | refine below_set ?_ GE498.out) | exact HB.out)⟩⟩
                · rw [if_neg c43] at H
                  have c43b0 : decide (4096 < a1) = false := decide_eq_false c43
                  clear c43
                  (first | rw [c43b0] | (simp only [i64_w, i32_w]; rw [c43b0]) | skip)
                  have H' := Aside0.mk H
                  clear H
                  go_wp2
                  go_meet
                  case rel => exact ⟨_, (decide (a1 < (-4096))), (by first | rfl | (simp; done) | (simp [*]; done)), H', ⟨by have := HJ6.out; first | omega | exact Nat.le_refl _⟩, ⟨by (with_reducible repeat (first | refine blk_drewN ?_ _ | refine blk_drew ?_ | refine blk_alloc ?_ _)); refine blk_far ?_ NB489_498.out _; (with_reducible repeat (first | refine blk_drewN ?_ _ | refine blk_drew ?_ | refine blk_alloc ?_ _)); refine blk_far ?_ NB489_498.out _; (with_reducible repeat (first | refine blk_drewN ?_ _ | refine blk_drew ?_ | refine blk_alloc ?_ _)); refine blk_far ?_ NB489_498.out _; (with_reducible repeat (first | refine blk_drewN ?_ _ | refine blk_drew ?_ | refine blk_alloc ?_ _)); refine blk_far ?_ NB489_498.out _; (with_reducible repeat (first | refine blk_drewN ?_ _ | refine blk_drew ?_ | refine blk_alloc ?_ _)); refine blk_far ?_ NB489_498.out _; (with_reducible repeat (first | refine blk_drewN ?_ _ | refine blk_drew ?_ | refine blk_alloc ?_ _)); refine blk_far ?_ NB489_498.out _; (with_reducible repeat (first | refine blk_drewN ?_ _ | refine blk_drew ?_ | refine blk_alloc ?_ _)); refine blk_far ?_ NB489_498.out _; (with_reducible repeat (first | refine blk_drewN ?_ _ | refine blk_drew ?_ | refine blk_alloc ?_ _)); exact BK489.out⟩, ⟨by (with_reducible repeat (first | refine blk_drewN ?_ _ | refine blk_drew ?_ | refine blk_alloc ?_ _)); refine blk_far ?_ NB496_498.out _; (with_reducible repeat (first | refine blk_drewN ?_ _ | refine blk_drew ?_ | refine blk_alloc ?_ _)); refine blk_far ?_ NB496_498.out _; (with_reducible repeat (first | refine blk_drewN ?_ _ | refine blk_drew ?_ | refine blk_alloc ?_ _)); refine blk_far ?_ NB496_498.out _; (with_reducible repeat (first | refine blk_drewN ?_ _ | refine blk_drew ?_ | refine blk_alloc ?_ _)); refine blk_far ?_ NB496_498.out _; (with_reducible repeat (first | refine blk_drewN ?_ _ | refine blk_drew ?_ | refine blk_alloc ?_ _)); refine blk_far ?_ NB496_498.out _; (with_reducible repeat (first | refine blk_drewN ?_ _ | refine blk_drew ?_ | refine blk_alloc ?_ _)); refine blk_far ?_ NB496_498.out _; (with_reducible repeat (first | refine blk_drewN ?_ _ | refine blk_drew ?_ | refine blk_alloc ?_ _)); refine blk_far ?_ NB496_498.out _; (with_reducible repeat (first | refine blk_drewN ?_ _ | refine blk_drew ?_ | refine blk_alloc ?_ _)); exact BK496.out⟩, ⟨by (with_reducible repeat (first | refine blk_drewN ?_ _ | refine blk_drew ?_ | refine blk_alloc ?_ _)); refine blk_put (cs := #[.string a0_0, .int .u8 a0_1, .int .i64 a0_2, .int .i64 a0_3, .int .i64 a0_4, .int .i64 a0_5, .int .i64 0]) ?_ 6 _ rfl; (with_reducible repeat (first | refine blk_drewN ?_ _ | refine blk_drew ?_ | refine blk_alloc ?_ _)); refine blk_put (cs := #[.string a0_0, .int .u8 a0_1, .int .i64 a0_2, .int .i64 a0_3, .int .i64 a0_4, .int .i64 0, .int .i64 0]) ?_ 5 _ rfl; (with_reducible repeat (first | refine blk_drewN ?_ _ | refine blk_drew ?_ | refine blk_alloc ?_ _)); refine blk_put (cs := #[.string a0_0, .int .u8 a0_1, .int .i64 a0_2, .int .i64 a0_3, .int .i64 0, .int .i64 0, .int .i64 0]) ?_ 4 _ rfl; (with_reducible repeat (first | refine blk_drewN ?_ _ | refine blk_drew ?_ | refine blk_alloc ?_ _)); refine blk_put (cs := #[.string a0_0, .int .u8 a0_1, .int .i64 a0_2, .int .i64 0, .int .i64 0, .int .i64 0, .int .i64 0]) ?_ 3 _ rfl; (with_reducible repeat (first | refine blk_drewN ?_ _ | refine blk_drew ?_ | refine blk_alloc ?_ _)); refine blk_put (cs := #[.string a0_0, .int .u8 a0_1, .int .i64 0, .int .i64 0, .int .i64 0, .int .i64 0, .int .i64 0]) ?_ 2 _ rfl; (with_reducible repeat (first | refine blk_drewN ?_ _ | refine blk_drew ?_ | refine blk_alloc ?_ _)); refine blk_put (cs := #[.string a0_0, .int .u8 0, .int .i64 0, .int .i64 0, .int .i64 0, .int .i64 0, .int .i64 0]) ?_ 1 _ rfl; (with_reducible repeat (first | refine blk_drewN ?_ _ | refine blk_drew ?_ | refine blk_alloc ?_ _)); refine blk_put (cs := #[.string (⟨#[]⟩ : ByteArray), .int .u8 0, .int .i64 0, .int .i64 0, .int .i64 0, .int .i64 0, .int .i64 0]) ?_ 0 _ rfl; (with_reducible repeat (first | refine blk_drewN ?_ _ | refine blk_drew ?_ | refine blk_alloc ?_ _)); exact BK498.out⟩, ⟨by repeat (first | (with_reducible first | exact HB.out | apply below_alloc | apply pw_below_drewN | apply below_drew1 | refine below_set ?_ GE489.out | refine below_set ?_ GE496.out | refine below_set ?_ GE498.out) | exact HB.out)⟩⟩
              case rest =>
                clear HC42
                try clear c1
                try clear c2
                try clear p2
                try clear c3
                try clear c4
                try clear c5
                try clear c6
                try clear c10
                try clear c11
                try clear c13
                try clear c16
                try clear c16b0
                try clear c16b1
                try clear c17
                try clear c17b0
                try clear c17b1
                try clear c18
                try clear c22
                try clear c26
                try clear c29
                try clear c30
                try clear c30b0
                try clear c30b1
                try clear c31
                try clear c34
                try clear c37
                try clear c38
                try clear c41
                try clear c41b0
                try clear c41b1
                try clear c43
                try clear c43b0
                try clear hcz10_0
                try clear hcz10_1
                try clear hcz10_2
                try clear hcz10_3
                try clear hcz10_4
                try clear hcz10_5
                try clear hcz10_6
                try clear hcz14_0
                try clear hcz14_1
                try clear hcz14_2
                try clear hcz14_3
                try clear hcz19_0
                try clear hcz19_1
                try clear hcz19_2
                try clear hcz19_3
                try clear hcz19_4
                try clear hcz19_5
                try clear hcz19_6
                try clear hcz21_0
                try clear hcz21_1
                try clear hcz21_2
                try clear hcz21_3
                try clear hcz21_4
                try clear hcz21_5
                try clear hcz21_6
                try clear hcz23_0
                try clear hcz23_1
                try clear hcz23_2
                try clear hcz23_3
                try clear hcz23_4
                try clear hcz23_5
                try clear hcz23_6
                try clear hcz25_0
                try clear hcz25_1
                try clear hcz25_2
                try clear hcz25_3
                try clear hcz25_4
                try clear hcz25_5
                try clear hcz25_6
                try clear hcz27_0
                try clear hcz27_1
                try clear hcz27_2
                try clear hcz27_3
                try clear hcz27_4
                try clear hcz27_5
                try clear hcz27_6
                try clear hcz32_0
                try clear hcz32_1
                try clear hcz32_2
                try clear hcz32_3
                try clear hcz35_0
                try clear hcz35_1
                try clear hcz35_2
                try clear hcz35_3
                try clear hcz35_4
                try clear hcz35_5
                try clear hcz35_6
                try clear hcz39_0
                try clear hcz39_1
                try clear hcz39_2
                try clear hcz39_3
                try clear hcz39_4
                try clear hcz39_5
                try clear hcz39_6
                try clear hcz40_0
                try clear hcz40_1
                try clear hcz40_2
                try clear hcz40_3
                try clear hcz40_4
                try clear hcz40_5
                try clear hcz40_6
                try clear hfz10_0
                try clear hfz10_1
                try clear hfz10_2
                try clear hfz10_3
                try clear hfz10_4
                try clear hfz10_5
                try clear hfz10_6
                try clear hfz14_0
                try clear hfz14_1
                try clear hfz14_2
                try clear hfz14_3
                try clear hfz19_0
                try clear hfz19_1
                try clear hfz19_2
                try clear hfz19_3
                try clear hfz19_4
                try clear hfz19_5
                try clear hfz19_6
                try clear hfz21_0
                try clear hfz21_1
                try clear hfz21_2
                try clear hfz21_3
                try clear hfz21_4
                try clear hfz21_5
                try clear hfz21_6
                try clear hfz23_0
                try clear hfz23_1
                try clear hfz23_2
                try clear hfz23_3
                try clear hfz23_4
                try clear hfz23_5
                try clear hfz23_6
                try clear hfz25_0
                try clear hfz25_1
                try clear hfz25_2
                try clear hfz25_3
                try clear hfz25_4
                try clear hfz25_5
                try clear hfz25_6
                try clear hfz27_0
                try clear hfz27_1
                try clear hfz27_2
                try clear hfz27_3
                try clear hfz27_4
                try clear hfz27_5
                try clear hfz27_6
                try clear hfz32_0
                try clear hfz32_1
                try clear hfz32_2
                try clear hfz32_3
                try clear hfz35_0
                try clear hfz35_1
                try clear hfz35_2
                try clear hfz35_3
                try clear hfz35_4
                try clear hfz35_5
                try clear hfz35_6
                try clear hfz39_0
                try clear hfz39_1
                try clear hfz39_2
                try clear hfz39_3
                try clear hfz39_4
                try clear hfz39_5
                try clear hfz39_6
                try clear hfz40_0
                try clear hfz40_1
                try clear hfz40_2
                try clear hfz40_3
                try clear hfz40_4
                try clear hfz40_5
                try clear hfz40_6
                try clear p2
                obtain ⟨kq, x10_41, rfl, HA, HJ41, BK489, BK496, BK498, HB⟩ := hcut
                cases kq with
                | zero => exact absurd HA.out (by simp [abacuslaw13_DirectiveStars.j1])
                | succ kj41 =>
                  have H := HA.out
                  clear HA
                  simp only [abacuslaw13_DirectiveStars.j1] at H
                  by_cases c44 : a1 < 0
                  · rw [if_pos c44] at H
                    have c44b0 : decide (a1 < 0) = true := decide_eq_true c44
                    clear c44
                    by_cases c45 : a1 = 0
                    · rw [if_pos c45] at H
                      have c45b0 : (a1 == 0) = true := beq_iff_eq.mpr c45
                      have c45b1 : (a1 != 0) = false := bne_eq_false_iff_eq.mpr c45
                      clear c45
                      have H' := Aside0.mk H
                      clear H
                      have hnb46 := NB498_489.out
                      have hnc46 := NB489_498.out
                      have hnb47 := NB498_496.out
                      have hnc47 := NB496_498.out
                      have hcz48_0 : wc.cell? ⟨gb498, 0, none⟩ = some (.string a0_0) := (blk_cell BK498.out 0).trans rfl
                      have hcz48_1 : wc.cell? ⟨gb498, 1, none⟩ = some (.int .u8 a0_1) := (blk_cell BK498.out 1).trans rfl
                      have hcz48_2 : wc.cell? ⟨gb498, 2, none⟩ = some (.int .i64 a0_2) := (blk_cell BK498.out 2).trans rfl
                      have hcz48_3 : wc.cell? ⟨gb498, 3, none⟩ = some (.int .i64 a0_3) := (blk_cell BK498.out 3).trans rfl
                      have hcz48_4 : wc.cell? ⟨gb498, 4, none⟩ = some (.int .i64 a0_4) := (blk_cell BK498.out 4).trans rfl
                      have hcz48_5 : wc.cell? ⟨gb498, 5, none⟩ = some (.int .i64 a0_5) := (blk_cell BK498.out 5).trans rfl
                      have hcz48_6 : wc.cell? ⟨gb498, 6, none⟩ = some (.int .i64 a0_6) := (blk_cell BK498.out 6).trans rfl
                      have hfz48_0 := blk_frozen BK498.out 0
                      have hfz48_1 := blk_frozen BK498.out 1
                      have hfz48_2 := blk_frozen BK498.out 2
                      have hfz48_3 := blk_frozen BK498.out 3
                      have hfz48_4 := blk_frozen BK498.out 4
                      have hfz48_5 := blk_frozen BK498.out 5
                      have hfz48_6 := blk_frozen BK498.out 6
                      go_wp2
                      go_meet
                      case rel => exact ⟨_, (x10_41), (Go.bits .or .i64 a0_2 1), (0), (wrap64 (-a1)), (by first | rfl | (simp; done) | (simp [*]; done)), H', ⟨by have := HJ6.out; have := HJ41.out; first | omega | exact Nat.le_refl _⟩, ⟨by (with_reducible repeat (first | refine blk_drewN ?_ _ | refine blk_drew ?_ | refine blk_alloc ?_ _)); refine blk_far ?_ NB489_498.out _; (with_reducible repeat (first | refine blk_drewN ?_ _ | refine blk_drew ?_ | refine blk_alloc ?_ _)); refine blk_far ?_ NB489_498.out _; (with_reducible repeat (first | refine blk_drewN ?_ _ | refine blk_drew ?_ | refine blk_alloc ?_ _)); refine blk_far ?_ NB489_498.out _; (with_reducible repeat (first | refine blk_drewN ?_ _ | refine blk_drew ?_ | refine blk_alloc ?_ _)); refine blk_far ?_ NB489_498.out _; (with_reducible repeat (first | refine blk_drewN ?_ _ | refine blk_drew ?_ | refine blk_alloc ?_ _)); refine blk_far ?_ NB489_498.out _; (with_reducible repeat (first | refine blk_drewN ?_ _ | refine blk_drew ?_ | refine blk_alloc ?_ _)); exact BK489.out⟩, ⟨by (with_reducible repeat (first | refine blk_drewN ?_ _ | refine blk_drew ?_ | refine blk_alloc ?_ _)); refine blk_far ?_ NB496_498.out _; (with_reducible repeat (first | refine blk_drewN ?_ _ | refine blk_drew ?_ | refine blk_alloc ?_ _)); refine blk_far ?_ NB496_498.out _; (with_reducible repeat (first | refine blk_drewN ?_ _ | refine blk_drew ?_ | refine blk_alloc ?_ _)); refine blk_far ?_ NB496_498.out _; (with_reducible repeat (first | refine blk_drewN ?_ _ | refine blk_drew ?_ | refine blk_alloc ?_ _)); refine blk_far ?_ NB496_498.out _; (with_reducible repeat (first | refine blk_drewN ?_ _ | refine blk_drew ?_ | refine blk_alloc ?_ _)); refine blk_far ?_ NB496_498.out _; (with_reducible repeat (first | refine blk_drewN ?_ _ | refine blk_drew ?_ | refine blk_alloc ?_ _)); exact BK496.out⟩, ⟨by (with_reducible repeat (first | refine blk_drewN ?_ _ | refine blk_drew ?_ | refine blk_alloc ?_ _)); refine blk_put (cs := #[.string a0_0, .int .u8 a0_1, .int .i64 (Go.bits .or .i64 a0_2 1), .int .i64 1, .int .i64 (wrap64 (-a1)), .int .i64 a0_5, .int .i64 a0_6]) ?_ 3 _ rfl; (with_reducible repeat (first | refine blk_drewN ?_ _ | refine blk_drew ?_ | refine blk_alloc ?_ _)); refine blk_put (cs := #[.string a0_0, .int .u8 a0_1, .int .i64 a0_2, .int .i64 1, .int .i64 (wrap64 (-a1)), .int .i64 a0_5, .int .i64 a0_6]) ?_ 2 _ rfl; (with_reducible repeat (first | refine blk_drewN ?_ _ | refine blk_drew ?_ | refine blk_alloc ?_ _)); refine blk_put (cs := #[.string a0_0, .int .u8 a0_1, .int .i64 a0_2, .int .i64 1, .int .i64 a1, .int .i64 a0_5, .int .i64 a0_6]) ?_ 4 _ rfl; (with_reducible repeat (first | refine blk_drewN ?_ _ | refine blk_drew ?_ | refine blk_alloc ?_ _)); refine blk_put (cs := #[.string a0_0, .int .u8 a0_1, .int .i64 a0_2, .int .i64 1, .int .i64 a0_4, .int .i64 a0_5, .int .i64 a0_6]) ?_ 4 _ rfl; (with_reducible repeat (first | refine blk_drewN ?_ _ | refine blk_drew ?_ | refine blk_alloc ?_ _)); refine blk_put (cs := #[.string a0_0, .int .u8 a0_1, .int .i64 a0_2, .int .i64 a0_3, .int .i64 a0_4, .int .i64 a0_5, .int .i64 a0_6]) ?_ 3 _ rfl; (with_reducible repeat (first | refine blk_drewN ?_ _ | refine blk_drew ?_ | refine blk_alloc ?_ _)); exact BK498.out⟩, ⟨by repeat (first | (with_reducible first | exact HB.out | apply below_alloc | apply pw_below_drewN | apply below_drew1 | refine below_set ?_ GE489.out | refine below_set ?_ GE496.out | refine below_set ?_ GE498.out) | exact HB.out)⟩⟩
                    · rw [if_neg c45] at H
                      have c45b0 : (a1 == 0) = false := beq_eq_false_iff_ne.mpr c45
                      have c45b1 : (a1 != 0) = true := bne_iff_ne.mpr c45
                      have H' := Aside0.mk H
                      clear H
                      have hnb49 := NB498_489.out
                      have hnc49 := NB489_498.out
                      have hnb50 := NB498_496.out
                      have hnc50 := NB496_498.out
                      have hcz51_0 : wc.cell? ⟨gb498, 0, none⟩ = some (.string a0_0) := (blk_cell BK498.out 0).trans rfl
                      have hcz51_1 : wc.cell? ⟨gb498, 1, none⟩ = some (.int .u8 a0_1) := (blk_cell BK498.out 1).trans rfl
                      have hcz51_2 : wc.cell? ⟨gb498, 2, none⟩ = some (.int .i64 a0_2) := (blk_cell BK498.out 2).trans rfl
                      have hcz51_3 : wc.cell? ⟨gb498, 3, none⟩ = some (.int .i64 a0_3) := (blk_cell BK498.out 3).trans rfl
                      have hcz51_4 : wc.cell? ⟨gb498, 4, none⟩ = some (.int .i64 a0_4) := (blk_cell BK498.out 4).trans rfl
                      have hcz51_5 : wc.cell? ⟨gb498, 5, none⟩ = some (.int .i64 a0_5) := (blk_cell BK498.out 5).trans rfl
                      have hcz51_6 : wc.cell? ⟨gb498, 6, none⟩ = some (.int .i64 a0_6) := (blk_cell BK498.out 6).trans rfl
                      have hfz51_0 := blk_frozen BK498.out 0
                      have hfz51_1 := blk_frozen BK498.out 1
                      have hfz51_2 := blk_frozen BK498.out 2
                      have hfz51_3 := blk_frozen BK498.out 3
                      have hfz51_4 := blk_frozen BK498.out 4
                      have hfz51_5 := blk_frozen BK498.out 5
                      have hfz51_6 := blk_frozen BK498.out 6
                      go_wp2
                      go_meet
                      case rel => exact ⟨_, (x10_41), (Go.bits .or .i64 a0_2 1), (1), (wrap64 (-a1)), (by first | rfl | (simp; done) | (simp [*]; done)), H', ⟨by have := HJ6.out; have := HJ41.out; first | omega | exact Nat.le_refl _⟩, ⟨by (with_reducible repeat (first | refine blk_drewN ?_ _ | refine blk_drew ?_ | refine blk_alloc ?_ _)); refine blk_far ?_ NB489_498.out _; (with_reducible repeat (first | refine blk_drewN ?_ _ | refine blk_drew ?_ | refine blk_alloc ?_ _)); refine blk_far ?_ NB489_498.out _; (with_reducible repeat (first | refine blk_drewN ?_ _ | refine blk_drew ?_ | refine blk_alloc ?_ _)); refine blk_far ?_ NB489_498.out _; (with_reducible repeat (first | refine blk_drewN ?_ _ | refine blk_drew ?_ | refine blk_alloc ?_ _)); refine blk_far ?_ NB489_498.out _; (with_reducible repeat (first | refine blk_drewN ?_ _ | refine blk_drew ?_ | refine blk_alloc ?_ _)); exact BK489.out⟩, ⟨by (with_reducible repeat (first | refine blk_drewN ?_ _ | refine blk_drew ?_ | refine blk_alloc ?_ _)); refine blk_far ?_ NB496_498.out _; (with_reducible repeat (first | refine blk_drewN ?_ _ | refine blk_drew ?_ | refine blk_alloc ?_ _)); refine blk_far ?_ NB496_498.out _; (with_reducible repeat (first | refine blk_drewN ?_ _ | refine blk_drew ?_ | refine blk_alloc ?_ _)); refine blk_far ?_ NB496_498.out _; (with_reducible repeat (first | refine blk_drewN ?_ _ | refine blk_drew ?_ | refine blk_alloc ?_ _)); refine blk_far ?_ NB496_498.out _; (with_reducible repeat (first | refine blk_drewN ?_ _ | refine blk_drew ?_ | refine blk_alloc ?_ _)); exact BK496.out⟩, ⟨by (with_reducible repeat (first | refine blk_drewN ?_ _ | refine blk_drew ?_ | refine blk_alloc ?_ _)); refine blk_put (cs := #[.string a0_0, .int .u8 a0_1, .int .i64 a0_2, .int .i64 1, .int .i64 (wrap64 (-a1)), .int .i64 a0_5, .int .i64 a0_6]) ?_ 2 _ rfl; (with_reducible repeat (first | refine blk_drewN ?_ _ | refine blk_drew ?_ | refine blk_alloc ?_ _)); refine blk_put (cs := #[.string a0_0, .int .u8 a0_1, .int .i64 a0_2, .int .i64 1, .int .i64 a1, .int .i64 a0_5, .int .i64 a0_6]) ?_ 4 _ rfl; (with_reducible repeat (first | refine blk_drewN ?_ _ | refine blk_drew ?_ | refine blk_alloc ?_ _)); refine blk_put (cs := #[.string a0_0, .int .u8 a0_1, .int .i64 a0_2, .int .i64 1, .int .i64 a0_4, .int .i64 a0_5, .int .i64 a0_6]) ?_ 4 _ rfl; (with_reducible repeat (first | refine blk_drewN ?_ _ | refine blk_drew ?_ | refine blk_alloc ?_ _)); refine blk_put (cs := #[.string a0_0, .int .u8 a0_1, .int .i64 a0_2, .int .i64 a0_3, .int .i64 a0_4, .int .i64 a0_5, .int .i64 a0_6]) ?_ 3 _ rfl; (with_reducible repeat (first | refine blk_drewN ?_ _ | refine blk_drew ?_ | refine blk_alloc ?_ _)); exact BK498.out⟩, ⟨by repeat (first | (with_reducible first | exact HB.out | apply below_alloc | apply pw_below_drewN | apply below_drew1 | refine below_set ?_ GE489.out | refine below_set ?_ GE496.out | refine below_set ?_ GE498.out) | exact HB.out)⟩⟩
                  · rw [if_neg c44] at H
                    have c44b0 : decide (a1 < 0) = false := decide_eq_false c44
                    clear c44
                    by_cases c52 : a1 = 0
                    · rw [if_pos c52] at H
                      have c52b0 : (a1 == 0) = true := beq_iff_eq.mpr c52
                      have c52b1 : (a1 != 0) = false := bne_eq_false_iff_eq.mpr c52
                      clear c52
                      have H' := Aside0.mk H
                      clear H
                      have hnb53 := NB498_489.out
                      have hnc53 := NB489_498.out
                      have hnb54 := NB498_496.out
                      have hnc54 := NB496_498.out
                      have hcz55_0 : wc.cell? ⟨gb498, 0, none⟩ = some (.string a0_0) := (blk_cell BK498.out 0).trans rfl
                      have hcz55_1 : wc.cell? ⟨gb498, 1, none⟩ = some (.int .u8 a0_1) := (blk_cell BK498.out 1).trans rfl
                      have hcz55_2 : wc.cell? ⟨gb498, 2, none⟩ = some (.int .i64 a0_2) := (blk_cell BK498.out 2).trans rfl
                      have hcz55_3 : wc.cell? ⟨gb498, 3, none⟩ = some (.int .i64 a0_3) := (blk_cell BK498.out 3).trans rfl
                      have hcz55_4 : wc.cell? ⟨gb498, 4, none⟩ = some (.int .i64 a0_4) := (blk_cell BK498.out 4).trans rfl
                      have hcz55_5 : wc.cell? ⟨gb498, 5, none⟩ = some (.int .i64 a0_5) := (blk_cell BK498.out 5).trans rfl
                      have hcz55_6 : wc.cell? ⟨gb498, 6, none⟩ = some (.int .i64 a0_6) := (blk_cell BK498.out 6).trans rfl
                      have hfz55_0 := blk_frozen BK498.out 0
                      have hfz55_1 := blk_frozen BK498.out 1
                      have hfz55_2 := blk_frozen BK498.out 2
                      have hfz55_3 := blk_frozen BK498.out 3
                      have hfz55_4 := blk_frozen BK498.out 4
                      have hfz55_5 := blk_frozen BK498.out 5
                      have hfz55_6 := blk_frozen BK498.out 6
                      go_wp2
                      go_meet
                      case rel => exact ⟨_, (x10_41), (a0_2), (0), (a1), (by first | rfl | (simp; done) | (simp [*]; done)), H', ⟨by have := HJ6.out; have := HJ41.out; first | omega | exact Nat.le_refl _⟩, ⟨by (with_reducible repeat (first | refine blk_drewN ?_ _ | refine blk_drew ?_ | refine blk_alloc ?_ _)); refine blk_far ?_ NB489_498.out _; (with_reducible repeat (first | refine blk_drewN ?_ _ | refine blk_drew ?_ | refine blk_alloc ?_ _)); refine blk_far ?_ NB489_498.out _; (with_reducible repeat (first | refine blk_drewN ?_ _ | refine blk_drew ?_ | refine blk_alloc ?_ _)); refine blk_far ?_ NB489_498.out _; (with_reducible repeat (first | refine blk_drewN ?_ _ | refine blk_drew ?_ | refine blk_alloc ?_ _)); exact BK489.out⟩, ⟨by (with_reducible repeat (first | refine blk_drewN ?_ _ | refine blk_drew ?_ | refine blk_alloc ?_ _)); refine blk_far ?_ NB496_498.out _; (with_reducible repeat (first | refine blk_drewN ?_ _ | refine blk_drew ?_ | refine blk_alloc ?_ _)); refine blk_far ?_ NB496_498.out _; (with_reducible repeat (first | refine blk_drewN ?_ _ | refine blk_drew ?_ | refine blk_alloc ?_ _)); refine blk_far ?_ NB496_498.out _; (with_reducible repeat (first | refine blk_drewN ?_ _ | refine blk_drew ?_ | refine blk_alloc ?_ _)); exact BK496.out⟩, ⟨by (with_reducible repeat (first | refine blk_drewN ?_ _ | refine blk_drew ?_ | refine blk_alloc ?_ _)); refine blk_put (cs := #[.string a0_0, .int .u8 a0_1, .int .i64 a0_2, .int .i64 1, .int .i64 a1, .int .i64 a0_5, .int .i64 a0_6]) ?_ 3 _ rfl; (with_reducible repeat (first | refine blk_drewN ?_ _ | refine blk_drew ?_ | refine blk_alloc ?_ _)); refine blk_put (cs := #[.string a0_0, .int .u8 a0_1, .int .i64 a0_2, .int .i64 1, .int .i64 a0_4, .int .i64 a0_5, .int .i64 a0_6]) ?_ 4 _ rfl; (with_reducible repeat (first | refine blk_drewN ?_ _ | refine blk_drew ?_ | refine blk_alloc ?_ _)); refine blk_put (cs := #[.string a0_0, .int .u8 a0_1, .int .i64 a0_2, .int .i64 a0_3, .int .i64 a0_4, .int .i64 a0_5, .int .i64 a0_6]) ?_ 3 _ rfl; (with_reducible repeat (first | refine blk_drewN ?_ _ | refine blk_drew ?_ | refine blk_alloc ?_ _)); exact BK498.out⟩, ⟨by repeat (first | (with_reducible first | exact HB.out | apply below_alloc | apply pw_below_drewN | apply below_drew1 | refine below_set ?_ GE489.out | refine below_set ?_ GE496.out | refine below_set ?_ GE498.out) | exact HB.out)⟩⟩
                    · rw [if_neg c52] at H
                      have c52b0 : (a1 == 0) = false := beq_eq_false_iff_ne.mpr c52
                      have c52b1 : (a1 != 0) = true := bne_iff_ne.mpr c52
                      have H' := Aside0.mk H
                      clear H
                      have hnb56 := NB498_489.out
                      have hnc56 := NB489_498.out
                      have hnb57 := NB498_496.out
                      have hnc57 := NB496_498.out
                      have hcz58_0 : wc.cell? ⟨gb498, 0, none⟩ = some (.string a0_0) := (blk_cell BK498.out 0).trans rfl
                      have hcz58_1 : wc.cell? ⟨gb498, 1, none⟩ = some (.int .u8 a0_1) := (blk_cell BK498.out 1).trans rfl
                      have hcz58_2 : wc.cell? ⟨gb498, 2, none⟩ = some (.int .i64 a0_2) := (blk_cell BK498.out 2).trans rfl
                      have hcz58_3 : wc.cell? ⟨gb498, 3, none⟩ = some (.int .i64 a0_3) := (blk_cell BK498.out 3).trans rfl
                      have hcz58_4 : wc.cell? ⟨gb498, 4, none⟩ = some (.int .i64 a0_4) := (blk_cell BK498.out 4).trans rfl
                      have hcz58_5 : wc.cell? ⟨gb498, 5, none⟩ = some (.int .i64 a0_5) := (blk_cell BK498.out 5).trans rfl
                      have hcz58_6 : wc.cell? ⟨gb498, 6, none⟩ = some (.int .i64 a0_6) := (blk_cell BK498.out 6).trans rfl
                      have hfz58_0 := blk_frozen BK498.out 0
                      have hfz58_1 := blk_frozen BK498.out 1
                      have hfz58_2 := blk_frozen BK498.out 2
                      have hfz58_3 := blk_frozen BK498.out 3
                      have hfz58_4 := blk_frozen BK498.out 4
                      have hfz58_5 := blk_frozen BK498.out 5
                      have hfz58_6 := blk_frozen BK498.out 6
                      go_wp2
                      go_meet
                      case rel => exact ⟨_, (x10_41), (a0_2), (1), (a1), (by first | rfl | (simp; done) | (simp [*]; done)), H', ⟨by have := HJ6.out; have := HJ41.out; first | omega | exact Nat.le_refl _⟩, ⟨by (with_reducible repeat (first | refine blk_drewN ?_ _ | refine blk_drew ?_ | refine blk_alloc ?_ _)); refine blk_far ?_ NB489_498.out _; (with_reducible repeat (first | refine blk_drewN ?_ _ | refine blk_drew ?_ | refine blk_alloc ?_ _)); refine blk_far ?_ NB489_498.out _; (with_reducible repeat (first | refine blk_drewN ?_ _ | refine blk_drew ?_ | refine blk_alloc ?_ _)); exact BK489.out⟩, ⟨by (with_reducible repeat (first | refine blk_drewN ?_ _ | refine blk_drew ?_ | refine blk_alloc ?_ _)); refine blk_far ?_ NB496_498.out _; (with_reducible repeat (first | refine blk_drewN ?_ _ | refine blk_drew ?_ | refine blk_alloc ?_ _)); refine blk_far ?_ NB496_498.out _; (with_reducible repeat (first | refine blk_drewN ?_ _ | refine blk_drew ?_ | refine blk_alloc ?_ _)); exact BK496.out⟩, ⟨by (with_reducible repeat (first | refine blk_drewN ?_ _ | refine blk_drew ?_ | refine blk_alloc ?_ _)); refine blk_put (cs := #[.string a0_0, .int .u8 a0_1, .int .i64 a0_2, .int .i64 1, .int .i64 a0_4, .int .i64 a0_5, .int .i64 a0_6]) ?_ 4 _ rfl; (with_reducible repeat (first | refine blk_drewN ?_ _ | refine blk_drew ?_ | refine blk_alloc ?_ _)); refine blk_put (cs := #[.string a0_0, .int .u8 a0_1, .int .i64 a0_2, .int .i64 a0_3, .int .i64 a0_4, .int .i64 a0_5, .int .i64 a0_6]) ?_ 3 _ rfl; (with_reducible repeat (first | refine blk_drewN ?_ _ | refine blk_drew ?_ | refine blk_alloc ?_ _)); exact BK498.out⟩, ⟨by repeat (first | (with_reducible first | exact HB.out | apply below_alloc | apply pw_below_drewN | apply below_drew1 | refine below_set ?_ GE489.out | refine below_set ?_ GE496.out | refine below_set ?_ GE498.out) | exact HB.out)⟩⟩
            · rw [if_neg c41] at H
              have c41b0 : (a0_3 == 2) = false := beq_eq_false_iff_ne.mpr c41
              have c41b1 : (a0_3 != 2) = true := bne_iff_ne.mpr c41
              (first | rw [c41b0] | (simp only [i64_w, i32_w]; rw [c41b0]) | skip)
              have H' := Aside0.mk H
              clear H
              go_wp2
              go_meet
              case rel => exact ⟨_, (false), (a0_2), (a0_3), (a0_4), (by first | rfl | (simp; done) | (simp [*]; done)), H', ⟨by have := HJ6.out; first | omega | exact Nat.le_refl _⟩, ⟨by (with_reducible repeat (first | refine blk_drewN ?_ _ | refine blk_drew ?_ | refine blk_alloc ?_ _)); refine blk_far ?_ NB489_498.out _; (with_reducible repeat (first | refine blk_drewN ?_ _ | refine blk_drew ?_ | refine blk_alloc ?_ _)); refine blk_far ?_ NB489_498.out _; (with_reducible repeat (first | refine blk_drewN ?_ _ | refine blk_drew ?_ | refine blk_alloc ?_ _)); refine blk_far ?_ NB489_498.out _; (with_reducible repeat (first | refine blk_drewN ?_ _ | refine blk_drew ?_ | refine blk_alloc ?_ _)); refine blk_far ?_ NB489_498.out _; (with_reducible repeat (first | refine blk_drewN ?_ _ | refine blk_drew ?_ | refine blk_alloc ?_ _)); refine blk_far ?_ NB489_498.out _; (with_reducible repeat (first | refine blk_drewN ?_ _ | refine blk_drew ?_ | refine blk_alloc ?_ _)); refine blk_far ?_ NB489_498.out _; (with_reducible repeat (first | refine blk_drewN ?_ _ | refine blk_drew ?_ | refine blk_alloc ?_ _)); refine blk_far ?_ NB489_498.out _; (with_reducible repeat (first | refine blk_drewN ?_ _ | refine blk_drew ?_ | refine blk_alloc ?_ _)); exact BK489.out⟩, ⟨by (with_reducible repeat (first | refine blk_drewN ?_ _ | refine blk_drew ?_ | refine blk_alloc ?_ _)); refine blk_far ?_ NB496_498.out _; (with_reducible repeat (first | refine blk_drewN ?_ _ | refine blk_drew ?_ | refine blk_alloc ?_ _)); refine blk_far ?_ NB496_498.out _; (with_reducible repeat (first | refine blk_drewN ?_ _ | refine blk_drew ?_ | refine blk_alloc ?_ _)); refine blk_far ?_ NB496_498.out _; (with_reducible repeat (first | refine blk_drewN ?_ _ | refine blk_drew ?_ | refine blk_alloc ?_ _)); refine blk_far ?_ NB496_498.out _; (with_reducible repeat (first | refine blk_drewN ?_ _ | refine blk_drew ?_ | refine blk_alloc ?_ _)); refine blk_far ?_ NB496_498.out _; (with_reducible repeat (first | refine blk_drewN ?_ _ | refine blk_drew ?_ | refine blk_alloc ?_ _)); refine blk_far ?_ NB496_498.out _; (with_reducible repeat (first | refine blk_drewN ?_ _ | refine blk_drew ?_ | refine blk_alloc ?_ _)); refine blk_far ?_ NB496_498.out _; (with_reducible repeat (first | refine blk_drewN ?_ _ | refine blk_drew ?_ | refine blk_alloc ?_ _)); exact BK496.out⟩, ⟨by (with_reducible repeat (first | refine blk_drewN ?_ _ | refine blk_drew ?_ | refine blk_alloc ?_ _)); refine blk_put (cs := #[.string a0_0, .int .u8 a0_1, .int .i64 a0_2, .int .i64 a0_3, .int .i64 a0_4, .int .i64 a0_5, .int .i64 0]) ?_ 6 _ rfl; (with_reducible repeat (first | refine blk_drewN ?_ _ | refine blk_drew ?_ | refine blk_alloc ?_ _)); refine blk_put (cs := #[.string a0_0, .int .u8 a0_1, .int .i64 a0_2, .int .i64 a0_3, .int .i64 a0_4, .int .i64 0, .int .i64 0]) ?_ 5 _ rfl; (with_reducible repeat (first | refine blk_drewN ?_ _ | refine blk_drew ?_ | refine blk_alloc ?_ _)); refine blk_put (cs := #[.string a0_0, .int .u8 a0_1, .int .i64 a0_2, .int .i64 a0_3, .int .i64 0, .int .i64 0, .int .i64 0]) ?_ 4 _ rfl; (with_reducible repeat (first | refine blk_drewN ?_ _ | refine blk_drew ?_ | refine blk_alloc ?_ _)); refine blk_put (cs := #[.string a0_0, .int .u8 a0_1, .int .i64 a0_2, .int .i64 0, .int .i64 0, .int .i64 0, .int .i64 0]) ?_ 3 _ rfl; (with_reducible repeat (first | refine blk_drewN ?_ _ | refine blk_drew ?_ | refine blk_alloc ?_ _)); refine blk_put (cs := #[.string a0_0, .int .u8 a0_1, .int .i64 0, .int .i64 0, .int .i64 0, .int .i64 0, .int .i64 0]) ?_ 2 _ rfl; (with_reducible repeat (first | refine blk_drewN ?_ _ | refine blk_drew ?_ | refine blk_alloc ?_ _)); refine blk_put (cs := #[.string a0_0, .int .u8 0, .int .i64 0, .int .i64 0, .int .i64 0, .int .i64 0, .int .i64 0]) ?_ 1 _ rfl; (with_reducible repeat (first | refine blk_drewN ?_ _ | refine blk_drew ?_ | refine blk_alloc ?_ _)); refine blk_put (cs := #[.string (⟨#[]⟩ : ByteArray), .int .u8 0, .int .i64 0, .int .i64 0, .int .i64 0, .int .i64 0, .int .i64 0]) ?_ 0 _ rfl; (with_reducible repeat (first | refine blk_drewN ?_ _ | refine blk_drew ?_ | refine blk_alloc ?_ _)); exact BK498.out⟩, ⟨by repeat (first | (with_reducible first | exact HB.out | apply below_alloc | apply pw_below_drewN | apply below_drew1 | refine below_set ?_ GE489.out | refine below_set ?_ GE496.out | refine below_set ?_ GE498.out) | exact HB.out)⟩⟩
          case rest =>
            clear HC33
            try clear c1
            try clear c2
            try clear p2
            try clear c3
            try clear c4
            try clear c5
            try clear c6
            try clear p6
            try clear c10
            try clear c11
            try clear c13
            try clear c16
            try clear c16b0
            try clear c16b1
            try clear c17
            try clear c17b0
            try clear c17b1
            try clear c18
            try clear c22
            try clear c26
            try clear c29
            try clear c30
            try clear c30b0
            try clear c30b1
            try clear c31
            try clear c34
            try clear c37
            try clear c38
            try clear c41
            try clear c41b0
            try clear c41b1
            try clear c43
            try clear c43b0
            try clear c44
            try clear c44b0
            try clear c45
            try clear c45b0
            try clear c45b1
            try clear c46
            try clear c47
            try clear c49
            try clear c50
            try clear c52
            try clear c52b0
            try clear c52b1
            try clear c53
            try clear c54
            try clear c56
            try clear c57
            try clear hcz10_0
            try clear hcz10_1
            try clear hcz10_2
            try clear hcz10_3
            try clear hcz10_4
            try clear hcz10_5
            try clear hcz10_6
            try clear hcz14_0
            try clear hcz14_1
            try clear hcz14_2
            try clear hcz14_3
            try clear hcz19_0
            try clear hcz19_1
            try clear hcz19_2
            try clear hcz19_3
            try clear hcz19_4
            try clear hcz19_5
            try clear hcz19_6
            try clear hcz21_0
            try clear hcz21_1
            try clear hcz21_2
            try clear hcz21_3
            try clear hcz21_4
            try clear hcz21_5
            try clear hcz21_6
            try clear hcz23_0
            try clear hcz23_1
            try clear hcz23_2
            try clear hcz23_3
            try clear hcz23_4
            try clear hcz23_5
            try clear hcz23_6
            try clear hcz25_0
            try clear hcz25_1
            try clear hcz25_2
            try clear hcz25_3
            try clear hcz25_4
            try clear hcz25_5
            try clear hcz25_6
            try clear hcz27_0
            try clear hcz27_1
            try clear hcz27_2
            try clear hcz27_3
            try clear hcz27_4
            try clear hcz27_5
            try clear hcz27_6
            try clear hcz32_0
            try clear hcz32_1
            try clear hcz32_2
            try clear hcz32_3
            try clear hcz35_0
            try clear hcz35_1
            try clear hcz35_2
            try clear hcz35_3
            try clear hcz35_4
            try clear hcz35_5
            try clear hcz35_6
            try clear hcz39_0
            try clear hcz39_1
            try clear hcz39_2
            try clear hcz39_3
            try clear hcz39_4
            try clear hcz39_5
            try clear hcz39_6
            try clear hcz40_0
            try clear hcz40_1
            try clear hcz40_2
            try clear hcz40_3
            try clear hcz40_4
            try clear hcz40_5
            try clear hcz40_6
            try clear hcz48_0
            try clear hcz48_1
            try clear hcz48_2
            try clear hcz48_3
            try clear hcz48_4
            try clear hcz48_5
            try clear hcz48_6
            try clear hcz51_0
            try clear hcz51_1
            try clear hcz51_2
            try clear hcz51_3
            try clear hcz51_4
            try clear hcz51_5
            try clear hcz51_6
            try clear hcz55_0
            try clear hcz55_1
            try clear hcz55_2
            try clear hcz55_3
            try clear hcz55_4
            try clear hcz55_5
            try clear hcz55_6
            try clear hcz58_0
            try clear hcz58_1
            try clear hcz58_2
            try clear hcz58_3
            try clear hcz58_4
            try clear hcz58_5
            try clear hcz58_6
            try clear hfz10_0
            try clear hfz10_1
            try clear hfz10_2
            try clear hfz10_3
            try clear hfz10_4
            try clear hfz10_5
            try clear hfz10_6
            try clear hfz14_0
            try clear hfz14_1
            try clear hfz14_2
            try clear hfz14_3
            try clear hfz19_0
            try clear hfz19_1
            try clear hfz19_2
            try clear hfz19_3
            try clear hfz19_4
            try clear hfz19_5
            try clear hfz19_6
            try clear hfz21_0
            try clear hfz21_1
            try clear hfz21_2
            try clear hfz21_3
            try clear hfz21_4
            try clear hfz21_5
            try clear hfz21_6
            try clear hfz23_0
            try clear hfz23_1
            try clear hfz23_2
            try clear hfz23_3
            try clear hfz23_4
            try clear hfz23_5
            try clear hfz23_6
            try clear hfz25_0
            try clear hfz25_1
            try clear hfz25_2
            try clear hfz25_3
            try clear hfz25_4
            try clear hfz25_5
            try clear hfz25_6
            try clear hfz27_0
            try clear hfz27_1
            try clear hfz27_2
            try clear hfz27_3
            try clear hfz27_4
            try clear hfz27_5
            try clear hfz27_6
            try clear hfz32_0
            try clear hfz32_1
            try clear hfz32_2
            try clear hfz32_3
            try clear hfz35_0
            try clear hfz35_1
            try clear hfz35_2
            try clear hfz35_3
            try clear hfz35_4
            try clear hfz35_5
            try clear hfz35_6
            try clear hfz39_0
            try clear hfz39_1
            try clear hfz39_2
            try clear hfz39_3
            try clear hfz39_4
            try clear hfz39_5
            try clear hfz39_6
            try clear hfz40_0
            try clear hfz40_1
            try clear hfz40_2
            try clear hfz40_3
            try clear hfz40_4
            try clear hfz40_5
            try clear hfz40_6
            try clear hfz48_0
            try clear hfz48_1
            try clear hfz48_2
            try clear hfz48_3
            try clear hfz48_4
            try clear hfz48_5
            try clear hfz48_6
            try clear hfz51_0
            try clear hfz51_1
            try clear hfz51_2
            try clear hfz51_3
            try clear hfz51_4
            try clear hfz51_5
            try clear hfz51_6
            try clear hfz55_0
            try clear hfz55_1
            try clear hfz55_2
            try clear hfz55_3
            try clear hfz55_4
            try clear hfz55_5
            try clear hfz55_6
            try clear hfz58_0
            try clear hfz58_1
            try clear hfz58_2
            try clear hfz58_3
            try clear hfz58_4
            try clear hfz58_5
            try clear hfz58_6
            try clear p2
            obtain ⟨kq, x10_32, x499002_32, x499003_32, x499004_32, rfl, HA, HJ32, BK489, BK496, BK498, HB⟩ := hcut
            cases kq with
            | zero => exact absurd HA.out (by simp [abacuslaw13_DirectiveStars.j2])
            | succ kj32 =>
              have H := HA.out
              clear HA
              simp only [abacuslaw13_DirectiveStars.j2] at H
              have HC59 := Aside0.mk H
              clear H
              have hnb60 := NB489_496.out
              have hnc60 := NB496_489.out
              have hnb61 := NB489_498.out
              have hnc61 := NB498_489.out
              have hcz62_0 : wc.cell? ⟨gb489, 0, none⟩ = some (.string a0_0) := (blk_cell BK489.out 0).trans rfl
              have hcz62_1 : wc.cell? ⟨gb489, 1, none⟩ = some (.int .u8 a0_1) := (blk_cell BK489.out 1).trans rfl
              have hcz62_2 : wc.cell? ⟨gb489, 2, none⟩ = some (.int .i64 a0_2) := (blk_cell BK489.out 2).trans rfl
              have hcz62_3 : wc.cell? ⟨gb489, 3, none⟩ = some (.int .i64 a0_3) := (blk_cell BK489.out 3).trans rfl
              have hcz62_4 : wc.cell? ⟨gb489, 4, none⟩ = some (.int .i64 a0_4) := (blk_cell BK489.out 4).trans rfl
              have hcz62_5 : wc.cell? ⟨gb489, 5, none⟩ = some (.int .i64 a0_5) := (blk_cell BK489.out 5).trans rfl
              have hcz62_6 : wc.cell? ⟨gb489, 6, none⟩ = some (.int .i64 a0_6) := (blk_cell BK489.out 6).trans rfl
              have hfz62_0 := blk_frozen BK489.out 0
              have hfz62_1 := blk_frozen BK489.out 1
              have hfz62_2 := blk_frozen BK489.out 2
              have hfz62_3 := blk_frozen BK489.out 3
              have hfz62_4 := blk_frozen BK489.out 4
              have hfz62_5 := blk_frozen BK489.out 5
              have hfz62_6 := blk_frozen BK489.out 6
              go_upto_if 69 with (fail)
              go_cut [10] (fun v10 wc => ∃ (kq : Nat) (x10_58 : Bool) (x499005_58 : Int) (x499006_58 : Int), v10 = .bool x10_58 ∧ Aside0 (abacuslaw13_DirectiveStars.j3 kq a1 a2 t495 x10_58 a0_0 a0_1 a0_2 a0_3 a0_4 a0_5 a0_6 t491 t492 t493 t494 a0_0 a0_1 x499002_32 x499003_32 x499004_32 x499005_58 x499006_58 = some true) ∧ Aside0 (kq ≤ kj32) ∧ Aside0 (wc.heap[gb489]? = some (.cells #[.string a0_0, .int .u8 a0_1, .int .i64 a0_2, .int .i64 a0_3, .int .i64 a0_4, .int .i64 a0_5, .int .i64 a0_6] 25 (0, 0))) ∧ Aside0 (wc.heap[gb496]? = some (.cells #[.int .u8 t491, .int .i64 t492, .int .i64 t493, .int .i64 t494] 37 (0, 0))) ∧ Aside0 (wc.heap[gb498]? = some (.cells #[.string a0_0, .int .u8 a0_1, .int .i64 x499002_32, .int .i64 x499003_32, .int .i64 x499004_32, .int .i64 x499005_58, .int .i64 x499006_58] 25 (0, 0))) ∧ Aside0 (Below w.heap.size w wc))
              case first =>
                have H := HC59.out
                clear HC59
                by_cases c63 : a0_5 = 2
                · rw [if_pos c63] at H
                  have c63b0 : (a0_5 == 2) = true := beq_iff_eq.mpr c63
                  have c63b1 : (a0_5 != 2) = false := bne_eq_false_iff_eq.mpr c63
                  clear c63
                  (first | rw [c63b0] | (simp only [i64_w, i32_w]; rw [c63b0]) | skip)
                  by_cases c64 : x10_32 = true
                  · subst c64
                    have H1 : (if a2 < 0 then (abacuslaw13_DirectiveStars.j3 kj32 a1 a2 t495 true a0_0 a0_1 a0_2 a0_3 a0_4 a0_5 a0_6 t491 t492 t493 t494 a0_0 a0_1 x499002_32 x499003_32 x499004_32 0 0) else (abacuslaw13_DirectiveStars.j3 kj32 a1 a2 t495 true a0_0 a0_1 a0_2 a0_3 a0_4 a0_5 a0_6 t491 t492 t493 t494 a0_0 a0_1 x499002_32 x499003_32 x499004_32 1 a2)) = some true := by rw [if_pos rfl] at H; exact H
                    clear H
                    have H := H1
                    clear H1
                    by_cases c65 : a2 < 0
                    · rw [if_pos c65] at H
                      have c65b0 : decide (a2 < 0) = true := decide_eq_true c65
                      clear c65
                      have H' := Aside0.mk H
                      clear H
                      have hnb66 := NB498_489.out
                      have hnc66 := NB489_498.out
                      have hnb67 := NB498_496.out
                      have hnc67 := NB496_498.out
                      have hcz68_0 : wc.cell? ⟨gb498, 0, none⟩ = some (.string a0_0) := (blk_cell BK498.out 0).trans rfl
                      have hcz68_1 : wc.cell? ⟨gb498, 1, none⟩ = some (.int .u8 a0_1) := (blk_cell BK498.out 1).trans rfl
                      have hcz68_2 : wc.cell? ⟨gb498, 2, none⟩ = some (.int .i64 x499002_32) := (blk_cell BK498.out 2).trans rfl
                      have hcz68_3 : wc.cell? ⟨gb498, 3, none⟩ = some (.int .i64 x499003_32) := (blk_cell BK498.out 3).trans rfl
                      have hcz68_4 : wc.cell? ⟨gb498, 4, none⟩ = some (.int .i64 x499004_32) := (blk_cell BK498.out 4).trans rfl
                      have hcz68_5 : wc.cell? ⟨gb498, 5, none⟩ = some (.int .i64 a0_5) := (blk_cell BK498.out 5).trans rfl
                      have hcz68_6 : wc.cell? ⟨gb498, 6, none⟩ = some (.int .i64 a0_6) := (blk_cell BK498.out 6).trans rfl
                      have hfz68_0 := blk_frozen BK498.out 0
                      have hfz68_1 := blk_frozen BK498.out 1
                      have hfz68_2 := blk_frozen BK498.out 2
                      have hfz68_3 := blk_frozen BK498.out 3
                      have hfz68_4 := blk_frozen BK498.out 4
                      have hfz68_5 := blk_frozen BK498.out 5
                      have hfz68_6 := blk_frozen BK498.out 6
                      go_wp2
                      go_meet
                      case rel => exact ⟨_, (true), (0), (0), (by first | rfl | (simp; done) | (simp [*]; done)), H', ⟨by have := HJ6.out; have := HJ32.out; first | omega | exact Nat.le_refl _⟩, ⟨by (with_reducible repeat (first | refine blk_drewN ?_ _ | refine blk_drew ?_ | refine blk_alloc ?_ _)); refine blk_far ?_ NB489_498.out _; (with_reducible repeat (first | refine blk_drewN ?_ _ | refine blk_drew ?_ | refine blk_alloc ?_ _)); refine blk_far ?_ NB489_498.out _; (with_reducible repeat (first | refine blk_drewN ?_ _ | refine blk_drew ?_ | refine blk_alloc ?_ _)); refine blk_far ?_ NB489_498.out _; (with_reducible repeat (first | refine blk_drewN ?_ _ | refine blk_drew ?_ | refine blk_alloc ?_ _)); refine blk_far ?_ NB489_498.out _; (with_reducible repeat (first | refine blk_drewN ?_ _ | refine blk_drew ?_ | refine blk_alloc ?_ _)); exact BK489.out⟩, ⟨by (with_reducible repeat (first | refine blk_drewN ?_ _ | refine blk_drew ?_ | refine blk_alloc ?_ _)); refine blk_far ?_ NB496_498.out _; (with_reducible repeat (first | refine blk_drewN ?_ _ | refine blk_drew ?_ | refine blk_alloc ?_ _)); refine blk_far ?_ NB496_498.out _; (with_reducible repeat (first | refine blk_drewN ?_ _ | refine blk_drew ?_ | refine blk_alloc ?_ _)); refine blk_far ?_ NB496_498.out _; (with_reducible repeat (first | refine blk_drewN ?_ _ | refine blk_drew ?_ | refine blk_alloc ?_ _)); refine blk_far ?_ NB496_498.out _; (with_reducible repeat (first | refine blk_drewN ?_ _ | refine blk_drew ?_ | refine blk_alloc ?_ _)); exact BK496.out⟩, ⟨by (with_reducible repeat (first | refine blk_drewN ?_ _ | refine blk_drew ?_ | refine blk_alloc ?_ _)); refine blk_put (cs := #[.string a0_0, .int .u8 a0_1, .int .i64 x499002_32, .int .i64 x499003_32, .int .i64 x499004_32, .int .i64 0, .int .i64 a2]) ?_ 6 _ rfl; (with_reducible repeat (first | refine blk_drewN ?_ _ | refine blk_drew ?_ | refine blk_alloc ?_ _)); refine blk_put (cs := #[.string a0_0, .int .u8 a0_1, .int .i64 x499002_32, .int .i64 x499003_32, .int .i64 x499004_32, .int .i64 1, .int .i64 a2]) ?_ 5 _ rfl; (with_reducible repeat (first | refine blk_drewN ?_ _ | refine blk_drew ?_ | refine blk_alloc ?_ _)); refine blk_put (cs := #[.string a0_0, .int .u8 a0_1, .int .i64 x499002_32, .int .i64 x499003_32, .int .i64 x499004_32, .int .i64 1, .int .i64 a0_6]) ?_ 6 _ rfl; (with_reducible repeat (first | refine blk_drewN ?_ _ | refine blk_drew ?_ | refine blk_alloc ?_ _)); refine blk_put (cs := #[.string a0_0, .int .u8 a0_1, .int .i64 x499002_32, .int .i64 x499003_32, .int .i64 x499004_32, .int .i64 a0_5, .int .i64 a0_6]) ?_ 5 _ rfl; (with_reducible repeat (first | refine blk_drewN ?_ _ | refine blk_drew ?_ | refine blk_alloc ?_ _)); exact BK498.out⟩, ⟨by repeat (first | (with_reducible first | exact HB.out | apply below_alloc | apply pw_below_drewN | apply below_drew1 | refine below_set ?_ GE489.out | refine below_set ?_ GE496.out | refine below_set ?_ GE498.out) | exact HB.out)⟩⟩
                    · rw [if_neg c65] at H
                      have c65b0 : decide (a2 < 0) = false := decide_eq_false c65
                      clear c65
                      have H' := Aside0.mk H
                      clear H
                      have hnb69 := NB498_489.out
                      have hnc69 := NB489_498.out
                      have hnb70 := NB498_496.out
                      have hnc70 := NB496_498.out
                      have hcz71_0 : wc.cell? ⟨gb498, 0, none⟩ = some (.string a0_0) := (blk_cell BK498.out 0).trans rfl
                      have hcz71_1 : wc.cell? ⟨gb498, 1, none⟩ = some (.int .u8 a0_1) := (blk_cell BK498.out 1).trans rfl
                      have hcz71_2 : wc.cell? ⟨gb498, 2, none⟩ = some (.int .i64 x499002_32) := (blk_cell BK498.out 2).trans rfl
                      have hcz71_3 : wc.cell? ⟨gb498, 3, none⟩ = some (.int .i64 x499003_32) := (blk_cell BK498.out 3).trans rfl
                      have hcz71_4 : wc.cell? ⟨gb498, 4, none⟩ = some (.int .i64 x499004_32) := (blk_cell BK498.out 4).trans rfl
                      have hcz71_5 : wc.cell? ⟨gb498, 5, none⟩ = some (.int .i64 a0_5) := (blk_cell BK498.out 5).trans rfl
                      have hcz71_6 : wc.cell? ⟨gb498, 6, none⟩ = some (.int .i64 a0_6) := (blk_cell BK498.out 6).trans rfl
                      have hfz71_0 := blk_frozen BK498.out 0
                      have hfz71_1 := blk_frozen BK498.out 1
                      have hfz71_2 := blk_frozen BK498.out 2
                      have hfz71_3 := blk_frozen BK498.out 3
                      have hfz71_4 := blk_frozen BK498.out 4
                      have hfz71_5 := blk_frozen BK498.out 5
                      have hfz71_6 := blk_frozen BK498.out 6
                      go_wp2
                      go_meet
                      case rel => exact ⟨_, (true), (1), (a2), (by first | rfl | (simp; done) | (simp [*]; done)), H', ⟨by have := HJ6.out; have := HJ32.out; first | omega | exact Nat.le_refl _⟩, ⟨by (with_reducible repeat (first | refine blk_drewN ?_ _ | refine blk_drew ?_ | refine blk_alloc ?_ _)); refine blk_far ?_ NB489_498.out _; (with_reducible repeat (first | refine blk_drewN ?_ _ | refine blk_drew ?_ | refine blk_alloc ?_ _)); refine blk_far ?_ NB489_498.out _; (with_reducible repeat (first | refine blk_drewN ?_ _ | refine blk_drew ?_ | refine blk_alloc ?_ _)); exact BK489.out⟩, ⟨by (with_reducible repeat (first | refine blk_drewN ?_ _ | refine blk_drew ?_ | refine blk_alloc ?_ _)); refine blk_far ?_ NB496_498.out _; (with_reducible repeat (first | refine blk_drewN ?_ _ | refine blk_drew ?_ | refine blk_alloc ?_ _)); refine blk_far ?_ NB496_498.out _; (with_reducible repeat (first | refine blk_drewN ?_ _ | refine blk_drew ?_ | refine blk_alloc ?_ _)); exact BK496.out⟩, ⟨by (with_reducible repeat (first | refine blk_drewN ?_ _ | refine blk_drew ?_ | refine blk_alloc ?_ _)); refine blk_put (cs := #[.string a0_0, .int .u8 a0_1, .int .i64 x499002_32, .int .i64 x499003_32, .int .i64 x499004_32, .int .i64 1, .int .i64 a0_6]) ?_ 6 _ rfl; (with_reducible repeat (first | refine blk_drewN ?_ _ | refine blk_drew ?_ | refine blk_alloc ?_ _)); refine blk_put (cs := #[.string a0_0, .int .u8 a0_1, .int .i64 x499002_32, .int .i64 x499003_32, .int .i64 x499004_32, .int .i64 a0_5, .int .i64 a0_6]) ?_ 5 _ rfl; (with_reducible repeat (first | refine blk_drewN ?_ _ | refine blk_drew ?_ | refine blk_alloc ?_ _)); exact BK498.out⟩, ⟨by repeat (first | (with_reducible first | exact HB.out | apply below_alloc | apply pw_below_drewN | apply below_drew1 | refine below_set ?_ GE489.out | refine below_set ?_ GE496.out | refine below_set ?_ GE498.out) | exact HB.out)⟩⟩
                  · replace c64 := Bool.eq_false_iff.mpr c64
                    subst c64
                    have H1 : (if a2 < 0 then (abacuslaw13_DirectiveStars.j3 kj32 a1 a2 t495 (decide (a2 > 4096)) a0_0 a0_1 a0_2 a0_3 a0_4 a0_5 a0_6 t491 t492 t493 t494 a0_0 a0_1 x499002_32 x499003_32 x499004_32 0 0) else (abacuslaw13_DirectiveStars.j3 kj32 a1 a2 t495 (decide (a2 > 4096)) a0_0 a0_1 a0_2 a0_3 a0_4 a0_5 a0_6 t491 t492 t493 t494 a0_0 a0_1 x499002_32 x499003_32 x499004_32 1 a2)) = some true := by rw [if_neg (show ¬ (false = true) by decide)] at H; exact H
                    clear H
                    have H := H1
                    clear H1
                    by_cases c72 : a2 < 0
                    · rw [if_pos c72] at H
                      have c72b0 : decide (a2 < 0) = true := decide_eq_true c72
                      clear c72
                      have H' := Aside0.mk H
                      clear H
                      have hnb73 := NB498_489.out
                      have hnc73 := NB489_498.out
                      have hnb74 := NB498_496.out
                      have hnc74 := NB496_498.out
                      have hcz75_0 : wc.cell? ⟨gb498, 0, none⟩ = some (.string a0_0) := (blk_cell BK498.out 0).trans rfl
                      have hcz75_1 : wc.cell? ⟨gb498, 1, none⟩ = some (.int .u8 a0_1) := (blk_cell BK498.out 1).trans rfl
                      have hcz75_2 : wc.cell? ⟨gb498, 2, none⟩ = some (.int .i64 x499002_32) := (blk_cell BK498.out 2).trans rfl
                      have hcz75_3 : wc.cell? ⟨gb498, 3, none⟩ = some (.int .i64 x499003_32) := (blk_cell BK498.out 3).trans rfl
                      have hcz75_4 : wc.cell? ⟨gb498, 4, none⟩ = some (.int .i64 x499004_32) := (blk_cell BK498.out 4).trans rfl
                      have hcz75_5 : wc.cell? ⟨gb498, 5, none⟩ = some (.int .i64 a0_5) := (blk_cell BK498.out 5).trans rfl
                      have hcz75_6 : wc.cell? ⟨gb498, 6, none⟩ = some (.int .i64 a0_6) := (blk_cell BK498.out 6).trans rfl
                      have hfz75_0 := blk_frozen BK498.out 0
                      have hfz75_1 := blk_frozen BK498.out 1
                      have hfz75_2 := blk_frozen BK498.out 2
                      have hfz75_3 := blk_frozen BK498.out 3
                      have hfz75_4 := blk_frozen BK498.out 4
                      have hfz75_5 := blk_frozen BK498.out 5
                      have hfz75_6 := blk_frozen BK498.out 6
                      go_wp2
                      go_meet
                      case rel => exact ⟨_, (decide (a2 > 4096)), (0), (0), (by first | rfl | (simp; done) | (simp [*]; done)), H', ⟨by have := HJ6.out; have := HJ32.out; first | omega | exact Nat.le_refl _⟩, ⟨by (with_reducible repeat (first | refine blk_drewN ?_ _ | refine blk_drew ?_ | refine blk_alloc ?_ _)); refine blk_far ?_ NB489_498.out _; (with_reducible repeat (first | refine blk_drewN ?_ _ | refine blk_drew ?_ | refine blk_alloc ?_ _)); refine blk_far ?_ NB489_498.out _; (with_reducible repeat (first | refine blk_drewN ?_ _ | refine blk_drew ?_ | refine blk_alloc ?_ _)); refine blk_far ?_ NB489_498.out _; (with_reducible repeat (first | refine blk_drewN ?_ _ | refine blk_drew ?_ | refine blk_alloc ?_ _)); refine blk_far ?_ NB489_498.out _; (with_reducible repeat (first | refine blk_drewN ?_ _ | refine blk_drew ?_ | refine blk_alloc ?_ _)); exact BK489.out⟩, ⟨by (with_reducible repeat (first | refine blk_drewN ?_ _ | refine blk_drew ?_ | refine blk_alloc ?_ _)); refine blk_far ?_ NB496_498.out _; (with_reducible repeat (first | refine blk_drewN ?_ _ | refine blk_drew ?_ | refine blk_alloc ?_ _)); refine blk_far ?_ NB496_498.out _; (with_reducible repeat (first | refine blk_drewN ?_ _ | refine blk_drew ?_ | refine blk_alloc ?_ _)); refine blk_far ?_ NB496_498.out _; (with_reducible repeat (first | refine blk_drewN ?_ _ | refine blk_drew ?_ | refine blk_alloc ?_ _)); refine blk_far ?_ NB496_498.out _; (with_reducible repeat (first | refine blk_drewN ?_ _ | refine blk_drew ?_ | refine blk_alloc ?_ _)); exact BK496.out⟩, ⟨by (with_reducible repeat (first | refine blk_drewN ?_ _ | refine blk_drew ?_ | refine blk_alloc ?_ _)); refine blk_put (cs := #[.string a0_0, .int .u8 a0_1, .int .i64 x499002_32, .int .i64 x499003_32, .int .i64 x499004_32, .int .i64 0, .int .i64 a2]) ?_ 6 _ rfl; (with_reducible repeat (first | refine blk_drewN ?_ _ | refine blk_drew ?_ | refine blk_alloc ?_ _)); refine blk_put (cs := #[.string a0_0, .int .u8 a0_1, .int .i64 x499002_32, .int .i64 x499003_32, .int .i64 x499004_32, .int .i64 1, .int .i64 a2]) ?_ 5 _ rfl; (with_reducible repeat (first | refine blk_drewN ?_ _ | refine blk_drew ?_ | refine blk_alloc ?_ _)); refine blk_put (cs := #[.string a0_0, .int .u8 a0_1, .int .i64 x499002_32, .int .i64 x499003_32, .int .i64 x499004_32, .int .i64 1, .int .i64 a0_6]) ?_ 6 _ rfl; (with_reducible repeat (first | refine blk_drewN ?_ _ | refine blk_drew ?_ | refine blk_alloc ?_ _)); refine blk_put (cs := #[.string a0_0, .int .u8 a0_1, .int .i64 x499002_32, .int .i64 x499003_32, .int .i64 x499004_32, .int .i64 a0_5, .int .i64 a0_6]) ?_ 5 _ rfl; (with_reducible repeat (first | refine blk_drewN ?_ _ | refine blk_drew ?_ | refine blk_alloc ?_ _)); exact BK498.out⟩, ⟨by repeat (first | (with_reducible first | exact HB.out | apply below_alloc | apply pw_below_drewN | apply below_drew1 | refine below_set ?_ GE489.out | refine below_set ?_ GE496.out | refine below_set ?_ GE498.out) | exact HB.out)⟩⟩
                    · rw [if_neg c72] at H
                      have c72b0 : decide (a2 < 0) = false := decide_eq_false c72
                      clear c72
                      have H' := Aside0.mk H
                      clear H
                      have hnb76 := NB498_489.out
                      have hnc76 := NB489_498.out
                      have hnb77 := NB498_496.out
                      have hnc77 := NB496_498.out
                      have hcz78_0 : wc.cell? ⟨gb498, 0, none⟩ = some (.string a0_0) := (blk_cell BK498.out 0).trans rfl
                      have hcz78_1 : wc.cell? ⟨gb498, 1, none⟩ = some (.int .u8 a0_1) := (blk_cell BK498.out 1).trans rfl
                      have hcz78_2 : wc.cell? ⟨gb498, 2, none⟩ = some (.int .i64 x499002_32) := (blk_cell BK498.out 2).trans rfl
                      have hcz78_3 : wc.cell? ⟨gb498, 3, none⟩ = some (.int .i64 x499003_32) := (blk_cell BK498.out 3).trans rfl
                      have hcz78_4 : wc.cell? ⟨gb498, 4, none⟩ = some (.int .i64 x499004_32) := (blk_cell BK498.out 4).trans rfl
                      have hcz78_5 : wc.cell? ⟨gb498, 5, none⟩ = some (.int .i64 a0_5) := (blk_cell BK498.out 5).trans rfl
                      have hcz78_6 : wc.cell? ⟨gb498, 6, none⟩ = some (.int .i64 a0_6) := (blk_cell BK498.out 6).trans rfl
                      have hfz78_0 := blk_frozen BK498.out 0
                      have hfz78_1 := blk_frozen BK498.out 1
                      have hfz78_2 := blk_frozen BK498.out 2
                      have hfz78_3 := blk_frozen BK498.out 3
                      have hfz78_4 := blk_frozen BK498.out 4
                      have hfz78_5 := blk_frozen BK498.out 5
                      have hfz78_6 := blk_frozen BK498.out 6
                      go_wp2
                      go_meet
                      case rel => exact ⟨_, (decide (a2 > 4096)), (1), (a2), (by first | rfl | (simp; done) | (simp [*]; done)), H', ⟨by have := HJ6.out; have := HJ32.out; first | omega | exact Nat.le_refl _⟩, ⟨by (with_reducible repeat (first | refine blk_drewN ?_ _ | refine blk_drew ?_ | refine blk_alloc ?_ _)); refine blk_far ?_ NB489_498.out _; (with_reducible repeat (first | refine blk_drewN ?_ _ | refine blk_drew ?_ | refine blk_alloc ?_ _)); refine blk_far ?_ NB489_498.out _; (with_reducible repeat (first | refine blk_drewN ?_ _ | refine blk_drew ?_ | refine blk_alloc ?_ _)); exact BK489.out⟩, ⟨by (with_reducible repeat (first | refine blk_drewN ?_ _ | refine blk_drew ?_ | refine blk_alloc ?_ _)); refine blk_far ?_ NB496_498.out _; (with_reducible repeat (first | refine blk_drewN ?_ _ | refine blk_drew ?_ | refine blk_alloc ?_ _)); refine blk_far ?_ NB496_498.out _; (with_reducible repeat (first | refine blk_drewN ?_ _ | refine blk_drew ?_ | refine blk_alloc ?_ _)); exact BK496.out⟩, ⟨by (with_reducible repeat (first | refine blk_drewN ?_ _ | refine blk_drew ?_ | refine blk_alloc ?_ _)); refine blk_put (cs := #[.string a0_0, .int .u8 a0_1, .int .i64 x499002_32, .int .i64 x499003_32, .int .i64 x499004_32, .int .i64 1, .int .i64 a0_6]) ?_ 6 _ rfl; (with_reducible repeat (first | refine blk_drewN ?_ _ | refine blk_drew ?_ | refine blk_alloc ?_ _)); refine blk_put (cs := #[.string a0_0, .int .u8 a0_1, .int .i64 x499002_32, .int .i64 x499003_32, .int .i64 x499004_32, .int .i64 a0_5, .int .i64 a0_6]) ?_ 5 _ rfl; (with_reducible repeat (first | refine blk_drewN ?_ _ | refine blk_drew ?_ | refine blk_alloc ?_ _)); exact BK498.out⟩, ⟨by repeat (first | (with_reducible first | exact HB.out | apply below_alloc | apply pw_below_drewN | apply below_drew1 | refine below_set ?_ GE489.out | refine below_set ?_ GE496.out | refine below_set ?_ GE498.out) | exact HB.out)⟩⟩
                · rw [if_neg c63] at H
                  have c63b0 : (a0_5 == 2) = false := beq_eq_false_iff_ne.mpr c63
                  have c63b1 : (a0_5 != 2) = true := bne_iff_ne.mpr c63
                  (first | rw [c63b0] | (simp only [i64_w, i32_w]; rw [c63b0]) | skip)
                  have H' := Aside0.mk H
                  clear H
                  go_wp2
                  go_meet
                  case rel => exact ⟨_, (x10_32), (a0_5), (a0_6), (by first | rfl | (simp; done) | (simp [*]; done)), H', ⟨by have := HJ6.out; have := HJ32.out; first | omega | exact Nat.le_refl _⟩, ⟨by (with_reducible repeat (first | refine blk_drewN ?_ _ | refine blk_drew ?_ | refine blk_alloc ?_ _)); exact BK489.out⟩, ⟨by (with_reducible repeat (first | refine blk_drewN ?_ _ | refine blk_drew ?_ | refine blk_alloc ?_ _)); exact BK496.out⟩, ⟨by (with_reducible repeat (first | refine blk_drewN ?_ _ | refine blk_drew ?_ | refine blk_alloc ?_ _)); exact BK498.out⟩, ⟨by repeat (first | (with_reducible first | exact HB.out | apply below_alloc | apply pw_below_drewN | apply below_drew1 | refine below_set ?_ GE489.out | refine below_set ?_ GE496.out | refine below_set ?_ GE498.out) | exact HB.out)⟩⟩
              case rest =>
                clear HC59
                try clear c1
                try clear c2
                try clear p2
                try clear c3
                try clear c4
                try clear c5
                try clear c6
                try clear p6
                try clear c7
                try clear c10
                try clear c11
                try clear c13
                try clear c16
                try clear c16b0
                try clear c16b1
                try clear c17
                try clear c17b0
                try clear c17b1
                try clear c18
                try clear c22
                try clear c26
                try clear c29
                try clear c30
                try clear c30b0
                try clear c30b1
                try clear c31
                try clear c34
                try clear c37
                try clear c38
                try clear c41
                try clear c41b0
                try clear c41b1
                try clear c43
                try clear c43b0
                try clear c44
                try clear c44b0
                try clear c45
                try clear c45b0
                try clear c45b1
                try clear c46
                try clear c47
                try clear c49
                try clear c50
                try clear c52
                try clear c52b0
                try clear c52b1
                try clear c53
                try clear c54
                try clear c56
                try clear c57
                try clear c60
                try clear c61
                try clear c63
                try clear c63b0
                try clear c63b1
                try clear c64
                try clear p64
                try clear c65
                try clear c65b0
                try clear c66
                try clear c67
                try clear c69
                try clear c70
                try clear c72
                try clear c72b0
                try clear c73
                try clear c74
                try clear c76
                try clear c77
                try clear hcz10_0
                try clear hcz10_1
                try clear hcz10_2
                try clear hcz10_3
                try clear hcz10_4
                try clear hcz10_5
                try clear hcz10_6
                try clear hcz14_0
                try clear hcz14_1
                try clear hcz14_2
                try clear hcz14_3
                try clear hcz19_0
                try clear hcz19_1
                try clear hcz19_2
                try clear hcz19_3
                try clear hcz19_4
                try clear hcz19_5
                try clear hcz19_6
                try clear hcz21_0
                try clear hcz21_1
                try clear hcz21_2
                try clear hcz21_3
                try clear hcz21_4
                try clear hcz21_5
                try clear hcz21_6
                try clear hcz23_0
                try clear hcz23_1
                try clear hcz23_2
                try clear hcz23_3
                try clear hcz23_4
                try clear hcz23_5
                try clear hcz23_6
                try clear hcz25_0
                try clear hcz25_1
                try clear hcz25_2
                try clear hcz25_3
                try clear hcz25_4
                try clear hcz25_5
                try clear hcz25_6
                try clear hcz27_0
                try clear hcz27_1
                try clear hcz27_2
                try clear hcz27_3
                try clear hcz27_4
                try clear hcz27_5
                try clear hcz27_6
                try clear hcz32_0
                try clear hcz32_1
                try clear hcz32_2
                try clear hcz32_3
                try clear hcz35_0
                try clear hcz35_1
                try clear hcz35_2
                try clear hcz35_3
                try clear hcz35_4
                try clear hcz35_5
                try clear hcz35_6
                try clear hcz39_0
                try clear hcz39_1
                try clear hcz39_2
                try clear hcz39_3
                try clear hcz39_4
                try clear hcz39_5
                try clear hcz39_6
                try clear hcz40_0
                try clear hcz40_1
                try clear hcz40_2
                try clear hcz40_3
                try clear hcz40_4
                try clear hcz40_5
                try clear hcz40_6
                try clear hcz48_0
                try clear hcz48_1
                try clear hcz48_2
                try clear hcz48_3
                try clear hcz48_4
                try clear hcz48_5
                try clear hcz48_6
                try clear hcz51_0
                try clear hcz51_1
                try clear hcz51_2
                try clear hcz51_3
                try clear hcz51_4
                try clear hcz51_5
                try clear hcz51_6
                try clear hcz55_0
                try clear hcz55_1
                try clear hcz55_2
                try clear hcz55_3
                try clear hcz55_4
                try clear hcz55_5
                try clear hcz55_6
                try clear hcz58_0
                try clear hcz58_1
                try clear hcz58_2
                try clear hcz58_3
                try clear hcz58_4
                try clear hcz58_5
                try clear hcz58_6
                try clear hcz62_0
                try clear hcz62_1
                try clear hcz62_2
                try clear hcz62_3
                try clear hcz62_4
                try clear hcz62_5
                try clear hcz62_6
                try clear hcz68_0
                try clear hcz68_1
                try clear hcz68_2
                try clear hcz68_3
                try clear hcz68_4
                try clear hcz68_5
                try clear hcz68_6
                try clear hcz71_0
                try clear hcz71_1
                try clear hcz71_2
                try clear hcz71_3
                try clear hcz71_4
                try clear hcz71_5
                try clear hcz71_6
                try clear hcz75_0
                try clear hcz75_1
                try clear hcz75_2
                try clear hcz75_3
                try clear hcz75_4
                try clear hcz75_5
                try clear hcz75_6
                try clear hcz78_0
                try clear hcz78_1
                try clear hcz78_2
                try clear hcz78_3
                try clear hcz78_4
                try clear hcz78_5
                try clear hcz78_6
                try clear hfz10_0
                try clear hfz10_1
                try clear hfz10_2
                try clear hfz10_3
                try clear hfz10_4
                try clear hfz10_5
                try clear hfz10_6
                try clear hfz14_0
                try clear hfz14_1
                try clear hfz14_2
                try clear hfz14_3
                try clear hfz19_0
                try clear hfz19_1
                try clear hfz19_2
                try clear hfz19_3
                try clear hfz19_4
                try clear hfz19_5
                try clear hfz19_6
                try clear hfz21_0
                try clear hfz21_1
                try clear hfz21_2
                try clear hfz21_3
                try clear hfz21_4
                try clear hfz21_5
                try clear hfz21_6
                try clear hfz23_0
                try clear hfz23_1
                try clear hfz23_2
                try clear hfz23_3
                try clear hfz23_4
                try clear hfz23_5
                try clear hfz23_6
                try clear hfz25_0
                try clear hfz25_1
                try clear hfz25_2
                try clear hfz25_3
                try clear hfz25_4
                try clear hfz25_5
                try clear hfz25_6
                try clear hfz27_0
                try clear hfz27_1
                try clear hfz27_2
                try clear hfz27_3
                try clear hfz27_4
                try clear hfz27_5
                try clear hfz27_6
                try clear hfz32_0
                try clear hfz32_1
                try clear hfz32_2
                try clear hfz32_3
                try clear hfz35_0
                try clear hfz35_1
                try clear hfz35_2
                try clear hfz35_3
                try clear hfz35_4
                try clear hfz35_5
                try clear hfz35_6
                try clear hfz39_0
                try clear hfz39_1
                try clear hfz39_2
                try clear hfz39_3
                try clear hfz39_4
                try clear hfz39_5
                try clear hfz39_6
                try clear hfz40_0
                try clear hfz40_1
                try clear hfz40_2
                try clear hfz40_3
                try clear hfz40_4
                try clear hfz40_5
                try clear hfz40_6
                try clear hfz48_0
                try clear hfz48_1
                try clear hfz48_2
                try clear hfz48_3
                try clear hfz48_4
                try clear hfz48_5
                try clear hfz48_6
                try clear hfz51_0
                try clear hfz51_1
                try clear hfz51_2
                try clear hfz51_3
                try clear hfz51_4
                try clear hfz51_5
                try clear hfz51_6
                try clear hfz55_0
                try clear hfz55_1
                try clear hfz55_2
                try clear hfz55_3
                try clear hfz55_4
                try clear hfz55_5
                try clear hfz55_6
                try clear hfz58_0
                try clear hfz58_1
                try clear hfz58_2
                try clear hfz58_3
                try clear hfz58_4
                try clear hfz58_5
                try clear hfz58_6
                try clear hfz62_0
                try clear hfz62_1
                try clear hfz62_2
                try clear hfz62_3
                try clear hfz62_4
                try clear hfz62_5
                try clear hfz62_6
                try clear hfz68_0
                try clear hfz68_1
                try clear hfz68_2
                try clear hfz68_3
                try clear hfz68_4
                try clear hfz68_5
                try clear hfz68_6
                try clear hfz71_0
                try clear hfz71_1
                try clear hfz71_2
                try clear hfz71_3
                try clear hfz71_4
                try clear hfz71_5
                try clear hfz71_6
                try clear hfz75_0
                try clear hfz75_1
                try clear hfz75_2
                try clear hfz75_3
                try clear hfz75_4
                try clear hfz75_5
                try clear hfz75_6
                try clear hfz78_0
                try clear hfz78_1
                try clear hfz78_2
                try clear hfz78_3
                try clear hfz78_4
                try clear hfz78_5
                try clear hfz78_6
                try clear p2
                try clear p6
                obtain ⟨kq, x10_58, x499005_58, x499006_58, rfl, HA, HJ58, BK489, BK496, BK498, HB⟩ := hcut
                cases kq with
                | zero => exact absurd HA.out (by simp [abacuslaw13_DirectiveStars.j3])
                | succ kj58 =>
                  have H := HA.out
                  clear HA
                  simp only [abacuslaw13_DirectiveStars.j3] at H
                  by_cases c79 : x10_58 = true
                  · subst c79
                    have H1 : (if t495 = 6 then (some (t491 == 0 && (t492 == 0 && (t493 == 0 && (t494 == 0))))) else (some false)) = some true := by rw [if_pos rfl] at H; exact H
                    clear H
                    have H := H1
                    clear H1
                    by_cases c80 : t495 = 6
                    · rw [if_pos c80] at H
                      have c80b0 : (t495 == 6) = true := beq_iff_eq.mpr c80
                      have c80b1 : (t495 != 6) = false := bne_eq_false_iff_eq.mpr c80
                      clear c80
                      have HX := Aside0.mk (Option.some.inj H)
                      clear H
                      have hnb81 := NB496_489.out
                      have hnc81 := NB489_496.out
                      have hnb82 := NB496_498.out
                      have hnc82 := NB498_496.out
                      have hcz83_0 : wc.cell? ⟨gb496, 0, none⟩ = some (.int .u8 t491) := (blk_cell BK496.out 0).trans rfl
                      have hcz83_1 : wc.cell? ⟨gb496, 1, none⟩ = some (.int .i64 t492) := (blk_cell BK496.out 1).trans rfl
                      have hcz83_2 : wc.cell? ⟨gb496, 2, none⟩ = some (.int .i64 t493) := (blk_cell BK496.out 2).trans rfl
                      have hcz83_3 : wc.cell? ⟨gb496, 3, none⟩ = some (.int .i64 t494) := (blk_cell BK496.out 3).trans rfl
                      have hfz83_0 := blk_frozen BK496.out 0
                      have hfz83_1 := blk_frozen BK496.out 1
                      have hfz83_2 := blk_frozen BK496.out 2
                      have hfz83_3 := blk_frozen BK496.out 3
                      go_wp2
                      go_ret
                      exact ⟨by first | exact congrArg (fun b_ => Ending.returned (Value.bool b_)) HX.out | (have hx_ := HX.out; simp at hx_ ⊢; done) | (have hx_ := HX.out; simp at hx_ ⊢; exact hx_) | (have hx_ := HX.out; simp_all) | (simp [*, errW_none, errW_some] <;> rfl), by repeat (first | (with_reducible first | exact HB.out | apply below_alloc | apply pw_below_drewN | apply below_drew1 | refine below_set ?_ GE489.out | refine below_set ?_ GE496.out | refine below_set ?_ GE498.out) | exact HB.out)⟩
                    · rw [if_neg c80] at H
                      have c80b0 : (t495 == 6) = false := beq_eq_false_iff_ne.mpr c80
                      have c80b1 : (t495 != 6) = true := bne_iff_ne.mpr c80
                      exact absurd H (by simp)
                  · replace c79 := Bool.eq_false_iff.mpr c79
                    subst c79
                    have H1 : ((directive_Settle.f kj58 a0_0 a0_1 x499002_32 x499003_32 x499004_32 x499005_58 x499006_58 a2 a1).bind fun bt499 => (if t495 = 0 then (if bt499.2.2.2.2 = 0 then (if (!(t491 == bt499.1) || (!(t492 == bt499.2.1) || (!(t493 == bt499.2.2.1) || (!(t494 == bt499.2.2.2.1))))) = true then (abacuslaw13_DirectiveStars.j4 kj58 true t491 t492 t493 t494 a0_0 a0_1 x499002_32 x499003_32 x499004_32 x499005_58 x499006_58) else (if t491 = a0_1 then (if t492 = x499002_32 then (abacuslaw13_DirectiveStars.j4 kj58 (t493 != x499004_32) t491 t492 t493 t494 a0_0 a0_1 x499002_32 x499003_32 x499004_32 x499005_58 x499006_58) else (abacuslaw13_DirectiveStars.j4 kj58 true t491 t492 t493 t494 a0_0 a0_1 x499002_32 x499003_32 x499004_32 x499005_58 x499006_58)) else (abacuslaw13_DirectiveStars.j4 kj58 true t491 t492 t493 t494 a0_0 a0_1 x499002_32 x499003_32 x499004_32 x499005_58 x499006_58))) else (abacuslaw13_DirectiveStars.j4 kj58 true t491 t492 t493 t494 a0_0 a0_1 x499002_32 x499003_32 x499004_32 x499005_58 x499006_58)) else (abacuslaw13_DirectiveStars.j4 kj58 true t491 t492 t493 t494 a0_0 a0_1 x499002_32 x499003_32 x499004_32 x499005_58 x499006_58))) = some true := by rw [if_neg (show ¬ (false = true) by decide)] at H; exact H
                    clear H
                    have H := H1
                    clear H1
                    replace H := Option.bind_eq_some_iff.mp H
                    obtain ⟨⟨t499, t500, t501, t502, t503⟩, A840, H⟩ := H
                    replace H : (if t495 = 0 then (if t503 = 0 then (if (!(t491 == t499) || (!(t492 == t500) || (!(t493 == t501) || (!(t494 == t502))))) = true then (abacuslaw13_DirectiveStars.j4 kj58 true t491 t492 t493 t494 a0_0 a0_1 x499002_32 x499003_32 x499004_32 x499005_58 x499006_58) else (if t491 = a0_1 then (if t492 = x499002_32 then (abacuslaw13_DirectiveStars.j4 kj58 (t493 != x499004_32) t491 t492 t493 t494 a0_0 a0_1 x499002_32 x499003_32 x499004_32 x499005_58 x499006_58) else (abacuslaw13_DirectiveStars.j4 kj58 true t491 t492 t493 t494 a0_0 a0_1 x499002_32 x499003_32 x499004_32 x499005_58 x499006_58)) else (abacuslaw13_DirectiveStars.j4 kj58 true t491 t492 t493 t494 a0_0 a0_1 x499002_32 x499003_32 x499004_32 x499005_58 x499006_58))) else (abacuslaw13_DirectiveStars.j4 kj58 true t491 t492 t493 t494 a0_0 a0_1 x499002_32 x499003_32 x499004_32 x499005_58 x499006_58)) else (abacuslaw13_DirectiveStars.j4 kj58 true t491 t492 t493 t494 a0_0 a0_1 x499002_32 x499003_32 x499004_32 x499005_58 x499006_58)) = some true := H
                    have A84 := Aside0.mk A840
                    clear A840
                    have HC85 := Aside0.mk H
                    clear H
                    have hnb86 := NB498_489.out
                    have hnc86 := NB489_498.out
                    have hnb87 := NB498_496.out
                    have hnc87 := NB496_498.out
                    have hcz88_0 : wc.cell? ⟨gb498, 0, none⟩ = some (.string a0_0) := (blk_cell BK498.out 0).trans rfl
                    have hcz88_1 : wc.cell? ⟨gb498, 1, none⟩ = some (.int .u8 a0_1) := (blk_cell BK498.out 1).trans rfl
                    have hcz88_2 : wc.cell? ⟨gb498, 2, none⟩ = some (.int .i64 x499002_32) := (blk_cell BK498.out 2).trans rfl
                    have hcz88_3 : wc.cell? ⟨gb498, 3, none⟩ = some (.int .i64 x499003_32) := (blk_cell BK498.out 3).trans rfl
                    have hcz88_4 : wc.cell? ⟨gb498, 4, none⟩ = some (.int .i64 x499004_32) := (blk_cell BK498.out 4).trans rfl
                    have hcz88_5 : wc.cell? ⟨gb498, 5, none⟩ = some (.int .i64 x499005_58) := (blk_cell BK498.out 5).trans rfl
                    have hcz88_6 : wc.cell? ⟨gb498, 6, none⟩ = some (.int .i64 x499006_58) := (blk_cell BK498.out 6).trans rfl
                    have hfz88_0 := blk_frozen BK498.out 0
                    have hfz88_1 := blk_frozen BK498.out 1
                    have hfz88_2 := blk_frozen BK498.out 2
                    have hfz88_3 := blk_frozen BK498.out 3
                    have hfz88_4 := blk_frozen BK498.out 4
                    have hfz88_5 := blk_frozen BK498.out 5
                    have hfz88_6 := blk_frozen BK498.out 6
                    go_upto_region 27 with (first | ((with_reducible refine gate_callee (f := 16) rfl ?_); refine goesL_ (some 94) rfl rfl Tryd.func16 (by kernel_rfl) rfl #[.agg #[.string a0_0, .int .u8 a0_1, .int .i64 x499002_32, .int .i64 x499003_32, .int .i64 x499004_32, .int .i64 x499005_58, .int .i64 x499006_58], .int .i64 a2, .int .i64 a1] rfl (by (try simp only [List.map_toArray, List.map_cons, List.map_nil]); first | done | rfl | (simp only [List.length_drop, List.length_take]; rfl)) ?_; (with_reducible refine (directive_Settle.calls kj58 a0_0 a0_1 x499002_32 x499003_32 x499004_32 x499005_58 x499006_58 a2 a1 t499 t500 t501 t502 t503 _ A84.out).mono ?_); rintro e w89 ⟨rfl, hb⟩; refine ⟨_, rfl, ?_⟩; have n0_ := Aside0.mk (blk_below (g := gb489) (o := .cells #[.string a0_0, .int .u8 a0_1, .int .i64 a0_2, .int .i64 a0_3, .int .i64 a0_4, .int .i64 a0_5, .int .i64 a0_6] 25 (0, 0)) (by (with_reducible repeat (first | refine blk_drewN ?_ _ | refine blk_drew ?_ | refine blk_alloc ?_ _)); exact BK489.out) hb); have n1_ := Aside0.mk (blk_below (g := gb496) (o := .cells #[.int .u8 t491, .int .i64 t492, .int .i64 t493, .int .i64 t494] 37 (0, 0)) (by (with_reducible repeat (first | refine blk_drewN ?_ _ | refine blk_drew ?_ | refine blk_alloc ?_ _)); exact BK496.out) hb); have n2_ := Aside0.mk (blk_below (g := gb498) (o := .cells #[.string a0_0, .int .u8 a0_1, .int .i64 x499002_32, .int .i64 x499003_32, .int .i64 x499004_32, .int .i64 x499005_58, .int .i64 x499006_58] 25 (0, 0)) (by (with_reducible repeat (first | refine blk_drewN ?_ _ | refine blk_drew ?_ | refine blk_alloc ?_ _)); exact BK498.out) hb); have n3_ := Aside0.mk (below_step (by repeat (first | (with_reducible first | exact HB.out | apply below_alloc | apply pw_below_drewN | apply below_drew1 | refine below_set ?_ GE489.out | refine below_set ?_ GE496.out | refine below_set ?_ GE498.out) | exact HB.out)) hb); clear BK489; clear BK496; clear BK498; clear HB; have BK489 := n0_; have BK496 := n1_; have BK498 := n2_; have HB := n3_; clear n0_ n1_ n2_ n3_; (try clear hb); (try clear hb2); (try clear hk); (try clear hi)) | ((with_reducible refine gate_dst (N := 11) rfl ?_); refine box_event ?hg (N := 11) ?hd (cs := #[.int .u8 0, .int .i64 0, .int .i64 0, .int .i64 0]) (t := 37) ?hr ?_; (case hd => rfl); (case hg => rfl); (case hr => first | (go_simp; done) | (go_simp; rfl)); intro gb504 hg w90 hbox hb; have n0_ := Aside0.mk (blk_below (g := gb489) (o := .cells #[.string a0_0, .int .u8 a0_1, .int .i64 a0_2, .int .i64 a0_3, .int .i64 a0_4, .int .i64 a0_5, .int .i64 a0_6] 25 (0, 0)) (by (with_reducible repeat (first | refine blk_drewN ?_ _ | refine blk_drew ?_ | refine blk_alloc ?_ _)); exact BK489.out) hb); have n1_ := Aside0.mk (blk_below (g := gb496) (o := .cells #[.int .u8 t491, .int .i64 t492, .int .i64 t493, .int .i64 t494] 37 (0, 0)) (by (with_reducible repeat (first | refine blk_drewN ?_ _ | refine blk_drew ?_ | refine blk_alloc ?_ _)); exact BK496.out) hb); have n2_ := Aside0.mk (blk_below (g := gb498) (o := .cells #[.string a0_0, .int .u8 a0_1, .int .i64 x499002_32, .int .i64 x499003_32, .int .i64 x499004_32, .int .i64 x499005_58, .int .i64 x499006_58] 25 (0, 0)) (by (with_reducible repeat (first | refine blk_drewN ?_ _ | refine blk_drew ?_ | refine blk_alloc ?_ _)); exact BK498.out) hb); have n3_ := Aside0.mk (below_step (by repeat (first | (with_reducible first | exact HB.out | apply below_alloc | apply pw_below_drewN | apply below_drew1 | refine below_set ?_ GE489.out | refine below_set ?_ GE496.out | refine below_set ?_ GE498.out) | exact HB.out)) hb); have n4_ := Aside0.mk (hbox); have n5_ := Aside0.mk ((by rw [hg]; exact (below_size (by repeat (first | (with_reducible first | exact HB.out | apply below_alloc | apply pw_below_drewN | apply below_drew1 | refine below_set ?_ GE489.out | refine below_set ?_ GE496.out | refine below_set ?_ GE498.out) | exact HB.out))) : w.heap.size ≤ gb504)); have n6_ := Aside0.mk ((by rw [hg]; exact (below_size (by repeat (first | (with_reducible first | exact HB.out | apply below_alloc | apply pw_below_drewN | apply below_drew1 | refine below_set ?_ GE489.out | refine below_set ?_ GE496.out | refine below_set ?_ GE498.out) | exact HB.out))) : w.heap.size ≤ gb504)); have n7_ := Aside0.mk ((by rw [hg]; exact Nat.ne_of_lt (blk_lt (g := gb489) (o := .cells #[.string a0_0, .int .u8 a0_1, .int .i64 a0_2, .int .i64 a0_3, .int .i64 a0_4, .int .i64 a0_5, .int .i64 a0_6] 25 (0, 0)) (by (with_reducible repeat (first | refine blk_drewN ?_ _ | refine blk_drew ?_ | refine blk_alloc ?_ _)); exact BK489.out)) : gb489 ≠ gb504)); have n8_ := Aside0.mk ((by rw [hg]; exact Nat.ne_of_gt (blk_lt (g := gb489) (o := .cells #[.string a0_0, .int .u8 a0_1, .int .i64 a0_2, .int .i64 a0_3, .int .i64 a0_4, .int .i64 a0_5, .int .i64 a0_6] 25 (0, 0)) (by (with_reducible repeat (first | refine blk_drewN ?_ _ | refine blk_drew ?_ | refine blk_alloc ?_ _)); exact BK489.out)) : gb504 ≠ gb489)); have n9_ := Aside0.mk ((by rw [hg]; exact Nat.ne_of_lt (blk_lt (g := gb496) (o := .cells #[.int .u8 t491, .int .i64 t492, .int .i64 t493, .int .i64 t494] 37 (0, 0)) (by (with_reducible repeat (first | refine blk_drewN ?_ _ | refine blk_drew ?_ | refine blk_alloc ?_ _)); exact BK496.out)) : gb496 ≠ gb504)); have n10_ := Aside0.mk ((by rw [hg]; exact Nat.ne_of_gt (blk_lt (g := gb496) (o := .cells #[.int .u8 t491, .int .i64 t492, .int .i64 t493, .int .i64 t494] 37 (0, 0)) (by (with_reducible repeat (first | refine blk_drewN ?_ _ | refine blk_drew ?_ | refine blk_alloc ?_ _)); exact BK496.out)) : gb504 ≠ gb496)); have n11_ := Aside0.mk ((by rw [hg]; exact Nat.ne_of_lt (blk_lt (g := gb498) (o := .cells #[.string a0_0, .int .u8 a0_1, .int .i64 x499002_32, .int .i64 x499003_32, .int .i64 x499004_32, .int .i64 x499005_58, .int .i64 x499006_58] 25 (0, 0)) (by (with_reducible repeat (first | refine blk_drewN ?_ _ | refine blk_drew ?_ | refine blk_alloc ?_ _)); exact BK498.out)) : gb498 ≠ gb504)); have n12_ := Aside0.mk ((by rw [hg]; exact Nat.ne_of_gt (blk_lt (g := gb498) (o := .cells #[.string a0_0, .int .u8 a0_1, .int .i64 x499002_32, .int .i64 x499003_32, .int .i64 x499004_32, .int .i64 x499005_58, .int .i64 x499006_58] 25 (0, 0)) (by (with_reducible repeat (first | refine blk_drewN ?_ _ | refine blk_drew ?_ | refine blk_alloc ?_ _)); exact BK498.out)) : gb504 ≠ gb498)); clear BK489; clear BK496; clear BK498; clear HB; have BK489 := n0_; have BK496 := n1_; have BK498 := n2_; have HB := n3_; have BK504 := n4_; have GW504 := n5_; have GE504 := n6_; have NB489_504 := n7_; have NB504_489 := n8_; have NB496_504 := n9_; have NB504_496 := n10_; have NB498_504 := n11_; have NB504_498 := n12_; clear n0_ n1_ n2_ n3_ n4_ n5_ n6_ n7_ n8_ n9_ n10_ n11_ n12_; clear hb hbox hg; have hnb91 := NB504_489.out; have hnc91 := NB489_504.out; have hnb92 := NB504_496.out; have hnc92 := NB496_504.out; have hnb93 := NB504_498.out; have hnc93 := NB498_504.out; have hcz94_0 : w90.cell? ⟨gb504, 0, none⟩ = some (.int .u8 0) := (blk_cell BK504.out 0).trans rfl; have hcz94_1 : w90.cell? ⟨gb504, 1, none⟩ = some (.int .i64 0) := (blk_cell BK504.out 1).trans rfl; have hcz94_2 : w90.cell? ⟨gb504, 2, none⟩ = some (.int .i64 0) := (blk_cell BK504.out 2).trans rfl; have hcz94_3 : w90.cell? ⟨gb504, 3, none⟩ = some (.int .i64 0) := (blk_cell BK504.out 3).trans rfl; have hfz94_0 := blk_frozen BK504.out 0; have hfz94_1 := blk_frozen BK504.out 1; have hfz94_2 := blk_frozen BK504.out 2; have hfz94_3 := blk_frozen BK504.out 3))
                    (try simp only [Act.put, List.setIfInBounds_toArray, List.set_cons_zero, List.set_cons_succ])
                    go_cut [128] (fun v128 wc => ∃ (kq : Nat) (x128_84 : Bool), v128 = .bool x128_84 ∧ Aside0 (abacuslaw13_DirectiveStars.j4 kq x128_84 t491 t492 t493 t494 a0_0 a0_1 x499002_32 x499003_32 x499004_32 x499005_58 x499006_58 = some true) ∧ Aside0 (kq ≤ kj58) ∧ Aside0 (wc.heap[gb489]? = some (.cells #[.string a0_0, .int .u8 a0_1, .int .i64 a0_2, .int .i64 a0_3, .int .i64 a0_4, .int .i64 a0_5, .int .i64 a0_6] 25 (0, 0))) ∧ Aside0 (wc.heap[gb496]? = some (.cells #[.int .u8 t491, .int .i64 t492, .int .i64 t493, .int .i64 t494] 37 (0, 0))) ∧ Aside0 (wc.heap[gb498]? = some (.cells #[.string a0_0, .int .u8 a0_1, .int .i64 x499002_32, .int .i64 x499003_32, .int .i64 x499004_32, .int .i64 x499005_58, .int .i64 x499006_58] 25 (0, 0))) ∧ Aside0 (wc.heap[gb504]? = some (.cells #[.int .u8 t499, .int .i64 t500, .int .i64 t501, .int .i64 t502] 37 (0, 0))) ∧ Aside0 (Below w.heap.size w wc))
                    case first =>
                      have H := HC85.out
                      clear HC85
                      by_cases c95 : t495 = 0
                      · rw [if_pos c95] at H
                        have c95b0 : (t495 == 0) = true := beq_iff_eq.mpr c95
                        have c95b1 : (t495 != 0) = false := bne_eq_false_iff_eq.mpr c95
                        clear c95
                        (first | rw [c95b0] | (simp only [i64_w, i32_w]; rw [c95b0]) | skip)
                        by_cases c96 : t503 = 0
                        · rw [if_pos c96] at H
                          have c96b0 : (t503 == 0) = true := beq_iff_eq.mpr c96
                          have c96b1 : (t503 != 0) = false := bne_eq_false_iff_eq.mpr c96
                          clear c96
                          by_cases c97 : (!(t491 == t499) || (!(t492 == t500) || (!(t493 == t501) || (!(t494 == t502))))) = true
                          · rw [if_pos c97] at H
                            have c97b0 : (!(t491 == t499) || (!(t492 == t500) || (!(t493 == t501) || (!(t494 == t502))))) = true := c97
                            clear c97
                            have H' := Aside0.mk H
                            clear H
                            have hnb98 := NB496_489.out
                            have hnc98 := NB489_496.out
                            have hnb99 := NB496_498.out
                            have hnc99 := NB498_496.out
                            have hnb100 := NB496_504.out
                            have hnc100 := NB504_496.out
                            have hcz101_0 : w90.cell? ⟨gb496, 0, none⟩ = some (.int .u8 t491) := (blk_cell BK496.out 0).trans rfl
                            have hcz101_1 : w90.cell? ⟨gb496, 1, none⟩ = some (.int .i64 t492) := (blk_cell BK496.out 1).trans rfl
                            have hcz101_2 : w90.cell? ⟨gb496, 2, none⟩ = some (.int .i64 t493) := (blk_cell BK496.out 2).trans rfl
                            have hcz101_3 : w90.cell? ⟨gb496, 3, none⟩ = some (.int .i64 t494) := (blk_cell BK496.out 3).trans rfl
                            have hfz101_0 := blk_frozen BK496.out 0
                            have hfz101_1 := blk_frozen BK496.out 1
                            have hfz101_2 := blk_frozen BK496.out 2
                            have hfz101_3 := blk_frozen BK496.out 3
                            have hnb102 := NB504_489.out
                            have hnc102 := NB489_504.out
                            have hnb103 := NB504_498.out
                            have hnc103 := NB498_504.out
                            have hcz104_0 : w90.cell? ⟨gb504, 0, none⟩ = some (.int .u8 0) := (blk_cell BK504.out 0).trans rfl
                            have hcz104_1 : w90.cell? ⟨gb504, 1, none⟩ = some (.int .i64 0) := (blk_cell BK504.out 1).trans rfl
                            have hcz104_2 : w90.cell? ⟨gb504, 2, none⟩ = some (.int .i64 0) := (blk_cell BK504.out 2).trans rfl
                            have hcz104_3 : w90.cell? ⟨gb504, 3, none⟩ = some (.int .i64 0) := (blk_cell BK504.out 3).trans rfl
                            have hfz104_0 := blk_frozen BK504.out 0
                            have hfz104_1 := blk_frozen BK504.out 1
                            have hfz104_2 := blk_frozen BK504.out 2
                            have hfz104_3 := blk_frozen BK504.out 3
                            go_wp2
                            go_meet
                            case rel => exact ⟨_, (true), (by first | rfl | (simp; done) | (simp [*]; done)), H', ⟨by have := HJ6.out; have := HJ32.out; have := HJ58.out; first | omega | exact Nat.le_refl _⟩, ⟨by (with_reducible repeat (first | refine blk_drewN ?_ _ | refine blk_drew ?_ | refine blk_alloc ?_ _)); refine blk_far ?_ NB489_504.out _; (with_reducible repeat (first | refine blk_drewN ?_ _ | refine blk_drew ?_ | refine blk_alloc ?_ _)); refine blk_far ?_ NB489_504.out _; (with_reducible repeat (first | refine blk_drewN ?_ _ | refine blk_drew ?_ | refine blk_alloc ?_ _)); refine blk_far ?_ NB489_504.out _; (with_reducible repeat (first | refine blk_drewN ?_ _ | refine blk_drew ?_ | refine blk_alloc ?_ _)); refine blk_far ?_ NB489_504.out _; (with_reducible repeat (first | refine blk_drewN ?_ _ | refine blk_drew ?_ | refine blk_alloc ?_ _)); exact BK489.out⟩, ⟨by (with_reducible repeat (first | refine blk_drewN ?_ _ | refine blk_drew ?_ | refine blk_alloc ?_ _)); refine blk_far ?_ NB496_504.out _; (with_reducible repeat (first | refine blk_drewN ?_ _ | refine blk_drew ?_ | refine blk_alloc ?_ _)); refine blk_far ?_ NB496_504.out _; (with_reducible repeat (first | refine blk_drewN ?_ _ | refine blk_drew ?_ | refine blk_alloc ?_ _)); refine blk_far ?_ NB496_504.out _; (with_reducible repeat (first | refine blk_drewN ?_ _ | refine blk_drew ?_ | refine blk_alloc ?_ _)); refine blk_far ?_ NB496_504.out _; (with_reducible repeat (first | refine blk_drewN ?_ _ | refine blk_drew ?_ | refine blk_alloc ?_ _)); exact BK496.out⟩, ⟨by (with_reducible repeat (first | refine blk_drewN ?_ _ | refine blk_drew ?_ | refine blk_alloc ?_ _)); refine blk_far ?_ NB498_504.out _; (with_reducible repeat (first | refine blk_drewN ?_ _ | refine blk_drew ?_ | refine blk_alloc ?_ _)); refine blk_far ?_ NB498_504.out _; (with_reducible repeat (first | refine blk_drewN ?_ _ | refine blk_drew ?_ | refine blk_alloc ?_ _)); refine blk_far ?_ NB498_504.out _; (with_reducible repeat (first | refine blk_drewN ?_ _ | refine blk_drew ?_ | refine blk_alloc ?_ _)); refine blk_far ?_ NB498_504.out _; (with_reducible repeat (first | refine blk_drewN ?_ _ | refine blk_drew ?_ | refine blk_alloc ?_ _)); exact BK498.out⟩, ⟨by (with_reducible repeat (first | refine blk_drewN ?_ _ | refine blk_drew ?_ | refine blk_alloc ?_ _)); refine blk_put (cs := #[.int .u8 t499, .int .i64 t500, .int .i64 t501, .int .i64 0]) ?_ 3 _ rfl; (with_reducible repeat (first | refine blk_drewN ?_ _ | refine blk_drew ?_ | refine blk_alloc ?_ _)); refine blk_put (cs := #[.int .u8 t499, .int .i64 t500, .int .i64 0, .int .i64 0]) ?_ 2 _ rfl; (with_reducible repeat (first | refine blk_drewN ?_ _ | refine blk_drew ?_ | refine blk_alloc ?_ _)); refine blk_put (cs := #[.int .u8 t499, .int .i64 0, .int .i64 0, .int .i64 0]) ?_ 1 _ rfl; (with_reducible repeat (first | refine blk_drewN ?_ _ | refine blk_drew ?_ | refine blk_alloc ?_ _)); refine blk_put (cs := #[.int .u8 0, .int .i64 0, .int .i64 0, .int .i64 0]) ?_ 0 _ rfl; (with_reducible repeat (first | refine blk_drewN ?_ _ | refine blk_drew ?_ | refine blk_alloc ?_ _)); exact BK504.out⟩, ⟨by repeat (first | (with_reducible first | exact HB.out | apply below_alloc | apply pw_below_drewN | apply below_drew1 | refine below_set ?_ GE489.out | refine below_set ?_ GE496.out | refine below_set ?_ GE498.out | refine below_set ?_ GE504.out) | exact HB.out)⟩⟩
                          · rw [if_neg c97] at H
                            have c97b0 : (!(t491 == t499) || (!(t492 == t500) || (!(t493 == t501) || (!(t494 == t502))))) = false := by simpa using c97
                            clear c97
                            by_cases c105 : t491 = a0_1
                            · rw [if_pos c105] at H
                              have c105b0 : (t491 == a0_1) = true := beq_iff_eq.mpr c105
                              have c105b1 : (t491 != a0_1) = false := bne_eq_false_iff_eq.mpr c105
                              clear c105
                              by_cases c106 : t492 = x499002_32
                              · rw [if_pos c106] at H
                                have c106b0 : (t492 == x499002_32) = true := beq_iff_eq.mpr c106
                                have c106b1 : (t492 != x499002_32) = false := bne_eq_false_iff_eq.mpr c106
                                clear c106
                                have H' := Aside0.mk H
                                clear H
                                have hnb107 := NB496_489.out
                                have hnc107 := NB489_496.out
                                have hnb108 := NB496_498.out
                                have hnc108 := NB498_496.out
                                have hnb109 := NB496_504.out
                                have hnc109 := NB504_496.out
                                have hcz110_0 : w90.cell? ⟨gb496, 0, none⟩ = some (.int .u8 t491) := (blk_cell BK496.out 0).trans rfl
                                have hcz110_1 : w90.cell? ⟨gb496, 1, none⟩ = some (.int .i64 t492) := (blk_cell BK496.out 1).trans rfl
                                have hcz110_2 : w90.cell? ⟨gb496, 2, none⟩ = some (.int .i64 t493) := (blk_cell BK496.out 2).trans rfl
                                have hcz110_3 : w90.cell? ⟨gb496, 3, none⟩ = some (.int .i64 t494) := (blk_cell BK496.out 3).trans rfl
                                have hfz110_0 := blk_frozen BK496.out 0
                                have hfz110_1 := blk_frozen BK496.out 1
                                have hfz110_2 := blk_frozen BK496.out 2
                                have hfz110_3 := blk_frozen BK496.out 3
                                have hnb111 := NB504_489.out
                                have hnc111 := NB489_504.out
                                have hnb112 := NB504_498.out
                                have hnc112 := NB498_504.out
                                have hcz113_0 : w90.cell? ⟨gb504, 0, none⟩ = some (.int .u8 0) := (blk_cell BK504.out 0).trans rfl
                                have hcz113_1 : w90.cell? ⟨gb504, 1, none⟩ = some (.int .i64 0) := (blk_cell BK504.out 1).trans rfl
                                have hcz113_2 : w90.cell? ⟨gb504, 2, none⟩ = some (.int .i64 0) := (blk_cell BK504.out 2).trans rfl
                                have hcz113_3 : w90.cell? ⟨gb504, 3, none⟩ = some (.int .i64 0) := (blk_cell BK504.out 3).trans rfl
                                have hfz113_0 := blk_frozen BK504.out 0
                                have hfz113_1 := blk_frozen BK504.out 1
                                have hfz113_2 := blk_frozen BK504.out 2
                                have hfz113_3 := blk_frozen BK504.out 3
                                have hnb114 := NB489_498.out
                                have hnc114 := NB498_489.out
                                have hcz115_0 : w90.cell? ⟨gb489, 0, none⟩ = some (.string a0_0) := (blk_cell BK489.out 0).trans rfl
                                have hcz115_1 : w90.cell? ⟨gb489, 1, none⟩ = some (.int .u8 a0_1) := (blk_cell BK489.out 1).trans rfl
                                have hcz115_2 : w90.cell? ⟨gb489, 2, none⟩ = some (.int .i64 a0_2) := (blk_cell BK489.out 2).trans rfl
                                have hcz115_3 : w90.cell? ⟨gb489, 3, none⟩ = some (.int .i64 a0_3) := (blk_cell BK489.out 3).trans rfl
                                have hcz115_4 : w90.cell? ⟨gb489, 4, none⟩ = some (.int .i64 a0_4) := (blk_cell BK489.out 4).trans rfl
                                have hcz115_5 : w90.cell? ⟨gb489, 5, none⟩ = some (.int .i64 a0_5) := (blk_cell BK489.out 5).trans rfl
                                have hcz115_6 : w90.cell? ⟨gb489, 6, none⟩ = some (.int .i64 a0_6) := (blk_cell BK489.out 6).trans rfl
                                have hfz115_0 := blk_frozen BK489.out 0
                                have hfz115_1 := blk_frozen BK489.out 1
                                have hfz115_2 := blk_frozen BK489.out 2
                                have hfz115_3 := blk_frozen BK489.out 3
                                have hfz115_4 := blk_frozen BK489.out 4
                                have hfz115_5 := blk_frozen BK489.out 5
                                have hfz115_6 := blk_frozen BK489.out 6
                                have hcz116_0 : w90.cell? ⟨gb498, 0, none⟩ = some (.string a0_0) := (blk_cell BK498.out 0).trans rfl
                                have hcz116_1 : w90.cell? ⟨gb498, 1, none⟩ = some (.int .u8 a0_1) := (blk_cell BK498.out 1).trans rfl
                                have hcz116_2 : w90.cell? ⟨gb498, 2, none⟩ = some (.int .i64 x499002_32) := (blk_cell BK498.out 2).trans rfl
                                have hcz116_3 : w90.cell? ⟨gb498, 3, none⟩ = some (.int .i64 x499003_32) := (blk_cell BK498.out 3).trans rfl
                                have hcz116_4 : w90.cell? ⟨gb498, 4, none⟩ = some (.int .i64 x499004_32) := (blk_cell BK498.out 4).trans rfl
                                have hcz116_5 : w90.cell? ⟨gb498, 5, none⟩ = some (.int .i64 x499005_58) := (blk_cell BK498.out 5).trans rfl
                                have hcz116_6 : w90.cell? ⟨gb498, 6, none⟩ = some (.int .i64 x499006_58) := (blk_cell BK498.out 6).trans rfl
                                have hfz116_0 := blk_frozen BK498.out 0
                                have hfz116_1 := blk_frozen BK498.out 1
                                have hfz116_2 := blk_frozen BK498.out 2
                                have hfz116_3 := blk_frozen BK498.out 3
                                have hfz116_4 := blk_frozen BK498.out 4
                                have hfz116_5 := blk_frozen BK498.out 5
                                have hfz116_6 := blk_frozen BK498.out 6
                                go_wp2
                                go_meet
                                case rel => exact ⟨_, ((t493 != x499004_32)), (by first | rfl | (simp; done) | (simp [*]; done)), H', ⟨by have := HJ6.out; have := HJ32.out; have := HJ58.out; first | omega | exact Nat.le_refl _⟩, ⟨by (with_reducible repeat (first | refine blk_drewN ?_ _ | refine blk_drew ?_ | refine blk_alloc ?_ _)); refine blk_far ?_ NB489_504.out _; (with_reducible repeat (first | refine blk_drewN ?_ _ | refine blk_drew ?_ | refine blk_alloc ?_ _)); refine blk_far ?_ NB489_504.out _; (with_reducible repeat (first | refine blk_drewN ?_ _ | refine blk_drew ?_ | refine blk_alloc ?_ _)); refine blk_far ?_ NB489_504.out _; (with_reducible repeat (first | refine blk_drewN ?_ _ | refine blk_drew ?_ | refine blk_alloc ?_ _)); refine blk_far ?_ NB489_504.out _; (with_reducible repeat (first | refine blk_drewN ?_ _ | refine blk_drew ?_ | refine blk_alloc ?_ _)); exact BK489.out⟩, ⟨by (with_reducible repeat (first | refine blk_drewN ?_ _ | refine blk_drew ?_ | refine blk_alloc ?_ _)); refine blk_far ?_ NB496_504.out _; (with_reducible repeat (first | refine blk_drewN ?_ _ | refine blk_drew ?_ | refine blk_alloc ?_ _)); refine blk_far ?_ NB496_504.out _; (with_reducible repeat (first | refine blk_drewN ?_ _ | refine blk_drew ?_ | refine blk_alloc ?_ _)); refine blk_far ?_ NB496_504.out _; (with_reducible repeat (first | refine blk_drewN ?_ _ | refine blk_drew ?_ | refine blk_alloc ?_ _)); refine blk_far ?_ NB496_504.out _; (with_reducible repeat (first | refine blk_drewN ?_ _ | refine blk_drew ?_ | refine blk_alloc ?_ _)); exact BK496.out⟩, ⟨by (with_reducible repeat (first | refine blk_drewN ?_ _ | refine blk_drew ?_ | refine blk_alloc ?_ _)); refine blk_far ?_ NB498_504.out _; (with_reducible repeat (first | refine blk_drewN ?_ _ | refine blk_drew ?_ | refine blk_alloc ?_ _)); refine blk_far ?_ NB498_504.out _; (with_reducible repeat (first | refine blk_drewN ?_ _ | refine blk_drew ?_ | refine blk_alloc ?_ _)); refine blk_far ?_ NB498_504.out _; (with_reducible repeat (first | refine blk_drewN ?_ _ | refine blk_drew ?_ | refine blk_alloc ?_ _)); refine blk_far ?_ NB498_504.out _; (with_reducible repeat (first | refine blk_drewN ?_ _ | refine blk_drew ?_ | refine blk_alloc ?_ _)); exact BK498.out⟩, ⟨by (with_reducible repeat (first | refine blk_drewN ?_ _ | refine blk_drew ?_ | refine blk_alloc ?_ _)); refine blk_put (cs := #[.int .u8 t499, .int .i64 t500, .int .i64 t501, .int .i64 0]) ?_ 3 _ rfl; (with_reducible repeat (first | refine blk_drewN ?_ _ | refine blk_drew ?_ | refine blk_alloc ?_ _)); refine blk_put (cs := #[.int .u8 t499, .int .i64 t500, .int .i64 0, .int .i64 0]) ?_ 2 _ rfl; (with_reducible repeat (first | refine blk_drewN ?_ _ | refine blk_drew ?_ | refine blk_alloc ?_ _)); refine blk_put (cs := #[.int .u8 t499, .int .i64 0, .int .i64 0, .int .i64 0]) ?_ 1 _ rfl; (with_reducible repeat (first | refine blk_drewN ?_ _ | refine blk_drew ?_ | refine blk_alloc ?_ _)); refine blk_put (cs := #[.int .u8 0, .int .i64 0, .int .i64 0, .int .i64 0]) ?_ 0 _ rfl; (with_reducible repeat (first | refine blk_drewN ?_ _ | refine blk_drew ?_ | refine blk_alloc ?_ _)); exact BK504.out⟩, ⟨by repeat (first | (with_reducible first | exact HB.out | apply below_alloc | apply pw_below_drewN | apply below_drew1 | refine below_set ?_ GE489.out | refine below_set ?_ GE496.out | refine below_set ?_ GE498.out | refine below_set ?_ GE504.out) | exact HB.out)⟩⟩
                              · rw [if_neg c106] at H
                                have c106b0 : (t492 == x499002_32) = false := beq_eq_false_iff_ne.mpr c106
                                have c106b1 : (t492 != x499002_32) = true := bne_iff_ne.mpr c106
                                have H' := Aside0.mk H
                                clear H
                                have hnb117 := NB496_489.out
                                have hnc117 := NB489_496.out
                                have hnb118 := NB496_498.out
                                have hnc118 := NB498_496.out
                                have hnb119 := NB496_504.out
                                have hnc119 := NB504_496.out
                                have hcz120_0 : w90.cell? ⟨gb496, 0, none⟩ = some (.int .u8 t491) := (blk_cell BK496.out 0).trans rfl
                                have hcz120_1 : w90.cell? ⟨gb496, 1, none⟩ = some (.int .i64 t492) := (blk_cell BK496.out 1).trans rfl
                                have hcz120_2 : w90.cell? ⟨gb496, 2, none⟩ = some (.int .i64 t493) := (blk_cell BK496.out 2).trans rfl
                                have hcz120_3 : w90.cell? ⟨gb496, 3, none⟩ = some (.int .i64 t494) := (blk_cell BK496.out 3).trans rfl
                                have hfz120_0 := blk_frozen BK496.out 0
                                have hfz120_1 := blk_frozen BK496.out 1
                                have hfz120_2 := blk_frozen BK496.out 2
                                have hfz120_3 := blk_frozen BK496.out 3
                                have hnb121 := NB504_489.out
                                have hnc121 := NB489_504.out
                                have hnb122 := NB504_498.out
                                have hnc122 := NB498_504.out
                                have hcz123_0 : w90.cell? ⟨gb504, 0, none⟩ = some (.int .u8 0) := (blk_cell BK504.out 0).trans rfl
                                have hcz123_1 : w90.cell? ⟨gb504, 1, none⟩ = some (.int .i64 0) := (blk_cell BK504.out 1).trans rfl
                                have hcz123_2 : w90.cell? ⟨gb504, 2, none⟩ = some (.int .i64 0) := (blk_cell BK504.out 2).trans rfl
                                have hcz123_3 : w90.cell? ⟨gb504, 3, none⟩ = some (.int .i64 0) := (blk_cell BK504.out 3).trans rfl
                                have hfz123_0 := blk_frozen BK504.out 0
                                have hfz123_1 := blk_frozen BK504.out 1
                                have hfz123_2 := blk_frozen BK504.out 2
                                have hfz123_3 := blk_frozen BK504.out 3
                                have hnb124 := NB489_498.out
                                have hnc124 := NB498_489.out
                                have hcz125_0 : w90.cell? ⟨gb489, 0, none⟩ = some (.string a0_0) := (blk_cell BK489.out 0).trans rfl
                                have hcz125_1 : w90.cell? ⟨gb489, 1, none⟩ = some (.int .u8 a0_1) := (blk_cell BK489.out 1).trans rfl
                                have hcz125_2 : w90.cell? ⟨gb489, 2, none⟩ = some (.int .i64 a0_2) := (blk_cell BK489.out 2).trans rfl
                                have hcz125_3 : w90.cell? ⟨gb489, 3, none⟩ = some (.int .i64 a0_3) := (blk_cell BK489.out 3).trans rfl
                                have hcz125_4 : w90.cell? ⟨gb489, 4, none⟩ = some (.int .i64 a0_4) := (blk_cell BK489.out 4).trans rfl
                                have hcz125_5 : w90.cell? ⟨gb489, 5, none⟩ = some (.int .i64 a0_5) := (blk_cell BK489.out 5).trans rfl
                                have hcz125_6 : w90.cell? ⟨gb489, 6, none⟩ = some (.int .i64 a0_6) := (blk_cell BK489.out 6).trans rfl
                                have hfz125_0 := blk_frozen BK489.out 0
                                have hfz125_1 := blk_frozen BK489.out 1
                                have hfz125_2 := blk_frozen BK489.out 2
                                have hfz125_3 := blk_frozen BK489.out 3
                                have hfz125_4 := blk_frozen BK489.out 4
                                have hfz125_5 := blk_frozen BK489.out 5
                                have hfz125_6 := blk_frozen BK489.out 6
                                have hcz126_0 : w90.cell? ⟨gb498, 0, none⟩ = some (.string a0_0) := (blk_cell BK498.out 0).trans rfl
                                have hcz126_1 : w90.cell? ⟨gb498, 1, none⟩ = some (.int .u8 a0_1) := (blk_cell BK498.out 1).trans rfl
                                have hcz126_2 : w90.cell? ⟨gb498, 2, none⟩ = some (.int .i64 x499002_32) := (blk_cell BK498.out 2).trans rfl
                                have hcz126_3 : w90.cell? ⟨gb498, 3, none⟩ = some (.int .i64 x499003_32) := (blk_cell BK498.out 3).trans rfl
                                have hcz126_4 : w90.cell? ⟨gb498, 4, none⟩ = some (.int .i64 x499004_32) := (blk_cell BK498.out 4).trans rfl
                                have hcz126_5 : w90.cell? ⟨gb498, 5, none⟩ = some (.int .i64 x499005_58) := (blk_cell BK498.out 5).trans rfl
                                have hcz126_6 : w90.cell? ⟨gb498, 6, none⟩ = some (.int .i64 x499006_58) := (blk_cell BK498.out 6).trans rfl
                                have hfz126_0 := blk_frozen BK498.out 0
                                have hfz126_1 := blk_frozen BK498.out 1
                                have hfz126_2 := blk_frozen BK498.out 2
                                have hfz126_3 := blk_frozen BK498.out 3
                                have hfz126_4 := blk_frozen BK498.out 4
                                have hfz126_5 := blk_frozen BK498.out 5
                                have hfz126_6 := blk_frozen BK498.out 6
                                go_wp2
                                go_meet
                                case rel => exact ⟨_, (true), (by first | rfl | (simp; done) | (simp [*]; done)), H', ⟨by have := HJ6.out; have := HJ32.out; have := HJ58.out; first | omega | exact Nat.le_refl _⟩, ⟨by (with_reducible repeat (first | refine blk_drewN ?_ _ | refine blk_drew ?_ | refine blk_alloc ?_ _)); refine blk_far ?_ NB489_504.out _; (with_reducible repeat (first | refine blk_drewN ?_ _ | refine blk_drew ?_ | refine blk_alloc ?_ _)); refine blk_far ?_ NB489_504.out _; (with_reducible repeat (first | refine blk_drewN ?_ _ | refine blk_drew ?_ | refine blk_alloc ?_ _)); refine blk_far ?_ NB489_504.out _; (with_reducible repeat (first | refine blk_drewN ?_ _ | refine blk_drew ?_ | refine blk_alloc ?_ _)); refine blk_far ?_ NB489_504.out _; (with_reducible repeat (first | refine blk_drewN ?_ _ | refine blk_drew ?_ | refine blk_alloc ?_ _)); exact BK489.out⟩, ⟨by (with_reducible repeat (first | refine blk_drewN ?_ _ | refine blk_drew ?_ | refine blk_alloc ?_ _)); refine blk_far ?_ NB496_504.out _; (with_reducible repeat (first | refine blk_drewN ?_ _ | refine blk_drew ?_ | refine blk_alloc ?_ _)); refine blk_far ?_ NB496_504.out _; (with_reducible repeat (first | refine blk_drewN ?_ _ | refine blk_drew ?_ | refine blk_alloc ?_ _)); refine blk_far ?_ NB496_504.out _; (with_reducible repeat (first | refine blk_drewN ?_ _ | refine blk_drew ?_ | refine blk_alloc ?_ _)); refine blk_far ?_ NB496_504.out _; (with_reducible repeat (first | refine blk_drewN ?_ _ | refine blk_drew ?_ | refine blk_alloc ?_ _)); exact BK496.out⟩, ⟨by (with_reducible repeat (first | refine blk_drewN ?_ _ | refine blk_drew ?_ | refine blk_alloc ?_ _)); refine blk_far ?_ NB498_504.out _; (with_reducible repeat (first | refine blk_drewN ?_ _ | refine blk_drew ?_ | refine blk_alloc ?_ _)); refine blk_far ?_ NB498_504.out _; (with_reducible repeat (first | refine blk_drewN ?_ _ | refine blk_drew ?_ | refine blk_alloc ?_ _)); refine blk_far ?_ NB498_504.out _; (with_reducible repeat (first | refine blk_drewN ?_ _ | refine blk_drew ?_ | refine blk_alloc ?_ _)); refine blk_far ?_ NB498_504.out _; (with_reducible repeat (first | refine blk_drewN ?_ _ | refine blk_drew ?_ | refine blk_alloc ?_ _)); exact BK498.out⟩, ⟨by (with_reducible repeat (first | refine blk_drewN ?_ _ | refine blk_drew ?_ | refine blk_alloc ?_ _)); refine blk_put (cs := #[.int .u8 t499, .int .i64 t500, .int .i64 t501, .int .i64 0]) ?_ 3 _ rfl; (with_reducible repeat (first | refine blk_drewN ?_ _ | refine blk_drew ?_ | refine blk_alloc ?_ _)); refine blk_put (cs := #[.int .u8 t499, .int .i64 t500, .int .i64 0, .int .i64 0]) ?_ 2 _ rfl; (with_reducible repeat (first | refine blk_drewN ?_ _ | refine blk_drew ?_ | refine blk_alloc ?_ _)); refine blk_put (cs := #[.int .u8 t499, .int .i64 0, .int .i64 0, .int .i64 0]) ?_ 1 _ rfl; (with_reducible repeat (first | refine blk_drewN ?_ _ | refine blk_drew ?_ | refine blk_alloc ?_ _)); refine blk_put (cs := #[.int .u8 0, .int .i64 0, .int .i64 0, .int .i64 0]) ?_ 0 _ rfl; (with_reducible repeat (first | refine blk_drewN ?_ _ | refine blk_drew ?_ | refine blk_alloc ?_ _)); exact BK504.out⟩, ⟨by repeat (first | (with_reducible first | exact HB.out | apply below_alloc | apply pw_below_drewN | apply below_drew1 | refine below_set ?_ GE489.out | refine below_set ?_ GE496.out | refine below_set ?_ GE498.out | refine below_set ?_ GE504.out) | exact HB.out)⟩⟩
                            · rw [if_neg c105] at H
                              have c105b0 : (t491 == a0_1) = false := beq_eq_false_iff_ne.mpr c105
                              have c105b1 : (t491 != a0_1) = true := bne_iff_ne.mpr c105
                              have H' := Aside0.mk H
                              clear H
                              have hnb127 := NB496_489.out
                              have hnc127 := NB489_496.out
                              have hnb128 := NB496_498.out
                              have hnc128 := NB498_496.out
                              have hnb129 := NB496_504.out
                              have hnc129 := NB504_496.out
                              have hcz130_0 : w90.cell? ⟨gb496, 0, none⟩ = some (.int .u8 t491) := (blk_cell BK496.out 0).trans rfl
                              have hcz130_1 : w90.cell? ⟨gb496, 1, none⟩ = some (.int .i64 t492) := (blk_cell BK496.out 1).trans rfl
                              have hcz130_2 : w90.cell? ⟨gb496, 2, none⟩ = some (.int .i64 t493) := (blk_cell BK496.out 2).trans rfl
                              have hcz130_3 : w90.cell? ⟨gb496, 3, none⟩ = some (.int .i64 t494) := (blk_cell BK496.out 3).trans rfl
                              have hfz130_0 := blk_frozen BK496.out 0
                              have hfz130_1 := blk_frozen BK496.out 1
                              have hfz130_2 := blk_frozen BK496.out 2
                              have hfz130_3 := blk_frozen BK496.out 3
                              have hnb131 := NB504_489.out
                              have hnc131 := NB489_504.out
                              have hnb132 := NB504_498.out
                              have hnc132 := NB498_504.out
                              have hcz133_0 : w90.cell? ⟨gb504, 0, none⟩ = some (.int .u8 0) := (blk_cell BK504.out 0).trans rfl
                              have hcz133_1 : w90.cell? ⟨gb504, 1, none⟩ = some (.int .i64 0) := (blk_cell BK504.out 1).trans rfl
                              have hcz133_2 : w90.cell? ⟨gb504, 2, none⟩ = some (.int .i64 0) := (blk_cell BK504.out 2).trans rfl
                              have hcz133_3 : w90.cell? ⟨gb504, 3, none⟩ = some (.int .i64 0) := (blk_cell BK504.out 3).trans rfl
                              have hfz133_0 := blk_frozen BK504.out 0
                              have hfz133_1 := blk_frozen BK504.out 1
                              have hfz133_2 := blk_frozen BK504.out 2
                              have hfz133_3 := blk_frozen BK504.out 3
                              have hnb134 := NB489_498.out
                              have hnc134 := NB498_489.out
                              have hcz135_0 : w90.cell? ⟨gb489, 0, none⟩ = some (.string a0_0) := (blk_cell BK489.out 0).trans rfl
                              have hcz135_1 : w90.cell? ⟨gb489, 1, none⟩ = some (.int .u8 a0_1) := (blk_cell BK489.out 1).trans rfl
                              have hcz135_2 : w90.cell? ⟨gb489, 2, none⟩ = some (.int .i64 a0_2) := (blk_cell BK489.out 2).trans rfl
                              have hcz135_3 : w90.cell? ⟨gb489, 3, none⟩ = some (.int .i64 a0_3) := (blk_cell BK489.out 3).trans rfl
                              have hcz135_4 : w90.cell? ⟨gb489, 4, none⟩ = some (.int .i64 a0_4) := (blk_cell BK489.out 4).trans rfl
                              have hcz135_5 : w90.cell? ⟨gb489, 5, none⟩ = some (.int .i64 a0_5) := (blk_cell BK489.out 5).trans rfl
                              have hcz135_6 : w90.cell? ⟨gb489, 6, none⟩ = some (.int .i64 a0_6) := (blk_cell BK489.out 6).trans rfl
                              have hfz135_0 := blk_frozen BK489.out 0
                              have hfz135_1 := blk_frozen BK489.out 1
                              have hfz135_2 := blk_frozen BK489.out 2
                              have hfz135_3 := blk_frozen BK489.out 3
                              have hfz135_4 := blk_frozen BK489.out 4
                              have hfz135_5 := blk_frozen BK489.out 5
                              have hfz135_6 := blk_frozen BK489.out 6
                              go_wp2
                              go_meet
                              case rel => exact ⟨_, (true), (by first | rfl | (simp; done) | (simp [*]; done)), H', ⟨by have := HJ6.out; have := HJ32.out; have := HJ58.out; first | omega | exact Nat.le_refl _⟩, ⟨by (with_reducible repeat (first | refine blk_drewN ?_ _ | refine blk_drew ?_ | refine blk_alloc ?_ _)); refine blk_far ?_ NB489_504.out _; (with_reducible repeat (first | refine blk_drewN ?_ _ | refine blk_drew ?_ | refine blk_alloc ?_ _)); refine blk_far ?_ NB489_504.out _; (with_reducible repeat (first | refine blk_drewN ?_ _ | refine blk_drew ?_ | refine blk_alloc ?_ _)); refine blk_far ?_ NB489_504.out _; (with_reducible repeat (first | refine blk_drewN ?_ _ | refine blk_drew ?_ | refine blk_alloc ?_ _)); refine blk_far ?_ NB489_504.out _; (with_reducible repeat (first | refine blk_drewN ?_ _ | refine blk_drew ?_ | refine blk_alloc ?_ _)); exact BK489.out⟩, ⟨by (with_reducible repeat (first | refine blk_drewN ?_ _ | refine blk_drew ?_ | refine blk_alloc ?_ _)); refine blk_far ?_ NB496_504.out _; (with_reducible repeat (first | refine blk_drewN ?_ _ | refine blk_drew ?_ | refine blk_alloc ?_ _)); refine blk_far ?_ NB496_504.out _; (with_reducible repeat (first | refine blk_drewN ?_ _ | refine blk_drew ?_ | refine blk_alloc ?_ _)); refine blk_far ?_ NB496_504.out _; (with_reducible repeat (first | refine blk_drewN ?_ _ | refine blk_drew ?_ | refine blk_alloc ?_ _)); refine blk_far ?_ NB496_504.out _; (with_reducible repeat (first | refine blk_drewN ?_ _ | refine blk_drew ?_ | refine blk_alloc ?_ _)); exact BK496.out⟩, ⟨by (with_reducible repeat (first | refine blk_drewN ?_ _ | refine blk_drew ?_ | refine blk_alloc ?_ _)); refine blk_far ?_ NB498_504.out _; (with_reducible repeat (first | refine blk_drewN ?_ _ | refine blk_drew ?_ | refine blk_alloc ?_ _)); refine blk_far ?_ NB498_504.out _; (with_reducible repeat (first | refine blk_drewN ?_ _ | refine blk_drew ?_ | refine blk_alloc ?_ _)); refine blk_far ?_ NB498_504.out _; (with_reducible repeat (first | refine blk_drewN ?_ _ | refine blk_drew ?_ | refine blk_alloc ?_ _)); refine blk_far ?_ NB498_504.out _; (with_reducible repeat (first | refine blk_drewN ?_ _ | refine blk_drew ?_ | refine blk_alloc ?_ _)); exact BK498.out⟩, ⟨by (with_reducible repeat (first | refine blk_drewN ?_ _ | refine blk_drew ?_ | refine blk_alloc ?_ _)); refine blk_put (cs := #[.int .u8 t499, .int .i64 t500, .int .i64 t501, .int .i64 0]) ?_ 3 _ rfl; (with_reducible repeat (first | refine blk_drewN ?_ _ | refine blk_drew ?_ | refine blk_alloc ?_ _)); refine blk_put (cs := #[.int .u8 t499, .int .i64 t500, .int .i64 0, .int .i64 0]) ?_ 2 _ rfl; (with_reducible repeat (first | refine blk_drewN ?_ _ | refine blk_drew ?_ | refine blk_alloc ?_ _)); refine blk_put (cs := #[.int .u8 t499, .int .i64 0, .int .i64 0, .int .i64 0]) ?_ 1 _ rfl; (with_reducible repeat (first | refine blk_drewN ?_ _ | refine blk_drew ?_ | refine blk_alloc ?_ _)); refine blk_put (cs := #[.int .u8 0, .int .i64 0, .int .i64 0, .int .i64 0]) ?_ 0 _ rfl; (with_reducible repeat (first | refine blk_drewN ?_ _ | refine blk_drew ?_ | refine blk_alloc ?_ _)); exact BK504.out⟩, ⟨by repeat (first | (with_reducible first | exact HB.out | apply below_alloc | apply pw_below_drewN | apply below_drew1 | refine below_set ?_ GE489.out | refine below_set ?_ GE496.out | refine below_set ?_ GE498.out | refine below_set ?_ GE504.out) | exact HB.out)⟩⟩
                        · rw [if_neg c96] at H
                          have c96b0 : (t503 == 0) = false := beq_eq_false_iff_ne.mpr c96
                          have c96b1 : (t503 != 0) = true := bne_iff_ne.mpr c96
                          have H' := Aside0.mk H
                          clear H
                          go_wp2
                          go_meet
                          case rel => exact ⟨_, (true), (by first | rfl | (simp; done) | (simp [*]; done)), H', ⟨by have := HJ6.out; have := HJ32.out; have := HJ58.out; first | omega | exact Nat.le_refl _⟩, ⟨by (with_reducible repeat (first | refine blk_drewN ?_ _ | refine blk_drew ?_ | refine blk_alloc ?_ _)); refine blk_far ?_ NB489_504.out _; (with_reducible repeat (first | refine blk_drewN ?_ _ | refine blk_drew ?_ | refine blk_alloc ?_ _)); refine blk_far ?_ NB489_504.out _; (with_reducible repeat (first | refine blk_drewN ?_ _ | refine blk_drew ?_ | refine blk_alloc ?_ _)); refine blk_far ?_ NB489_504.out _; (with_reducible repeat (first | refine blk_drewN ?_ _ | refine blk_drew ?_ | refine blk_alloc ?_ _)); refine blk_far ?_ NB489_504.out _; (with_reducible repeat (first | refine blk_drewN ?_ _ | refine blk_drew ?_ | refine blk_alloc ?_ _)); exact BK489.out⟩, ⟨by (with_reducible repeat (first | refine blk_drewN ?_ _ | refine blk_drew ?_ | refine blk_alloc ?_ _)); refine blk_far ?_ NB496_504.out _; (with_reducible repeat (first | refine blk_drewN ?_ _ | refine blk_drew ?_ | refine blk_alloc ?_ _)); refine blk_far ?_ NB496_504.out _; (with_reducible repeat (first | refine blk_drewN ?_ _ | refine blk_drew ?_ | refine blk_alloc ?_ _)); refine blk_far ?_ NB496_504.out _; (with_reducible repeat (first | refine blk_drewN ?_ _ | refine blk_drew ?_ | refine blk_alloc ?_ _)); refine blk_far ?_ NB496_504.out _; (with_reducible repeat (first | refine blk_drewN ?_ _ | refine blk_drew ?_ | refine blk_alloc ?_ _)); exact BK496.out⟩, ⟨by (with_reducible repeat (first | refine blk_drewN ?_ _ | refine blk_drew ?_ | refine blk_alloc ?_ _)); refine blk_far ?_ NB498_504.out _; (with_reducible repeat (first | refine blk_drewN ?_ _ | refine blk_drew ?_ | refine blk_alloc ?_ _)); refine blk_far ?_ NB498_504.out _; (with_reducible repeat (first | refine blk_drewN ?_ _ | refine blk_drew ?_ | refine blk_alloc ?_ _)); refine blk_far ?_ NB498_504.out _; (with_reducible repeat (first | refine blk_drewN ?_ _ | refine blk_drew ?_ | refine blk_alloc ?_ _)); refine blk_far ?_ NB498_504.out _; (with_reducible repeat (first | refine blk_drewN ?_ _ | refine blk_drew ?_ | refine blk_alloc ?_ _)); exact BK498.out⟩, ⟨by (with_reducible repeat (first | refine blk_drewN ?_ _ | refine blk_drew ?_ | refine blk_alloc ?_ _)); refine blk_put (cs := #[.int .u8 t499, .int .i64 t500, .int .i64 t501, .int .i64 0]) ?_ 3 _ rfl; (with_reducible repeat (first | refine blk_drewN ?_ _ | refine blk_drew ?_ | refine blk_alloc ?_ _)); refine blk_put (cs := #[.int .u8 t499, .int .i64 t500, .int .i64 0, .int .i64 0]) ?_ 2 _ rfl; (with_reducible repeat (first | refine blk_drewN ?_ _ | refine blk_drew ?_ | refine blk_alloc ?_ _)); refine blk_put (cs := #[.int .u8 t499, .int .i64 0, .int .i64 0, .int .i64 0]) ?_ 1 _ rfl; (with_reducible repeat (first | refine blk_drewN ?_ _ | refine blk_drew ?_ | refine blk_alloc ?_ _)); refine blk_put (cs := #[.int .u8 0, .int .i64 0, .int .i64 0, .int .i64 0]) ?_ 0 _ rfl; (with_reducible repeat (first | refine blk_drewN ?_ _ | refine blk_drew ?_ | refine blk_alloc ?_ _)); exact BK504.out⟩, ⟨by repeat (first | (with_reducible first | exact HB.out | apply below_alloc | apply pw_below_drewN | apply below_drew1 | refine below_set ?_ GE489.out | refine below_set ?_ GE496.out | refine below_set ?_ GE498.out | refine below_set ?_ GE504.out) | exact HB.out)⟩⟩
                      · rw [if_neg c95] at H
                        have c95b0 : (t495 == 0) = false := beq_eq_false_iff_ne.mpr c95
                        have c95b1 : (t495 != 0) = true := bne_iff_ne.mpr c95
                        (first | rw [c95b0] | (simp only [i64_w, i32_w]; rw [c95b0]) | skip)
                        have H' := Aside0.mk H
                        clear H
                        go_wp2
                        go_meet
                        case rel => exact ⟨_, (true), (by first | rfl | (simp; done) | (simp [*]; done)), H', ⟨by have := HJ6.out; have := HJ32.out; have := HJ58.out; first | omega | exact Nat.le_refl _⟩, ⟨by (with_reducible repeat (first | refine blk_drewN ?_ _ | refine blk_drew ?_ | refine blk_alloc ?_ _)); refine blk_far ?_ NB489_504.out _; (with_reducible repeat (first | refine blk_drewN ?_ _ | refine blk_drew ?_ | refine blk_alloc ?_ _)); refine blk_far ?_ NB489_504.out _; (with_reducible repeat (first | refine blk_drewN ?_ _ | refine blk_drew ?_ | refine blk_alloc ?_ _)); refine blk_far ?_ NB489_504.out _; (with_reducible repeat (first | refine blk_drewN ?_ _ | refine blk_drew ?_ | refine blk_alloc ?_ _)); refine blk_far ?_ NB489_504.out _; (with_reducible repeat (first | refine blk_drewN ?_ _ | refine blk_drew ?_ | refine blk_alloc ?_ _)); exact BK489.out⟩, ⟨by (with_reducible repeat (first | refine blk_drewN ?_ _ | refine blk_drew ?_ | refine blk_alloc ?_ _)); refine blk_far ?_ NB496_504.out _; (with_reducible repeat (first | refine blk_drewN ?_ _ | refine blk_drew ?_ | refine blk_alloc ?_ _)); refine blk_far ?_ NB496_504.out _; (with_reducible repeat (first | refine blk_drewN ?_ _ | refine blk_drew ?_ | refine blk_alloc ?_ _)); refine blk_far ?_ NB496_504.out _; (with_reducible repeat (first | refine blk_drewN ?_ _ | refine blk_drew ?_ | refine blk_alloc ?_ _)); refine blk_far ?_ NB496_504.out _; (with_reducible repeat (first | refine blk_drewN ?_ _ | refine blk_drew ?_ | refine blk_alloc ?_ _)); exact BK496.out⟩, ⟨by (with_reducible repeat (first | refine blk_drewN ?_ _ | refine blk_drew ?_ | refine blk_alloc ?_ _)); refine blk_far ?_ NB498_504.out _; (with_reducible repeat (first | refine blk_drewN ?_ _ | refine blk_drew ?_ | refine blk_alloc ?_ _)); refine blk_far ?_ NB498_504.out _; (with_reducible repeat (first | refine blk_drewN ?_ _ | refine blk_drew ?_ | refine blk_alloc ?_ _)); refine blk_far ?_ NB498_504.out _; (with_reducible repeat (first | refine blk_drewN ?_ _ | refine blk_drew ?_ | refine blk_alloc ?_ _)); refine blk_far ?_ NB498_504.out _; (with_reducible repeat (first | refine blk_drewN ?_ _ | refine blk_drew ?_ | refine blk_alloc ?_ _)); exact BK498.out⟩, ⟨by (with_reducible repeat (first | refine blk_drewN ?_ _ | refine blk_drew ?_ | refine blk_alloc ?_ _)); refine blk_put (cs := #[.int .u8 t499, .int .i64 t500, .int .i64 t501, .int .i64 0]) ?_ 3 _ rfl; (with_reducible repeat (first | refine blk_drewN ?_ _ | refine blk_drew ?_ | refine blk_alloc ?_ _)); refine blk_put (cs := #[.int .u8 t499, .int .i64 t500, .int .i64 0, .int .i64 0]) ?_ 2 _ rfl; (with_reducible repeat (first | refine blk_drewN ?_ _ | refine blk_drew ?_ | refine blk_alloc ?_ _)); refine blk_put (cs := #[.int .u8 t499, .int .i64 0, .int .i64 0, .int .i64 0]) ?_ 1 _ rfl; (with_reducible repeat (first | refine blk_drewN ?_ _ | refine blk_drew ?_ | refine blk_alloc ?_ _)); refine blk_put (cs := #[.int .u8 0, .int .i64 0, .int .i64 0, .int .i64 0]) ?_ 0 _ rfl; (with_reducible repeat (first | refine blk_drewN ?_ _ | refine blk_drew ?_ | refine blk_alloc ?_ _)); exact BK504.out⟩, ⟨by repeat (first | (with_reducible first | exact HB.out | apply below_alloc | apply pw_below_drewN | apply below_drew1 | refine below_set ?_ GE489.out | refine below_set ?_ GE496.out | refine below_set ?_ GE498.out | refine below_set ?_ GE504.out) | exact HB.out)⟩⟩
                    case rest =>
                      clear HC85
                      try clear c1
                      try clear p2
                      try clear p6
                      try clear c7
                      try clear c8
                      try clear c9
                      try clear c10
                      try clear c11
                      try clear c12
                      try clear c13
                      try clear c16
                      try clear c77
                      try clear c79
                      try clear c80
                      try clear c80b0
                      try clear c80b1
                      try clear c81
                      try clear c82
                      try clear c86
                      try clear c87
                      try clear c91
                      try clear c92
                      try clear c93
                      try clear c95
                      try clear c95b0
                      try clear c95b1
                      try clear c96
                      try clear c96b0
                      try clear c96b1
                      try clear c97
                      try clear c97b0
                      try clear c98
                      try clear c99
                      try clear c100
                      try clear c102
                      try clear c103
                      try clear c105
                      try clear c105b0
                      try clear c105b1
                      try clear c106
                      try clear c106b0
                      try clear c106b1
                      try clear c107
                      try clear c108
                      try clear c109
                      try clear c111
                      try clear c112
                      try clear c114
                      try clear c117
                      try clear c118
                      try clear c119
                      try clear c121
                      try clear c122
                      try clear c124
                      try clear c127
                      try clear c128
                      try clear c129
                      try clear c131
                      try clear c132
                      try clear c134
                      try clear hcz101_0
                      try clear hcz101_1
                      try clear hcz101_2
                      try clear hcz101_3
                      try clear hcz104_0
                      try clear hcz104_1
                      try clear hcz104_2
                      try clear hcz104_3
                      try clear hcz10_0
                      try clear hcz10_1
                      try clear hcz10_2
                      try clear hcz10_3
                      try clear hcz10_4
                      try clear hcz10_5
                      try clear hcz10_6
                      try clear hcz110_0
                      try clear hcz110_1
                      try clear hcz110_2
                      try clear hcz110_3
                      try clear hcz113_0
                      try clear hcz113_1
                      try clear hcz113_2
                      try clear hcz113_3
                      try clear hcz115_0
                      try clear hcz115_1
                      try clear hcz115_2
                      try clear hcz115_3
                      try clear hcz115_4
                      try clear hcz115_5
                      try clear hcz115_6
                      try clear hcz116_0
                      try clear hcz116_1
                      try clear hcz116_2
                      try clear hcz116_3
                      try clear hcz116_4
                      try clear hcz116_5
                      try clear hcz116_6
                      try clear hcz120_0
                      try clear hcz120_1
                      try clear hcz120_2
                      try clear hcz120_3
                      try clear hcz123_0
                      try clear hcz123_1
                      try clear hcz123_2
                      try clear hcz123_3
                      try clear hcz125_0
                      try clear hcz125_1
                      try clear hcz125_2
                      try clear hcz125_3
                      try clear hcz125_4
                      try clear hcz125_5
                      try clear hcz125_6
                      try clear hcz126_0
                      try clear hcz126_1
                      try clear hcz126_2
                      try clear hcz126_3
                      try clear hcz126_4
                      try clear hcz126_5
                      try clear hcz126_6
                      try clear hcz130_0
                      try clear hcz130_1
                      try clear hcz130_2
                      try clear hcz130_3
                      try clear hcz133_0
                      try clear hcz133_1
                      try clear hcz133_2
                      try clear hcz133_3
                      try clear hcz135_0
                      try clear hcz135_1
                      try clear hcz135_2
                      try clear hcz135_3
                      try clear hcz135_4
                      try clear hcz135_5
                      try clear hcz135_6
                      try clear hcz14_0
                      try clear hcz14_1
                      try clear hcz14_2
                      try clear hcz14_3
                      try clear hcz19_0
                      try clear hcz19_1
                      try clear hcz19_2
                      try clear hcz19_3
                      try clear hcz19_4
                      try clear hcz19_5
                      try clear hcz19_6
                      try clear hcz21_0
                      try clear hcz21_1
                      try clear hcz21_2
                      try clear hcz21_3
                      try clear hcz21_4
                      try clear hcz21_5
                      try clear hcz21_6
                      try clear hcz23_0
                      try clear hcz23_1
                      try clear hcz23_2
                      try clear hcz23_3
                      try clear hcz23_4
                      try clear hcz23_5
                      try clear hcz23_6
                      try clear hcz25_0
                      try clear hcz25_1
                      try clear hcz25_2
                      try clear hcz25_3
                      try clear hcz25_4
                      try clear hcz25_5
                      try clear hcz25_6
                      try clear hcz27_0
                      try clear hcz27_1
                      try clear hcz27_2
                      try clear hcz27_3
                      try clear hcz27_4
                      try clear hcz27_5
                      try clear hcz27_6
                      try clear hcz32_0
                      try clear hcz32_1
                      try clear hcz32_2
                      try clear hcz32_3
                      try clear hcz35_0
                      try clear hcz35_1
                      try clear hcz35_2
                      try clear hcz35_3
                      try clear hcz35_4
                      try clear hcz35_5
                      try clear hcz35_6
                      try clear hcz39_0
                      try clear hcz39_1
                      try clear hcz39_2
                      try clear hcz39_3
                      try clear hcz39_4
                      try clear hcz39_5
                      try clear hcz39_6
                      try clear hcz40_0
                      try clear hcz40_1
                      try clear hcz40_2
                      try clear hcz40_3
                      try clear hcz40_4
                      try clear hcz40_5
                      try clear hcz40_6
                      try clear hcz48_0
                      try clear hcz48_1
                      try clear hcz48_2
                      try clear hcz48_3
                      try clear hcz48_4
                      try clear hcz48_5
                      try clear hcz48_6
                      try clear hcz51_0
                      try clear hcz51_1
                      try clear hcz51_2
                      try clear hcz51_3
                      try clear hcz51_4
                      try clear hcz51_5
                      try clear hcz51_6
                      try clear hcz55_0
                      try clear hcz55_1
                      try clear hcz55_2
                      try clear hcz55_3
                      try clear hcz55_4
                      try clear hcz55_5
                      try clear hcz55_6
                      try clear hcz58_0
                      try clear hcz58_1
                      try clear hcz58_2
                      try clear hcz58_3
                      try clear hcz58_4
                      try clear hcz58_5
                      try clear hcz58_6
                      try clear hcz62_0
                      try clear hcz62_1
                      try clear hcz62_2
                      try clear hcz62_3
                      try clear hcz62_4
                      try clear hcz62_5
                      try clear hcz62_6
                      try clear hcz68_0
                      try clear hcz68_1
                      try clear hcz68_2
                      try clear hcz68_3
                      try clear hcz68_4
                      try clear hcz68_5
                      try clear hcz68_6
                      try clear hcz71_0
                      try clear hcz71_1
                      try clear hcz71_2
                      try clear hcz71_3
                      try clear hcz71_4
                      try clear hcz71_5
                      try clear hcz71_6
                      try clear hcz75_0
                      try clear hcz75_1
                      try clear hcz75_2
                      try clear hcz75_3
                      try clear hcz75_4
                      try clear hcz75_5
                      try clear hcz75_6
                      try clear hcz78_0
                      try clear hcz78_1
                      try clear hcz78_2
                      try clear hcz78_3
                      try clear hcz78_4
                      try clear hcz78_5
                      try clear hcz78_6
                      try clear hcz83_0
                      try clear hcz83_1
                      try clear hcz83_2
                      try clear hcz83_3
                      try clear hcz88_0
                      try clear hcz88_1
                      try clear hcz88_2
                      try clear hcz88_3
                      try clear hcz88_4
                      try clear hcz88_5
                      try clear hcz88_6
                      try clear hcz94_0
                      try clear hcz94_1
                      try clear hcz94_2
                      try clear hcz94_3
                      try clear hfz101_0
                      try clear hfz101_1
                      try clear hfz101_2
                      try clear hfz101_3
                      try clear hfz104_0
                      try clear hfz104_1
                      try clear hfz104_2
                      try clear hfz104_3
                      try clear hfz10_0
                      try clear hfz10_1
                      try clear hfz10_2
                      try clear hfz10_3
                      try clear hfz10_4
                      try clear hfz10_5
                      try clear hfz10_6
                      try clear hfz110_0
                      try clear hfz110_1
                      try clear hfz110_2
                      try clear hfz110_3
                      try clear hfz113_0
                      try clear hfz113_1
                      try clear hfz113_2
                      try clear hfz113_3
                      try clear hfz115_0
                      try clear hfz115_1
                      try clear hfz115_2
                      try clear hfz115_3
                      try clear hfz115_4
                      try clear hfz115_5
                      try clear hfz115_6
                      try clear hfz116_0
                      try clear hfz116_1
                      try clear hfz116_2
                      try clear hfz116_3
                      try clear hfz116_4
                      try clear hfz116_5
                      try clear hfz116_6
                      try clear hfz120_0
                      try clear hfz120_1
                      try clear hfz120_2
                      try clear hfz120_3
                      try clear hfz123_0
                      try clear hfz123_1
                      try clear hfz123_2
                      try clear hfz123_3
                      try clear hfz125_0
                      try clear hfz125_1
                      try clear hfz125_2
                      try clear hfz125_3
                      try clear hfz125_4
                      try clear hfz125_5
                      try clear hfz125_6
                      try clear hfz126_0
                      try clear hfz126_1
                      try clear hfz126_2
                      try clear hfz126_3
                      try clear hfz126_4
                      try clear hfz126_5
                      try clear hfz126_6
                      try clear hfz130_0
                      try clear hfz130_1
                      try clear hfz130_2
                      try clear hfz130_3
                      try clear hfz133_0
                      try clear hfz133_1
                      try clear hfz133_2
                      try clear hfz133_3
                      try clear hfz135_0
                      try clear hfz135_1
                      try clear hfz135_2
                      try clear hfz135_3
                      try clear hfz135_4
                      try clear hfz135_5
                      try clear hfz135_6
                      try clear hfz14_0
                      try clear hfz14_1
                      try clear hfz14_2
                      try clear hfz14_3
                      try clear hfz19_0
                      try clear hfz19_1
                      try clear hfz19_2
                      try clear hfz19_3
                      try clear hfz19_4
                      try clear hfz19_5
                      try clear hfz19_6
                      try clear hfz21_0
                      try clear hfz21_1
                      try clear hfz21_2
                      try clear hfz21_3
                      try clear hfz21_4
                      try clear hfz21_5
                      try clear hfz21_6
                      try clear hfz23_0
                      try clear hfz23_1
                      try clear hfz23_2
                      try clear hfz23_3
                      try clear hfz23_4
                      try clear hfz23_5
                      try clear hfz23_6
                      try clear hfz25_0
                      try clear hfz25_1
                      try clear hfz25_2
                      try clear hfz25_3
                      try clear hfz25_4
                      try clear hfz25_5
                      try clear hfz25_6
                      try clear hfz27_0
                      try clear hfz27_1
                      try clear hfz27_2
                      try clear hfz27_3
                      try clear hfz27_4
                      try clear hfz27_5
                      try clear hfz27_6
                      try clear hfz32_0
                      try clear hfz32_1
                      try clear hfz32_2
                      try clear hfz32_3
                      try clear hfz35_0
                      try clear hfz35_1
                      try clear hfz35_2
                      try clear hfz35_3
                      try clear hfz35_4
                      try clear hfz35_5
                      try clear hfz35_6
                      try clear hfz39_0
                      try clear hfz39_1
                      try clear hfz39_2
                      try clear hfz39_3
                      try clear hfz39_4
                      try clear hfz39_5
                      try clear hfz39_6
                      try clear hfz40_0
                      try clear hfz40_1
                      try clear hfz40_2
                      try clear hfz40_3
                      try clear hfz40_4
                      try clear hfz40_5
                      try clear hfz40_6
                      try clear hfz48_0
                      try clear hfz48_1
                      try clear hfz48_2
                      try clear hfz48_3
                      try clear hfz48_4
                      try clear hfz48_5
                      try clear hfz48_6
                      try clear hfz51_0
                      try clear hfz51_1
                      try clear hfz51_2
                      try clear hfz51_3
                      try clear hfz51_4
                      try clear hfz51_5
                      try clear hfz51_6
                      try clear hfz55_0
                      try clear hfz55_1
                      try clear hfz55_2
                      try clear hfz55_3
                      try clear hfz55_4
                      try clear hfz55_5
                      try clear hfz55_6
                      try clear hfz58_0
                      try clear hfz58_1
                      try clear hfz58_2
                      try clear hfz58_3
                      try clear hfz58_4
                      try clear hfz58_5
                      try clear hfz58_6
                      try clear hfz62_0
                      try clear hfz62_1
                      try clear hfz62_2
                      try clear hfz62_3
                      try clear hfz62_4
                      try clear hfz62_5
                      try clear hfz62_6
                      try clear hfz68_0
                      try clear hfz68_1
                      try clear hfz68_2
                      try clear hfz68_3
                      try clear hfz68_4
                      try clear hfz68_5
                      try clear hfz68_6
                      try clear hfz71_0
                      try clear hfz71_1
                      try clear hfz71_2
                      try clear hfz71_3
                      try clear hfz71_4
                      try clear hfz71_5
                      try clear hfz71_6
                      try clear hfz75_0
                      try clear hfz75_1
                      try clear hfz75_2
                      try clear hfz75_3
                      try clear hfz75_4
                      try clear hfz75_5
                      try clear hfz75_6
                      try clear hfz78_0
                      try clear hfz78_1
                      try clear hfz78_2
                      try clear hfz78_3
                      try clear hfz78_4
                      try clear hfz78_5
                      try clear hfz78_6
                      try clear hfz83_0
                      try clear hfz83_1
                      try clear hfz83_2
                      try clear hfz83_3
                      try clear hfz88_0
                      try clear hfz88_1
                      try clear hfz88_2
                      try clear hfz88_3
                      try clear hfz88_4
                      try clear hfz88_5
                      try clear hfz88_6
                      try clear hfz94_0
                      try clear hfz94_1
                      try clear hfz94_2
                      try clear hfz94_3
                      try clear p2
                      try clear p6
                      obtain ⟨kq, x128_84, rfl, HA, HJ84, BK489, BK496, BK498, BK504, HB⟩ := hcut
                      cases kq with
                      | zero => exact absurd HA.out (by simp [abacuslaw13_DirectiveStars.j4])
                      | succ kj84 =>
                        have H := HA.out
                        clear HA
                        simp only [abacuslaw13_DirectiveStars.j4] at H
                        by_cases c136 : x128_84 = true
                        · subst c136
                          have H1 : (some false) = some true := by rw [if_pos rfl] at H; exact H
                          clear H
                          have H := H1
                          clear H1
                          exact absurd H (by simp)
                        · replace c136 := Bool.eq_false_iff.mpr c136
                          subst c136
                          have H1 : (if x499005_58 = 0 then (some (t494 == (-1))) else (some (t494 == x499006_58))) = some true := by rw [if_neg (show ¬ (false = true) by decide)] at H; exact H
                          clear H
                          have H := H1
                          clear H1
                          by_cases c137 : x499005_58 = 0
                          · rw [if_pos c137] at H
                            have c137b0 : (x499005_58 == 0) = true := beq_iff_eq.mpr c137
                            have c137b1 : (x499005_58 != 0) = false := bne_eq_false_iff_eq.mpr c137
                            clear c137
                            have HX := Aside0.mk (Option.some.inj H)
                            clear H
                            have hnb138 := NB498_489.out
                            have hnc138 := NB489_498.out
                            have hnb139 := NB498_496.out
                            have hnc139 := NB496_498.out
                            have hnb140 := NB498_504.out
                            have hnc140 := NB504_498.out
                            have hcz141_0 : wc.cell? ⟨gb498, 0, none⟩ = some (.string a0_0) := (blk_cell BK498.out 0).trans rfl
                            have hcz141_1 : wc.cell? ⟨gb498, 1, none⟩ = some (.int .u8 a0_1) := (blk_cell BK498.out 1).trans rfl
                            have hcz141_2 : wc.cell? ⟨gb498, 2, none⟩ = some (.int .i64 x499002_32) := (blk_cell BK498.out 2).trans rfl
                            have hcz141_3 : wc.cell? ⟨gb498, 3, none⟩ = some (.int .i64 x499003_32) := (blk_cell BK498.out 3).trans rfl
                            have hcz141_4 : wc.cell? ⟨gb498, 4, none⟩ = some (.int .i64 x499004_32) := (blk_cell BK498.out 4).trans rfl
                            have hcz141_5 : wc.cell? ⟨gb498, 5, none⟩ = some (.int .i64 x499005_58) := (blk_cell BK498.out 5).trans rfl
                            have hcz141_6 : wc.cell? ⟨gb498, 6, none⟩ = some (.int .i64 x499006_58) := (blk_cell BK498.out 6).trans rfl
                            have hfz141_0 := blk_frozen BK498.out 0
                            have hfz141_1 := blk_frozen BK498.out 1
                            have hfz141_2 := blk_frozen BK498.out 2
                            have hfz141_3 := blk_frozen BK498.out 3
                            have hfz141_4 := blk_frozen BK498.out 4
                            have hfz141_5 := blk_frozen BK498.out 5
                            have hfz141_6 := blk_frozen BK498.out 6
                            have hnb142 := NB496_489.out
                            have hnc142 := NB489_496.out
                            have hnb143 := NB496_504.out
                            have hnc143 := NB504_496.out
                            have hcz144_0 : wc.cell? ⟨gb496, 0, none⟩ = some (.int .u8 t491) := (blk_cell BK496.out 0).trans rfl
                            have hcz144_1 : wc.cell? ⟨gb496, 1, none⟩ = some (.int .i64 t492) := (blk_cell BK496.out 1).trans rfl
                            have hcz144_2 : wc.cell? ⟨gb496, 2, none⟩ = some (.int .i64 t493) := (blk_cell BK496.out 2).trans rfl
                            have hcz144_3 : wc.cell? ⟨gb496, 3, none⟩ = some (.int .i64 t494) := (blk_cell BK496.out 3).trans rfl
                            have hfz144_0 := blk_frozen BK496.out 0
                            have hfz144_1 := blk_frozen BK496.out 1
                            have hfz144_2 := blk_frozen BK496.out 2
                            have hfz144_3 := blk_frozen BK496.out 3
                            go_wp2
                            go_ret
                            exact ⟨by first | exact congrArg (fun b_ => Ending.returned (Value.bool b_)) HX.out | (have hx_ := HX.out; simp at hx_ ⊢; done) | (have hx_ := HX.out; simp at hx_ ⊢; exact hx_) | (have hx_ := HX.out; simp_all) | (simp [*, errW_none, errW_some] <;> rfl), by repeat (first | (with_reducible first | exact HB.out | apply below_alloc | apply pw_below_drewN | apply below_drew1 | refine below_set ?_ GE489.out | refine below_set ?_ GE496.out | refine below_set ?_ GE498.out | refine below_set ?_ GE504.out) | exact HB.out)⟩
                          · rw [if_neg c137] at H
                            have c137b0 : (x499005_58 == 0) = false := beq_eq_false_iff_ne.mpr c137
                            have c137b1 : (x499005_58 != 0) = true := bne_iff_ne.mpr c137
                            have HX := Aside0.mk (Option.some.inj H)
                            clear H
                            have hnb145 := NB498_489.out
                            have hnc145 := NB489_498.out
                            have hnb146 := NB498_496.out
                            have hnc146 := NB496_498.out
                            have hnb147 := NB498_504.out
                            have hnc147 := NB504_498.out
                            have hcz148_0 : wc.cell? ⟨gb498, 0, none⟩ = some (.string a0_0) := (blk_cell BK498.out 0).trans rfl
                            have hcz148_1 : wc.cell? ⟨gb498, 1, none⟩ = some (.int .u8 a0_1) := (blk_cell BK498.out 1).trans rfl
                            have hcz148_2 : wc.cell? ⟨gb498, 2, none⟩ = some (.int .i64 x499002_32) := (blk_cell BK498.out 2).trans rfl
                            have hcz148_3 : wc.cell? ⟨gb498, 3, none⟩ = some (.int .i64 x499003_32) := (blk_cell BK498.out 3).trans rfl
                            have hcz148_4 : wc.cell? ⟨gb498, 4, none⟩ = some (.int .i64 x499004_32) := (blk_cell BK498.out 4).trans rfl
                            have hcz148_5 : wc.cell? ⟨gb498, 5, none⟩ = some (.int .i64 x499005_58) := (blk_cell BK498.out 5).trans rfl
                            have hcz148_6 : wc.cell? ⟨gb498, 6, none⟩ = some (.int .i64 x499006_58) := (blk_cell BK498.out 6).trans rfl
                            have hfz148_0 := blk_frozen BK498.out 0
                            have hfz148_1 := blk_frozen BK498.out 1
                            have hfz148_2 := blk_frozen BK498.out 2
                            have hfz148_3 := blk_frozen BK498.out 3
                            have hfz148_4 := blk_frozen BK498.out 4
                            have hfz148_5 := blk_frozen BK498.out 5
                            have hfz148_6 := blk_frozen BK498.out 6
                            have hnb149 := NB496_489.out
                            have hnc149 := NB489_496.out
                            have hnb150 := NB496_504.out
                            have hnc150 := NB504_496.out
                            have hcz151_0 : wc.cell? ⟨gb496, 0, none⟩ = some (.int .u8 t491) := (blk_cell BK496.out 0).trans rfl
                            have hcz151_1 : wc.cell? ⟨gb496, 1, none⟩ = some (.int .i64 t492) := (blk_cell BK496.out 1).trans rfl
                            have hcz151_2 : wc.cell? ⟨gb496, 2, none⟩ = some (.int .i64 t493) := (blk_cell BK496.out 2).trans rfl
                            have hcz151_3 : wc.cell? ⟨gb496, 3, none⟩ = some (.int .i64 t494) := (blk_cell BK496.out 3).trans rfl
                            have hfz151_0 := blk_frozen BK496.out 0
                            have hfz151_1 := blk_frozen BK496.out 1
                            have hfz151_2 := blk_frozen BK496.out 2
                            have hfz151_3 := blk_frozen BK496.out 3
                            go_wp2
                            go_ret
                            exact ⟨by first | exact congrArg (fun b_ => Ending.returned (Value.bool b_)) HX.out | (have hx_ := HX.out; simp at hx_ ⊢; done) | (have hx_ := HX.out; simp at hx_ ⊢; exact hx_) | (have hx_ := HX.out; simp_all) | (simp [*, errW_none, errW_some] <;> rfl), by repeat (first | (with_reducible first | exact HB.out | apply below_alloc | apply pw_below_drewN | apply below_drew1 | refine below_set ?_ GE489.out | refine below_set ?_ GE496.out | refine below_set ?_ GE498.out | refine below_set ?_ GE504.out) | exact HB.out)⟩
  · replace c5 := Bool.eq_false_iff.mpr c5
    subst c5
    have H1 : (some false) = some true := by rw [if_neg (show ¬ (false = true) by decide)] at H; exact H
    clear H
    have H := H1
    clear H1
    exact absurd H (by simp)
end Go.Proofs.YtlmijjekaelhcaaDoor.EDi
