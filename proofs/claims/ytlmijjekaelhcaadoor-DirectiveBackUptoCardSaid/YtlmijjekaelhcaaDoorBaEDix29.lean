/-
  A text of this session's own.
-/
import Derived.Test.YtlmijjekaelhcaaDoorBaEDix0
import Derived.Test.YtlmijjekaelhcaaDoorBaEDix4
namespace Go.Proofs.YtlmijjekaelhcaaDoor.EDi
open Go.RowKit Go.Proofs.YtlmijjekaelhcaaDoorW.PrintWords Go.Proofs.YtlmijjekaelhcaaDoorW.PrintLast Go.Proofs.YtlmijjekaelhcaaDoorW.PrintMore
attribute [local go_sem] max2_int min2_int max_two min_two max_three min_three max_four min_four   -- for this text's walks alone
set_option linter.unusedVariables false
set_option linter.unusedSimpArgs false
mutual
def directive_Settle.j0 : Nat → Int → ByteArray → Int → Int → Int → Int → Int → Int → Int → Int → Int → Int → Option (Int × Int × Int × Int × Int)
  | 0, _, _, _, _, _, _, _, _, _, _, _, _ => none
  | k + 1, x2, x486000, x486001, x486002, x486003, x486004, x486005, x486006, x489000, x489001, x489002, x489003 => if x486005 = 1 then (directive_Settle.j1 k x489000 x489001 x489002 x486006) else (if x486005 = 2 then (directive_Settle.j1 k x489000 x489001 x489002 (mx x2 (-1))) else (directive_Settle.j1 k x489000 x489001 x489002 x489003))
def directive_Settle.j1 : Nat → Int → Int → Int → Int → Option (Int × Int × Int × Int × Int)
  | 0, _, _, _, _ => none
  | k + 1, x489000, x489001, x489002, x489003 => if x489002 > 4096 then (directive_Settle.j2 k true x489000 x489001 x489002 x489003) else (if x489002 < (-4096) then (directive_Settle.j2 k true x489000 x489001 x489002 x489003) else (directive_Settle.j2 k (decide (x489003 > 4096)) x489000 x489001 x489002 x489003))
def directive_Settle.j2 : Nat → Bool → Int → Int → Int → Int → Option (Int × Int × Int × Int × Int)
  | 0, _, _, _, _, _ => none
  | k + 1, x49, x489000, x489001, x489002, x489003 => if x49 = true then (some (0, 0, 0, 0, 6)) else (if x489002 < 0 then (some (x489000, Go.bits .or .i64 x489001 1, wrap64 (-x489002), x489003, 0)) else (some (x489000, x489001, x489002, x489003, 0)))
end
def directive_Settle.f (k : Nat) (a0_0 : ByteArray) (a0_1 : Int) (a0_2 : Int) (a0_3 : Int) (a0_4 : Int) (a0_5 : Int) (a0_6 : Int) (a1 : Int) (a2 : Int) : Option (Int × Int × Int × Int × Int) := (directive_inForm.f a0_0 a0_1 a0_2 a0_3 a0_4 a0_5 a0_6).bind fun t487 => (if t487 = true then (if a0_3 = 2 then (directive_Settle.j0 k a2 a0_0 a0_1 a0_2 a0_3 a0_4 a0_5 a0_6 a0_1 a0_2 a1 (-1)) else (directive_Settle.j0 k a2 a0_0 a0_1 a0_2 a0_3 a0_4 a0_5 a0_6 a0_1 a0_2 a0_4 (-1))) else (some (0, 0, 0, 0, 132)))
theorem directive_Settle.mono_l : ∀ k, (∀ y0 y1 y2 y3 y4 y5 y6 y7 y8 y9 y10 y11, LeO (directive_Settle.j0 k y0 y1 y2 y3 y4 y5 y6 y7 y8 y9 y10 y11) (directive_Settle.j0 (k + 1) y0 y1 y2 y3 y4 y5 y6 y7 y8 y9 y10 y11)) ∧ (∀ y0 y1 y2 y3, LeO (directive_Settle.j1 k y0 y1 y2 y3) (directive_Settle.j1 (k + 1) y0 y1 y2 y3)) ∧ (∀ y0 y1 y2 y3 y4, LeO (directive_Settle.j2 k y0 y1 y2 y3 y4) (directive_Settle.j2 (k + 1) y0 y1 y2 y3 y4))
  | 0 => ⟨fun _ _ _ _ _ _ _ _ _ _ _ _ r h => by simp [directive_Settle.j0] at h, fun _ _ _ _ r h => by simp [directive_Settle.j1] at h, fun _ _ _ _ _ r h => by simp [directive_Settle.j2] at h⟩
  | k + 1 => by
    obtain ⟨ih0, ih1, ih2⟩ := directive_Settle.mono_l k
    refine ⟨?_, ?_, ?_⟩
    · intro y0 y1 y2 y3 y4 y5 y6 y7 y8 y9 y10 y11
      unfold directive_Settle.j0
      repeat' first
      | (with_reducible exact ih0 _ _ _ _ _ _ _ _ _ _ _ _)
      | (with_reducible exact ih1 _ _ _ _)
      | (with_reducible exact ih2 _ _ _ _ _)
      | (with_reducible exact LeO.refl _)
      | (with_reducible exact LeO.none _)
      | (with_reducible refine LeO.ite ?_ ?_)
      | (with_reducible refine LeO.bind ?_ (fun _ => ?_))
      | exact ih0 _ _ _ _ _ _ _ _ _ _ _ _
      | exact ih1 _ _ _ _
      | exact ih2 _ _ _ _ _
      | exact LeO.none _
      | refine LeO.ite ?_ ?_
      | refine LeO.bind ?_ (fun _ => ?_)
    · intro y0 y1 y2 y3
      unfold directive_Settle.j1
      repeat' first
      | (with_reducible exact ih0 _ _ _ _ _ _ _ _ _ _ _ _)
      | (with_reducible exact ih1 _ _ _ _)
      | (with_reducible exact ih2 _ _ _ _ _)
      | (with_reducible exact LeO.refl _)
      | (with_reducible exact LeO.none _)
      | (with_reducible refine LeO.ite ?_ ?_)
      | (with_reducible refine LeO.bind ?_ (fun _ => ?_))
      | exact ih0 _ _ _ _ _ _ _ _ _ _ _ _
      | exact ih1 _ _ _ _
      | exact ih2 _ _ _ _ _
      | exact LeO.none _
      | refine LeO.ite ?_ ?_
      | refine LeO.bind ?_ (fun _ => ?_)
    · intro y0 y1 y2 y3 y4
      unfold directive_Settle.j2
      repeat' first
      | (with_reducible exact ih0 _ _ _ _ _ _ _ _ _ _ _ _)
      | (with_reducible exact ih1 _ _ _ _)
      | (with_reducible exact ih2 _ _ _ _ _)
      | (with_reducible exact LeO.refl _)
      | (with_reducible exact LeO.none _)
      | (with_reducible refine LeO.ite ?_ ?_)
      | (with_reducible refine LeO.bind ?_ (fun _ => ?_))
      | exact ih0 _ _ _ _ _ _ _ _ _ _ _ _
      | exact ih1 _ _ _ _
      | exact ih2 _ _ _ _ _
      | exact LeO.none _
      | refine LeO.ite ?_ ?_
      | refine LeO.bind ?_ (fun _ => ?_)
theorem directive_Settle.mono : ∀ a0 a1 a2 a3 a4 a5 a6 a7 a8 k, LeO (directive_Settle.f k a0 a1 a2 a3 a4 a5 a6 a7 a8) (directive_Settle.f (k + 1) a0 a1 a2 a3 a4 a5 a6 a7 a8) := by
  intro a0 a1 a2 a3 a4 a5 a6 a7 a8 k
  obtain ⟨ih0, ih1, ih2⟩ := directive_Settle.mono_l k
  unfold directive_Settle.f
  repeat' first
      | (with_reducible exact ih0 _ _ _ _ _ _ _ _ _ _ _ _)
      | (with_reducible exact ih1 _ _ _ _)
      | (with_reducible exact ih2 _ _ _ _ _)
      | (with_reducible exact LeO.refl _)
      | (with_reducible exact LeO.none _)
      | (with_reducible refine LeO.ite ?_ ?_)
      | (with_reducible refine LeO.bind ?_ (fun _ => ?_))
      | exact ih0 _ _ _ _ _ _ _ _ _ _ _ _
      | exact ih1 _ _ _ _
      | exact ih2 _ _ _ _ _
      | exact LeO.none _
      | refine LeO.ite ?_ ?_
      | refine LeO.bind ?_ (fun _ => ?_)
end Go.Proofs.YtlmijjekaelhcaaDoor.EDi
