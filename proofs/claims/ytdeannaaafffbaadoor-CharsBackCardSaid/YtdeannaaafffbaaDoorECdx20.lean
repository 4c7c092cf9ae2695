-- Written by eprint.py (a program of this session's, over the kit's print), not by hand.
import Derived.Test.YtdeannaaafffbaaDoorECdx0
import Derived.Test.YtdeannaaafffbaaDoorECdx1
import Derived.Test.YtdeannaaafffbaaDoorECdx4
import Derived.Test.YtdeannaaafffbaaDoorECdx5
import Derived.Test.YtdeannaaafffbaaDoorECdx6
import Derived.Test.YtdeannaaafffbaaDoorECdx18
import Derived.Test.YtdeannaaafffbaaDoorECdx19
import Derived.Test.YtdeannaaafffbaaDoorX
namespace Go.Proofs.YtdeannaaafffbaaDoor.ECd
open Go.RowKit Go.Proofs.YtdeannaaafffbaaDoorW.PrintWords Go.Proofs.YtdeannaaafffbaaDoorW.PrintLast Go.Proofs.YtdeannaaafffbaaDoorW.PrintMore
attribute [local go_sem] max2_int min2_int max_two min_two max_three min_three max_four min_four   -- for this text's walks alone
set_option linter.unusedVariables false
set_option linter.unusedSimpArgs false

open Go.Proofs.YtdeannaaafffbaaDoor.X
/-! ### abacuslaw20_CharsBack: function 5 -/
mutual
def abacuslaw20_CharsBack.j3 : Nat → ByteArray → Option (Bool)
  | 0, _ => none
  | k + 1, x0 => (chars_Split.f k x0 (⟨#[32]⟩ : ByteArray)).bind fun t289 => (abacuslaw20_CharsBack.l1 k x0 t289 ([] : List Int) 0)
def abacuslaw20_CharsBack.l1 : Nat → ByteArray → List ByteArray → List Int → Int → Option (Bool)
  | 0, _, _, _, _ => none
  | k + 1, x0, x9, x10, x11 => if x11 < (x0.size : Int) then (if 0 ≤ x11 then ((abacuslaw20_blank.f (bt x0 x11)).bind fun t292 => (if t292 = true then (abacuslaw20_CharsBack.l1 k x0 x9 x10 (wrap64 (x11 + 1))) else (if x10.length < 140737488355328 then (abacuslaw20_CharsBack.l1 k x0 x9 (x10 ++ [bt x0 x11]) (wrap64 (x11 + 1))) else (none)))) else (none)) else (abacuslaw20_CharsBack.l2 k x0 x9 x10 0 0)
def abacuslaw20_CharsBack.l2 : Nat → ByteArray → List ByteArray → List Int → Int → Int → Option (Bool)
  | 0, _, _, _, _, _ => none
  | k + 1, x0, x9, x10, x12, x13 => if x13 < (x0.size : Int) then (if 0 ≤ x13 then ((abacuslaw20_blank.f (bt x0 x13)).bind fun t296 => (if t296 = true then (abacuslaw20_CharsBack.l2 k x0 x9 x10 x12 (wrap64 (x13 + 1))) else (if x13 = 0 then (abacuslaw20_CharsBack.l2 k x0 x9 x10 (wrap64 (x12 + 1)) (wrap64 (x13 + 1))) else (if 0 ≤ (wrap64 (x13 - 1)) then (if (wrap64 (x13 - 1)) < (x0.size : Int) then ((abacuslaw20_blank.f (bt x0 (wrap64 (x13 - 1)))).bind fun t297 => (if t297 = true then (abacuslaw20_CharsBack.l2 k x0 x9 x10 (wrap64 (x12 + 1)) (wrap64 (x13 + 1))) else (abacuslaw20_CharsBack.l2 k x0 x9 x10 x12 (wrap64 (x13 + 1))))) else (none)) else (none))))) else (none)) else ((chars_Cat.f k x9).bind fun bt298 => (if bt298.2 = 0 then (if bt298.1.toList = (strOfNums x10).toList then (abacuslaw20_CharsBack.j6 k x9 ((x9.length : Int) != x12)) else (abacuslaw20_CharsBack.j6 k x9 true)) else (abacuslaw20_CharsBack.j6 k x9 true)))
def abacuslaw20_CharsBack.j6 : Nat → List ByteArray → Bool → Option (Bool)
  | 0, _, _ => none
  | k + 1, x9, x131 => if x131 = true then (some false) else (abacuslaw20_CharsBack.l3 k x9 0)
def abacuslaw20_CharsBack.l3 : Nat → List ByteArray → Int → Option (Bool)
  | 0, _, _ => none
  | k + 1, x9, x16 => if x16 < (x9.length : Int) then (if 0 ≤ x16 then (if (rdOf ByteArray.empty x9 x16).toList = ([] : List UInt8) then (some false) else (abacuslaw20_CharsBack.l4 k x9 x16 0)) else (none)) else (some true)
def abacuslaw20_CharsBack.l4 : Nat → List ByteArray → Int → Int → Option (Bool)
  | 0, _, _, _ => none
  | k + 1, x9, x16, x17 => if 0 ≤ x16 then (if x16 < (x9.length : Int) then (if x17 < ((rdOf ByteArray.empty x9 x16).size : Int) then (if 0 ≤ x17 then ((abacuslaw20_blank.f (bt (rdOf ByteArray.empty x9 x16) x17)).bind fun t303 => (if t303 = true then (some false) else (abacuslaw20_CharsBack.l4 k x9 x16 (wrap64 (x17 + 1))))) else (none)) else (abacuslaw20_CharsBack.l3 k x9 (wrap64 (x16 + 1)))) else (none)) else (none)
def abacuslaw20_CharsBack.j0 : Nat → ByteArray → ByteArray → List ByteArray → Bool → Option (Bool)
  | 0, _, _, _, _ => none
  | k + 1, x0, x1, x5, x42 => if x42 = true then (some false) else (abacuslaw20_CharsBack.l0 k x0 x1 x5 0)
def abacuslaw20_CharsBack.l0 : Nat → ByteArray → ByteArray → List ByteArray → Int → Option (Bool)
  | 0, _, _, _, _ => none
  | k + 1, x0, x1, x5, x8 => if x8 < (x5.length : Int) then (if x1.toList = ([] : List UInt8) then (abacuslaw20_CharsBack.j2 k x0 x1 x5 x8 false) else (if 0 ≤ x8 then ((chars_Index.f (rdOf ByteArray.empty x5 x8) x1).bind fun t287 => (abacuslaw20_CharsBack.j2 k x0 x1 x5 x8 (t287 != 0))) else (none))) else (abacuslaw20_CharsBack.j3 k x0)
def abacuslaw20_CharsBack.j2 : Nat → ByteArray → ByteArray → List ByteArray → Int → Bool → Option (Bool)
  | 0, _, _, _, _, _ => none
  | k + 1, x0, x1, x5, x8, x59 => if x59 = true then (some false) else (if x1.toList = ([] : List UInt8) then (if 0 ≤ x8 then (if x8 < (x5.length : Int) then (if ((rdOf ByteArray.empty x5 x8).size : Int) = 1 then (abacuslaw20_CharsBack.l0 k x0 x1 x5 (wrap64 (x8 + 1))) else (some false)) else (none)) else (none)) else (abacuslaw20_CharsBack.l0 k x0 x1 x5 (wrap64 (x8 + 1))))
end
def abacuslaw20_CharsBack.f (k : Nat) (a0 : ByteArray) (a1 : ByteArray) : Option (Bool) := (chars_Split.f k (⟨#[97, 44, 98, 44]⟩ : ByteArray) (⟨#[44]⟩ : ByteArray)).bind fun t274 => ((abacuslaw20_alike.f k t274 (([(⟨#[97]⟩ : ByteArray), (⟨#[98]⟩ : ByteArray), (⟨#[]⟩ : ByteArray)] : List ByteArray))).bind fun t280 => (if t280 = true then (if (a0.size : Int) > 1048576 then (some true) else ((chars_Split.f k a0 a1).bind fun t281 => (if a1.toList = ([32] : List UInt8) then (abacuslaw20_CharsBack.j3 k a0) else ((chars_Join.f k t281 a1).bind fun bt284 => (if bt284.2 = 0 then (abacuslaw20_CharsBack.j0 k a0 a1 t281 (bt284.1.toList != a0.toList)) else (abacuslaw20_CharsBack.j0 k a0 a1 t281 true)))))) else (some false)))
theorem abacuslaw20_CharsBack.mono_l : ∀ k, (∀ y0, LeO (abacuslaw20_CharsBack.j3 k y0) (abacuslaw20_CharsBack.j3 (k + 1) y0)) ∧ (∀ y0 y1 y2 y3, LeO (abacuslaw20_CharsBack.l1 k y0 y1 y2 y3) (abacuslaw20_CharsBack.l1 (k + 1) y0 y1 y2 y3)) ∧ (∀ y0 y1 y2 y3 y4, LeO (abacuslaw20_CharsBack.l2 k y0 y1 y2 y3 y4) (abacuslaw20_CharsBack.l2 (k + 1) y0 y1 y2 y3 y4)) ∧ (∀ y0 y1, LeO (abacuslaw20_CharsBack.j6 k y0 y1) (abacuslaw20_CharsBack.j6 (k + 1) y0 y1)) ∧ (∀ y0 y1, LeO (abacuslaw20_CharsBack.l3 k y0 y1) (abacuslaw20_CharsBack.l3 (k + 1) y0 y1)) ∧ (∀ y0 y1 y2, LeO (abacuslaw20_CharsBack.l4 k y0 y1 y2) (abacuslaw20_CharsBack.l4 (k + 1) y0 y1 y2)) ∧ (∀ y0 y1 y2 y3, LeO (abacuslaw20_CharsBack.j0 k y0 y1 y2 y3) (abacuslaw20_CharsBack.j0 (k + 1) y0 y1 y2 y3)) ∧ (∀ y0 y1 y2 y3, LeO (abacuslaw20_CharsBack.l0 k y0 y1 y2 y3) (abacuslaw20_CharsBack.l0 (k + 1) y0 y1 y2 y3)) ∧ (∀ y0 y1 y2 y3 y4, LeO (abacuslaw20_CharsBack.j2 k y0 y1 y2 y3 y4) (abacuslaw20_CharsBack.j2 (k + 1) y0 y1 y2 y3 y4))
  | 0 => ⟨fun _ r h => by simp [abacuslaw20_CharsBack.j3] at h, fun _ _ _ _ r h => by simp [abacuslaw20_CharsBack.l1] at h, fun _ _ _ _ _ r h => by simp [abacuslaw20_CharsBack.l2] at h, fun _ _ r h => by simp [abacuslaw20_CharsBack.j6] at h, fun _ _ r h => by simp [abacuslaw20_CharsBack.l3] at h, fun _ _ _ r h => by simp [abacuslaw20_CharsBack.l4] at h, fun _ _ _ _ r h => by simp [abacuslaw20_CharsBack.j0] at h, fun _ _ _ _ r h => by simp [abacuslaw20_CharsBack.l0] at h, fun _ _ _ _ _ r h => by simp [abacuslaw20_CharsBack.j2] at h⟩
  | k + 1 => by
    obtain ⟨ih0, ih1, ih2, ih3, ih4, ih5, ih6, ih7, ih8⟩ := abacuslaw20_CharsBack.mono_l k
    refine ⟨?_, ?_, ?_, ?_, ?_, ?_, ?_, ?_, ?_⟩
    · intro y0
      unfold abacuslaw20_CharsBack.j3
      repeat' first
      | (with_reducible exact ih0 _)
      | (with_reducible exact ih1 _ _ _ _)
      | (with_reducible exact ih2 _ _ _ _ _)
      | (with_reducible exact ih3 _ _)
      | (with_reducible exact ih4 _ _)
      | (with_reducible exact ih5 _ _ _)
      | (with_reducible exact ih6 _ _ _ _)
      | (with_reducible exact ih7 _ _ _ _)
      | (with_reducible exact ih8 _ _ _ _ _)
      | (with_reducible exact abacuslaw20_alike.mono _ _ _)
      | (with_reducible exact chars_Cat.mono _ _)
      | (with_reducible exact chars_Join.mono _ _ _)
      | (with_reducible exact chars_Split.mono _ _ _)
      | (with_reducible exact LeO.refl _)
      | (with_reducible exact LeO.none _)
      | (with_reducible refine LeO.ite ?_ ?_)
      | (with_reducible refine LeO.bind ?_ (fun _ => ?_))
      | exact ih0 _
      | exact ih1 _ _ _ _
      | exact ih2 _ _ _ _ _
      | exact ih3 _ _
      | exact ih4 _ _
      | exact ih5 _ _ _
      | exact ih6 _ _ _ _
      | exact ih7 _ _ _ _
      | exact ih8 _ _ _ _ _
      | exact abacuslaw20_alike.mono _ _ _
      | exact chars_Cat.mono _ _
      | exact chars_Join.mono _ _ _
      | exact chars_Split.mono _ _ _
      | exact LeO.none _
      | refine LeO.ite ?_ ?_
      | refine LeO.bind ?_ (fun _ => ?_)
    · intro y0 y1 y2 y3
      unfold abacuslaw20_CharsBack.l1
      repeat' first
      | (with_reducible exact ih0 _)
      | (with_reducible exact ih1 _ _ _ _)
      | (with_reducible exact ih2 _ _ _ _ _)
      | (with_reducible exact ih3 _ _)
      | (with_reducible exact ih4 _ _)
      | (with_reducible exact ih5 _ _ _)
      | (with_reducible exact ih6 _ _ _ _)
      | (with_reducible exact ih7 _ _ _ _)
      | (with_reducible exact ih8 _ _ _ _ _)
      | (with_reducible exact abacuslaw20_alike.mono _ _ _)
      | (with_reducible exact chars_Cat.mono _ _)
      | (with_reducible exact chars_Join.mono _ _ _)
      | (with_reducible exact chars_Split.mono _ _ _)
      | (with_reducible exact LeO.refl _)
      | (with_reducible exact LeO.none _)
      | (with_reducible refine LeO.ite ?_ ?_)
      | (with_reducible refine LeO.bind ?_ (fun _ => ?_))
      | exact ih0 _
      | exact ih1 _ _ _ _
      | exact ih2 _ _ _ _ _
      | exact ih3 _ _
      | exact ih4 _ _
      | exact ih5 _ _ _
      | exact ih6 _ _ _ _
      | exact ih7 _ _ _ _
      | exact ih8 _ _ _ _ _
      | exact abacuslaw20_alike.mono _ _ _
      | exact chars_Cat.mono _ _
      | exact chars_Join.mono _ _ _
      | exact chars_Split.mono _ _ _
      | exact LeO.none _
      | refine LeO.ite ?_ ?_
      | refine LeO.bind ?_ (fun _ => ?_)
    · intro y0 y1 y2 y3 y4
      unfold abacuslaw20_CharsBack.l2
      repeat' first
      | (with_reducible exact ih0 _)
      | (with_reducible exact ih1 _ _ _ _)
      | (with_reducible exact ih2 _ _ _ _ _)
      | (with_reducible exact ih3 _ _)
      | (with_reducible exact ih4 _ _)
      | (with_reducible exact ih5 _ _ _)
      | (with_reducible exact ih6 _ _ _ _)
      | (with_reducible exact ih7 _ _ _ _)
      | (with_reducible exact ih8 _ _ _ _ _)
      | (with_reducible exact abacuslaw20_alike.mono _ _ _)
      | (with_reducible exact chars_Cat.mono _ _)
      | (with_reducible exact chars_Join.mono _ _ _)
      | (with_reducible exact chars_Split.mono _ _ _)
      | (with_reducible exact LeO.refl _)
      | (with_reducible exact LeO.none _)
      | (with_reducible refine LeO.ite ?_ ?_)
      | (with_reducible refine LeO.bind ?_ (fun _ => ?_))
      | exact ih0 _
      | exact ih1 _ _ _ _
      | exact ih2 _ _ _ _ _
      | exact ih3 _ _
      | exact ih4 _ _
      | exact ih5 _ _ _
      | exact ih6 _ _ _ _
      | exact ih7 _ _ _ _
      | exact ih8 _ _ _ _ _
      | exact abacuslaw20_alike.mono _ _ _
      | exact chars_Cat.mono _ _
      | exact chars_Join.mono _ _ _
      | exact chars_Split.mono _ _ _
      | exact LeO.none _
      | refine LeO.ite ?_ ?_
      | refine LeO.bind ?_ (fun _ => ?_)
    · intro y0 y1
      unfold abacuslaw20_CharsBack.j6
      repeat' first
      | (with_reducible exact ih0 _)
      | (with_reducible exact ih1 _ _ _ _)
      | (with_reducible exact ih2 _ _ _ _ _)
      | (with_reducible exact ih3 _ _)
      | (with_reducible exact ih4 _ _)
      | (with_reducible exact ih5 _ _ _)
      | (with_reducible exact ih6 _ _ _ _)
      | (with_reducible exact ih7 _ _ _ _)
      | (with_reducible exact ih8 _ _ _ _ _)
      | (with_reducible exact abacuslaw20_alike.mono _ _ _)
      | (with_reducible exact chars_Cat.mono _ _)
      | (with_reducible exact chars_Join.mono _ _ _)
      | (with_reducible exact chars_Split.mono _ _ _)
      | (with_reducible exact LeO.refl _)
      | (with_reducible exact LeO.none _)
      | (with_reducible refine LeO.ite ?_ ?_)
      | (with_reducible refine LeO.bind ?_ (fun _ => ?_))
      | exact ih0 _
      | exact ih1 _ _ _ _
      | exact ih2 _ _ _ _ _
      | exact ih3 _ _
      | exact ih4 _ _
      | exact ih5 _ _ _
      | exact ih6 _ _ _ _
      | exact ih7 _ _ _ _
      | exact ih8 _ _ _ _ _
      | exact abacuslaw20_alike.mono _ _ _
      | exact chars_Cat.mono _ _
      | exact chars_Join.mono _ _ _
      | exact chars_Split.mono _ _ _
      | exact LeO.none _
      | refine LeO.ite ?_ ?_
      | refine LeO.bind ?_ (fun _ => ?_)
    · intro y0 y1
      unfold abacuslaw20_CharsBack.l3
      repeat' first
      | (with_reducible exact ih0 _)
      | (with_reducible exact ih1 _ _ _ _)
      | (with_reducible exact ih2 _ _ _ _ _)
      | (with_reducible exact ih3 _ _)
      | (with_reducible exact ih4 _ _)
      | (with_reducible exact ih5 _ _ _)
      | (with_reducible exact ih6 _ _ _ _)
      | (with_reducible exact ih7 _ _ _ _)
      | (with_reducible exact ih8 _ _ _ _ _)
      | (with_reducible exact abacuslaw20_alike.mono _ _ _)
      | (with_reducible exact chars_Cat.mono _ _)
      | (with_reducible exact chars_Join.mono _ _ _)
      | (with_reducible exact chars_Split.mono _ _ _)
      | (with_reducible exact LeO.refl _)
      | (with_reducible exact LeO.none _)
      | (with_reducible refine LeO.ite ?_ ?_)
      | (with_reducible refine LeO.bind ?_ (fun _ => ?_))
      | exact ih0 _
      | exact ih1 _ _ _ _
      | exact ih2 _ _ _ _ _
      | exact ih3 _ _
      | exact ih4 _ _
      | exact ih5 _ _ _
      | exact ih6 _ _ _ _
      | exact ih7 _ _ _ _
      | exact ih8 _ _ _ _ _
      | exact abacuslaw20_alike.mono _ _ _
      | exact chars_Cat.mono _ _
      | exact chars_Join.mono _ _ _
      | exact chars_Split.mono _ _ _
      | exact LeO.none _
      | refine LeO.ite ?_ ?_
      | refine LeO.bind ?_ (fun _ => ?_)
    · intro y0 y1 y2
      unfold abacuslaw20_CharsBack.l4
      repeat' first
      | (with_reducible exact ih0 _)
      | (with_reducible exact ih1 _ _ _ _)
      | (with_reducible exact ih2 _ _ _ _ _)
      | (with_reducible exact ih3 _ _)
      | (with_reducible exact ih4 _ _)
      | (with_reducible exact ih5 _ _ _)
      | (with_reducible exact ih6 _ _ _ _)
      | (with_reducible exact ih7 _ _ _ _)
      | (with_reducible exact ih8 _ _ _ _ _)
      | (with_reducible exact abacuslaw20_alike.mono _ _ _)
      | (with_reducible exact chars_Cat.mono _ _)
      | (with_reducible exact chars_Join.mono _ _ _)
      | (with_reducible exact chars_Split.mono _ _ _)
      | (with_reducible exact LeO.refl _)
      | (with_reducible exact LeO.none _)
      | (with_reducible refine LeO.ite ?_ ?_)
      | (with_reducible refine LeO.bind ?_ (fun _ => ?_))
      | exact ih0 _
      | exact ih1 _ _ _ _
      | exact ih2 _ _ _ _ _
      | exact ih3 _ _
      | exact ih4 _ _
      | exact ih5 _ _ _
      | exact ih6 _ _ _ _
      | exact ih7 _ _ _ _
      | exact ih8 _ _ _ _ _
      | exact abacuslaw20_alike.mono _ _ _
      | exact chars_Cat.mono _ _
      | exact chars_Join.mono _ _ _
      | exact chars_Split.mono _ _ _
      | exact LeO.none _
      | refine LeO.ite ?_ ?_
      | refine LeO.bind ?_ (fun _ => ?_)
    · intro y0 y1 y2 y3
      unfold abacuslaw20_CharsBack.j0
      repeat' first
      | (with_reducible exact ih0 _)
      | (with_reducible exact ih1 _ _ _ _)
      | (with_reducible exact ih2 _ _ _ _ _)
      | (with_reducible exact ih3 _ _)
      | (with_reducible exact ih4 _ _)
      | (with_reducible exact ih5 _ _ _)
      | (with_reducible exact ih6 _ _ _ _)
      | (with_reducible exact ih7 _ _ _ _)
      | (with_reducible exact ih8 _ _ _ _ _)
      | (with_reducible exact abacuslaw20_alike.mono _ _ _)
      | (with_reducible exact chars_Cat.mono _ _)
      | (with_reducible exact chars_Join.mono _ _ _)
      | (with_reducible exact chars_Split.mono _ _ _)
      | (with_reducible exact LeO.refl _)
      | (with_reducible exact LeO.none _)
      | (with_reducible refine LeO.ite ?_ ?_)
      | (with_reducible refine LeO.bind ?_ (fun _ => ?_))
      | exact ih0 _
      | exact ih1 _ _ _ _
      | exact ih2 _ _ _ _ _
      | exact ih3 _ _
      | exact ih4 _ _
      | exact ih5 _ _ _
      | exact ih6 _ _ _ _
      | exact ih7 _ _ _ _
      | exact ih8 _ _ _ _ _
      | exact abacuslaw20_alike.mono _ _ _
      | exact chars_Cat.mono _ _
      | exact chars_Join.mono _ _ _
      | exact chars_Split.mono _ _ _
      | exact LeO.none _
      | refine LeO.ite ?_ ?_
      | refine LeO.bind ?_ (fun _ => ?_)
    · intro y0 y1 y2 y3
      unfold abacuslaw20_CharsBack.l0
      repeat' first
      | (with_reducible exact ih0 _)
      | (with_reducible exact ih1 _ _ _ _)
      | (with_reducible exact ih2 _ _ _ _ _)
      | (with_reducible exact ih3 _ _)
      | (with_reducible exact ih4 _ _)
      | (with_reducible exact ih5 _ _ _)
      | (with_reducible exact ih6 _ _ _ _)
      | (with_reducible exact ih7 _ _ _ _)
      | (with_reducible exact ih8 _ _ _ _ _)
      | (with_reducible exact abacuslaw20_alike.mono _ _ _)
      | (with_reducible exact chars_Cat.mono _ _)
      | (with_reducible exact chars_Join.mono _ _ _)
      | (with_reducible exact chars_Split.mono _ _ _)
      | (with_reducible exact LeO.refl _)
      | (with_reducible exact LeO.none _)
      | (with_reducible refine LeO.ite ?_ ?_)
      | (with_reducible refine LeO.bind ?_ (fun _ => ?_))
      | exact ih0 _
      | exact ih1 _ _ _ _
      | exact ih2 _ _ _ _ _
      | exact ih3 _ _
      | exact ih4 _ _
      | exact ih5 _ _ _
      | exact ih6 _ _ _ _
      | exact ih7 _ _ _ _
      | exact ih8 _ _ _ _ _
      | exact abacuslaw20_alike.mono _ _ _
      | exact chars_Cat.mono _ _
      | exact chars_Join.mono _ _ _
      | exact chars_Split.mono _ _ _
      | exact LeO.none _
      | refine LeO.ite ?_ ?_
      | refine LeO.bind ?_ (fun _ => ?_)
    · intro y0 y1 y2 y3 y4
      unfold abacuslaw20_CharsBack.j2
      repeat' first
      | (with_reducible exact ih0 _)
      | (with_reducible exact ih1 _ _ _ _)
      | (with_reducible exact ih2 _ _ _ _ _)
      | (with_reducible exact ih3 _ _)
      | (with_reducible exact ih4 _ _)
      | (with_reducible exact ih5 _ _ _)
      | (with_reducible exact ih6 _ _ _ _)
      | (with_reducible exact ih7 _ _ _ _)
      | (with_reducible exact ih8 _ _ _ _ _)
      | (with_reducible exact abacuslaw20_alike.mono _ _ _)
      | (with_reducible exact chars_Cat.mono _ _)
      | (with_reducible exact chars_Join.mono _ _ _)
      | (with_reducible exact chars_Split.mono _ _ _)
      | (with_reducible exact LeO.refl _)
      | (with_reducible exact LeO.none _)
      | (with_reducible refine LeO.ite ?_ ?_)
      | (with_reducible refine LeO.bind ?_ (fun _ => ?_))
      | exact ih0 _
      | exact ih1 _ _ _ _
      | exact ih2 _ _ _ _ _
      | exact ih3 _ _
      | exact ih4 _ _
      | exact ih5 _ _ _
      | exact ih6 _ _ _ _
      | exact ih7 _ _ _ _
      | exact ih8 _ _ _ _ _
      | exact abacuslaw20_alike.mono _ _ _
      | exact chars_Cat.mono _ _
      | exact chars_Join.mono _ _ _
      | exact chars_Split.mono _ _ _
      | exact LeO.none _
      | refine LeO.ite ?_ ?_
      | refine LeO.bind ?_ (fun _ => ?_)
theorem abacuslaw20_CharsBack.mono : ∀ a0 a1 k, LeO (abacuslaw20_CharsBack.f k a0 a1) (abacuslaw20_CharsBack.f (k + 1) a0 a1) := by
  intro a0 a1 k
  obtain ⟨ih0, ih1, ih2, ih3, ih4, ih5, ih6, ih7, ih8⟩ := abacuslaw20_CharsBack.mono_l k
  unfold abacuslaw20_CharsBack.f
  repeat' first
      | (with_reducible exact ih0 _)
      | (with_reducible exact ih1 _ _ _ _)
      | (with_reducible exact ih2 _ _ _ _ _)
      | (with_reducible exact ih3 _ _)
      | (with_reducible exact ih4 _ _)
      | (with_reducible exact ih5 _ _ _)
      | (with_reducible exact ih6 _ _ _ _)
      | (with_reducible exact ih7 _ _ _ _)
      | (with_reducible exact ih8 _ _ _ _ _)
      | (with_reducible exact abacuslaw20_alike.mono _ _ _)
      | (with_reducible exact chars_Cat.mono _ _)
      | (with_reducible exact chars_Join.mono _ _ _)
      | (with_reducible exact chars_Split.mono _ _ _)
      | (with_reducible exact LeO.refl _)
      | (with_reducible exact LeO.none _)
      | (with_reducible refine LeO.ite ?_ ?_)
      | (with_reducible refine LeO.bind ?_ (fun _ => ?_))
      | exact ih0 _
      | exact ih1 _ _ _ _
      | exact ih2 _ _ _ _ _
      | exact ih3 _ _
      | exact ih4 _ _
      | exact ih5 _ _ _
      | exact ih6 _ _ _ _
      | exact ih7 _ _ _ _
      | exact ih8 _ _ _ _ _
      | exact abacuslaw20_alike.mono _ _ _
      | exact chars_Cat.mono _ _
      | exact chars_Join.mono _ _ _
      | exact chars_Split.mono _ _ _
      | exact LeO.none _
      | refine LeO.ite ?_ ?_
      | refine LeO.bind ?_ (fun _ => ?_)
set_option maxHeartbeats 8000000 in
set_option maxRecDepth 100000 in
theorem abacuslaw20_CharsBack.calls (k : Nat) (a0 : ByteArray) (a1 : ByteArray) (w : World) (hG : GW w) (h : abacuslaw20_CharsBack.f k a0 a1 = some true) :
    Calls Tryd.prog 5 #[.string a0, .string a1] w fun e w' => e = .returned (.bool true) ∧ Below w.heap.size w w' := by
  have HB := Aside0.mk (Below.refl w.heap.size w)
  have HG := Aside0.mk hG
  clear hG
  have H : ((chars_Split.f k (⟨#[97, 44, 98, 44]⟩ : ByteArray) (⟨#[44]⟩ : ByteArray)).bind fun t274 => ((abacuslaw20_alike.f k t274 (([(⟨#[97]⟩ : ByteArray), (⟨#[98]⟩ : ByteArray), (⟨#[]⟩ : ByteArray)] : List ByteArray))).bind fun t280 => (if t280 = true then (if (a0.size : Int) > 1048576 then (some true) else ((chars_Split.f k a0 a1).bind fun t281 => (if a1.toList = ([32] : List UInt8) then (abacuslaw20_CharsBack.j3 k a0) else ((chars_Join.f k t281 a1).bind fun bt284 => (if bt284.2 = 0 then (abacuslaw20_CharsBack.j0 k a0 a1 t281 (bt284.1.toList != a0.toList)) else (abacuslaw20_CharsBack.j0 k a0 a1 t281 true)))))) else (some false)))) = some true := h
  clear h
  replace H := Option.bind_eq_some_iff.mp H
  obtain ⟨t274, A30, H⟩ := H
  replace H : ((abacuslaw20_alike.f k t274 (([(⟨#[97]⟩ : ByteArray), (⟨#[98]⟩ : ByteArray), (⟨#[]⟩ : ByteArray)] : List ByteArray))).bind fun t280 => (if t280 = true then (if (a0.size : Int) > 1048576 then (some true) else ((chars_Split.f k a0 a1).bind fun t281 => (if a1.toList = ([32] : List UInt8) then (abacuslaw20_CharsBack.j3 k a0) else ((chars_Join.f k t281 a1).bind fun bt284 => (if bt284.2 = 0 then (abacuslaw20_CharsBack.j0 k a0 a1 t281 (bt284.1.toList != a0.toList)) else (abacuslaw20_CharsBack.j0 k a0 a1 t281 true)))))) else (some false))) = some true := H
  have A3 := Aside0.mk A30
  clear A30
  obtain ⟨y277, hy277⟩ : ∃ y_ : List ByteArray, y_ = (([(⟨#[97]⟩ : ByteArray), (⟨#[98]⟩ : ByteArray), (⟨#[]⟩ : ByteArray)] : List ByteArray)) := ⟨_, rfl⟩
  replace H : ((abacuslaw20_alike.f k t274 y277).bind fun t280 => (if t280 = true then (if (a0.size : Int) > 1048576 then (some true) else ((chars_Split.f k a0 a1).bind fun t281 => (if a1.toList = ([32] : List UInt8) then (abacuslaw20_CharsBack.j3 k a0) else ((chars_Join.f k t281 a1).bind fun bt284 => (if bt284.2 = 0 then (abacuslaw20_CharsBack.j0 k a0 a1 t281 (bt284.1.toList != a0.toList)) else (abacuslaw20_CharsBack.j0 k a0 a1 t281 true)))))) else (some false))) = some true := by first | (rw [hy277]; with_reducible exact H) | (have H2_ := (Option.bind_some _ _).symm.trans H; rw [hy277]; with_reducible exact H2_) | (have H2_ := (Option.bind_some _ _).symm.trans H; with_reducible exact H2_) | with_reducible exact H | (rw [hy277]; exact H) | exact H
  have Ny277 := Aside0.mk hy277
  clear hy277
  replace H := Option.bind_eq_some_iff.mp H
  obtain ⟨t280, A40, H⟩ := H
  replace H : (if t280 = true then (if (a0.size : Int) > 1048576 then (some true) else ((chars_Split.f k a0 a1).bind fun t281 => (if a1.toList = ([32] : List UInt8) then (abacuslaw20_CharsBack.j3 k a0) else ((chars_Join.f k t281 a1).bind fun bt284 => (if bt284.2 = 0 then (abacuslaw20_CharsBack.j0 k a0 a1 t281 (bt284.1.toList != a0.toList)) else (abacuslaw20_CharsBack.j0 k a0 a1 t281 true)))))) else (some false)) = some true := H
  have A4 := Aside0.mk A40
  clear A40
  by_cases c5 : t280 = true
  · subst c5
    have H1 : (if (a0.size : Int) > 1048576 then (some true) else ((chars_Split.f k a0 a1).bind fun t281 => (if a1.toList = ([32] : List UInt8) then (abacuslaw20_CharsBack.j3 k a0) else ((chars_Join.f k t281 a1).bind fun bt284 => (if bt284.2 = 0 then (abacuslaw20_CharsBack.j0 k a0 a1 t281 (bt284.1.toList != a0.toList)) else (abacuslaw20_CharsBack.j0 k a0 a1 t281 true)))))) = some true := by rw [if_pos rfl] at H; exact H
    clear H
    have H := H1
    clear H1
    by_cases c6 : (a0.size : Int) > 1048576
    · rw [if_pos c6] at H
      have c6b0 : decide (1048576 < (a0.size : Int)) = true := decide_eq_true c6
      have c6b1 : decide (1048576 < a0.size) = true := decide_eq_true (by omega)
      clear c6
      clear H
      go_enter Tryd.func5, Tryd.ntmps5
      go_wp2_with (first | ((with_reducible refine gate_callee (f := 10) rfl ?_); refine goesL_ (some 18) rfl rfl Tryd.func10 (by kernel_rfl) rfl #[.string (⟨#[97, 44, 98, 44]⟩ : ByteArray), .string (⟨#[44]⟩ : ByteArray)] rfl (by (try simp only [List.map_toArray, List.map_cons, List.map_nil]); first | done | rfl | (simp only [List.length_drop, List.length_take]; rfl)) ?_; (with_reducible refine (chars_Split.calls k (⟨#[97, 44, 98, 44]⟩ : ByteArray) (⟨#[44]⟩ : ByteArray) t274 _ ?side1 A3.out).mono ?_); (case side1 => exact GW.below HG.out (by repeat (first | (with_reducible first | exact HB.out | apply below_alloc | apply pw_below_drewN | apply below_drew1) | exact HB.out))); rintro e w7 ⟨v275, rfl, ho0, hb⟩; refine ⟨_, rfl, ?_⟩; have n0_ := Aside0.mk (Kd.R_lower ho0 (below_size (by repeat (first | (with_reducible first | exact HB.out | apply below_alloc | apply pw_below_drewN | apply below_drew1) | exact HB.out)))); have n1_ := Aside0.mk (below_step (by repeat (first | (with_reducible first | exact HB.out | apply below_alloc | apply pw_below_drewN | apply below_drew1) | exact HB.out)) hb); clear HB; have HO276 := n0_; have HB := n1_; clear n0_ n1_; (try clear hb); (try clear hb2); (try clear hk); (try clear hi); (try clear ho0)) | ((with_reducible refine gate_dst (N := 19) rfl ?_); (try (refine gate_guard (by rfl) ?_; dsimp only)); refine Kd.R_lit Kd.string _ 9 ?hg (N := 19) ?hd (xs := ([(⟨#[97]⟩ : ByteArray), (⟨#[98]⟩ : ByteArray), (⟨#[]⟩ : ByteArray)] : List ByteArray)) (inner := [.string (⟨#[97]⟩ : ByteArray), .string (⟨#[98]⟩ : ByteArray), .string (⟨#[]⟩ : ByteArray)]) (ok := fun _ => True) (okp := fun _ => True) ?hr ?hp (fun _ hk => hk) trivial (Below.refl _ _) (Nat.le_refl _) (by simp) ?_; (case hd => rfl); (case hg => rfl); (case hr => first | (go_simp; done) | (go_simp; rfl)); (case hp => exact (Reps.one (show Kd.M Kd.string _ _ _ (⟨#[97]⟩ : ByteArray) [.string (⟨#[97]⟩ : ByteArray)] from rfl) (Reps.one (show Kd.M Kd.string _ _ _ (⟨#[98]⟩ : ByteArray) [.string (⟨#[98]⟩ : ByteArray)] from rfl) (Reps.one (show Kd.M Kd.string _ _ _ (⟨#[]⟩ : ByteArray) [.string (⟨#[]⟩ : ByteArray)] from rfl) (Reps.none _ _))))); intro v278 w8 ho9 hb hg_ hnew_; clear hg_ hnew_; (first | rw [← Ny277.out] at ho9 | (simp only [Int.reduceToNat] at ho9; rw [← Ny277.out] at ho9)); have n0_ := Aside0.mk (Kd.R_elder' (by (with_reducible repeat (first | apply Kd.R_alloc | apply Kd.R_drewN | apply Kd.R_drew)); exact HO276.out) (Kd.R_base ho9) hb); have n1_ := Aside0.mk (Kd.R_lower (Kd.R_new' ho9 (Kd.R_lt (by (with_reducible repeat (first | apply Kd.R_alloc | apply Kd.R_drewN | apply Kd.R_drew)); exact HO276.out))) (below_size (by repeat (first | (with_reducible first | exact HB.out | apply below_alloc | apply pw_below_drewN | apply below_drew1) | exact HB.out)))); have n2_ := Aside0.mk (below_step (by repeat (first | (with_reducible first | exact HB.out | apply below_alloc | apply pw_below_drewN | apply below_drew1) | exact HB.out)) hb); clear HO276; clear HB; have HO276 := n0_; have HO279 := n1_; have HB := n2_; clear n0_ n1_ n2_; clear hb ho9; obtain ⟨Ao10, co10, eo10⟩ := Kd.R_slice HO276.out; subst eo10; obtain ⟨Ao11, co11, eo11⟩ := Kd.R_slice HO279.out; subst eo11) | ((with_reducible refine gate_callee (f := 9) rfl ?_); refine goesL_ (some 20) rfl rfl Tryd.func9 (by kernel_rfl) rfl #[.slice Ao10 t274.length co10, .slice Ao11 y277.length co11] rfl (by (try simp only [List.map_toArray, List.map_cons, List.map_nil]); first | done | rfl | (simp only [List.length_drop, List.length_take]; rfl)) ?_; (with_reducible refine (abacuslaw20_alike.calls k _ _ t274 _ _ y277 true _ ?side1 ?side2 ?side3 ?side4 A4.out).mono ?_); (case side1 => repeat (first | exact (Kd.R_reads' HO276.out).2.2 | (with_reducible refine Kd.C_alloc ?_ _) | (with_reducible refine Kd.C_drewN ?_ _) | (with_reducible refine Kd.C_drew ?_))); (case side2 => exact (Kd.R_reads' HO276.out).2.1); (case side3 => repeat (first | exact (Kd.R_reads' HO279.out).2.2 | (with_reducible refine Kd.C_alloc ?_ _) | (with_reducible refine Kd.C_drewN ?_ _) | (with_reducible refine Kd.C_drew ?_))); (case side4 => exact (Kd.R_reads' HO279.out).2.1); rintro e w' ⟨rfl, ⟨nd, rfl⟩⟩; refine ⟨_, rfl, ?_⟩))
      go_ret
      exact ⟨by first | rfl | (simp [errW_none, errW_some] <;> rfl) | (simp [*, errW_none, errW_some] <;> rfl), by repeat (first | (with_reducible first | exact HB.out | apply below_alloc | apply pw_below_drewN | apply below_drew1) | exact HB.out)⟩
    · rw [if_neg c6] at H
      have c6b0 : decide (1048576 < (a0.size : Int)) = false := decide_eq_false c6
      have c6b1 : decide (1048576 < a0.size) = false := decide_eq_false (by omega)
      clear c6
      replace H := Option.bind_eq_some_iff.mp H
      obtain ⟨t281, A120, H⟩ := H
      replace H : (if a1.toList = ([32] : List UInt8) then (abacuslaw20_CharsBack.j3 k a0) else ((chars_Join.f k t281 a1).bind fun bt284 => (if bt284.2 = 0 then (abacuslaw20_CharsBack.j0 k a0 a1 t281 (bt284.1.toList != a0.toList)) else (abacuslaw20_CharsBack.j0 k a0 a1 t281 true)))) = some true := H
      have A12 := Aside0.mk A120
      clear A120
      have HC13 := Aside0.mk H
      clear H
      go_enter Tryd.func5, Tryd.ntmps5
      go_upto_if 29 with (first | ((with_reducible refine gate_callee (f := 10) rfl ?_); refine goesL_ (some 18) rfl rfl Tryd.func10 (by kernel_rfl) rfl #[.string (⟨#[97, 44, 98, 44]⟩ : ByteArray), .string (⟨#[44]⟩ : ByteArray)] rfl (by (try simp only [List.map_toArray, List.map_cons, List.map_nil]); first | done | rfl | (simp only [List.length_drop, List.length_take]; rfl)) ?_; (with_reducible refine (chars_Split.calls k (⟨#[97, 44, 98, 44]⟩ : ByteArray) (⟨#[44]⟩ : ByteArray) t274 _ ?side1 A3.out).mono ?_); (case side1 => exact GW.below HG.out (by repeat (first | (with_reducible first | exact HB.out | apply below_alloc | apply pw_below_drewN | apply below_drew1) | exact HB.out))); rintro e w14 ⟨v275, rfl, ho0, hb⟩; refine ⟨_, rfl, ?_⟩; have n0_ := Aside0.mk (Kd.R_lower ho0 (below_size (by repeat (first | (with_reducible first | exact HB.out | apply below_alloc | apply pw_below_drewN | apply below_drew1) | exact HB.out)))); have n1_ := Aside0.mk (below_step (by repeat (first | (with_reducible first | exact HB.out | apply below_alloc | apply pw_below_drewN | apply below_drew1) | exact HB.out)) hb); clear HB; have HO276 := n0_; have HB := n1_; clear n0_ n1_; (try clear hb); (try clear hb2); (try clear hk); (try clear hi); (try clear ho0)) | ((with_reducible refine gate_dst (N := 19) rfl ?_); (try (refine gate_guard (by rfl) ?_; dsimp only)); refine Kd.R_lit Kd.string _ 9 ?hg (N := 19) ?hd (xs := ([(⟨#[97]⟩ : ByteArray), (⟨#[98]⟩ : ByteArray), (⟨#[]⟩ : ByteArray)] : List ByteArray)) (inner := [.string (⟨#[97]⟩ : ByteArray), .string (⟨#[98]⟩ : ByteArray), .string (⟨#[]⟩ : ByteArray)]) (ok := fun _ => True) (okp := fun _ => True) ?hr ?hp (fun _ hk => hk) trivial (Below.refl _ _) (Nat.le_refl _) (by simp) ?_; (case hd => rfl); (case hg => rfl); (case hr => first | (go_simp; done) | (go_simp; rfl)); (case hp => exact (Reps.one (show Kd.M Kd.string _ _ _ (⟨#[97]⟩ : ByteArray) [.string (⟨#[97]⟩ : ByteArray)] from rfl) (Reps.one (show Kd.M Kd.string _ _ _ (⟨#[98]⟩ : ByteArray) [.string (⟨#[98]⟩ : ByteArray)] from rfl) (Reps.one (show Kd.M Kd.string _ _ _ (⟨#[]⟩ : ByteArray) [.string (⟨#[]⟩ : ByteArray)] from rfl) (Reps.none _ _))))); intro v278 w15 ho16 hb hg_ hnew_; clear hg_ hnew_; (first | rw [← Ny277.out] at ho16 | (simp only [Int.reduceToNat] at ho16; rw [← Ny277.out] at ho16)); have n0_ := Aside0.mk (Kd.R_elder' (by (with_reducible repeat (first | apply Kd.R_alloc | apply Kd.R_drewN | apply Kd.R_drew)); exact HO276.out) (Kd.R_base ho16) hb); have n1_ := Aside0.mk (Kd.R_lower (Kd.R_new' ho16 (Kd.R_lt (by (with_reducible repeat (first | apply Kd.R_alloc | apply Kd.R_drewN | apply Kd.R_drew)); exact HO276.out))) (below_size (by repeat (first | (with_reducible first | exact HB.out | apply below_alloc | apply pw_below_drewN | apply below_drew1) | exact HB.out)))); have n2_ := Aside0.mk (below_step (by repeat (first | (with_reducible first | exact HB.out | apply below_alloc | apply pw_below_drewN | apply below_drew1) | exact HB.out)) hb); clear HO276; clear HB; have HO276 := n0_; have HO279 := n1_; have HB := n2_; clear n0_ n1_ n2_; clear hb ho16; obtain ⟨Ao17, co17, eo17⟩ := Kd.R_slice HO276.out; subst eo17; obtain ⟨Ao18, co18, eo18⟩ := Kd.R_slice HO279.out; subst eo18) | ((with_reducible refine gate_callee (f := 9) rfl ?_); refine goesL_ (some 20) rfl rfl Tryd.func9 (by kernel_rfl) rfl #[.slice Ao17 t274.length co17, .slice Ao18 y277.length co18] rfl (by (try simp only [List.map_toArray, List.map_cons, List.map_nil]); first | done | rfl | (simp only [List.length_drop, List.length_take]; rfl)) ?_; (with_reducible refine (abacuslaw20_alike.calls k _ _ t274 _ _ y277 true _ ?side1 ?side2 ?side3 ?side4 A4.out).mono ?_); (case side1 => repeat (first | exact (Kd.R_reads' HO276.out).2.2 | (with_reducible refine Kd.C_alloc ?_ _) | (with_reducible refine Kd.C_drewN ?_ _) | (with_reducible refine Kd.C_drew ?_))); (case side2 => exact (Kd.R_reads' HO276.out).2.1); (case side3 => repeat (first | exact (Kd.R_reads' HO279.out).2.2 | (with_reducible refine Kd.C_alloc ?_ _) | (with_reducible refine Kd.C_drewN ?_ _) | (with_reducible refine Kd.C_drew ?_))); (case side4 => exact (Kd.R_reads' HO279.out).2.1); rintro e w' ⟨rfl, ⟨nd, rfl⟩⟩; refine ⟨_, rfl, ?_⟩) | ((with_reducible refine gate_callee (f := 10) rfl ?_); refine goesL_ (some 27) rfl rfl Tryd.func10 (by kernel_rfl) rfl #[.string a0, .string a1] rfl (by (try simp only [List.map_toArray, List.map_cons, List.map_nil]); first | done | rfl | (simp only [List.length_drop, List.length_take]; rfl)) ?_; (with_reducible refine (chars_Split.calls k a0 a1 t281 _ ?side1 A12.out).mono ?_); (case side1 => exact GW.below HG.out (by repeat (first | (with_reducible first | exact HB.out | apply below_alloc | apply pw_below_drewN | apply below_drew1) | exact HB.out))); rintro e w19 ⟨v282, rfl, ho0, hb⟩; refine ⟨_, rfl, ?_⟩; have n0_ := Aside0.mk (Kd.R_elder' (by (with_reducible repeat (first | apply Kd.R_alloc | apply Kd.R_drewN | apply Kd.R_drew)); exact HO276.out) (Kd.R_base ho0) hb); have n1_ := Aside0.mk (Kd.R_elder' (by (with_reducible repeat (first | apply Kd.R_alloc | apply Kd.R_drewN | apply Kd.R_drew)); exact HO279.out) (Kd.R_base ho0) hb); have n2_ := Aside0.mk (Kd.R_lower (Kd.R_new' (Kd.R_new' ho0 (Kd.R_lt (by (with_reducible repeat (first | apply Kd.R_alloc | apply Kd.R_drewN | apply Kd.R_drew)); exact HO276.out))) (Kd.R_lt (by (with_reducible repeat (first | apply Kd.R_alloc | apply Kd.R_drewN | apply Kd.R_drew)); exact HO279.out))) (below_size (by repeat (first | (with_reducible first | exact HB.out | apply below_alloc | apply pw_below_drewN | apply below_drew1) | exact HB.out)))); have n3_ := Aside0.mk (below_step (by repeat (first | (with_reducible first | exact HB.out | apply below_alloc | apply pw_below_drewN | apply below_drew1) | exact HB.out)) hb); clear HO276; clear HO279; clear HB; have HO276 := n0_; have HO279 := n1_; have HO283 := n2_; have HB := n3_; clear n0_ n1_ n2_ n3_; (try clear hb); (try clear hb2); (try clear hk); (try clear hi); (try clear ho0)))
      (try simp only [Act.put, List.setIfInBounds_toArray, List.set_cons_zero, List.set_cons_succ])
      go_cut [] (fun wc => ∃ (kq : Nat), Aside0 (abacuslaw20_CharsBack.j3 kq a0 = some true) ∧ Aside0 (kq ≤ k) ∧ Aside0 (Below w.heap.size w wc))
      case first =>
        have H := HC13.out
        clear HC13
        by_cases c20 : a1.toList = ([32] : List UInt8)
        · rw [if_pos c20] at H
          have c20b0 : (a1.toList == ([32] : List UInt8)) = true := beq_iff_eq.mpr c20
          have c20b1 : (a1.toList != ([32] : List UInt8)) = false := bne_eq_false_iff_eq.mpr c20
          clear c20
          (first | rw [c20b0] | (simp only [i64_w, i32_w]; rw [c20b0]) | skip)
          have H' := Aside0.mk H
          clear H
          go_wp2
          go_meet
          case rel => exact ⟨_, H', ⟨by first | omega | exact Nat.le_refl _⟩, ⟨by repeat (first | (with_reducible first | exact HB.out | apply below_alloc | apply pw_below_drewN | apply below_drew1) | exact HB.out)⟩⟩
        · rw [if_neg c20] at H
          have c20b0 : (a1.toList == ([32] : List UInt8)) = false := beq_eq_false_iff_ne.mpr c20
          have c20b1 : (a1.toList != ([32] : List UInt8)) = true := bne_iff_ne.mpr c20
          (first | rw [c20b0] | (simp only [i64_w, i32_w]; rw [c20b0]) | skip)
          replace H := Option.bind_eq_some_iff.mp H
          obtain ⟨⟨t284, t285⟩, A210, H⟩ := H
          replace H : (if t285 = 0 then (abacuslaw20_CharsBack.j0 k a0 a1 t281 (t284.toList != a0.toList)) else (abacuslaw20_CharsBack.j0 k a0 a1 t281 true)) = some true := H
          have A21 := Aside0.mk A210
          clear A210
          have HC22 := Aside0.mk H
          clear H
          obtain ⟨Ao23, co23, eo23⟩ := Kd.R_slice HO283.out
          subst eo23
          go_upto_region 8 with (first | ((with_reducible refine gate_callee (f := 13) rfl ?_); refine goesL_ (some 33) rfl rfl Tryd.func13 (by kernel_rfl) rfl #[.slice Ao23 t281.length co23, .string a1] rfl (by (try simp only [List.map_toArray, List.map_cons, List.map_nil]); first | done | rfl | (simp only [List.length_drop, List.length_take]; rfl)) ?_; (with_reducible refine (chars_Join.calls k _ _ t281 a1 t284 t285 _ ?side1 ?side2 ?side3 A21.out).mono ?_); (case side1 => repeat (first | exact (Kd.R_reads' HO283.out).2.2 | (with_reducible refine Kd.C_alloc ?_ _) | (with_reducible refine Kd.C_drewN ?_ _) | (with_reducible refine Kd.C_drew ?_))); (case side2 => exact (Kd.R_reads' HO283.out).2.1); (case side3 => exact GW.below HG.out (by repeat (first | (with_reducible first | exact HB.out | apply below_alloc | apply pw_below_drewN | apply below_drew1) | exact HB.out))); rintro e w24 ⟨rfl, hb⟩; refine ⟨_, rfl, ?_⟩; have n0_ := Aside0.mk (Kd.R_below (by (with_reducible repeat (first | apply Kd.R_alloc | apply Kd.R_drewN | apply Kd.R_drew)); exact HO276.out) hb); have n1_ := Aside0.mk (Kd.R_below (by (with_reducible repeat (first | apply Kd.R_alloc | apply Kd.R_drewN | apply Kd.R_drew)); exact HO279.out) hb); have n2_ := Aside0.mk (Kd.R_below (by (with_reducible repeat (first | apply Kd.R_alloc | apply Kd.R_drewN | apply Kd.R_drew)); exact HO283.out) hb); have n3_ := Aside0.mk (below_step (by repeat (first | (with_reducible first | exact HB.out | apply below_alloc | apply pw_below_drewN | apply below_drew1) | exact HB.out)) hb); clear HO276; clear HO279; clear HO283; clear HB; have HO276 := n0_; have HO279 := n1_; have HO283 := n2_; have HB := n3_; clear n0_ n1_ n2_ n3_; (try clear hb); (try clear hb2); (try clear hk); (try clear hi)))
          (try simp only [Act.put, List.setIfInBounds_toArray, List.set_cons_zero, List.set_cons_succ])
          go_cut [42] (fun v42 wc => ∃ (kq : Nat) (x42_21 : Bool), v42 = .bool x42_21 ∧ Aside0 (abacuslaw20_CharsBack.j0 kq a0 a1 t281 x42_21 = some true) ∧ Aside0 (kq ≤ k) ∧ Aside0 (Kd.R Kd.string 9 wc w.heap.size (fun _ => True) (.slice Ao23 t281.length co23) t281) ∧ Aside0 (Below w.heap.size w wc))
          case first =>
            have H := HC22.out
            clear HC22
            by_cases c25 : t285 = 0
            · rw [if_pos c25] at H
              have c25b0 : (t285 == 0) = true := beq_iff_eq.mpr c25
              have c25b1 : (t285 != 0) = false := bne_eq_false_iff_eq.mpr c25
              clear c25
              (first | rw [c25b0] | (simp only [i64_w, i32_w]; rw [c25b0]) | skip)
              have H' := Aside0.mk H
              clear H
              go_wp2
              go_meet
              case rel => exact ⟨_, ((t284.toList != a0.toList)), (by first | rfl | (simp; done) | (simp [*]; done)), H', ⟨by first | omega | exact Nat.le_refl _⟩, ⟨by (with_reducible repeat (first | apply Kd.R_alloc | apply Kd.R_drewN | apply Kd.R_drew)); exact Kd.R_mono HO283.out (fun _ hk => trivial)⟩, ⟨by repeat (first | (with_reducible first | exact HB.out | apply below_alloc | apply pw_below_drewN | apply below_drew1) | exact HB.out)⟩⟩
            · rw [if_neg c25] at H
              have c25b0 : (t285 == 0) = false := beq_eq_false_iff_ne.mpr c25
              have c25b1 : (t285 != 0) = true := bne_iff_ne.mpr c25
              (first | rw [c25b0] | (simp only [i64_w, i32_w]; rw [c25b0]) | skip)
              have H' := Aside0.mk H
              clear H
              go_wp2
              go_meet
              case rel => exact ⟨_, (true), (by first | rfl | (simp; done) | (simp [*]; done)), H', ⟨by first | omega | exact Nat.le_refl _⟩, ⟨by (with_reducible repeat (first | apply Kd.R_alloc | apply Kd.R_drewN | apply Kd.R_drew)); exact Kd.R_mono HO283.out (fun _ hk => trivial)⟩, ⟨by repeat (first | (with_reducible first | exact HB.out | apply below_alloc | apply pw_below_drewN | apply below_drew1) | exact HB.out)⟩⟩
          case rest =>
            clear HC22
            try clear c1
            try clear c2
            try clear p2
            try clear c5
            try clear c6
            try clear c6b0
            try clear c6b1
            try clear c9
            try clear c10
            try clear c13
            try clear c20
            try clear c20b0
            try clear c20b1
            try clear c25
            try clear c25b0
            try clear c25b1
            obtain ⟨kq, x42_21, rfl, HA, HJ21, HO_5, HB⟩ := hcut
            cases kq with
            | zero => exact absurd HA.out (by simp [abacuslaw20_CharsBack.j0])
            | succ kj21 =>
              have H := HA.out
              clear HA
              simp only [abacuslaw20_CharsBack.j0] at H
              by_cases c26 : x42_21 = true
              · subst c26
                have H1 : (some false) = some true := by rw [if_pos rfl] at H; exact H
                clear H
                have H := H1
                clear H1
                exact absurd H (by simp)
              · replace c26 := Bool.eq_false_iff.mpr c26
                subst c26
                have H1 : (abacuslaw20_CharsBack.l0 kj21 a0 a1 t281 0) = some true := by rw [if_neg (show ¬ (false = true) by decide)] at H; exact H
                clear H
                have H := H1
                clear H1
                have H' := Aside0.mk H
                clear H
                go_wp2
                go_loopg [8] kj21 (fun kq v8 w' => ∃ (x8_2 : Int), v8 = .int .i64 x8_2 ∧ Aside0 (abacuslaw20_CharsBack.l0 kq a0 a1 t281 x8_2 = some true) ∧ Aside0 (kq ≤ kj21) ∧ Aside0 (Kd.R Kd.string 9 w' w.heap.size (fun _ => True) (.slice Ao23 t281.length co23) t281) ∧ Aside0 (Below w.heap.size w w'))
                case atStart => exact ⟨(0), (by first | rfl | (simp; done) | (simp [*]; done)), H', ⟨Nat.le_refl _⟩, ⟨by (with_reducible repeat (first | apply Kd.R_alloc | apply Kd.R_drewN | apply Kd.R_drew)); exact HO_5.out⟩, ⟨by repeat (first | (with_reducible first | exact HB.out | apply below_alloc | apply pw_below_drewN | apply below_drew1) | exact HB.out)⟩⟩
                case round =>
                  clear H'
                  try clear c1
                  try clear c2
                  try clear p2
                  try clear c5
                  try clear c6
                  try clear c6b0
                  try clear c6b1
                  try clear c9
                  try clear c10
                  try clear c13
                  try clear c20
                  try clear c20b0
                  try clear c20b1
                  try clear c25
                  try clear c25b0
                  try clear c25b1
                  try clear c26
                  try clear p2
                  obtain ⟨x8_2, rfl, HA, HK2, HO_5, HB⟩ := hrel
                  cases gk with
                  | zero => exact absurd HA.out (by simp [abacuslaw20_CharsBack.l0])
                  | succ k2 =>
                    have H := HA.out
                    clear HA
                    simp only [abacuslaw20_CharsBack.l0] at H
                    by_cases c27 : x8_2 < (t281.length : Int)
                    · rw [if_pos c27] at H
                      have c27b0 : decide (x8_2 < (t281.length : Int)) = true := decide_eq_true c27
                      clear c27
                      have HC28 := Aside0.mk H
                      clear H
                      go_upto_region 13 with (fail)
                      go_cut [59] (fun v59 wc => ∃ (kq : Nat) (x59_27 : Bool), v59 = .bool x59_27 ∧ Aside0 (abacuslaw20_CharsBack.j2 kq a0 a1 t281 x8_2 x59_27 = some true) ∧ Aside0 (kq ≤ k2) ∧ Aside0 (Kd.R Kd.string 9 wc w.heap.size (fun _ => True) (.slice Ao23 t281.length co23) t281) ∧ Aside0 (Below w.heap.size w wc))
                      case first =>
                        have H := HC28.out
                        clear HC28
                        by_cases c29 : a1.toList = ([] : List UInt8)
                        · rw [if_pos c29] at H
                          have c29b0 : (a1.toList == ([] : List UInt8)) = true := beq_iff_eq.mpr c29
                          have c29b1 : (a1.toList != ([] : List UInt8)) = false := bne_eq_false_iff_eq.mpr c29
                          clear c29
                          (first | rw [c29b0] | (simp only [i64_w, i32_w]; rw [c29b0]) | skip)
                          have H' := Aside0.mk H
                          clear H
                          go_wp2
                          go_meet
                          case rel => exact ⟨_, (false), (by first | rfl | (simp; done) | (simp [*]; done)), H', ⟨by have := HJ21.out; have := HK2.out; first | omega | exact Nat.le_refl _⟩, ⟨by (with_reducible repeat (first | apply Kd.R_alloc | apply Kd.R_drewN | apply Kd.R_drew)); exact HO_5.out⟩, ⟨by repeat (first | (with_reducible first | exact HB.out | apply below_alloc | apply pw_below_drewN | apply below_drew1) | exact HB.out)⟩⟩
                        · rw [if_neg c29] at H
                          have c29b0 : (a1.toList == ([] : List UInt8)) = false := beq_eq_false_iff_ne.mpr c29
                          have c29b1 : (a1.toList != ([] : List UInt8)) = true := bne_iff_ne.mpr c29
                          (first | rw [c29b0] | (simp only [i64_w, i32_w]; rw [c29b0]) | skip)
                          by_cases c30 : 0 ≤ x8_2
                          · rw [if_pos c30] at H
                            have c30b0 : decide (0 ≤ x8_2) = true := decide_eq_true c30
                            clear c30
                            replace H := Option.bind_eq_some_iff.mp H
                            obtain ⟨t287, A310, H⟩ := H
                            replace H : (abacuslaw20_CharsBack.j2 k2 a0 a1 t281 x8_2 (t287 != 0)) = some true := H
                            have A31 := Aside0.mk A310
                            clear A310
                            have H' := Aside0.mk H
                            clear H
                            have p286 : 0 ≤ (x8_2 : Int) := of_decide_eq_true (by first | (with_reducible assumption) | assumption)
                            have q286 : x8_2 < (t281.length : Int) := of_decide_eq_true (by first | (with_reducible assumption) | assumption)
                            obtain ⟨ad286, e286, hx286_0⟩ := Kd.at_string (Kd.R_reads' HO_5.out).2.2 x8_2 p286 q286
                            cases e286
                            replace p286 := eq_true p286
                            replace q286 := eq_true q286
                            go_wp2_with (first | (go_at_call 16; (with_reducible refine (chars_Index.calls (rdOf ByteArray.empty t281 x8_2) a1 t287 _ ?side1 A31.out).mono ?_); (case side1 => exact GW.below HG.out (by repeat (first | (with_reducible first | exact HB.out | apply below_alloc | apply pw_below_drewN | apply below_drew1) | exact HB.out))); rintro e w32 ⟨rfl, hb⟩; have n0_ := Aside0.mk (Kd.R_below (by (with_reducible repeat (first | apply Kd.R_alloc | apply Kd.R_drewN | apply Kd.R_drew)); exact HO_5.out) hb); have n1_ := Aside0.mk (below_step (by repeat (first | (with_reducible first | exact HB.out | apply below_alloc | apply pw_below_drewN | apply below_drew1) | exact HB.out)) hb); clear HO_5; clear HB; have HO_5 := n0_; have HB := n1_; clear n0_ n1_; (try clear hb); (try clear hb2); (try clear hk); (try clear hi)))
                            go_meet
                            case rel => exact ⟨_, ((t287 != 0)), (by first | rfl | (simp; done) | (simp [*]; done)), H', ⟨by have := HJ21.out; have := HK2.out; first | omega | exact Nat.le_refl _⟩, ⟨by (with_reducible repeat (first | apply Kd.R_alloc | apply Kd.R_drewN | apply Kd.R_drew)); exact HO_5.out⟩, ⟨by repeat (first | (with_reducible first | exact HB.out | apply below_alloc | apply pw_below_drewN | apply below_drew1) | exact HB.out)⟩⟩
                          · rw [if_neg c30] at H
                            exact absurd H (by simp)
                      case rest =>
                        clear HC28
                        try clear c1
                        try clear c2
                        try clear p2
                        try clear q2
                        try clear hx2
                        try clear c3
                        try clear c5
                        try clear c6
                        try clear c6b0
                        try clear c6b1
                        try clear c9
                        try clear c10
                        try clear c13
                        try clear c20
                        try clear c20b0
                        try clear c20b1
                        try clear c25
                        try clear c25b0
                        try clear c25b1
                        try clear c26
                        try clear c27
                        try clear c27b0
                        try clear p28
                        try clear q28
                        try clear hx28
                        try clear c29
                        try clear c29b0
                        try clear c29b1
                        try clear c30
                        try clear c30b0
                        try clear hx286_0
                        try clear p2
                        try clear p286
                        try clear q286
                        obtain ⟨kq, x59_27, rfl, HA, HJ27, HO_5, HB⟩ := hcut
                        cases kq with
                        | zero => exact absurd HA.out (by simp [abacuslaw20_CharsBack.j2])
                        | succ kj27 =>
                          have H := HA.out
                          clear HA
                          simp only [abacuslaw20_CharsBack.j2] at H
                          by_cases c33 : x59_27 = true
                          · subst c33
                            have H1 : (some false) = some true := by rw [if_pos rfl] at H; exact H
                            clear H
                            have H := H1
                            clear H1
                            exact absurd H (by simp)
                          · replace c33 := Bool.eq_false_iff.mpr c33
                            subst c33
                            have H1 : (if a1.toList = ([] : List UInt8) then (if 0 ≤ x8_2 then (if x8_2 < (t281.length : Int) then (if ((rdOf ByteArray.empty t281 x8_2).size : Int) = 1 then (abacuslaw20_CharsBack.l0 kj27 a0 a1 t281 (wrap64 (x8_2 + 1))) else (some false)) else (none)) else (none)) else (abacuslaw20_CharsBack.l0 kj27 a0 a1 t281 (wrap64 (x8_2 + 1)))) = some true := by rw [if_neg (show ¬ (false = true) by decide)] at H; exact H
                            clear H
                            have H := H1
                            clear H1
                            by_cases c34 : a1.toList = ([] : List UInt8)
                            · rw [if_pos c34] at H
                              have c34b0 : (a1.toList == ([] : List UInt8)) = true := beq_iff_eq.mpr c34
                              have c34b1 : (a1.toList != ([] : List UInt8)) = false := bne_eq_false_iff_eq.mpr c34
                              clear c34
                              by_cases c35 : 0 ≤ x8_2
                              · rw [if_pos c35] at H
                                have c35b0 : decide (0 ≤ x8_2) = true := decide_eq_true c35
                                clear c35
                                by_cases c36 : x8_2 < (t281.length : Int)
                                · rw [if_pos c36] at H
                                  have c36b0 : decide (x8_2 < (t281.length : Int)) = true := decide_eq_true c36
                                  clear c36
                                  by_cases c37 : ((rdOf ByteArray.empty t281 x8_2).size : Int) = 1
                                  · rw [if_pos c37] at H
                                    have c37b0 : (((rdOf ByteArray.empty t281 x8_2).size : Int) == 1) = true := beq_iff_eq.mpr c37
                                    have c37b1 : (((rdOf ByteArray.empty t281 x8_2).size : Int) != 1) = false := bne_eq_false_iff_eq.mpr c37
                                    clear c37
                                    have H' := Aside0.mk H
                                    clear H
                                    have p288 : 0 ≤ (x8_2 : Int) := of_decide_eq_true (by first | (with_reducible assumption) | assumption)
                                    have q288 : x8_2 < (t281.length : Int) := of_decide_eq_true (by first | (with_reducible assumption) | assumption)
                                    obtain ⟨ad288, e288, hx288_0⟩ := Kd.at_string (Kd.R_reads' HO_5.out).2.2 x8_2 p288 q288
                                    cases e288
                                    replace p288 := eq_true p288
                                    replace q288 := eq_true q288
                                    go_wp2
                                    go_roundg kj27
                                    case measure => have := HJ21.out; have := HK2.out; have := HJ27.out; omega
                                    case rel => exact ⟨(wrap64 (x8_2 + 1)), (by first | rfl | (simp; done) | (simp [*]; done)), H', ⟨by have := HJ21.out; have := HK2.out; have := HJ27.out; omega⟩, ⟨by (with_reducible repeat (first | apply Kd.R_alloc | apply Kd.R_drewN | apply Kd.R_drew)); exact HO_5.out⟩, ⟨by repeat (first | (with_reducible first | exact HB.out | apply below_alloc | apply pw_below_drewN | apply below_drew1) | exact HB.out)⟩⟩
                                  · rw [if_neg c37] at H
                                    have c37b0 : (((rdOf ByteArray.empty t281 x8_2).size : Int) == 1) = false := beq_eq_false_iff_ne.mpr c37
                                    have c37b1 : (((rdOf ByteArray.empty t281 x8_2).size : Int) != 1) = true := bne_iff_ne.mpr c37
                                    exact absurd H (by simp)
                                · rw [if_neg c36] at H
                                  exact absurd H (by simp)
                              · rw [if_neg c35] at H
                                exact absurd H (by simp)
                            · rw [if_neg c34] at H
                              have c34b0 : (a1.toList == ([] : List UInt8)) = false := beq_eq_false_iff_ne.mpr c34
                              have c34b1 : (a1.toList != ([] : List UInt8)) = true := bne_iff_ne.mpr c34
                              have H' := Aside0.mk H
                              clear H
                              go_wp2
                              go_roundg kj27
                              case measure => have := HJ21.out; have := HK2.out; have := HJ27.out; omega
                              case rel => exact ⟨(wrap64 (x8_2 + 1)), (by first | rfl | (simp; done) | (simp [*]; done)), H', ⟨by have := HJ21.out; have := HK2.out; have := HJ27.out; omega⟩, ⟨by (with_reducible repeat (first | apply Kd.R_alloc | apply Kd.R_drewN | apply Kd.R_drew)); exact HO_5.out⟩, ⟨by repeat (first | (with_reducible first | exact HB.out | apply below_alloc | apply pw_below_drewN | apply below_drew1) | exact HB.out)⟩⟩
                    · rw [if_neg c27] at H
                      have c27b0 : decide (x8_2 < (t281.length : Int)) = false := decide_eq_false c27
                      clear c27
                      have H' := Aside0.mk H
                      clear H
                      go_wp2
                      go_meet
                      case rel => exact ⟨_, H', ⟨by have := HJ21.out; have := HK2.out; first | omega | exact Nat.le_refl _⟩, ⟨by repeat (first | (with_reducible first | exact HB.out | apply below_alloc | apply pw_below_drewN | apply below_drew1) | exact HB.out)⟩⟩
      case rest =>
        clear HC13
        try clear c1
        try clear c2
        try clear p2
        try clear q2
        try clear hx2
        try clear c3
        try clear c5
        try clear c6
        try clear c6b0
        try clear c6b1
        try clear p6
        try clear c9
        try clear c10
        try clear c13
        try clear c20
        try clear c20b0
        try clear c20b1
        try clear c25
        try clear c25b0
        try clear c25b1
        try clear c26
        try clear c27
        try clear c27b0
        try clear p28
        try clear q28
        try clear hx28
        try clear c29
        try clear c29b0
        try clear c29b1
        try clear c30
        try clear c30b0
        try clear c33
        try clear c34
        try clear c34b0
        try clear c34b1
        try clear c35
        try clear c35b0
        try clear c36
        try clear c36b0
        try clear c37
        try clear c37b0
        try clear c37b1
        try clear hx286_0
        try clear hx288_0
        try clear p2
        try clear p28
        try clear p286
        try clear p288
        try clear q2
        try clear q28
        try clear q286
        try clear q288
        obtain ⟨kq, HA, HJ12, HB⟩ := hcut
        cases kq with
        | zero => exact absurd HA.out (by simp [abacuslaw20_CharsBack.j3])
        | succ kj12 =>
          have H := HA.out
          clear HA
          simp only [abacuslaw20_CharsBack.j3] at H
          replace H := Option.bind_eq_some_iff.mp H
          obtain ⟨t289, A380, H⟩ := H
          replace H : (abacuslaw20_CharsBack.l1 kj12 a0 t289 ([] : List Int) 0) = some true := H
          have A38 := Aside0.mk A380
          clear A380
          have H' := Aside0.mk H
          clear H
          go_wp2_with (first | ((with_reducible refine gate_callee (f := 10) rfl ?_); refine goesL_ (some 71) rfl rfl Tryd.func10 (by kernel_rfl) rfl #[.string a0, .string (⟨#[32]⟩ : ByteArray)] rfl (by (try simp only [List.map_toArray, List.map_cons, List.map_nil]); first | done | rfl | (simp only [List.length_drop, List.length_take]; rfl)) ?_; (with_reducible refine (chars_Split.calls kj12 a0 (⟨#[32]⟩ : ByteArray) t289 _ ?side1 A38.out).mono ?_); (case side1 => exact GW.below HG.out (by repeat (first | (with_reducible first | exact HB.out | apply below_alloc | apply pw_below_drewN | apply below_drew1) | exact HB.out))); rintro e w39 ⟨v290, rfl, ho0, hb⟩; refine ⟨_, rfl, ?_⟩; have n0_ := Aside0.mk (Kd.R_lower ho0 (below_size (by repeat (first | (with_reducible first | exact HB.out | apply below_alloc | apply pw_below_drewN | apply below_drew1) | exact HB.out)))); have n1_ := Aside0.mk (below_step (by repeat (first | (with_reducible first | exact HB.out | apply below_alloc | apply pw_below_drewN | apply below_drew1) | exact HB.out)) hb); clear HB; have HO291 := n0_; have HB := n1_; clear n0_ n1_; (try clear hb); (try clear hb2); (try clear hk); (try clear hi); (try clear ho0)))
          go_loopg [10, 11] kj12 (fun kq v10 v11 w' => ∃ (x10_2 : List Int) (x11_2 : Int), v11 = .int .i64 x11_2 ∧ Aside0 (abacuslaw20_CharsBack.l1 kq a0 t289 x10_2 x11_2 = some true) ∧ Aside0 (kq ≤ kj12) ∧ Aside0 (Kd.R Kd.string 9 w' w.heap.size (fun _ => True) v290 t289) ∧ Aside0 (Kd.R (Kd.int .u8) 5 w' w.heap.size (fun _ => True) v10 x10_2) ∧ Aside0 (Below w.heap.size w w'))
          case atStart => exact ⟨(([] : List Int)), (0), (by first | rfl | (simp; done) | (simp [*]; done)), H', ⟨Nat.le_refl _⟩, ⟨by (with_reducible repeat (first | apply Kd.R_alloc | apply Kd.R_drewN | apply Kd.R_drew)); exact HO291.out⟩, ⟨by first | exact Kd.R_nil _ _ _ _ _ | exact Kd.N_nil _ _ _ _ _ | exact Kd.V_nil _ _ _ _ _ | exact Kd.Q_nil _ _ _ _ _ | exact Kd.S_nil _ _ _ _ _⟩, ⟨by repeat (first | (with_reducible first | exact HB.out | apply below_alloc | apply pw_below_drewN | apply below_drew1) | exact HB.out)⟩⟩
          case round =>
            clear H'
            try clear c1
            try clear c2
            try clear p2
            try clear q2
            try clear hx2
            try clear c3
            try clear c5
            try clear c6
            try clear c6b0
            try clear c6b1
            try clear p6
            try clear c9
            try clear c10
            try clear c13
            try clear c20
            try clear c20b0
            try clear c20b1
            try clear c25
            try clear c25b0
            try clear c25b1
            try clear c26
            try clear c27
            try clear c27b0
            try clear p28
            try clear q28
            try clear hx28
            try clear c29
            try clear c29b0
            try clear c29b1
            try clear c30
            try clear c30b0
            try clear c33
            try clear c34
            try clear c34b0
            try clear c34b1
            try clear c35
            try clear c35b0
            try clear c36
            try clear c36b0
            try clear c37
            try clear c37b0
            try clear c37b1
            try clear hx286_0
            try clear hx288_0
            try clear p2
            try clear p28
            try clear p286
            try clear p288
            try clear p6
            try clear q2
            try clear q28
            try clear q286
            try clear q288
            obtain ⟨x10_2, x11_2, rfl, HA, HK2, HO_9, HO_10, HB⟩ := hrel
            cases gk with
            | zero => exact absurd HA.out (by simp [abacuslaw20_CharsBack.l1])
            | succ k2 =>
              have H := HA.out
              clear HA
              simp only [abacuslaw20_CharsBack.l1] at H
              by_cases c40 : x11_2 < (a0.size : Int)
              · rw [if_pos c40] at H
                have c40b0 : decide (x11_2 < (a0.size : Int)) = true := decide_eq_true c40
                clear c40
                by_cases c41 : 0 ≤ x11_2
                · rw [if_pos c41] at H
                  have c41b0 : decide (0 ≤ x11_2) = true := decide_eq_true c41
                  clear c41
                  replace H := Option.bind_eq_some_iff.mp H
                  obtain ⟨t292, A430, H⟩ := H
                  replace H : (if t292 = true then (abacuslaw20_CharsBack.l1 k2 a0 t289 x10_2 (wrap64 (x11_2 + 1))) else (if x10_2.length < 140737488355328 then (abacuslaw20_CharsBack.l1 k2 a0 t289 (x10_2 ++ [bt a0 x11_2]) (wrap64 (x11_2 + 1))) else (none))) = some true := H
                  have A43 := Aside0.mk A430
                  clear A430
                  by_cases c44 : t292 = true
                  · subst c44
                    have H1 : (abacuslaw20_CharsBack.l1 k2 a0 t289 x10_2 (wrap64 (x11_2 + 1))) = some true := by rw [if_pos rfl] at H; exact H
                    clear H
                    have H := H1
                    clear H1
                    have H' := Aside0.mk H
                    clear H
                    have p42 : 0 ≤ (x11_2 : Int) := of_decide_eq_true (by first | (with_reducible assumption) | assumption)
                    have q42 : x11_2 < (a0.size : Int) := of_decide_eq_true (by first | (with_reducible assumption) | assumption)
                    have hx42 := bt_at a0 x11_2
                    replace p42 := eq_true p42
                    replace q42 := eq_true q42
                    go_wp2_with (first | ((with_reducible refine gate_callee (f := 17) rfl ?_); refine goesL_ (some 81) rfl rfl Tryd.func17 (by kernel_rfl) rfl #[.int .u8 (bt a0 x11_2)] rfl (by (try simp only [List.map_toArray, List.map_cons, List.map_nil]); first | done | rfl | (simp only [List.length_drop, List.length_take]; rfl)) ?_; (with_reducible refine (abacuslaw20_blank.calls (bt a0 x11_2) true _ A43.out).mono ?_); rintro e w' ⟨rfl, ⟨nd, rfl⟩⟩; refine ⟨_, rfl, ?_⟩))
                    go_roundg k2
                    case measure => have := HJ12.out; have := HK2.out; omega
                    case rel => exact ⟨(x10_2), (wrap64 (x11_2 + 1)), (by first | rfl | (simp; done) | (simp [*]; done)), H', ⟨by have := HJ12.out; have := HK2.out; omega⟩, ⟨by (with_reducible repeat (first | apply Kd.R_alloc | apply Kd.R_drewN | apply Kd.R_drew)); exact HO_9.out⟩, ⟨by (with_reducible repeat (first | apply Kd.R_alloc | apply Kd.R_drewN | apply Kd.R_drew)); exact HO_10.out⟩, ⟨by repeat (first | (with_reducible first | exact HB.out | apply below_alloc | apply pw_below_drewN | apply below_drew1) | exact HB.out)⟩⟩
                  · replace c44 := Bool.eq_false_iff.mpr c44
                    subst c44
                    have H1 : (if x10_2.length < 140737488355328 then (abacuslaw20_CharsBack.l1 k2 a0 t289 (x10_2 ++ [bt a0 x11_2]) (wrap64 (x11_2 + 1))) else (none)) = some true := by rw [if_neg (show ¬ (false = true) by decide)] at H; exact H
                    clear H
                    have H := H1
                    clear H1
                    by_cases c46 : x10_2.length < 140737488355328
                    · rw [if_pos c46] at H
                      have LMc46 := Aside0.mk c46
                      clear c46
                      obtain ⟨y293, hy293⟩ : ∃ y_ : List Int, y_ = (x10_2 ++ [bt a0 x11_2]) := ⟨_, rfl⟩
                      replace H : (abacuslaw20_CharsBack.l1 k2 a0 t289 y293 (wrap64 (x11_2 + 1))) = some true := by first | (rw [hy293]; with_reducible exact H) | (have H2_ := (Option.bind_some _ _).symm.trans H; rw [hy293]; with_reducible exact H2_) | (have H2_ := (Option.bind_some _ _).symm.trans H; with_reducible exact H2_) | with_reducible exact H | (rw [hy293]; exact H) | exact H
                      have Ny293 := Aside0.mk hy293
                      clear hy293
                      have H' := Aside0.mk H
                      clear H
                      have p42 : 0 ≤ (x11_2 : Int) := of_decide_eq_true (by first | (with_reducible assumption) | assumption)
                      have q42 : x11_2 < (a0.size : Int) := of_decide_eq_true (by first | (with_reducible assumption) | assumption)
                      have hx42 := bt_at a0 x11_2
                      replace p42 := eq_true p42
                      replace q42 := eq_true q42
                      go_wp2_with (first | ((with_reducible refine gate_callee (f := 17) rfl ?_); refine goesL_ (some 81) rfl rfl Tryd.func17 (by kernel_rfl) rfl #[.int .u8 (bt a0 x11_2)] rfl (by (try simp only [List.map_toArray, List.map_cons, List.map_nil]); first | done | rfl | (simp only [List.length_drop, List.length_take]; rfl)) ?_; (with_reducible refine (abacuslaw20_blank.calls (bt a0 x11_2) false _ A43.out).mono ?_); rintro e w' ⟨rfl, ⟨nd, rfl⟩⟩; refine ⟨_, rfl, ?_⟩; have p45 : 0 ≤ (x11_2 : Int) := of_decide_eq_true (by first | (with_reducible assumption) | assumption); have q45 : x11_2 < (a0.size : Int) := of_decide_eq_true (by first | (with_reducible assumption) | assumption); have hx45 := bt_at a0 x11_2; replace p45 := eq_true p45; replace q45 := eq_true q45) | ((with_reducible refine gate_builtin (b := .append) (xs := #[.tmp 83, .tmp 87]) rfl ?_); (try (refine gate_guard (by rfl) ?_; dsimp only)); at_builtin; refine Kd.R_append (Kd.int .u8) (w0 := w) w.heap.size rfl (.tmp 83) (.tmp 87) 38 5 (.int .u8 0) 1 rfl Tryd.underlying38 info5 rfl (by decide) (by omega) u10 x10_2 (bt a0 x11_2) [.int .u8 (bt a0 x11_2)] (fun _ => True) (fun _ => False) rfl rfl ?aP (fun _ hk => hk.elim) ?aF ?aO ?aB ?aS ?aL ?_; (case aP => exact rfl); (case aB => exact (by repeat (first | (with_reducible first | exact HB.out | apply below_alloc | apply pw_below_drewN | apply below_drew1) | exact HB.out))); (case aF => exact (fun _ _ => trivial)); (case aO => exact (by (with_reducible repeat (first | apply Kd.R_alloc | apply Kd.R_drewN | apply Kd.R_drew)); exact HO_10.out)); (case aS => exact (below_size (by repeat (first | (with_reducible first | exact HB.out | apply below_alloc | apply pw_below_drewN | apply below_drew1) | exact HB.out)))); (case aL => have := LMc46.out; omega); intro v294 w47 ho hb hg hat; rw [← Ny293.out] at ho; have n0_ := Aside0.mk (Kd.R_over' (by (with_reducible repeat (first | apply Kd.R_alloc | apply Kd.R_drewN | apply Kd.R_drew)); exact HO_9.out) (Kd.R_typed (by (with_reducible repeat (first | apply Kd.R_alloc | apply Kd.R_drewN | apply Kd.R_drew)); exact HO_10.out)) (by decide) hg); have n1_ := Aside0.mk (hb); have n2_ := Aside0.mk (ho); clear HO_9; clear HB; clear HO_10; have HO_9 := n0_; have HB := n1_; have HO295 := n2_; clear n0_ n1_ n2_; clear ho hb hg hat))
                      go_roundg k2
                      case measure => have := HJ12.out; have := HK2.out; omega
                      case rel => exact ⟨(y293), (wrap64 (x11_2 + 1)), (by first | rfl | (simp; done) | (simp [*]; done)), H', ⟨by have := HJ12.out; have := HK2.out; omega⟩, ⟨by (with_reducible repeat (first | apply Kd.R_alloc | apply Kd.R_drewN | apply Kd.R_drew)); exact HO_9.out⟩, ⟨by (with_reducible repeat (first | apply Kd.R_alloc | apply Kd.R_drewN | apply Kd.R_drew)); exact HO295.out⟩, ⟨by repeat (first | (with_reducible first | exact HB.out | apply below_alloc | apply pw_below_drewN | apply below_drew1) | exact HB.out)⟩⟩
                    · rw [if_neg c46] at H
                      exact absurd H (by simp)
                · rw [if_neg c41] at H
                  exact absurd H (by simp)
              · rw [if_neg c40] at H
                have c40b0 : decide (x11_2 < (a0.size : Int)) = false := decide_eq_false c40
                clear c40
                have H' := Aside0.mk H
                clear H
                go_wp2
                go_loopg [12, 13] k2 (fun kq v12 v13 w' => ∃ (x12_3 : Int) (x13_3 : Int), v12 = .int .i64 x12_3 ∧ v13 = .int .i64 x13_3 ∧ Aside0 (abacuslaw20_CharsBack.l2 kq a0 t289 x10_2 x12_3 x13_3 = some true) ∧ Aside0 (kq ≤ k2) ∧ Aside0 (Kd.R Kd.string 9 w' w.heap.size (fun _ => True) v290 t289) ∧ Aside0 (Kd.R (Kd.int .u8) 5 w' w.heap.size (fun _ => True) u10 x10_2) ∧ Aside0 (Below w.heap.size w w'))
                case atStart => exact ⟨(0), (0), (by first | rfl | (simp; done) | (simp [*]; done)), (by first | rfl | (simp; done) | (simp [*]; done)), H', ⟨Nat.le_refl _⟩, ⟨by (with_reducible repeat (first | apply Kd.R_alloc | apply Kd.R_drewN | apply Kd.R_drew)); exact HO_9.out⟩, ⟨by (with_reducible repeat (first | apply Kd.R_alloc | apply Kd.R_drewN | apply Kd.R_drew)); exact HO_10.out⟩, ⟨by repeat (first | (with_reducible first | exact HB.out | apply below_alloc | apply pw_below_drewN | apply below_drew1) | exact HB.out)⟩⟩
                case round =>
                  clear H'
                  try clear c1
                  try clear c2
                  try clear p2
                  try clear q2
                  try clear hx2
                  try clear c3
                  try clear c4
                  try clear p4
                  try clear q4
                  try clear hx4
                  try clear c5
                  try clear c6
                  try clear c6b0
                  try clear c6b1
                  try clear p6
                  try clear c9
                  try clear c10
                  try clear c13
                  try clear c17
                  try clear c20
                  try clear c20b0
                  try clear c20b1
                  try clear c25
                  try clear c25b0
                  try clear c25b1
                  try clear c26
                  try clear c27
                  try clear c27b0
                  try clear p28
                  try clear q28
                  try clear hx28
                  try clear c29
                  try clear c29b0
                  try clear c29b1
                  try clear c30
                  try clear c30b0
                  try clear c33
                  try clear c34
                  try clear c34b0
                  try clear c34b1
                  try clear c35
                  try clear c35b0
                  try clear c36
                  try clear c36b0
                  try clear c37
                  try clear c37b0
                  try clear c37b1
                  try clear c40
                  try clear c40b0
                  try clear c41
                  try clear c41b0
                  try clear p42
                  try clear q42
                  try clear hx42
                  try clear c44
                  try clear p45
                  try clear q45
                  try clear hx45
                  try clear c46
                  try clear hx286_0
                  try clear hx288_0
                  try clear p2
                  try clear p28
                  try clear p286
                  try clear p288
                  try clear p42
                  try clear p45
                  try clear p6
                  try clear q2
                  try clear q28
                  try clear q286
                  try clear q288
                  try clear q42
                  try clear q45
                  obtain ⟨x12_3, x13_3, rfl, rfl, HA, HK3, HO_9, HO_10, HB⟩ := hrel
                  cases gk with
                  | zero => exact absurd HA.out (by simp [abacuslaw20_CharsBack.l2])
                  | succ k3 =>
                    have H := HA.out
                    clear HA
                    simp only [abacuslaw20_CharsBack.l2] at H
                    by_cases c48 : x13_3 < (a0.size : Int)
                    · rw [if_pos c48] at H
                      have c48b0 : decide (x13_3 < (a0.size : Int)) = true := decide_eq_true c48
                      clear c48
                      by_cases c49 : 0 ≤ x13_3
                      · rw [if_pos c49] at H
                        have c49b0 : decide (0 ≤ x13_3) = true := decide_eq_true c49
                        clear c49
                        replace H := Option.bind_eq_some_iff.mp H
                        obtain ⟨t296, A510, H⟩ := H
                        replace H : (if t296 = true then (abacuslaw20_CharsBack.l2 k3 a0 t289 x10_2 x12_3 (wrap64 (x13_3 + 1))) else (if x13_3 = 0 then (abacuslaw20_CharsBack.l2 k3 a0 t289 x10_2 (wrap64 (x12_3 + 1)) (wrap64 (x13_3 + 1))) else (if 0 ≤ (wrap64 (x13_3 - 1)) then (if (wrap64 (x13_3 - 1)) < (a0.size : Int) then ((abacuslaw20_blank.f (bt a0 (wrap64 (x13_3 - 1)))).bind fun t297 => (if t297 = true then (abacuslaw20_CharsBack.l2 k3 a0 t289 x10_2 (wrap64 (x12_3 + 1)) (wrap64 (x13_3 + 1))) else (abacuslaw20_CharsBack.l2 k3 a0 t289 x10_2 x12_3 (wrap64 (x13_3 + 1))))) else (none)) else (none)))) = some true := H
                        have A51 := Aside0.mk A510
                        clear A510
                        by_cases c52 : t296 = true
                        · subst c52
                          have H1 : (abacuslaw20_CharsBack.l2 k3 a0 t289 x10_2 x12_3 (wrap64 (x13_3 + 1))) = some true := by rw [if_pos rfl] at H; exact H
                          clear H
                          have H := H1
                          clear H1
                          have H' := Aside0.mk H
                          clear H
                          have p50 : 0 ≤ (x13_3 : Int) := of_decide_eq_true (by first | (with_reducible assumption) | assumption)
                          have q50 : x13_3 < (a0.size : Int) := of_decide_eq_true (by first | (with_reducible assumption) | assumption)
                          have hx50 := bt_at a0 x13_3
                          replace p50 := eq_true p50
                          replace q50 := eq_true q50
                          go_wp2_with (first | ((with_reducible refine gate_callee (f := 17) rfl ?_); refine goesL_ (some 98) rfl rfl Tryd.func17 (by kernel_rfl) rfl #[.int .u8 (bt a0 x13_3)] rfl (by (try simp only [List.map_toArray, List.map_cons, List.map_nil]); first | done | rfl | (simp only [List.length_drop, List.length_take]; rfl)) ?_; (with_reducible refine (abacuslaw20_blank.calls (bt a0 x13_3) true _ A51.out).mono ?_); rintro e w' ⟨rfl, ⟨nd, rfl⟩⟩; refine ⟨_, rfl, ?_⟩))
                          go_roundg k3
                          case measure => have := HJ12.out; have := HK2.out; have := HK3.out; omega
                          case rel => exact ⟨(x12_3), (wrap64 (x13_3 + 1)), (by first | rfl | (simp; done) | (simp [*]; done)), (by first | rfl | (simp; done) | (simp [*]; done)), H', ⟨by have := HJ12.out; have := HK2.out; have := HK3.out; omega⟩, ⟨by (with_reducible repeat (first | apply Kd.R_alloc | apply Kd.R_drewN | apply Kd.R_drew)); exact HO_9.out⟩, ⟨by (with_reducible repeat (first | apply Kd.R_alloc | apply Kd.R_drewN | apply Kd.R_drew)); exact HO_10.out⟩, ⟨by repeat (first | (with_reducible first | exact HB.out | apply below_alloc | apply pw_below_drewN | apply below_drew1) | exact HB.out)⟩⟩
                        · replace c52 := Bool.eq_false_iff.mpr c52
                          subst c52
                          have H1 : (if x13_3 = 0 then (abacuslaw20_CharsBack.l2 k3 a0 t289 x10_2 (wrap64 (x12_3 + 1)) (wrap64 (x13_3 + 1))) else (if 0 ≤ (wrap64 (x13_3 - 1)) then (if (wrap64 (x13_3 - 1)) < (a0.size : Int) then ((abacuslaw20_blank.f (bt a0 (wrap64 (x13_3 - 1)))).bind fun t297 => (if t297 = true then (abacuslaw20_CharsBack.l2 k3 a0 t289 x10_2 (wrap64 (x12_3 + 1)) (wrap64 (x13_3 + 1))) else (abacuslaw20_CharsBack.l2 k3 a0 t289 x10_2 x12_3 (wrap64 (x13_3 + 1))))) else (none)) else (none))) = some true := by rw [if_neg (show ¬ (false = true) by decide)] at H; exact H
                          clear H
                          have H := H1
                          clear H1
                          by_cases c53 : x13_3 = 0
                          · rw [if_pos c53] at H
                            have c53b0 : (x13_3 == 0) = true := beq_iff_eq.mpr c53
                            have c53b1 : (x13_3 != 0) = false := bne_eq_false_iff_eq.mpr c53
                            clear c53
                            have H' := Aside0.mk H
                            clear H
                            have p50 : 0 ≤ (x13_3 : Int) := of_decide_eq_true (by first | (with_reducible assumption) | assumption)
                            have q50 : x13_3 < (a0.size : Int) := of_decide_eq_true (by first | (with_reducible assumption) | assumption)
                            have hx50 := bt_at a0 x13_3
                            replace p50 := eq_true p50
                            replace q50 := eq_true q50
                            go_wp2_with (first | ((with_reducible refine gate_callee (f := 17) rfl ?_); refine goesL_ (some 98) rfl rfl Tryd.func17 (by kernel_rfl) rfl #[.int .u8 (bt a0 x13_3)] rfl (by (try simp only [List.map_toArray, List.map_cons, List.map_nil]); first | done | rfl | (simp only [List.length_drop, List.length_take]; rfl)) ?_; (with_reducible refine (abacuslaw20_blank.calls (bt a0 x13_3) false _ A51.out).mono ?_); rintro e w' ⟨rfl, ⟨nd, rfl⟩⟩; refine ⟨_, rfl, ?_⟩))
                            go_roundg k3
                            case measure => have := HJ12.out; have := HK2.out; have := HK3.out; omega
                            case rel => exact ⟨(wrap64 (x12_3 + 1)), (wrap64 (x13_3 + 1)), (by first | rfl | (simp; done) | (simp [*]; done)), (by first | rfl | (simp; done) | (simp [*]; done)), H', ⟨by have := HJ12.out; have := HK2.out; have := HK3.out; omega⟩, ⟨by (with_reducible repeat (first | apply Kd.R_alloc | apply Kd.R_drewN | apply Kd.R_drew)); exact HO_9.out⟩, ⟨by (with_reducible repeat (first | apply Kd.R_alloc | apply Kd.R_drewN | apply Kd.R_drew)); exact HO_10.out⟩, ⟨by repeat (first | (with_reducible first | exact HB.out | apply below_alloc | apply pw_below_drewN | apply below_drew1) | exact HB.out)⟩⟩
                          · rw [if_neg c53] at H
                            have c53b0 : (x13_3 == 0) = false := beq_eq_false_iff_ne.mpr c53
                            have c53b1 : (x13_3 != 0) = true := bne_iff_ne.mpr c53
                            obtain ⟨ji54, hji54⟩ : ∃ j_ : Int, (wrap64 (x13_3 - 1)) = j_ := ⟨_, rfl⟩
                            replace H : (if 0 ≤ (ji54) then (if (ji54) < (a0.size : Int) then ((abacuslaw20_blank.f (bt a0 (ji54))).bind fun t297 => (if t297 = true then (abacuslaw20_CharsBack.l2 k3 a0 t289 x10_2 (wrap64 (x12_3 + 1)) (wrap64 (x13_3 + 1))) else (abacuslaw20_CharsBack.l2 k3 a0 t289 x10_2 x12_3 (wrap64 (x13_3 + 1))))) else (none)) else (none)) = some true := by first | (rw [hji54] at H; exact H) | (simp only [hji54] at H ⊢; exact H)
                            (try rw [hji54] at A51)
                            have hji54w : (IntKind.i64.wrap (x13_3 - 1)) = ji54 := (i64_w _).trans hji54
                            by_cases c55 : 0 ≤ (ji54)
                            · rw [if_pos c55] at H
                              have c55b0 : decide (0 ≤ (ji54)) = true := decide_eq_true c55
                              clear c55
                              by_cases c56 : (ji54) < (a0.size : Int)
                              · rw [if_pos c56] at H
                                have c56b0 : decide ((ji54) < (a0.size : Int)) = true := decide_eq_true c56
                                clear c56
                                replace H := Option.bind_eq_some_iff.mp H
                                obtain ⟨t297, A580, H⟩ := H
                                replace H : (if t297 = true then (abacuslaw20_CharsBack.l2 k3 a0 t289 x10_2 (wrap64 (x12_3 + 1)) (wrap64 (x13_3 + 1))) else (abacuslaw20_CharsBack.l2 k3 a0 t289 x10_2 x12_3 (wrap64 (x13_3 + 1)))) = some true := H
                                have A58 := Aside0.mk A580
                                clear A580
                                by_cases c59 : t297 = true
                                · subst c59
                                  have H1 : (abacuslaw20_CharsBack.l2 k3 a0 t289 x10_2 (wrap64 (x12_3 + 1)) (wrap64 (x13_3 + 1))) = some true := by rw [if_pos rfl] at H; exact H
                                  clear H
                                  have H := H1
                                  clear H1
                                  have H' := Aside0.mk H
                                  clear H
                                  have p50 : 0 ≤ (x13_3 : Int) := of_decide_eq_true (by first | (with_reducible assumption) | assumption)
                                  have q50 : x13_3 < (a0.size : Int) := of_decide_eq_true (by first | (with_reducible assumption) | assumption)
                                  have hx50 := bt_at a0 x13_3
                                  replace p50 := eq_true p50
                                  replace q50 := eq_true q50
                                  go_wp2_with (first | ((with_reducible refine gate_callee (f := 17) rfl ?_); refine goesL_ (some 98) rfl rfl Tryd.func17 (by kernel_rfl) rfl #[.int .u8 (bt a0 x13_3)] rfl (by (try simp only [List.map_toArray, List.map_cons, List.map_nil]); first | done | rfl | (simp only [List.length_drop, List.length_take]; rfl)) ?_; (with_reducible refine (abacuslaw20_blank.calls (bt a0 x13_3) false _ A51.out).mono ?_); rintro e w' ⟨rfl, ⟨nd, rfl⟩⟩; refine ⟨_, rfl, ?_⟩; have p57 : 0 ≤ ((ji54) : Int) := of_decide_eq_true (by first | (with_reducible assumption) | assumption); have q57 : (ji54) < (a0.size : Int) := of_decide_eq_true (by first | (with_reducible assumption) | assumption); have hx57 := bt_at a0 (ji54); replace p57 := eq_true p57; replace q57 := eq_true q57) | (go_at_call 17; (with_reducible refine (abacuslaw20_blank.calls (bt a0 (ji54)) true _ A58.out).mono ?_); rintro e w' ⟨rfl, ⟨nd, rfl⟩⟩))
                                  go_roundg k3
                                  case measure => have := HJ12.out; have := HK2.out; have := HK3.out; omega
                                  case rel => exact ⟨(wrap64 (x12_3 + 1)), (wrap64 (x13_3 + 1)), (by first | rfl | (simp; done) | (simp [*]; done)), (by first | rfl | (simp; done) | (simp [*]; done)), H', ⟨by have := HJ12.out; have := HK2.out; have := HK3.out; omega⟩, ⟨by (with_reducible repeat (first | apply Kd.R_alloc | apply Kd.R_drewN | apply Kd.R_drew)); exact HO_9.out⟩, ⟨by (with_reducible repeat (first | apply Kd.R_alloc | apply Kd.R_drewN | apply Kd.R_drew)); exact HO_10.out⟩, ⟨by repeat (first | (with_reducible first | exact HB.out | apply below_alloc | apply pw_below_drewN | apply below_drew1) | exact HB.out)⟩⟩
                                · replace c59 := Bool.eq_false_iff.mpr c59
                                  subst c59
                                  have H1 : (abacuslaw20_CharsBack.l2 k3 a0 t289 x10_2 x12_3 (wrap64 (x13_3 + 1))) = some true := by rw [if_neg (show ¬ (false = true) by decide)] at H; exact H
                                  clear H
                                  have H := H1
                                  clear H1
                                  have H' := Aside0.mk H
                                  clear H
                                  have p50 : 0 ≤ (x13_3 : Int) := of_decide_eq_true (by first | (with_reducible assumption) | assumption)
                                  have q50 : x13_3 < (a0.size : Int) := of_decide_eq_true (by first | (with_reducible assumption) | assumption)
                                  have hx50 := bt_at a0 x13_3
                                  replace p50 := eq_true p50
                                  replace q50 := eq_true q50
                                  go_wp2_with (first | ((with_reducible refine gate_callee (f := 17) rfl ?_); refine goesL_ (some 98) rfl rfl Tryd.func17 (by kernel_rfl) rfl #[.int .u8 (bt a0 x13_3)] rfl (by (try simp only [List.map_toArray, List.map_cons, List.map_nil]); first | done | rfl | (simp only [List.length_drop, List.length_take]; rfl)) ?_; (with_reducible refine (abacuslaw20_blank.calls (bt a0 x13_3) false _ A51.out).mono ?_); rintro e w' ⟨rfl, ⟨nd, rfl⟩⟩; refine ⟨_, rfl, ?_⟩; have p57 : 0 ≤ ((ji54) : Int) := of_decide_eq_true (by first | (with_reducible assumption) | assumption); have q57 : (ji54) < (a0.size : Int) := of_decide_eq_true (by first | (with_reducible assumption) | assumption); have hx57 := bt_at a0 (ji54); replace p57 := eq_true p57; replace q57 := eq_true q57) | (go_at_call 17; (with_reducible refine (abacuslaw20_blank.calls (bt a0 (ji54)) false _ A58.out).mono ?_); rintro e w' ⟨rfl, ⟨nd, rfl⟩⟩))
                                  go_roundg k3
                                  case measure => have := HJ12.out; have := HK2.out; have := HK3.out; omega
                                  case rel => exact ⟨(x12_3), (wrap64 (x13_3 + 1)), (by first | rfl | (simp; done) | (simp [*]; done)), (by first | rfl | (simp; done) | (simp [*]; done)), H', ⟨by have := HJ12.out; have := HK2.out; have := HK3.out; omega⟩, ⟨by (with_reducible repeat (first | apply Kd.R_alloc | apply Kd.R_drewN | apply Kd.R_drew)); exact HO_9.out⟩, ⟨by (with_reducible repeat (first | apply Kd.R_alloc | apply Kd.R_drewN | apply Kd.R_drew)); exact HO_10.out⟩, ⟨by repeat (first | (with_reducible first | exact HB.out | apply below_alloc | apply pw_below_drewN | apply below_drew1) | exact HB.out)⟩⟩
                              · rw [if_neg c56] at H
                                exact absurd H (by simp)
                            · rw [if_neg c55] at H
                              exact absurd H (by simp)
                      · rw [if_neg c49] at H
                        exact absurd H (by simp)
                    · rw [if_neg c48] at H
                      have c48b0 : decide (x13_3 < (a0.size : Int)) = false := decide_eq_false c48
                      clear c48
                      replace H := Option.bind_eq_some_iff.mp H
                      obtain ⟨⟨t298, t299⟩, A600, H⟩ := H
                      replace H : (if t299 = 0 then (if t298.toList = (strOfNums x10_2).toList then (abacuslaw20_CharsBack.j6 k3 t289 ((t289.length : Int) != x12_3)) else (abacuslaw20_CharsBack.j6 k3 t289 true)) else (abacuslaw20_CharsBack.j6 k3 t289 true)) = some true := H
                      have A60 := Aside0.mk A600
                      clear A600
                      have HC61 := Aside0.mk H
                      clear H
                      obtain ⟨Ao62, co62, eo62⟩ := Kd.R_slice HO_9.out
                      subst eo62
                      go_upto_region 31 with (first | ((with_reducible refine gate_callee (f := 14) rfl ?_); refine goesL_ (some 115) rfl rfl Tryd.func14 (by kernel_rfl) rfl #[.slice Ao62 t289.length co62] rfl (by (try simp only [List.map_toArray, List.map_cons, List.map_nil]); first | done | rfl | (simp only [List.length_drop, List.length_take]; rfl)) ?_; (with_reducible refine (chars_Cat.calls k3 _ _ t289 t298 t299 _ ?side1 ?side2 ?side3 A60.out).mono ?_); (case side1 => repeat (first | exact (Kd.R_reads' HO_9.out).2.2 | (with_reducible refine Kd.C_alloc ?_ _) | (with_reducible refine Kd.C_drewN ?_ _) | (with_reducible refine Kd.C_drew ?_))); (case side2 => exact (Kd.R_reads' HO_9.out).2.1); (case side3 => exact GW.below HG.out (by repeat (first | (with_reducible first | exact HB.out | apply below_alloc | apply pw_below_drewN | apply below_drew1) | exact HB.out))); rintro e w63 ⟨rfl, hb⟩; refine ⟨_, rfl, ?_⟩; have n0_ := Aside0.mk (Kd.R_below (by (with_reducible repeat (first | apply Kd.R_alloc | apply Kd.R_drewN | apply Kd.R_drew)); exact HO_9.out) hb); have n1_ := Aside0.mk (Kd.R_below (by (with_reducible repeat (first | apply Kd.R_alloc | apply Kd.R_drewN | apply Kd.R_drew)); exact HO_10.out) hb); have n2_ := Aside0.mk (below_step (by repeat (first | (with_reducible first | exact HB.out | apply below_alloc | apply pw_below_drewN | apply below_drew1) | exact HB.out)) hb); clear HO_9; clear HO_10; clear HB; have HO_9 := n0_; have HO_10 := n1_; have HB := n2_; clear n0_ n1_ n2_; (try clear hb); (try clear hb2); (try clear hk); (try clear hi)))
                      (try simp only [Act.put, List.setIfInBounds_toArray, List.set_cons_zero, List.set_cons_succ])
                      go_cut [131] (fun v131 wc => ∃ (kq : Nat) (x131_60 : Bool), v131 = .bool x131_60 ∧ Aside0 (abacuslaw20_CharsBack.j6 kq t289 x131_60 = some true) ∧ Aside0 (kq ≤ k3) ∧ Aside0 (Kd.R Kd.string 9 wc w.heap.size (fun _ => True) (.slice Ao62 t289.length co62) t289) ∧ Aside0 (Below w.heap.size w wc))
                      case first =>
                        have H := HC61.out
                        clear HC61
                        by_cases c64 : t299 = 0
                        · rw [if_pos c64] at H
                          have c64b0 : (t299 == 0) = true := beq_iff_eq.mpr c64
                          have c64b1 : (t299 != 0) = false := bne_eq_false_iff_eq.mpr c64
                          clear c64
                          (first | rw [c64b0] | (simp only [i64_w, i32_w]; rw [c64b0]) | skip)
                          by_cases c65 : t298.toList = (strOfNums x10_2).toList
                          · rw [if_pos c65] at H
                            have c65b0 : (t298.toList == (strOfNums x10_2).toList) = true := beq_iff_eq.mpr c65
                            have c65b1 : (t298.toList != (strOfNums x10_2).toList) = false := bne_eq_false_iff_eq.mpr c65
                            clear c65
                            have H' := Aside0.mk H
                            clear H
                            have hcv66 := own_string (P := Tryd.prog) Tryd.underlying38 Tryd.underlying5 Tryd.underlying9 (Kd.own_of_R HO_10.out)
                            go_wp2
                            go_meet
                            case rel => exact ⟨_, (((t289.length : Int) != x12_3)), (by first | rfl | (simp; done) | (simp [*]; done)), H', ⟨by have := HJ12.out; have := HK2.out; have := HK3.out; first | omega | exact Nat.le_refl _⟩, ⟨by (with_reducible repeat (first | apply Kd.R_alloc | apply Kd.R_drewN | apply Kd.R_drew)); exact HO_9.out⟩, ⟨by repeat (first | (with_reducible first | exact HB.out | apply below_alloc | apply pw_below_drewN | apply below_drew1) | exact HB.out)⟩⟩
                          · rw [if_neg c65] at H
                            have c65b0 : (t298.toList == (strOfNums x10_2).toList) = false := beq_eq_false_iff_ne.mpr c65
                            have c65b1 : (t298.toList != (strOfNums x10_2).toList) = true := bne_iff_ne.mpr c65
                            have H' := Aside0.mk H
                            clear H
                            have hcv67 := own_string (P := Tryd.prog) Tryd.underlying38 Tryd.underlying5 Tryd.underlying9 (Kd.own_of_R HO_10.out)
                            go_wp2
                            go_meet
                            case rel => exact ⟨_, (true), (by first | rfl | (simp; done) | (simp [*]; done)), H', ⟨by have := HJ12.out; have := HK2.out; have := HK3.out; first | omega | exact Nat.le_refl _⟩, ⟨by (with_reducible repeat (first | apply Kd.R_alloc | apply Kd.R_drewN | apply Kd.R_drew)); exact HO_9.out⟩, ⟨by repeat (first | (with_reducible first | exact HB.out | apply below_alloc | apply pw_below_drewN | apply below_drew1) | exact HB.out)⟩⟩
                        · rw [if_neg c64] at H
                          have c64b0 : (t299 == 0) = false := beq_eq_false_iff_ne.mpr c64
                          have c64b1 : (t299 != 0) = true := bne_iff_ne.mpr c64
                          (first | rw [c64b0] | (simp only [i64_w, i32_w]; rw [c64b0]) | skip)
                          have H' := Aside0.mk H
                          clear H
                          go_wp2
                          go_meet
                          case rel => exact ⟨_, (true), (by first | rfl | (simp; done) | (simp [*]; done)), H', ⟨by have := HJ12.out; have := HK2.out; have := HK3.out; first | omega | exact Nat.le_refl _⟩, ⟨by (with_reducible repeat (first | apply Kd.R_alloc | apply Kd.R_drewN | apply Kd.R_drew)); exact HO_9.out⟩, ⟨by repeat (first | (with_reducible first | exact HB.out | apply below_alloc | apply pw_below_drewN | apply below_drew1) | exact HB.out)⟩⟩
                      case rest =>
                        clear HC61
                        try clear c1
                        try clear c2
                        try clear p2
                        try clear q2
                        try clear hx2
                        try clear c3
                        try clear c4
                        try clear p4
                        try clear q4
                        try clear hx4
                        try clear c5
                        try clear p5
                        try clear q5
                        try clear hx5
                        try clear c6
                        try clear c6b0
                        try clear c6b1
                        try clear p6
                        try clear hcv6
                        try clear c9
                        try clear c10
                        try clear c13
                        try clear c14
                        try clear c17
                        try clear c20
                        try clear c20b0
                        try clear c20b1
                        try clear c25
                        try clear c25b0
                        try clear c25b1
                        try clear c26
                        try clear c27
                        try clear c27b0
                        try clear p28
                        try clear q28
                        try clear hx28
                        try clear c29
                        try clear c29b0
                        try clear c29b1
                        try clear c30
                        try clear c30b0
                        try clear c33
                        try clear c34
                        try clear c34b0
                        try clear c34b1
                        try clear c35
                        try clear c35b0
                        try clear c36
                        try clear c36b0
                        try clear c37
                        try clear c37b0
                        try clear c37b1
                        try clear c40
                        try clear c40b0
                        try clear c41
                        try clear c41b0
                        try clear p42
                        try clear q42
                        try clear hx42
                        try clear c44
                        try clear p45
                        try clear q45
                        try clear hx45
                        try clear c46
                        try clear c48
                        try clear c48b0
                        try clear c49
                        try clear c49b0
                        try clear p50
                        try clear q50
                        try clear hx50
                        try clear c52
                        try clear c53
                        try clear c53b0
                        try clear c53b1
                        try clear c55
                        try clear c55b0
                        try clear c56
                        try clear c56b0
                        try clear p57
                        try clear q57
                        try clear hx57
                        try clear c59
                        try clear c64
                        try clear c64b0
                        try clear c64b1
                        try clear p64
                        try clear c65
                        try clear c65b0
                        try clear c65b1
                        try clear hcv66
                        try clear hcv67
                        try clear hx286_0
                        try clear hx288_0
                        try clear p2
                        try clear p28
                        try clear p286
                        try clear p288
                        try clear p4
                        try clear p42
                        try clear p45
                        try clear p50
                        try clear p57
                        try clear p6
                        try clear q2
                        try clear q28
                        try clear q286
                        try clear q288
                        try clear q4
                        try clear q42
                        try clear q45
                        try clear q50
                        try clear q57
                        obtain ⟨kq, x131_60, rfl, HA, HJ60, HO_9, HB⟩ := hcut
                        cases kq with
                        | zero => exact absurd HA.out (by simp [abacuslaw20_CharsBack.j6])
                        | succ kj60 =>
                          have H := HA.out
                          clear HA
                          simp only [abacuslaw20_CharsBack.j6] at H
                          by_cases c68 : x131_60 = true
                          · subst c68
                            have H1 : (some false) = some true := by rw [if_pos rfl] at H; exact H
                            clear H
                            have H := H1
                            clear H1
                            exact absurd H (by simp)
                          · replace c68 := Bool.eq_false_iff.mpr c68
                            subst c68
                            have H1 : (abacuslaw20_CharsBack.l3 kj60 t289 0) = some true := by rw [if_neg (show ¬ (false = true) by decide)] at H; exact H
                            clear H
                            have H := H1
                            clear H1
                            have H' := Aside0.mk H
                            clear H
                            go_wp2
                            go_loopg [16] kj60 (fun kq v16 w' => ∃ (x16_5 : Int), v16 = .int .i64 x16_5 ∧ Aside0 (abacuslaw20_CharsBack.l3 kq t289 x16_5 = some true) ∧ Aside0 (kq ≤ kj60) ∧ Aside0 (Kd.R Kd.string 9 w' w.heap.size (fun _ => True) (.slice Ao62 t289.length co62) t289) ∧ Aside0 (Below w.heap.size w w'))
                            case atStart => exact ⟨(0), (by first | rfl | (simp; done) | (simp [*]; done)), H', ⟨Nat.le_refl _⟩, ⟨by (with_reducible repeat (first | apply Kd.R_alloc | apply Kd.R_drewN | apply Kd.R_drew)); exact HO_9.out⟩, ⟨by repeat (first | (with_reducible first | exact HB.out | apply below_alloc | apply pw_below_drewN | apply below_drew1) | exact HB.out)⟩⟩
                            case round =>
                              clear H'
                              try clear c1
                              try clear c2
                              try clear p2
                              try clear q2
                              try clear hx2
                              try clear c3
                              try clear c4
                              try clear p4
                              try clear q4
                              try clear hx4
                              try clear c5
                              try clear p5
                              try clear q5
                              try clear hx5
                              try clear c6
                              try clear c6b0
                              try clear c6b1
                              try clear p6
                              try clear hcv6
                              try clear c9
                              try clear c10
                              try clear c13
                              try clear c14
                              try clear c17
                              try clear c20
                              try clear c20b0
                              try clear c20b1
                              try clear c25
                              try clear c25b0
                              try clear c25b1
                              try clear c26
                              try clear c27
                              try clear c27b0
                              try clear p28
                              try clear q28
                              try clear hx28
                              try clear c29
                              try clear c29b0
                              try clear c29b1
                              try clear c30
                              try clear c30b0
                              try clear c33
                              try clear c34
                              try clear c34b0
                              try clear c34b1
                              try clear c35
                              try clear c35b0
                              try clear c36
                              try clear c36b0
                              try clear c37
                              try clear c37b0
                              try clear c37b1
                              try clear c40
                              try clear c40b0
                              try clear c41
                              try clear c41b0
                              try clear p42
                              try clear q42
                              try clear hx42
                              try clear c44
                              try clear p45
                              try clear q45
                              try clear hx45
                              try clear c46
                              try clear c48
                              try clear c48b0
                              try clear c49
                              try clear c49b0
                              try clear p50
                              try clear q50
                              try clear hx50
                              try clear c52
                              try clear c53
                              try clear c53b0
                              try clear c53b1
                              try clear c55
                              try clear c55b0
                              try clear c56
                              try clear c56b0
                              try clear p57
                              try clear q57
                              try clear hx57
                              try clear c59
                              try clear c64
                              try clear c64b0
                              try clear c64b1
                              try clear p64
                              try clear c65
                              try clear c65b0
                              try clear c65b1
                              try clear hcv66
                              try clear hcv67
                              try clear c68
                              try clear hx286_0
                              try clear hx288_0
                              try clear p2
                              try clear p28
                              try clear p286
                              try clear p288
                              try clear p4
                              try clear p42
                              try clear p45
                              try clear p5
                              try clear p50
                              try clear p57
                              try clear p6
                              try clear p64
                              try clear q2
                              try clear q28
                              try clear q286
                              try clear q288
                              try clear q4
                              try clear q42
                              try clear q45
                              try clear q5
                              try clear q50
                              try clear q57
                              obtain ⟨x16_5, rfl, HA, HK5, HO_9, HB⟩ := hrel
                              cases gk with
                              | zero => exact absurd HA.out (by simp [abacuslaw20_CharsBack.l3])
                              | succ k5 =>
                                have H := HA.out
                                clear HA
                                simp only [abacuslaw20_CharsBack.l3] at H
                                by_cases c69 : x16_5 < (t289.length : Int)
                                · rw [if_pos c69] at H
                                  have c69b0 : decide (x16_5 < (t289.length : Int)) = true := decide_eq_true c69
                                  clear c69
                                  by_cases c70 : 0 ≤ x16_5
                                  · rw [if_pos c70] at H
                                    have c70b0 : decide (0 ≤ x16_5) = true := decide_eq_true c70
                                    clear c70
                                    by_cases c71 : (rdOf ByteArray.empty t289 x16_5).toList = ([] : List UInt8)
                                    · rw [if_pos c71] at H
                                      have c71b0 : ((rdOf ByteArray.empty t289 x16_5).toList == ([] : List UInt8)) = true := beq_iff_eq.mpr c71
                                      have c71b1 : ((rdOf ByteArray.empty t289 x16_5).toList != ([] : List UInt8)) = false := bne_eq_false_iff_eq.mpr c71
                                      clear c71
                                      exact absurd H (by simp)
                                    · rw [if_neg c71] at H
                                      have c71b0 : ((rdOf ByteArray.empty t289 x16_5).toList == ([] : List UInt8)) = false := beq_eq_false_iff_ne.mpr c71
                                      have c71b1 : ((rdOf ByteArray.empty t289 x16_5).toList != ([] : List UInt8)) = true := bne_iff_ne.mpr c71
                                      have H' := Aside0.mk H
                                      clear H
                                      have p300 : 0 ≤ (x16_5 : Int) := of_decide_eq_true (by first | (with_reducible assumption) | assumption)
                                      have q300 : x16_5 < (t289.length : Int) := of_decide_eq_true (by first | (with_reducible assumption) | assumption)
                                      obtain ⟨ad300, e300, hx300_0⟩ := Kd.at_string (Kd.R_reads' HO_9.out).2.2 x16_5 p300 q300
                                      cases e300
                                      replace p300 := eq_true p300
                                      replace q300 := eq_true q300
                                      go_wp2
                                      go_loopg [17] k5 (fun kq v17 w' => ∃ (x17_6 : Int), v17 = .int .i64 x17_6 ∧ Aside0 (abacuslaw20_CharsBack.l4 kq t289 x16_5 x17_6 = some true) ∧ Aside0 (kq ≤ k5) ∧ Aside0 (Kd.R Kd.string 9 w' w.heap.size (fun _ => True) (.slice (some ad300) t289.length co62) t289) ∧ Aside0 (Below w.heap.size w w'))
                                      case atStart => exact ⟨(0), (by first | rfl | (simp; done) | (simp [*]; done)), H', ⟨Nat.le_refl _⟩, ⟨by (with_reducible repeat (first | apply Kd.R_alloc | apply Kd.R_drewN | apply Kd.R_drew)); exact HO_9.out⟩, ⟨by repeat (first | (with_reducible first | exact HB.out | apply below_alloc | apply pw_below_drewN | apply below_drew1) | exact HB.out)⟩⟩
                                      case round =>
                                        clear H'
                                        try clear c1
                                        try clear c2
                                        try clear p2
                                        try clear q2
                                        try clear hx2
                                        try clear c3
                                        try clear p3
                                        try clear q3
                                        try clear hx3
                                        try clear c4
                                        try clear p4
                                        try clear q4
                                        try clear hx4
                                        try clear c5
                                        try clear p5
                                        try clear q5
                                        try clear hx5
                                        try clear c6
                                        try clear c6b0
                                        try clear c6b1
                                        try clear p6
                                        try clear hcv6
                                        try clear c7
                                        try clear c9
                                        try clear c10
                                        try clear c13
                                        try clear c14
                                        try clear c17
                                        try clear c20
                                        try clear c20b0
                                        try clear c20b1
                                        try clear c25
                                        try clear c25b0
                                        try clear c25b1
                                        try clear c26
                                        try clear c27
                                        try clear c27b0
                                        try clear p28
                                        try clear q28
                                        try clear hx28
                                        try clear c29
                                        try clear c29b0
                                        try clear c29b1
                                        try clear c30
                                        try clear c30b0
                                        try clear p30
                                        try clear q30
                                        try clear hx30
                                        try clear c33
                                        try clear c34
                                        try clear c34b0
                                        try clear c34b1
                                        try clear c35
                                        try clear c35b0
                                        try clear c36
                                        try clear c36b0
                                        try clear c37
                                        try clear c37b0
                                        try clear c37b1
                                        try clear c40
                                        try clear c40b0
                                        try clear c41
                                        try clear c41b0
                                        try clear p42
                                        try clear q42
                                        try clear hx42
                                        try clear c44
                                        try clear p45
                                        try clear q45
                                        try clear hx45
                                        try clear c46
                                        try clear c48
                                        try clear c48b0
                                        try clear c49
                                        try clear c49b0
                                        try clear p50
                                        try clear q50
                                        try clear hx50
                                        try clear c52
                                        try clear c53
                                        try clear c53b0
                                        try clear c53b1
                                        try clear c55
                                        try clear c55b0
                                        try clear c56
                                        try clear c56b0
                                        try clear p57
                                        try clear q57
                                        try clear hx57
                                        try clear c59
                                        try clear c64
                                        try clear c64b0
                                        try clear c64b1
                                        try clear p64
                                        try clear c65
                                        try clear c65b0
                                        try clear c65b1
                                        try clear hcv66
                                        try clear hcv67
                                        try clear c68
                                        try clear c69
                                        try clear c69b0
                                        try clear c70
                                        try clear c70b0
                                        try clear c71
                                        try clear c71b0
                                        try clear c71b1
                                        try clear hx286_0
                                        try clear hx288_0
                                        try clear hx300_0
                                        try clear p2
                                        try clear p28
                                        try clear p286
                                        try clear p288
                                        try clear p300
                                        try clear p4
                                        try clear p42
                                        try clear p45
                                        try clear p5
                                        try clear p50
                                        try clear p57
                                        try clear p6
                                        try clear p64
                                        try clear q2
                                        try clear q28
                                        try clear q286
                                        try clear q288
                                        try clear q300
                                        try clear q4
                                        try clear q42
                                        try clear q45
                                        try clear q5
                                        try clear q50
                                        try clear q57
                                        obtain ⟨x17_6, rfl, HA, HK6, HO_9, HB⟩ := hrel
                                        cases gk with
                                        | zero => exact absurd HA.out (by simp [abacuslaw20_CharsBack.l4])
                                        | succ k6 =>
                                          have H := HA.out
                                          clear HA
                                          simp only [abacuslaw20_CharsBack.l4] at H
                                          by_cases c72 : 0 ≤ x16_5
                                          · rw [if_pos c72] at H
                                            have c72b0 : decide (0 ≤ x16_5) = true := decide_eq_true c72
                                            clear c72
                                            by_cases c73 : x16_5 < (t289.length : Int)
                                            · rw [if_pos c73] at H
                                              have c73b0 : decide (x16_5 < (t289.length : Int)) = true := decide_eq_true c73
                                              clear c73
                                              by_cases c74 : x17_6 < ((rdOf ByteArray.empty t289 x16_5).size : Int)
                                              · rw [if_pos c74] at H
                                                have c74b0 : decide (x17_6 < ((rdOf ByteArray.empty t289 x16_5).size : Int)) = true := decide_eq_true c74
                                                clear c74
                                                by_cases c75 : 0 ≤ x17_6
                                                · rw [if_pos c75] at H
                                                  have c75b0 : decide (0 ≤ x17_6) = true := decide_eq_true c75
                                                  clear c75
                                                  replace H := Option.bind_eq_some_iff.mp H
                                                  obtain ⟨t303, A770, H⟩ := H
                                                  replace H : (if t303 = true then (some false) else (abacuslaw20_CharsBack.l4 k6 t289 x16_5 (wrap64 (x17_6 + 1)))) = some true := H
                                                  have A77 := Aside0.mk A770
                                                  clear A770
                                                  by_cases c78 : t303 = true
                                                  · subst c78
                                                    have H1 : (some false) = some true := by rw [if_pos rfl] at H; exact H
                                                    clear H
                                                    have H := H1
                                                    clear H1
                                                    exact absurd H (by simp)
                                                  · replace c78 := Bool.eq_false_iff.mpr c78
                                                    subst c78
                                                    have H1 : (abacuslaw20_CharsBack.l4 k6 t289 x16_5 (wrap64 (x17_6 + 1))) = some true := by rw [if_neg (show ¬ (false = true) by decide)] at H; exact H
                                                    clear H
                                                    have H := H1
                                                    clear H1
                                                    have H' := Aside0.mk H
                                                    clear H
                                                    have p301 : 0 ≤ (x16_5 : Int) := of_decide_eq_true (by first | (with_reducible assumption) | assumption)
                                                    have q301 : x16_5 < (t289.length : Int) := of_decide_eq_true (by first | (with_reducible assumption) | assumption)
                                                    obtain ⟨ad301, e301, hx301_0⟩ := Kd.at_string (Kd.R_reads' HO_9.out).2.2 x16_5 p301 q301
                                                    obtain rfl : ad300 = ad301 := (by injection e301)
                                                    replace p301 := eq_true p301
                                                    replace q301 := eq_true q301
                                                    have p302 : 0 ≤ (x16_5 : Int) := of_decide_eq_true (by first | (with_reducible assumption) | assumption)
                                                    have q302 : x16_5 < (t289.length : Int) := of_decide_eq_true (by first | (with_reducible assumption) | assumption)
                                                    obtain ⟨ad302, e302, hx302_0⟩ := Kd.at_string (Kd.R_reads' HO_9.out).2.2 x16_5 p302 q302
                                                    obtain rfl : ad300 = ad302 := (by injection e302)
                                                    replace p302 := eq_true p302
                                                    replace q302 := eq_true q302
                                                    have p76 : 0 ≤ (x17_6 : Int) := of_decide_eq_true (by first | (with_reducible assumption) | assumption)
                                                    have q76 : x17_6 < ((rdOf ByteArray.empty t289 x16_5).size : Int) := of_decide_eq_true (by first | (with_reducible assumption) | assumption)
                                                    have hx76 := bt_at (rdOf ByteArray.empty t289 x16_5) x17_6
                                                    replace p76 := eq_true p76
                                                    replace q76 := eq_true q76
                                                    go_wp2_with (first | ((with_reducible refine gate_callee (f := 17) rfl ?_); refine goesL_ (some 158) rfl rfl Tryd.func17 (by kernel_rfl) rfl #[.int .u8 (bt (rdOf ByteArray.empty t289 x16_5) x17_6)] rfl (by (try simp only [List.map_toArray, List.map_cons, List.map_nil]); first | done | rfl | (simp only [List.length_drop, List.length_take]; rfl)) ?_; (with_reducible refine (abacuslaw20_blank.calls (bt (rdOf ByteArray.empty t289 x16_5) x17_6) false _ A77.out).mono ?_); rintro e w' ⟨rfl, ⟨nd, rfl⟩⟩; refine ⟨_, rfl, ?_⟩))
                                                    go_roundg k6
                                                    case measure => have := HJ12.out; have := HK2.out; have := HK3.out; have := HJ60.out; have := HK5.out; have := HK6.out; omega
                                                    case rel => exact ⟨(wrap64 (x17_6 + 1)), (by first | rfl | (simp; done) | (simp [*]; done)), H', ⟨by have := HJ12.out; have := HK2.out; have := HK3.out; have := HJ60.out; have := HK5.out; have := HK6.out; omega⟩, ⟨by (with_reducible repeat (first | apply Kd.R_alloc | apply Kd.R_drewN | apply Kd.R_drew)); exact HO_9.out⟩, ⟨by repeat (first | (with_reducible first | exact HB.out | apply below_alloc | apply pw_below_drewN | apply below_drew1) | exact HB.out)⟩⟩
                                                · rw [if_neg c75] at H
                                                  exact absurd H (by simp)
                                              · rw [if_neg c74] at H
                                                have c74b0 : decide (x17_6 < ((rdOf ByteArray.empty t289 x16_5).size : Int)) = false := decide_eq_false c74
                                                clear c74
                                                have H' := Aside0.mk H
                                                clear H
                                                have p301 : 0 ≤ (x16_5 : Int) := of_decide_eq_true (by first | (with_reducible assumption) | assumption)
                                                have q301 : x16_5 < (t289.length : Int) := of_decide_eq_true (by first | (with_reducible assumption) | assumption)
                                                obtain ⟨ad301, e301, hx301_0⟩ := Kd.at_string (Kd.R_reads' HO_9.out).2.2 x16_5 p301 q301
                                                obtain rfl : ad300 = ad301 := (by injection e301)
                                                replace p301 := eq_true p301
                                                replace q301 := eq_true q301
                                                go_wp2
                                                go_roundg k6
                                                case measure => have := HJ12.out; have := HK2.out; have := HK3.out; have := HJ60.out; have := HK5.out; have := HK6.out; omega
                                                case rel => exact ⟨(wrap64 (x16_5 + 1)), (by first | rfl | (simp; done) | (simp [*]; done)), H', ⟨by have := HJ12.out; have := HK2.out; have := HK3.out; have := HJ60.out; have := HK5.out; have := HK6.out; omega⟩, ⟨by (with_reducible repeat (first | apply Kd.R_alloc | apply Kd.R_drewN | apply Kd.R_drew)); exact HO_9.out⟩, ⟨by repeat (first | (with_reducible first | exact HB.out | apply below_alloc | apply pw_below_drewN | apply below_drew1) | exact HB.out)⟩⟩
                                            · rw [if_neg c73] at H
                                              exact absurd H (by simp)
                                          · rw [if_neg c72] at H
                                            exact absurd H (by simp)
                                  · rw [if_neg c70] at H
                                    exact absurd H (by simp)
                                · rw [if_neg c69] at H
                                  have c69b0 : decide (x16_5 < (t289.length : Int)) = false := decide_eq_false c69
                                  clear c69
                                  clear H
                                  go_wp2
                                  go_ret
                                  exact ⟨by first | rfl | (simp [errW_none, errW_some] <;> rfl) | (simp [*, errW_none, errW_some] <;> rfl), by repeat (first | (with_reducible first | exact HB.out | apply below_alloc | apply pw_below_drewN | apply below_drew1) | exact HB.out)⟩
  · replace c5 := Bool.eq_false_iff.mpr c5
    subst c5
    have H1 : (some false) = some true := by rw [if_neg (show ¬ (false = true) by decide)] at H; exact H
    clear H
    have H := H1
    clear H1
    exact absurd H (by simp)

end Go.Proofs.YtdeannaaafffbaaDoor.ECd
