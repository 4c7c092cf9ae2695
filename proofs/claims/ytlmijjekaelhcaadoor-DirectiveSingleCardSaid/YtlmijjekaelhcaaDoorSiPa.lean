/-
  Plain laws of the directive statements: when a piece is in form, what Check and Settle answer, and DirectiveStars.
-/
import Derived.Test.YtlmijjekaelhcaaDoorSiPBase
import Derived.Test.YtlmijjekaelhcaaDoorSiEDix30
import Derived.Laws.BitsAllLaws
set_option linter.unusedVariables false
set_option linter.unusedSimpArgs false
namespace Go.Proofs.YtlmijjekaelhcaaDoor.Pl
open Go.RowKit Go.Proofs.YtlmijjekaelhcaaDoorW.PrintWords Go.Proofs.YtlmijjekaelhcaaDoor.EDi Go.Proofs.YtlmijjekaelhcaaDoor.X
theorem wrap_zero {n : Nat} (h : n < 18446744073709551616) (e : IntKind.i64.wrap (n : Int) = 0) : n = 0 := by
  rw [IntKind.wrap_i64] at e
  omega
theorem flags_in {x : Int} (h0 : -9223372036854775808 ≤ x) (h1 : x ≤ 9223372036854775807) (h : Go.bits .andNot .i64 x 31 = 0) : 0 ≤ x ∧ x ≤ 31 := by
  have hv : (BitVec.ofInt 64 x).toNat < 18446744073709551616 := (BitVec.ofInt 64 x).isLt
  have e : ((BitVec.ofInt 64 x).toNat : Int) = x % 18446744073709551616 := by
    rw [BitVec.toNat_ofInt]
    omega
  have h' : IntKind.i64.wrap (((BitVec.ofInt 64 x &&& ~~~BitVec.ofInt 64 31).toNat : Nat) : Int) = 0 := h
  rw [BitVec.toNat_and] at h'
  have e31 : (~~~BitVec.ofInt 64 31).toNat = 18446744073709551584 := by decide
  rw [e31, nat_hi64_5] at h'
  have := wrap_zero (by omega) h'
  omega
def Cnt (k n least : Int) : Prop := (k = 1 ∧ least ≤ n ∧ n ≤ 4096) ∨ ((k = 0 ∨ k = 2) ∧ n = 0)
theorem counted_yes {k n l : Int} (h : Cnt k n l) : directive_counted.f k n l = some true := by
  unfold directive_counted.f
  rcases h with ⟨rfl, h1, h2⟩ | ⟨rfl | rfl, rfl⟩
  · rw [if_pos rfl, if_pos h1, decide_eq_true h2]
  · rfl
  · rfl
theorem counted_no {k n l : Int} (h : ¬ Cnt k n l) : directive_counted.f k n l = some false := by
  unfold directive_counted.f
  by_cases h1 : k = 1
  · rw [if_pos h1]
    by_cases h2 : n ≥ l
    · rw [if_pos h2, decide_eq_false (fun h3 => h (.inl ⟨h1, h2, h3⟩))]
    · rw [if_neg h2]
  · rw [if_neg h1]
    by_cases h2 : k = 0
    · rw [if_pos h2]
      have : ¬ n = 0 := fun e => h (.inr ⟨.inl h2, e⟩)
      simp [this]
    · rw [if_neg h2]
      by_cases h3 : k = 2
      · rw [if_pos h3]
        have : ¬ n = 0 := fun e => h (.inr ⟨.inr h3, e⟩)
        simp [this]
      · rw [if_neg h3]
def verbL : List UInt8 := [100, 105, 111, 117, 120, 88, 99, 115, 101, 69, 102, 70, 103, 71]
def InF (t : ByteArray) (v fl wk wd pk pr : Int) : Prop :=
  t.toList = ([] : List UInt8) ∧ v ≠ 0 ∧ 0 ≤ Lib.indexByte verbL v.toNat.toUInt8 ∧ Go.bits .andNot .i64 fl 31 = 0 ∧ Cnt wk wd 1 ∧ Cnt pk pr 0
theorem inForm_yes {t : ByteArray} {v fl wk wd pk pr : Int} (h : InF t v fl wk wd pk pr) : directive_inForm.f t v fl wk wd pk pr = some true := by
  obtain ⟨h1, h2, h3, h4, h5, h6⟩ := h
  unfold directive_inForm.f
  rw [if_pos h1, if_neg h2]
  show (if Lib.indexByte verbL v.toNat.toUInt8 ≥ 0 then _ else _) = _
  rw [if_pos h3, if_pos h4, counted_yes h5]
  simp only [Option.bind_some, if_true]
  rw [counted_yes h6]
  rfl
theorem inForm_no {t : ByteArray} {v fl wk wd pk pr : Int} (h : ¬ InF t v fl wk wd pk pr) : directive_inForm.f t v fl wk wd pk pr = some false := by
  unfold directive_inForm.f
  by_cases h1 : t.toList = ([] : List UInt8)
  · rw [if_pos h1]
    by_cases h2 : v = 0
    · rw [if_pos h2]
    · rw [if_neg h2]
      show (if Lib.indexByte verbL v.toNat.toUInt8 ≥ 0 then _ else _) = _
      by_cases h3 : Lib.indexByte verbL v.toNat.toUInt8 ≥ 0
      · rw [if_pos h3]
        by_cases h4 : Go.bits .andNot .i64 fl 31 = 0
        · rw [if_pos h4]
          by_cases h5 : Cnt wk wd 1
          · rw [counted_yes h5]
            simp only [Option.bind_some, if_true]
            rw [counted_no (fun h6 => h ⟨h1, h2, h3, h4, h5, h6⟩)]
            rfl
          · rw [counted_no h5]
            rfl
        · rw [if_neg h4]
      · rw [if_neg h3]
  · rw [if_neg h1]
theorem inF_not37 {t : ByteArray} {v fl wk wd pk pr : Int} (h : InF t v fl wk wd pk pr) : v ≠ 37 := by
  rintro rfl
  exact absurd h.2.2.1 (by decide)
theorem check_yes {t : ByteArray} {v fl wk wd pk pr : Int} (h : InF t v fl wk wd pk pr) (k : Nat) : directive_Check.f (k + 1) t v fl wk wd pk pr = some 0 := by
  unfold directive_Check.f
  rw [inForm_yes h]
  rfl
def setW (wk wd a : Int) : Int := if wk = 2 then a else wd
def setP (pk pr b : Int) : Int := if pk = 1 then pr else if pk = 2 then mx b (-1) else -1
def settled (v fl W P : Int) : Int × Int × Int × Int × Int :=
  if W > 4096 ∨ W < -4096 ∨ P > 4096 then (0, 0, 0, 0, 6) else if W < 0 then (v, Go.bits .or .i64 fl 1, wrap64 (-W), P, 0) else (v, fl, W, P, 0)
theorem settle_j1 (k : Nat) (v fl W P : Int) : directive_Settle.j1 (k + 2) v fl W P = some (settled v fl W P) := by
  unfold settled
  simp only [directive_Settle.j1, directive_Settle.j2]
  by_cases h1 : W > 4096
  · simp [h1]
  · by_cases h2 : W < -4096
    · simp [h1, h2]
    · by_cases h3 : P > 4096
      · simp [h1, h2, h3]
      · by_cases h4 : W < 0
        · simp [h1, h2, h3, h4]
        · simp [h1, h2, h3, h4]
theorem settle_yes {t : ByteArray} {v fl wk wd pk pr : Int} (h : InF t v fl wk wd pk pr) (k : Nat) (a b : Int) : directive_Settle.f (k + 3) t v fl wk wd pk pr a b = some (settled v fl (setW wk wd a) (setP pk pr b)) := by
  have j0 : ∀ W, directive_Settle.j0 (k + 3) b t v fl wk wd pk pr v fl W (-1) = some (settled v fl W (setP pk pr b)) := by
    intro W
    unfold setP
    simp only [directive_Settle.j0, settle_j1]
    by_cases h1 : pk = 1
    · simp [h1]
    · by_cases h2 : pk = 2
      · simp [h2]
      · simp [h1, h2]
  unfold directive_Settle.f
  rw [inForm_yes h]
  simp only [Option.bind_some, if_true, j0]
  unfold setW
  by_cases h1 : wk = 2
  · simp [h1]
  · simp [h1]
/-- The bounds that a piece's numbers keep. -/
def I64 (x : Int) : Prop := -9223372036854775808 ≤ x ∧ x ≤ 9223372036854775807
end Go.Proofs.YtlmijjekaelhcaaDoor.Pl
