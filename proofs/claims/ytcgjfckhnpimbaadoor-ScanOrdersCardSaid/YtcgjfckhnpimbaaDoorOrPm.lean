/-
  Plain laws of the scan statements: a built text reads back; ScanBuilds answers true.
-/
import Derived.Test.YtcgjfckhnpimbaaDoorOrPk
import Derived.Test.YtcgjfckhnpimbaaDoorOrEScanx0
import Derived.Test.YtcgjfckhnpimbaaDoorOrEScanx1
import Derived.Test.YtcgjfckhnpimbaaDoorOrEScanyA
import Derived.Test.YtcgjfckhnpimbaaDoorOrEScanx3
import Derived.Test.YtcgjfckhnpimbaaDoorOrXLit
import Derived.Test.YtcgjfckhnpimbaaDoorOrEScanx33
set_option linter.unusedVariables false
set_option linter.unusedSimpArgs false
set_option linter.unusedSectionVars false
namespace Go.Proofs.YtcgjfckhnpimbaaDoor.Pl
open Go.RowKit Go.Proofs.YtcgjfckhnpimbaaDoorW.PrintWords Go.Proofs.YtcgjfckhnpimbaaDoor.X Go.Proofs.YtcgjfckhnpimbaaDoor.EScan
def fg (a : Int) : Int := (48 + (Int.tmod a 10)) % 256
def u8L (l : List Int) : List UInt8 := l.map fun n => UInt8.ofNat n.toNat
section
variable (sgn : Int) (A : List Int) (pt : Bool) (B : List Int) (lt es ex : Int)
def bFA : List UInt8 := u8L (A.map fg)
def bFB : List UInt8 := if pt = true then u8L (B.map fg) else []
def bOk : Prop := 0 < (bFA A).length + (bFB pt B).length ∧ ((lt = 1 ∨ lt = 2) → 0 ≤ ex)
instance : Decidable (bOk A pt B lt ex) := by unfold bOk; exact inferInstance
end
section
variable (bl sgn : Int) (A : List Int) (pt : Bool) (B : List Int) (lt es ex : Int) (tr : ByteArray) (hA : A.length ≤ 140737488351232) (hB : B.length ≤ 140737488351232) (hex : ex ≤ 9223372036854775807)
include hA hB hex
end
section
variable (neg : Bool) (s : ByteArray) (exp : Int) (hs : s.size ≤ 281474976710656)
include hs
theorem norm_l0b (h1 : s.size ≠ 0) (h2 : -1152921504606846976 ≤ exp) (h3 : exp ≤ 1152921504606846976) : ∀ i, i ≤ (s.size : Int) → 0 ≤ i → digEnd s i = digEnd s 0 → Ans (fun k => scan_Norm.l0 k s.size i neg s exp) (nrmV neg s exp) := by
  refine left_ind fun i hi ih h0 he => Ans.succ ?_
  simp only [scan_Norm.l0]
  by_cases hlt : i < (s.size : Int)
  · simp only [if_pos hlt, digitAt_eq h0, Option.bind_some]
    cases hd : dgB s i
    · simp only [Bool.false_eq_true, if_false]
      rw [nrmV_n]
      · exact Ans.ret _
      · intro h
        rw [digEnd_no hd] at he
        have := h.2.2.2.1
        omega
    · simp only [if_true]
      rw [wrap_id (by omega) (by omega)]
      exact ih (i + 1) (by omega) (by omega) (by omega) (by rw [← he, digEnd_yes hd])
  · simp only [if_neg hlt, normal_eq neg s exp (by omega) (by omega) (by omega), Option.bind_some]
    rw [digEnd_no (dg_out hlt)] at he
    by_cases hb : (nrm neg s exp).2.2 > 1152921504606846976
    · simp only [if_pos hb]
      rw [nrmV_n]
      · exact Ans.ret _
      · intro h
        have := h.2.2.2.2
        omega
    · simp only [if_neg hb]
      rw [nrmV_y ⟨h1, h2, h3, by omega, by omega⟩]
      exact Ans.ret _
theorem norm_sb : Ans (fun k => scan_Norm.f k neg s exp) (nrmV neg s exp) := by
  have bad : ¬ okD neg s exp → Ans (fun k => scan_Norm.j0 k true neg s exp) (nrmV neg s exp) := by
    intro h
    rw [nrmV_n h]
    refine Ans.succ ?_
    simp only [scan_Norm.j0, if_true]
    exact Ans.ret _
  unfold scan_Norm.f
  by_cases h1 : s.size = 0
  · simp only [if_pos ((empty_list s).2 h1)]
    exact bad (fun h => h.1 h1)
  · simp only [if_neg (fun h => h1 ((empty_list s).1 h))]
    by_cases h2 : exp < -1152921504606846976
    · simp only [if_pos h2]
      exact bad (fun h => by have := h.2.1; omega)
    · simp only [if_neg h2]
      by_cases h3 : exp > 1152921504606846976
      · simp only [decide_eq_true h3]
        exact bad (fun h => by have := h.2.2.1; omega)
      · simp only [decide_eq_false h3]
        refine Ans.succ ?_
        simp only [scan_Norm.j0, Bool.false_eq_true, if_false]
        exact norm_l0b neg s exp hs h1 (by omega) (by omega) 0 (by omega) (by omega) rfl
end
section
variable (bl sgn : Int) (A : List Int) (pt : Bool) (B : List Int) (lt es ex : Int) (tr : ByteArray) (hA : A.length ≤ 140737488351232) (hB : B.length ≤ 140737488351232) (hex : ex ≤ 9223372036854775807)
  (rA : ∀ a ∈ A, 0 ≤ a ∧ a ≤ 255) (rB : ∀ a ∈ B, 0 ≤ a ∧ a ≤ 255) (htr : tr.size ≤ 140737488351232) (hok : bOk A pt B lt ex) (b0 : 0 ≤ bl) (b1 : bl ≤ 1000)
include hA hB hex rA rB htr hok b0 b1
end
end Go.Proofs.YtcgjfckhnpimbaaDoor.Pl
