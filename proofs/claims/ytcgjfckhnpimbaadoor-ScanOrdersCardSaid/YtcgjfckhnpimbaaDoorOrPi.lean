/-
  Plain laws of the scan statements: what Norm and Text of the program answer.
-/
import Derived.Test.YtcgjfckhnpimbaaDoorOrPBase
import Derived.Test.YtcgjfckhnpimbaaDoorOrEScanyA
import Derived.Lib.ItoaLen
set_option linter.unusedVariables false
set_option linter.unusedSimpArgs false
namespace Go.Proofs.YtcgjfckhnpimbaaDoor.Pl
open Go.RowKit Go.Proofs.YtcgjfckhnpimbaaDoorW.PrintWords Go.Proofs.YtcgjfckhnpimbaaDoor.X Go.Proofs.YtcgjfckhnpimbaaDoor.EScan
/-- Is it a Dec that Norm takes? -/
def okD (neg : Bool) (s : ByteArray) (exp : Int) : Prop := s.size ≠ 0 ∧ -1152921504606846976 ≤ exp ∧ exp ≤ 1152921504606846976 ∧ digEnd s 0 = s.size ∧ (nrm neg s exp).2.2 ≤ 1152921504606846976
instance (neg : Bool) (s : ByteArray) (exp : Int) : Decidable (okD neg s exp) := by unfold okD; exact inferInstance
def nrmV (neg : Bool) (s : ByteArray) (exp : Int) : Bool × ByteArray × Int × Int :=
  if okD neg s exp then ((nrm neg s exp).1, (nrm neg s exp).2.1, (nrm neg s exp).2.2, 0) else (false, ⟨#[]⟩, 0, 80)
theorem nrmV_y {neg : Bool} {s : ByteArray} {exp : Int} (h : okD neg s exp) : nrmV neg s exp = ((nrm neg s exp).1, (nrm neg s exp).2.1, (nrm neg s exp).2.2, 0) := by rw [nrmV, if_pos h]
theorem nrmV_n {neg : Bool} {s : ByteArray} {exp : Int} (h : ¬ okD neg s exp) : nrmV neg s exp = (false, ⟨#[]⟩, 0, 80) := by rw [nrmV, if_neg h]
theorem digitAt_eq {s : ByteArray} {i : Int} (h0 : 0 ≤ i) : scan_digitAt.f s i = some (dgB s i) := by
  unfold scan_digitAt.f dgB
  by_cases h : i < (s.size : Int)
  · simp only [if_pos h, if_pos h0, decide_eq_true h, Bool.true_and]
    by_cases g : bt s i ≥ 48
    · simp [g]
    · simp [g]
  · simp [h]
section
variable (neg : Bool) (s : ByteArray) (exp : Int) (hs : s.size ≤ 140737488351232)
include hs
end
/-- What is told of the normal form. -/
structure Nrm (d : ByteArray) (e : Int) : Prop where
  pos : 0 < d.size
  dig : digEnd d 0 = d.size
  zero : d = ⟨#[48]⟩ → e = 0
  head : d ≠ ⟨#[48]⟩ → bt d 0 ≠ 48
  last : d ≠ ⟨#[48]⟩ → bt d (d.size - 1) ≠ 48
theorem dig_all {s : ByteArray} (h : digEnd s 0 = s.size) {i : Int} (h0 : 0 ≤ i) (hi : i < s.size) : 48 ≤ bt s i ∧ bt s i ≤ 57 := by
  have := digEnd_in s 0 (by omega) i h0 (by omega)
  unfold dgB at this
  simp at this
  omega
theorem dig_of {s : ByteArray} (h : ∀ i : Int, 0 ≤ i → i < s.size → 48 ≤ bt s i ∧ bt s i ≤ 57) : digEnd s 0 = s.size := by
  refine digEnd_eq (Int.le_refl _) (dg_out (by omega)) 0 (by omega) fun j h0 hj => ?_
  have := h j h0 hj
  unfold dgB
  simp
  omega
theorem bt_zero : bt (⟨#[48]⟩ : ByteArray) 0 = 48 := by decide
theorem nrm_facts {neg : Bool} {s : ByteArray} {exp : Int} (h1 : s.size ≠ 0) (hd : digEnd s 0 = s.size) :
    (nrm neg s exp).1 = neg ∧ Nrm (nrm neg s exp).2.1 (nrm neg s exp).2.2 ∧ (nrm neg s exp).2.1.size ≤ s.size ∧ ((nrm neg s exp).2.2 = 0 ∨ (exp ≤ (nrm neg s exp).2.2 ∧ (nrm neg s exp).2.2 ≤ exp + s.size)) := by
  unfold nrm
  have hr := zHead_range s 0 (by omega)
  by_cases e : zHead s 0 = (s.size : Int)
  · rw [if_pos e]
    have hd1 : digEnd (⟨#[48]⟩ : ByteArray) 0 = (⟨#[48]⟩ : ByteArray).size := by
      exact dig_of fun i h0 hi => by
        have : i = 0 := by
          have : ((⟨#[48]⟩ : ByteArray).size : Int) = 1 := rfl
          omega
        rw [this, bt_zero]
        decide
    refine ⟨rfl, ⟨Nat.lt_succ_self 0, hd1, fun _ => rfl, fun h => absurd rfl h, fun h => absurd rfl h⟩, ?_, .inl rfl⟩
    show 1 ≤ s.size
    omega
  · rw [if_neg e]
    have hzb : bt s (zHead s 0) ≠ 48 := fun h => by
      have := zHead_stop s 0 (by omega)
      rw [zB_of (by omega) h] at this
      cases this
    obtain ⟨t1, t2, t3, t4⟩ := zTail_spec s (zHead s 0) (by omega) hzb s.size (by omega) (by omega)
    have hsz : (s.extract (zHead s 0).toNat (zTail s s.size).toNat).size = (zTail s s.size).toNat - (zHead s 0).toNat := ext_size (by omega)
    have hb : ∀ i : Int, 0 ≤ i → i < zTail s s.size - zHead s 0 → bt (s.extract (zHead s 0).toNat (zTail s s.size).toNat) i = bt s (zHead s 0 + i) := by
      intro i h0 hi
      rw [bt_ext h0 (by omega) (by omega), show (((zHead s 0).toNat : Nat) : Int) = zHead s 0 by omega]
    have h0 : bt (s.extract (zHead s 0).toNat (zTail s s.size).toNat) 0 ≠ 48 := by
      rw [hb 0 (by omega) (by omega), show zHead s 0 + 0 = zHead s 0 by omega]
      exact hzb
    refine ⟨rfl, ⟨by simp only [hsz]; omega, ?_, fun h => ?_, fun _ => h0, fun _ => ?_⟩, by simp only [hsz]; omega, .inr ⟨by show exp ≤ exp + _ - _; omega, by show exp + _ - _ ≤ _; omega⟩⟩
    · refine dig_of fun i g0 gi => ?_
      rw [hsz] at gi
      rw [hb i g0 (by omega)]
      exact dig_all hd (by omega) (by omega)
    · simp only at h
      rw [h] at h0
      exact absurd bt_zero h0
    · simp only [hsz]
      rw [show (((zTail s s.size).toNat - (zHead s 0).toNat : Nat) : Int) - 1 = zTail s s.size - zHead s 0 - 1 by omega, hb _ (by omega) (by omega), show zHead s 0 + (zTail s s.size - zHead s 0 - 1) = zTail s s.size - 1 by omega]
      exact t3
section
variable (neg : Bool) (s : ByteArray) (exp : Int) (hs : s.size ≤ 140737488351232)
include hs
end
end Go.Proofs.YtcgjfckhnpimbaaDoor.Pl
