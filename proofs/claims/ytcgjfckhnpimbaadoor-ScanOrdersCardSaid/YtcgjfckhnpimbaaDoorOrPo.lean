/-
  Plain laws of the scan statements: Cmp is an order of Decs; zeros about a Dec's digits and powers of ten move nothing.
-/
import Derived.Test.YtcgjfckhnpimbaaDoorOrPm
set_option linter.unusedVariables false
set_option linter.unusedSimpArgs false
set_option linter.unusedSectionVars false
namespace Go.Proofs.YtcgjfckhnpimbaaDoor.Pl
open Go.RowKit Go.Proofs.YtcgjfckhnpimbaaDoorW.PrintWords Go.Proofs.YtcgjfckhnpimbaaDoor.X Go.Proofs.YtcgjfckhnpimbaaDoor.EScan
theorem cmp_trans : ∀ a b c : List UInt8, Lib.compareBytes a b ≤ 0 → Lib.compareBytes b c ≤ 0 → Lib.compareBytes a c ≤ 0 ∧ (Lib.compareBytes a c = 0 → Lib.compareBytes a b = 0 ∧ Lib.compareBytes b c = 0)
  | [], [], c => by
    intro h1 h2
    exact ⟨h2, fun h => ⟨rfl, h⟩⟩
  | [], b :: bs, [] => by intro h1 h2; simp [Lib.compareBytes] at h2
  | [], b :: bs, c :: cs => by intro h1 h2; simp [Lib.compareBytes]
  | a :: as', [], c => by intro h1 h2; simp [Lib.compareBytes] at h1
  | a :: as', b :: bs, [] => by intro h1 h2; simp [Lib.compareBytes] at h2
  | a :: as', b :: bs, c :: cs => by
    have ih := cmp_trans as' bs cs
    simp only [Lib.compareBytes, UInt8.lt_iff_toNat_lt]
    generalize a.toNat = x
    generalize b.toNat = y
    generalize c.toNat = z
    intro h1 h2
    by_cases p1 : x < y
    · rw [if_pos p1] at h1
      by_cases p2 : y < z
      · rw [if_pos (show x < z by omega)]
        exact ⟨by omega, fun h => by omega⟩
      · rw [if_neg p2] at h2
        by_cases p3 : z < y
        · rw [if_pos p3] at h2
          omega
        · rw [if_pos (show x < z by omega)]
          exact ⟨by omega, fun h => by omega⟩
    · rw [if_neg p1] at h1
      by_cases p4 : y < x
      · rw [if_pos p4] at h1
        omega
      · rw [if_neg p4] at h1
        by_cases p2 : y < z
        · rw [if_pos (show x < z by omega)]
          exact ⟨by omega, fun h => by omega⟩
        · rw [if_neg p2] at h2
          by_cases p3 : z < y
          · rw [if_pos p3] at h2
            omega
          · rw [if_neg p3] at h2
            rw [if_neg (show ¬ x < z by omega), if_neg (show ¬ z < x by omega), if_neg p1, if_neg p4, if_neg p2, if_neg p3]
            exact ih h1 h2
theorem cmp_eq : ∀ a b : List UInt8, Lib.compareBytes a b = 0 → a = b
  | [], [] => fun _ => rfl
  | [], _ :: _ => by intro h; simp [Lib.compareBytes] at h
  | _ :: _, [] => by intro h; simp [Lib.compareBytes] at h
  | a :: as', b :: bs => by
    intro h
    unfold Lib.compareBytes at h
    by_cases p1 : a < b
    · rw [if_pos p1] at h
      omega
    · rw [if_neg p1] at h
      by_cases p2 : b < a
      · rw [if_pos p2] at h
        omega
      · rw [if_neg p2] at h
        have e : a = b := by
          rw [UInt8.lt_iff_toNat_lt] at p1 p2
          exact UInt8.toNat_inj.1 (by omega)
        rw [e, cmp_eq as' bs h]
theorem szV_n {d1 d2 : ByteArray} (e1 e2 : Int) (h1 : d1 ≠ zr) (h2 : d2 ≠ zr) : szV d1 e1 d2 e2 = if e1 + d1.size = e2 + d2.size then Lib.compareBytes d1.data.toList d2.data.toList else if e1 + d1.size < e2 + d2.size then -1 else 1 := by
  unfold szV
  rw [if_neg h1, if_neg h2]
theorem szV_tr {d1 d2 d3 : ByteArray} (e1 e2 e3 : Int) (h1 : d1 ≠ zr) (h2 : d2 ≠ zr) (h3 : d3 ≠ zr) (p : szV d1 e1 d2 e2 ≤ 0) (q : szV d2 e2 d3 e3 ≤ 0) :
    szV d1 e1 d3 e3 ≤ 0 ∧ (szV d1 e1 d3 e3 = 0 → szV d1 e1 d2 e2 = 0 ∧ szV d2 e2 d3 e3 = 0) := by
  rw [szV_n _ _ h1 h2] at *
  rw [szV_n _ _ h2 h3] at *
  rw [szV_n _ _ h1 h3]
  have t := cmp_trans d1.data.toList d2.data.toList d3.data.toList
  by_cases a1 : e1 + (d1.size : Int) = e2 + (d2.size : Int)
  · by_cases a2 : e2 + (d2.size : Int) = e3 + (d3.size : Int)
    · have a3 : e1 + (d1.size : Int) = e3 + (d3.size : Int) := by omega
      simp only [if_pos a1, if_pos a2, if_pos a3] at *
      exact t p q
    · have a3 : ¬ e1 + (d1.size : Int) = e3 + (d3.size : Int) := by omega
      simp only [if_pos a1, if_neg a2, if_neg a3] at *
      by_cases a4 : e2 + (d2.size : Int) < e3 + (d3.size : Int)
      · have a5 : e1 + (d1.size : Int) < e3 + (d3.size : Int) := by omega
        simp only [if_pos a4, if_pos a5] at *
        exact ⟨by omega, fun h => by omega⟩
      · simp only [if_neg a4] at *
        omega
  · simp only [if_neg a1] at *
    by_cases a4 : e1 + (d1.size : Int) < e2 + (d2.size : Int)
    · simp only [if_pos a4] at *
      have a6 : e2 + (d2.size : Int) ≤ e3 + (d3.size : Int) := by
        by_cases a2 : e2 + (d2.size : Int) = e3 + (d3.size : Int)
        · omega
        · rw [if_neg a2] at q
          by_cases a7 : e2 + (d2.size : Int) < e3 + (d3.size : Int)
          · omega
          · rw [if_neg a7] at q
            omega
      have a3 : ¬ e1 + (d1.size : Int) = e3 + (d3.size : Int) := by omega
      have a5 : e1 + (d1.size : Int) < e3 + (d3.size : Int) := by omega
      simp only [if_neg a3, if_pos a5]
      exact ⟨by omega, fun h => by omega⟩
    · simp only [if_neg a4] at *
      omega
theorem szV_zero {d1 d2 : ByteArray} {e1 e2 : Int} (h1 : d1 ≠ zr) (h2 : d2 ≠ zr) (p : szV d1 e1 d2 e2 = 0) : d1 = d2 ∧ e1 = e2 := by
  rw [szV_n _ _ h1 h2] at p
  by_cases a1 : e1 + (d1.size : Int) = e2 + (d2.size : Int)
  · rw [if_pos a1] at p
    have := cmp_eq _ _ p
    have hd : d1 = d2 := ByteArray.ext (Array.ext' this)
    refine ⟨hd, ?_⟩
    rw [hd] at a1
    omega
  · rw [if_neg a1] at p
    split at p <;> omega
theorem szV_shift (d1 d2 : ByteArray) (e1 e2 K : Int) (f1 f2 : Int) (g1 : d1 ≠ zr → f1 = e1 + K) (g2 : d2 ≠ zr → f2 = e2 + K) : szV d1 f1 d2 f2 = szV d1 e1 d2 e2 := by
  unfold szV
  by_cases h1 : d1 = zr
  · rw [if_pos h1, if_pos h1]
  · rw [if_neg h1, if_neg h1]
    by_cases h2 : d2 = zr
    · rw [if_pos h2, if_pos h2]
    · rw [if_neg h2, if_neg h2, g1 h1, g2 h2]
      by_cases a1 : e1 + (d1.size : Int) = e2 + (d2.size : Int)
      · rw [if_pos a1, if_pos (by omega)]
      · rw [if_neg a1, if_neg (by omega)]
        by_cases a2 : e1 + (d1.size : Int) < e2 + (d2.size : Int)
        · rw [if_pos a2, if_pos (by omega)]
        · rw [if_neg a2, if_neg (by omega)]
/-- Below zero, zero, above. -/
def cls (g : Bool) (d : ByteArray) : Int := if d = zr then 0 else if g = true then -1 else 1
theorem cmpN_cls (g1 : Bool) (d1 : ByteArray) (e1 : Int) (g2 : Bool) (d2 : ByteArray) (e2 : Int) :
    cmpN g1 d1 e1 g2 d2 e2 = if cls g1 d1 < cls g2 d2 then -1 else if cls g2 d2 < cls g1 d1 then 1 else if cls g1 d1 = 0 then 0 else if cls g1 d1 = 1 then szV d1 e1 d2 e2 else szV d2 e2 d1 e1 := by
  unfold cmpN cls
  by_cases h1 : d1 = zr
  · by_cases h2 : d2 = zr
    · simp [h1, h2, szV]
    · cases g1 <;> cases g2 <;> simp [h1, h2, szV]
  · by_cases h2 : d2 = zr
    · cases g1 <;> cases g2 <;> simp [h1, h2, szV]
    · cases g1 <;> cases g2 <;> simp [h1, h2]
theorem cls_nz {g : Bool} {d : ByteArray} (h : ¬ cls g d = 0) : d ≠ zr := fun e => h (by unfold cls; rw [if_pos e])
theorem cls_range (g : Bool) (d : ByteArray) : cls g d = -1 ∨ cls g d = 0 ∨ cls g d = 1 := by
  unfold cls
  split
  · simp
  · split <;> simp
theorem cmpN_range (g1 : Bool) (d1 : ByteArray) (e1 : Int) (g2 : Bool) (d2 : ByteArray) (e2 : Int) : -1 ≤ cmpN g1 d1 e1 g2 d2 e2 ∧ cmpN g1 d1 e1 g2 d2 e2 ≤ 1 := by
  have a := szV_range d1 e1 d2 e2
  have b := szV_range d2 e2 d1 e1
  rw [cmpN_cls]
  repeat' split
  all_goals omega
theorem cmpN_neg (g1 : Bool) (d1 : ByteArray) (e1 : Int) (g2 : Bool) (d2 : ByteArray) (e2 : Int) : cmpN g2 d2 e2 g1 d1 e1 = - cmpN g1 d1 e1 g2 d2 e2 := by
  have a := szV_neg d1 e1 d2 e2
  rw [cmpN_cls, cmpN_cls]
  by_cases h1 : cls g1 d1 < cls g2 d2
  · rw [if_neg (by omega), if_pos h1, if_pos h1]
    rfl
  · by_cases h2 : cls g2 d2 < cls g1 d1
    · rw [if_pos h2, if_neg h1, if_pos h2]
    · rw [if_neg h2, if_neg h1, if_neg h1, if_neg h2]
      have e : cls g1 d1 = cls g2 d2 := by omega
      rw [e]
      by_cases h3 : cls g2 d2 = 0
      · rw [if_pos h3, if_pos h3]
        rfl
      · rw [if_neg h3, if_neg h3]
        by_cases h4 : cls g2 d2 = 1
        · rw [if_pos h4, if_pos h4]
          exact a
        · rw [if_neg h4, if_neg h4, a]
          omega
theorem cls_not (g : Bool) (d : ByteArray) : cls (!g) d = - cls g d := by
  unfold cls
  by_cases h : d = zr
  · simp [h]
  · cases g <;> simp [h]
theorem cmpN_not (g1 : Bool) (d1 : ByteArray) (e1 : Int) (g2 : Bool) (d2 : ByteArray) (e2 : Int) : cmpN (!g1) d1 e1 (!g2) d2 e2 = - cmpN g1 d1 e1 g2 d2 e2 := by
  have a := szV_neg d1 e1 d2 e2
  rw [cmpN_cls, cmpN_cls, cls_not, cls_not]
  have r1 := cls_range g1 d1
  by_cases h1 : cls g1 d1 < cls g2 d2
  · rw [if_neg (by omega), if_pos (by omega), if_pos h1]
    rfl
  · by_cases h2 : cls g2 d2 < cls g1 d1
    · rw [if_pos (by omega), if_neg h1, if_pos h2]
    · rw [if_neg (by omega), if_neg (by omega), if_neg h1, if_neg h2]
      by_cases h3 : cls g1 d1 = 0
      · rw [if_pos (by omega), if_pos h3]
        rfl
      · rw [if_neg (by omega), if_neg h3]
        by_cases h4 : cls g1 d1 = 1
        · rw [if_neg (by omega), if_pos h4]
          exact a
        · rw [if_pos (by omega), if_neg h4, a]
          omega
theorem cmpN_shift (g1 : Bool) (d1 : ByteArray) (e1 : Int) (g2 : Bool) (d2 : ByteArray) (e2 K f1 f2 : Int) (p1 : d1 ≠ zr → f1 = e1 + K) (p2 : d2 ≠ zr → f2 = e2 + K) : cmpN g1 d1 f1 g2 d2 f2 = cmpN g1 d1 e1 g2 d2 e2 := by
  unfold cmpN
  rw [szV_shift d1 d2 e1 e2 K f1 f2 p1 p2, szV_shift d2 d1 e2 e1 K f2 f1 p2 p1]
theorem cmpN_tr (g1 : Bool) (d1 : ByteArray) (e1 : Int) (g2 : Bool) (d2 : ByteArray) (e2 : Int) (g3 : Bool) (d3 : ByteArray) (e3 : Int) (p : cmpN g1 d1 e1 g2 d2 e2 ≤ 0) (q : cmpN g2 d2 e2 g3 d3 e3 ≤ 0) :
    cmpN g1 d1 e1 g3 d3 e3 ≤ 0 ∧ (cmpN g1 d1 e1 g3 d3 e3 = 0 → cmpN g1 d1 e1 g2 d2 e2 = 0 ∧ cmpN g2 d2 e2 g3 d3 e3 = 0) := by
  rw [cmpN_cls] at p q
  rw [cmpN_cls g1 d1 e1 g3 d3 e3, cmpN_cls g1 d1 e1 g2 d2 e2, cmpN_cls g2 d2 e2 g3 d3 e3]
  have r1 := cls_range g1 d1
  have z1 := @cls_nz g1 d1
  have z2 := @cls_nz g2 d2
  have z3 := @cls_nz g3 d3
  have t := fun h1 h2 h3 => @szV_tr d1 d2 d3 e1 e2 e3 h1 h2 h3
  have t' := fun h1 h2 h3 => @szV_tr d3 d2 d1 e3 e2 e1 h3 h2 h1
  generalize cls g1 d1 = c1 at *
  generalize cls g2 d2 = c2 at *
  generalize cls g3 d3 = c3 at *
  by_cases h1 : c1 < c2
  · by_cases h2 : c2 < c3
    · rw [if_pos (show c1 < c3 by omega)]
      exact ⟨by omega, fun h => by omega⟩
    · rw [if_neg h2] at q
      by_cases h3 : c3 < c2
      · rw [if_pos h3] at q
        omega
      · rw [if_pos (show c1 < c3 by omega)]
        exact ⟨by omega, fun h => by omega⟩
  · rw [if_neg h1] at p
    by_cases h4 : c2 < c1
    · rw [if_pos h4] at p
      omega
    · have e : c1 = c2 := by omega
      subst e
      by_cases h2 : c1 < c3
      · rw [if_pos h2]
        exact ⟨by omega, fun h => by omega⟩
      · rw [if_neg h2] at q
        by_cases h3 : c3 < c1
        · rw [if_pos h3] at q
          omega
        · have e : c1 = c3 := by omega
          subst e
          simp only [if_neg h1] at *
          by_cases h5 : c1 = 0
          · simp only [if_pos h5]
            exact ⟨Int.le_refl _, fun _ => by simp⟩
          · simp only [if_neg h5] at *
            by_cases h6 : c1 = 1
            · simp only [if_pos h6] at *
              exact t (z1 h5) (z2 h5) (z3 h5) p q
            · simp only [if_neg h6] at *
              obtain ⟨u1, u2⟩ := t' (z1 h5) (z2 h5) (z3 h5) q p
              exact ⟨u1, fun h => (u2 h).symm⟩
theorem cmpN_zero (g1 : Bool) (d1 : ByteArray) (e1 : Int) (g2 : Bool) (d2 : ByteArray) (e2 : Int) : cmpN g1 d1 e1 g2 d2 e2 = 0 ↔ ((g1 = g2 ∧ d1 = d2 ∧ e1 = e2) ∨ (d1 = zr ∧ d2 = zr)) := by
  constructor
  · intro h
    rw [cmpN_cls] at h
    by_cases h1 : cls g1 d1 < cls g2 d2
    · rw [if_pos h1] at h
      omega
    · rw [if_neg h1] at h
      by_cases h2 : cls g2 d2 < cls g1 d1
      · rw [if_pos h2] at h
        omega
      · rw [if_neg h2] at h
        by_cases h3 : cls g1 d1 = 0
        · refine .inr ?_
          have h4 : cls g2 d2 = 0 := by omega
          unfold cls at h3 h4
          constructor
          · by_cases z : d1 = zr
            · exact z
            · rw [if_neg z] at h3
              split at h3 <;> omega
          · by_cases z : d2 = zr
            · exact z
            · rw [if_neg z] at h4
              split at h4 <;> omega
        · refine .inl ?_
          rw [if_neg h3] at h
          have z1 := cls_nz h3
          have z2 := cls_nz (g := g2) (d := d2) (by omega)
          have hg : g1 = g2 := by
            have e : cls g1 d1 = cls g2 d2 := by omega
            unfold cls at e
            rw [if_neg z1, if_neg z2] at e
            cases g1 <;> cases g2 <;> simp at e ⊢
          refine ⟨hg, ?_⟩
          by_cases h4 : cls g1 d1 = 1
          · rw [if_pos h4] at h
            exact szV_zero z1 z2 h
          · rw [if_neg h4] at h
            obtain ⟨a, b⟩ := szV_zero z2 z1 h
            exact ⟨a.symm, b.symm⟩
  · rintro (⟨rfl, rfl, rfl⟩ | ⟨h1, h2⟩)
    · exact cmpN_self _ _ _
    · rw [cmpN_cls]
      unfold cls
      rw [if_pos h1, if_pos h2]
      rfl
end Go.Proofs.YtcgjfckhnpimbaaDoor.Pl
