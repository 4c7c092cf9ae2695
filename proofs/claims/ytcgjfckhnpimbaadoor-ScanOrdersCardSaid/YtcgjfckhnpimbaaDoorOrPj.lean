/-
  Plain laws of the scan statements: what Cmp of the program answers.
-/
import Derived.Test.YtcgjfckhnpimbaaDoorOrPi
set_option linter.unusedVariables false
set_option linter.unusedSimpArgs false
set_option linter.unusedSectionVars false
namespace Go.Proofs.YtcgjfckhnpimbaaDoor.Pl
open Go.RowKit Go.Proofs.YtcgjfckhnpimbaaDoorW.PrintWords Go.Proofs.YtcgjfckhnpimbaaDoor.X Go.Proofs.YtcgjfckhnpimbaaDoor.EScan
def zr : ByteArray := ⟨#[48]⟩
theorem zr_list (d : ByteArray) : d.toList = ([48] : List UInt8) ↔ d = zr := by
  rw [Go.ByteArray.toList_eq]
  constructor
  · intro h
    apply ByteArray.ext
    exact Array.ext' h
  · intro h
    rw [h]
    rfl
theorem list_inj (d d' : ByteArray) : d.toList = d'.toList ↔ d = d' := by
  rw [Go.ByteArray.toList_eq, Go.ByteArray.toList_eq]
  constructor
  · intro h
    apply ByteArray.ext
    exact Array.ext' h
  · intro h
    rw [h]
/-- The order of two Decs without their signs. -/
def szV (d1 : ByteArray) (e1 : Int) (d2 : ByteArray) (e2 : Int) : Int :=
  if d1 = zr then (if d2 = zr then 0 else -1) else if d2 = zr then 1
  else if e1 + d1.size = e2 + d2.size then Lib.compareBytes d1.data.toList d2.data.toList else if e1 + d1.size < e2 + d2.size then -1 else 1
theorem cmp_range : ∀ a b : List UInt8, -1 ≤ Lib.compareBytes a b ∧ Lib.compareBytes a b ≤ 1
  | [], [] => by decide
  | [], _ :: _ => ⟨by simp [Lib.compareBytes], by simp [Lib.compareBytes]⟩
  | _ :: _, [] => ⟨by simp [Lib.compareBytes], by simp [Lib.compareBytes]⟩
  | a :: as', b :: bs => by
    unfold Lib.compareBytes
    have := cmp_range as' bs
    split
    · omega
    · split
      · omega
      · exact this
theorem cmp_neg : ∀ a b : List UInt8, Lib.compareBytes b a = - Lib.compareBytes a b
  | [], [] => by simp [Lib.compareBytes]
  | [], _ :: _ => by simp [Lib.compareBytes]
  | _ :: _, [] => by simp [Lib.compareBytes]
  | a :: as', b :: bs => by
    have ih := cmp_neg as' bs
    simp only [Lib.compareBytes]
    by_cases h1 : a < b
    · have h2 : ¬ b < a := fun h => absurd (UInt8.lt_trans h1 h) (UInt8.lt_irrefl a)
      rw [if_pos h1, if_neg h2, if_pos h1]
      rfl
    · rw [if_neg h1, if_neg h1]
      by_cases h2 : b < a
      · rw [if_pos h2, if_pos h2]
      · rw [if_neg h2, if_neg h2]
        exact ih
theorem szV_range (d1 : ByteArray) (e1 : Int) (d2 : ByteArray) (e2 : Int) : -1 ≤ szV d1 e1 d2 e2 ∧ szV d1 e1 d2 e2 ≤ 1 := by
  have := cmp_range d1.data.toList d2.data.toList
  unfold szV
  repeat' split
  all_goals omega
theorem szV_neg (d1 : ByteArray) (e1 : Int) (d2 : ByteArray) (e2 : Int) : szV d2 e2 d1 e1 = - szV d1 e1 d2 e2 := by
  have hc := cmp_neg d1.data.toList d2.data.toList
  unfold szV
  by_cases h1 : d1 = zr
  · by_cases h2 : d2 = zr
    · rw [if_pos h1, if_pos h2, if_pos h1, if_pos h2]
      rfl
    · rw [if_neg h2, if_pos h1, if_pos h1, if_neg h2]
      rfl
  · by_cases h2 : d2 = zr
    · rw [if_neg h1, if_pos h2, if_neg h1, if_pos h2]
    · rw [if_neg h2, if_neg h1, if_neg h1, if_neg h2]
      by_cases h3 : e1 + d1.size = e2 + d2.size
      · rw [if_pos h3, if_pos h3.symm]
        exact hc
      · rw [if_neg h3, if_neg (Ne.symm h3)]
        by_cases h4 : e1 + d1.size < e2 + d2.size
        · rw [if_pos h4, if_neg (by omega)]
          rfl
        · rw [if_neg h4, if_pos (by omega)]
theorem size_s (g1 g2 : Bool) {d1 d2 : ByteArray} {e1 e2 : Int} (b1 : d1.size ≤ 140737488351232) (b2 : d2.size ≤ 140737488351232) (x1 : -1152921504606846976 ≤ e1) (y1 : e1 ≤ 1152921504606846976) (x2 : -1152921504606846976 ≤ e2) (y2 : e2 ≤ 1152921504606846976) :
    Ans (fun k => scan_size.f k g1 d1 e1 g2 d2 e2) (szV d1 e1 d2 e2) := by
  have go : ∀ b, (b = true ↔ d1 = zr ∧ d2 = zr) → Ans (fun k => scan_size.j0 k b g1 d1 e1 g2 d2 e2) (szV d1 e1 d2 e2) := by
    intro b hb
    refine Ans.succ ?_
    unfold szV
    simp only [scan_size.j0, zr_list]
    rw [wrap_id (x := e1 + (d1.size : Int)) (by omega) (by omega), wrap_id (x := e2 + (d2.size : Int)) (by omega) (by omega)]
    by_cases h1 : d1 = zr
    · by_cases h2 : d2 = zr
      · simp only [if_pos (hb.2 ⟨h1, h2⟩), if_pos h1, if_pos h2]
        exact Ans.ret _
      · simp only [if_neg (fun h => h2 (hb.1 h).2), if_pos h1, if_neg h2]
        exact Ans.ret _
    · simp only [if_neg (fun h => h1 (hb.1 h).1), if_neg h1]
      by_cases h2 : d2 = zr
      · simp only [if_pos h2]
        exact Ans.ret _
      · simp only [if_neg h2]
        by_cases h3 : e1 + (d1.size : Int) = e2 + (d2.size : Int)
        · simp only [if_pos h3, xCompare.f, Option.bind_some]
          exact Ans.ret _
        · simp only [if_neg h3]
          by_cases h4 : e1 + (d1.size : Int) < e2 + (d2.size : Int)
          · simp only [if_pos h4]
            exact Ans.ret _
          · simp only [if_neg h4]
            exact Ans.ret _
  unfold scan_size.f
  by_cases h1 : d1 = zr
  · simp only [if_pos ((zr_list d1).2 h1)]
    refine go _ ?_
    rw [beq_iff_eq, zr_list]
    exact ⟨fun h => ⟨h1, h⟩, fun h => h.2⟩
  · simp only [if_neg (fun h => h1 ((zr_list d1).1 h))]
    exact go false ⟨fun h => (by cases h), fun h => absurd h.1 h1⟩
/-- The order of two Decs. -/
def cmpN (g1 : Bool) (d1 : ByteArray) (e1 : Int) (g2 : Bool) (d2 : ByteArray) (e2 : Int) : Int :=
  if (g1 && !decide (d1 = zr)) = true then (if (g2 && !decide (d2 = zr)) = true then szV d2 e2 d1 e1 else -1) else if (g2 && !decide (d2 = zr)) = true then 1 else szV d1 e1 d2 e2
def cmpV (r1 r2 : Bool × ByteArray × Int × Int) : Int × Int :=
  if r1.2.2.2 = 0 ∧ r2.2.2.2 = 0 then (cmpN r1.1 r1.2.1 r1.2.2.1 r2.1 r2.2.1 r2.2.2.1, 0) else (0, 80)
section
variable (n1 : Bool) (s1 : ByteArray) (p1 : Int) (n2 : Bool) (s2 : ByteArray) (p2 : Int) (hs1 : s1.size ≤ 140737488351232) (hs2 : s2.size ≤ 140737488351232)
include hs1 hs2
end
end Go.Proofs.YtcgjfckhnpimbaaDoor.Pl
