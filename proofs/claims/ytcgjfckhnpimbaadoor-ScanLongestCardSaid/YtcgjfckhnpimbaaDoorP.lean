/-
  Several texts of this session's own in one: Pa Pb Pc Pd Pe Pf.
-/
import Derived.Test.YtcgjfckhnpimbaaDoorXLit
import Derived.Test.YtcgjfckhnpimbaaDoorXStep
import Derived.Test.YtcgjfckhnpimbaaDoorEScanx3
import Derived.Test.YtcgjfckhnpimbaaDoorEScanx13
import Derived.Test.YtcgjfckhnpimbaaDoorEScanx16
import Derived.Test.YtcgjfckhnpimbaaDoorEScanx19
import Derived.Test.YtcgjfckhnpimbaaDoorEScanx17
import Derived.Test.YtcgjfckhnpimbaaDoorEScanx18
import Derived.Test.YtcgjfckhnpimbaaDoorEScanx20
import Derived.Test.YtcgjfckhnpimbaaDoorEScanx21
import Derived.Test.YtcgjfckhnpimbaaDoorEScanx14
import Derived.Test.YtcgjfckhnpimbaaDoorEScanx22
import Derived.Test.YtcgjfckhnpimbaaDoorEScanx23
import Derived.Test.YtcgjfckhnpimbaaDoorEScanx24
import Derived.Test.YtcgjfckhnpimbaaDoorEScanx25
import Derived.Test.YtcgjfckhnpimbaaDoorEScanx26
section
set_option linter.unusedVariables false
set_option linter.unusedSimpArgs false
namespace Go.Proofs.YtcgjfckhnpimbaaDoor.Pl
open Go.RowKit Go.Proofs.YtcgjfckhnpimbaaDoorW.PrintWords Go.Proofs.YtcgjfckhnpimbaaDoor.X

/-! ### Rounds that suffice -/
/-- With enough rounds the answer is r. -/
def Ans {α : Type} (g : Nat → Option α) (r : α) : Prop := ∃ n, ∀ k, n ≤ k → g k = some r
theorem Ans.of {α : Type} {g : Nat → Option α} {r : α} (h : ∀ k, g k = some r) : Ans g r := ⟨0, fun k _ => h k⟩
theorem Ans.ret {α : Type} (r : α) : Ans (fun _ => some r) r := ⟨0, fun _ _ => rfl⟩
theorem Ans.bind {α β : Type} {g : Nat → Option α} {h : Nat → α → Option β} {a : α} {r : β} (hg : Ans g a) (hh : Ans (fun k => h k a) r) : Ans (fun k => (g k).bind (h k)) r := by
  obtain ⟨n, hn⟩ := hg
  obtain ⟨m, hm⟩ := hh
  refine ⟨max n m, fun k hk => ?_⟩
  show (g k).bind (h k) = some r
  rw [hn k (by omega), Option.bind_some]
  exact hm k (by omega)
theorem Ans.succ {α : Type} {g : Nat → Option α} {r : α} (h : Ans (fun k => g (k + 1)) r) : Ans g r := by
  obtain ⟨n, hn⟩ := h
  refine ⟨n + 1, fun k hk => ?_⟩
  obtain ⟨m, rfl⟩ : ∃ m, k = m + 1 := ⟨k - 1, by omega⟩
  exact hn m (by omega)
theorem Ans.congr {α : Type} {g g' : Nat → Option α} {r : α} (h : Ans g' r) (e : ∀ k, g k = g' k) : Ans g r := by
  obtain ⟨n, hn⟩ := h
  exact ⟨n, fun k hk => (e k).trans (hn k hk)⟩
theorem Ans.some {α : Type} {g : Nat → Option α} {r : α} (h : Ans g r) : ∃ k, g k = Option.some r := by
  obtain ⟨n, hn⟩ := h
  exact ⟨n, hn n (Nat.le_refl _)⟩
theorem Ans.uniq {α : Type} {g : Nat → Option α} {r r' : α} (h : Ans g r) (h' : Ans g r') : r = r' := by
  obtain ⟨n, hn⟩ := h
  obtain ⟨m, hm⟩ := h'
  have := (hn (max n m) (by omega)).symm.trans (hm (max n m) (by omega))
  exact Option.some.inj this
theorem wrap_id {x : Int} (h : -9223372036854775808 ≤ x) (h' : x ≤ 9223372036854775807) : wrap64 x = x := by
  unfold wrap64
  omega

/-! ### Bytes of a text -/
theorem bt_ext {s : ByteArray} {a b : Nat} {i : Int} (h0 : 0 ≤ i) (h : i < (b : Int) - a) (hb : b ≤ s.size) : bt (s.extract a b) i = bt s (a + i) := by
  unfold bt
  have h1 : i.toNat < (s.extract a b).size := by rw [ByteArray.size_extract]; omega
  have h2 : ((a : Int) + i).toNat < s.size := by omega
  rw [dif_pos h1, dif_pos h2, ByteArray.getElem_extract]
  have e : a + i.toNat = ((a : Int) + i).toNat := by omega
  simp only [e]
theorem ext_size {s : ByteArray} {a b : Nat} (hb : b ≤ s.size) : (s.extract a b).size = b - a := by
  rw [ByteArray.size_extract]
  omega

/-! ### Blanks -/
def blB (s : ByteArray) (i : Int) : Bool := decide (i < (s.size : Int)) && ((bt s i == 32) || (decide (9 ≤ bt s i) && decide (bt s i ≤ 13)))
theorem blB_lt {s : ByteArray} {i : Int} (h : blB s i = true) : i < (s.size : Int) := by
  unfold blB at h
  simp at h
  exact h.1
/-- The first place from i on that holds no blank. -/
def blEnd (s : ByteArray) (i : Int) : Int := if h : blB s i = true then blEnd s (i + 1) else i
termination_by ((s.size : Int) - i).toNat
decreasing_by have := blB_lt h; omega
theorem blEnd_yes {s : ByteArray} {i : Int} (h : blB s i = true) : blEnd s i = blEnd s (i + 1) := by rw [blEnd, dif_pos h]
theorem blEnd_no {s : ByteArray} {i : Int} (h : blB s i = false) : blEnd s i = i := by rw [blEnd, dif_neg (by simp [h])]
/-- Induction on what is left of the text. -/
theorem left_ind {n : Int} {P : Int → Prop} (step : ∀ i, i ≤ n → (∀ j, i < j → j ≤ n → P j) → P i) : ∀ i, i ≤ n → P i := by
  intro i hi
  generalize hd : (n - i).toNat = d
  induction d using Nat.strongRecOn generalizing i with
  | _ d ih => exact step i hi fun j hj hjn => ih (n - j).toNat (by omega) j hjn rfl
theorem blEnd_range (s : ByteArray) : ∀ i, i ≤ (s.size : Int) → i ≤ blEnd s i ∧ blEnd s i ≤ s.size := by
  refine left_ind fun i hi ih => ?_
  cases h : blB s i
  · rw [blEnd_no h]
    omega
  · rw [blEnd_yes h]
    have hl := blB_lt h
    have := ih (i + 1) (by omega) (by omega)
    omega
theorem blEnd_stop (s : ByteArray) : ∀ i, i ≤ (s.size : Int) → blB s (blEnd s i) = false := by
  refine left_ind fun i hi ih => ?_
  cases h : blB s i
  · rw [blEnd_no h]
    exact h
  · rw [blEnd_yes h]
    exact ih (i + 1) (by omega) (by have := blB_lt h; omega)
theorem blEnd_in (s : ByteArray) : ∀ i, i ≤ (s.size : Int) → ∀ j, i ≤ j → j < blEnd s i → blB s j = true := by
  refine left_ind fun i hi ih j hij hj => ?_
  cases h : blB s i
  · rw [blEnd_no h] at hj
    omega
  · rw [blEnd_yes h] at hj
    by_cases e : j = i
    · rw [e]
      exact h
    · exact ih (i + 1) (by omega) (by have := blB_lt h; omega) j (by omega) hj

/-! ### The digits' end -/
theorem digEnd_range (s : ByteArray) : ∀ i, i ≤ (s.size : Int) → i ≤ digEnd s i ∧ digEnd s i ≤ s.size := by
  refine left_ind fun i hi ih => ?_
  cases h : dgB s i
  · rw [digEnd_no h]
    omega
  · rw [digEnd_yes h]
    have hl := dgB_lt h
    have := ih (i + 1) (by omega) (by omega)
    omega
theorem digEnd_stop (s : ByteArray) : ∀ i, i ≤ (s.size : Int) → dgB s (digEnd s i) = false := by
  refine left_ind fun i hi ih => ?_
  cases h : dgB s i
  · rw [digEnd_no h]
    exact h
  · rw [digEnd_yes h]
    exact ih (i + 1) (by omega) (by have := dgB_lt h; omega)
theorem digEnd_in (s : ByteArray) : ∀ i, i ≤ (s.size : Int) → ∀ j, i ≤ j → j < digEnd s i → dgB s j = true := by
  refine left_ind fun i hi ih j hij hj => ?_
  cases h : dgB s i
  · rw [digEnd_no h] at hj
    omega
  · rw [digEnd_yes h] at hj
    by_cases e : j = i
    · rw [e]
      exact h
    · exact ih (i + 1) (by omega) (by have := dgB_lt h; omega) j (by omega) hj
/-- What the digits' end is, by its places. -/
theorem digEnd_eq {s : ByteArray} {e : Int} (he : e ≤ (s.size : Int)) (hs : dgB s e = false) : ∀ i, i ≤ e → (∀ j, i ≤ j → j < e → dgB s j = true) → digEnd s i = e := by
  refine left_ind fun i hi ih h => ?_
  by_cases e' : i = e
  · rw [e', digEnd_no hs]
  · rw [digEnd_yes (h i (by omega) (by omega))]
    exact ih (i + 1) (by omega) (by omega) fun j h1 h2 => h j (by omega) h2
theorem blEnd_eq {s : ByteArray} {e : Int} (he : e ≤ (s.size : Int)) (hs : blB s e = false) : ∀ i, i ≤ e → (∀ j, i ≤ j → j < e → blB s j = true) → blEnd s i = e := by
  refine left_ind fun i hi ih h => ?_
  by_cases e' : i = e
  · rw [e', blEnd_no hs]
  · rw [blEnd_yes (h i (by omega) (by omega))]
    exact ih (i + 1) (by omega) (by omega) fun j h1 h2 => h j (by omega) h2

/-! ### The normal form, by places -/
def zB (s : ByteArray) (i : Int) : Bool := decide (i < (s.size : Int)) && (bt s i == 48)
theorem zB_lt {s : ByteArray} {i : Int} (h : zB s i = true) : i < (s.size : Int) := by
  unfold zB at h
  simp at h
  exact h.1
/-- Behind the zeros at the head. -/
def zHead (s : ByteArray) (i : Int) : Int := if h : zB s i = true then zHead s (i + 1) else i
termination_by ((s.size : Int) - i).toNat
decreasing_by have := zB_lt h; omega
/-- Ahead of the zeros at the end. -/
def zTail (s : ByteArray) (j : Int) : Int := if h : 0 < j ∧ bt s (j - 1) = 48 then zTail s (j - 1) else j
termination_by j.toNat
decreasing_by omega
theorem zHead_yes {s : ByteArray} {i : Int} (h : zB s i = true) : zHead s i = zHead s (i + 1) := by rw [zHead, dif_pos h]
theorem zHead_no {s : ByteArray} {i : Int} (h : zB s i = false) : zHead s i = i := by rw [zHead, dif_neg (by simp [h])]
theorem zTail_yes {s : ByteArray} {j : Int} (h : 0 < j ∧ bt s (j - 1) = 48) : zTail s j = zTail s (j - 1) := by rw [zTail, dif_pos h]
theorem zTail_no {s : ByteArray} {j : Int} (h : ¬ (0 < j ∧ bt s (j - 1) = 48)) : zTail s j = j := by rw [zTail, dif_neg h]
theorem zHead_range (s : ByteArray) : ∀ i, i ≤ (s.size : Int) → i ≤ zHead s i ∧ zHead s i ≤ s.size := by
  refine left_ind fun i hi ih => ?_
  cases h : zB s i
  · rw [zHead_no h]
    omega
  · rw [zHead_yes h]
    have hl := zB_lt h
    have := ih (i + 1) (by omega) (by omega)
    omega
theorem zHead_stop (s : ByteArray) : ∀ i, i ≤ (s.size : Int) → zB s (zHead s i) = false := by
  refine left_ind fun i hi ih => ?_
  cases h : zB s i
  · rw [zHead_no h]
    exact h
  · rw [zHead_yes h]
    exact ih (i + 1) (by omega) (by have := zB_lt h; omega)
theorem zHead_in (s : ByteArray) : ∀ i, i ≤ (s.size : Int) → ∀ j, i ≤ j → j < zHead s i → bt s j = 48 := by
  refine left_ind fun i hi ih j hij hj => ?_
  cases h : zB s i
  · rw [zHead_no h] at hj
    omega
  · rw [zHead_yes h] at hj
    by_cases e : j = i
    · rw [e]
      unfold zB at h
      simp at h
      exact h.2
    · exact ih (i + 1) (by omega) (by have := zB_lt h; omega) j (by omega) hj
/-- Induction downwards. -/
theorem down_ind {P : Int → Prop} (step : ∀ j, 0 ≤ j → (∀ i, 0 ≤ i → i < j → P i) → P j) : ∀ j, 0 ≤ j → P j := by
  intro j hj
  generalize hd : j.toNat = d
  induction d using Nat.strongRecOn generalizing j with
  | _ d ih => exact step j hj fun i hi hij => ih i.toNat (by omega) i hi rfl
theorem zTail_spec (s : ByteArray) (z : Int) (hz0 : 0 ≤ z) (hz : bt s z ≠ 48) : ∀ j, 0 ≤ j → z < j → z < zTail s j ∧ zTail s j ≤ j ∧ bt s (zTail s j - 1) ≠ 48 ∧ (∀ i, zTail s j ≤ i → i < j → bt s i = 48) := by
  refine down_ind fun j hj ih hzj => ?_
  by_cases h : 0 < j ∧ bt s (j - 1) = 48
  · rw [zTail_yes h]
    have hne : z ≠ j - 1 := fun e => hz (by rw [e]; exact h.2)
    obtain ⟨h1, h2, h3, h4⟩ := ih (j - 1) (by omega) (by omega) (by omega)
    refine ⟨h1, by omega, h3, fun i hi hij => ?_⟩
    by_cases e : i = j - 1
    · rw [e]
      exact h.2
    · exact h4 i hi (by omega)
  · rw [zTail_no h]
    refine ⟨hzj, Int.le_refl _, fun e => h ⟨by omega, e⟩, fun i hi hij => by omega⟩
/-- The normal Dec of digits with an exponent, by places. -/
def nrm (neg : Bool) (s : ByteArray) (exp : Int) : Bool × ByteArray × Int :=
  if zHead s 0 = (s.size : Int) then (neg, ⟨#[48]⟩, 0) else (neg, s.extract (zHead s 0).toNat (zTail s s.size).toNat, exp + s.size - zTail s s.size)
end Go.Proofs.YtcgjfckhnpimbaaDoor.Pl
end

section
set_option linter.unusedVariables false
set_option linter.unusedSimpArgs false
namespace Go.Proofs.YtcgjfckhnpimbaaDoor.Pl
open Go.RowKit Go.Proofs.YtcgjfckhnpimbaaDoorW.PrintWords Go.Proofs.YtcgjfckhnpimbaaDoor.X Go.Proofs.YtcgjfckhnpimbaaDoor.EScan

theorem blank_f (c : Int) : scan_Blank.f c = some ((c == 32) || (decide (9 ≤ c) && decide (c ≤ 13))) := by
  unfold scan_Blank.f
  by_cases h : c = 32
  · simp [h]
  · by_cases h9 : 9 ≤ c
    · simp [h, h9]
    · simp [h, h9]
theorem blank_r (c : Int) : abacusref08_Blank.f c = some ((c == 32) || (decide (9 ≤ c) && decide (c ≤ 13))) := by
  unfold abacusref08_Blank.f
  by_cases h : c = 32
  · simp [h]
  · by_cases h9 : 9 ≤ c
    · simp [h, h9]
    · simp [h, h9]
theorem blB_of {s : ByteArray} {i : Int} (h : i < (s.size : Int)) : ((bt s i == 32) || (decide (9 ≤ bt s i) && decide (bt s i ≤ 13))) = blB s i := by
  unfold blB
  simp [h]
theorem blB_out {s : ByteArray} {i : Int} (h : ¬ i < (s.size : Int)) : blB s i = false := by
  unfold blB
  simp [h]
theorem blanks_l (s : ByteArray) (hs : s.size ≤ 4611686018427387904) : ∀ i, i ≤ (s.size : Int) → 0 ≤ i → Ans (fun k => scan_blanks.l0 k s i) (blEnd s i) := by
  refine left_ind fun i hi ih h0 => Ans.succ ?_
  simp only [scan_blanks.l0]
  by_cases hlt : i < (s.size : Int)
  · simp only [if_pos hlt, if_pos h0, blank_f, Option.bind_some, blB_of hlt]
    cases hb : blB s i
    · rw [blEnd_no hb]
      exact Ans.ret _
    · rw [blEnd_yes hb, wrap_id (by omega) (by omega)]
      exact ih (i + 1) (by omega) (by omega) (by omega)
  · simp only [if_neg hlt]
    rw [blEnd_no (blB_out hlt)]
    exact Ans.ret _
theorem blanks_r (s : ByteArray) (hs : s.size ≤ 4611686018427387904) : ∀ i, i ≤ (s.size : Int) → 0 ≤ i → Ans (fun k => abacusref08_Blanks.l0 k s i) (blEnd s i) := by
  refine left_ind fun i hi ih h0 => Ans.succ ?_
  simp only [abacusref08_Blanks.l0]
  by_cases hlt : i < (s.size : Int)
  · simp only [if_pos hlt, if_pos h0, blank_r, Option.bind_some, blB_of hlt]
    cases hb : blB s i
    · rw [blEnd_no hb]
      exact Ans.ret _
    · rw [blEnd_yes hb, wrap_id (by omega) (by omega)]
      exact ih (i + 1) (by omega) (by omega) (by omega)
  · simp only [if_neg hlt]
    rw [blEnd_no (blB_out hlt)]
    exact Ans.ret _

/-! ### The normal form -/
theorem zB_of {s : ByteArray} {i : Int} (h : i < (s.size : Int)) (e : bt s i = 48) : zB s i = true := by
  unfold zB
  simp [h, e]
theorem zB_ne {s : ByteArray} {i : Int} (e : ¬ bt s i = 48) : zB s i = false := by
  unfold zB
  simp [e]
theorem zB_out {s : ByteArray} {i : Int} (h : ¬ i < (s.size : Int)) : zB s i = false := by
  unfold zB
  simp [h]
theorem ref_l1 (neg : Bool) (s : ByteArray) (exp z : Int) (hs : s.size ≤ 1152921504606846976) (he : -4611686018427387904 ≤ exp) (he' : exp ≤ 4611686018427387904) (hz0 : 0 ≤ z) (hz : bt s z ≠ 48) :
    ∀ j, 0 ≤ j → z < j → j ≤ s.size → Ans (fun k => abacusref08_normal.l1 k neg s exp z j) (neg, s.extract z.toNat (zTail s j).toNat, exp + s.size - zTail s j) := by
  refine down_ind fun j hj ih hzj hjs => Ans.succ ?_
  simp only [abacusref08_normal.l1]
  rw [wrap_id (x := j - 1) (by omega) (by omega)]
  simp only [if_pos (show 0 ≤ j - 1 by omega), if_pos (show j - 1 < (s.size : Int) by omega)]
  by_cases e : bt s (j - 1) = 48
  · simp only [if_pos e]
    rw [zTail_yes ⟨by omega, e⟩]
    have hne : z ≠ j - 1 := fun h => hz (by rw [h]; exact e)
    exact ih (j - 1) (by omega) (by omega) (by omega) (by omega)
  · simp only [if_neg e]
    rw [zTail_no (fun h => e h.2)]
    simp only [if_pos hz0, if_pos (show z ≤ j by omega), if_pos hjs]
    rw [wrap_id (x := exp + (s.size : Int)) (by omega) (by omega), wrap_id (by omega) (by omega)]
    exact Ans.ret _
theorem ref_normal (neg : Bool) (s : ByteArray) (exp : Int) (hs : s.size ≤ 1152921504606846976) (he : -4611686018427387904 ≤ exp) (he' : exp ≤ 4611686018427387904) :
    Ans (fun k => abacusref08_normal.f k neg s exp) (nrm neg s exp) := by
  have key : ∀ i, i ≤ (s.size : Int) → 0 ≤ i → zHead s i = zHead s 0 → Ans (fun k => abacusref08_normal.l0 k neg s exp i) (nrm neg s exp) := by
    refine left_ind fun i hi ih h0 hh => Ans.succ ?_
    have last : ∀ (hz : zB s i = false), Ans (fun k => abacusref08_normal.j1 k neg s exp i) (nrm neg s exp) := by
      intro hz
      have hzi : zHead s 0 = i := by rw [← hh, zHead_no hz]
      refine Ans.succ ?_
      simp only [abacusref08_normal.j1]
      unfold nrm
      rw [hzi]
      by_cases e : i = (s.size : Int)
      · simp only [if_pos e]
        exact Ans.ret _
      · simp only [if_neg e]
        have hlt : i < (s.size : Int) := by omega
        have hb : bt s i ≠ 48 := fun e => by rw [zB_of hlt e] at hz; cases hz
        exact ref_l1 neg s exp i hs he he' h0 hb s.size (by omega) hlt (Int.le_refl _)
    simp only [abacusref08_normal.l0]
    by_cases hlt : i < (s.size : Int)
    · simp only [if_pos hlt, if_pos h0]
      by_cases e : bt s i = 48
      · simp only [if_pos e]
        rw [wrap_id (by omega) (by omega)]
        exact ih (i + 1) (by omega) (by omega) (by omega) (by rw [← hh, zHead_yes (zB_of hlt e)])
      · simp only [if_neg e]
        exact last (zB_ne e)
    · simp only [if_neg hlt]
      exact last (zB_out hlt)
  exact key 0 (by omega) (by omega) rfl

theorem bt_list {s : ByteArray} {j : Nat} {b : UInt8} (h : s.data.toList[j]? = some b) : bt s j = (b.toNat : Int) := by
  unfold bt
  have hj : j < s.size := by
    have := (List.getElem?_eq_some_iff.1 h).1
    simpa using this
  have e : s[(j : Int).toNat]'(by simpa using hj) = b := by
    obtain ⟨h1, h2⟩ := List.getElem?_eq_some_iff.1 h
    rw [← h2]
    rfl
  rw [dif_pos (by simpa using hj), e]
theorem list_bt {s : ByteArray} {j : Nat} (hj : j < s.size) : ∃ b, s.data.toList[j]? = some b ∧ (b.toNat : Int) = bt s j := by
  refine ⟨s[j], ?_, ?_⟩
  · rw [List.getElem?_eq_some_iff]
    exact ⟨by simpa using hj, rfl⟩
  · unfold bt
    rw [dif_pos (by simpa using hj)]
    rfl
theorem byte48 {b : UInt8} (h : (b.toNat : Int) = 48) : b = 48 := by
  apply UInt8.toNat.inj
  have : b.toNat = 48 := by omega
  rw [this]
  rfl
theorem drop_ext (s : ByteArray) (k : Nat) : (⟨(s.data.toList.drop k).toArray⟩ : ByteArray) = s.extract k s.size := by
  apply ByteArray.ext
  rw [ByteArray.data_extract]
  apply Array.ext'
  simp only [Array.toList_extract, List.extract]
  rw [List.take_of_length_le]
  rw [List.length_drop, Array.length_toList]
  exact Nat.le_refl _
theorem take_ext (s : ByteArray) (k : Nat) (h : k ≤ s.size) : (⟨(s.data.toList.take k).toArray⟩ : ByteArray) = s.extract 0 k := by
  apply ByteArray.ext
  rw [ByteArray.data_extract]
  apply Array.ext'
  simp [Array.toList_extract, List.extract]
theorem trimL (s : ByteArray) : (⟨(Lib.trimLeftB s.data.toList 48).toArray⟩ : ByteArray) = s.extract (zHead s 0).toNat s.size := by
  have hr := zHead_range s 0 (by omega)
  have hl : s.data.toList.length = s.size := by simp
  rw [Lib.trimLeftB_drop _ 48 (zHead s 0).toNat (by rw [hl]; omega) (fun j b hj hb => ?_) (fun b hb e => ?_), drop_ext]
  · have h1 := bt_list hb
    have h2 := zHead_in s 0 (by omega) j (by omega) (by omega)
    exact byte48 (by omega)
  · subst e
    have h1 := bt_list hb
    have hlt : (zHead s 0).toNat < s.size := by rw [← hl]; exact (List.getElem?_eq_some_iff.1 hb).1
    have h3 := zHead_stop s 0 (by omega)
    rw [show ((zHead s 0).toNat : Int) = zHead s 0 by omega] at h1
    rw [zB_of (by omega) h1] at h3
    cases h3
theorem trimR (s : ByteArray) (z : Int) (h0 : 0 ≤ z) (hz : z < s.size) (hb : bt s z ≠ 48) : (⟨(Lib.trimRightB s.data.toList 48).toArray⟩ : ByteArray) = s.extract 0 (zTail s s.size).toNat := by
  have hl : s.data.toList.length = s.size := by simp
  obtain ⟨h1, h2, h3, h4⟩ := zTail_spec s z h0 hb s.size (by omega) hz
  rw [Lib.trimRightB_take _ 48 (zTail s s.size).toNat (by rw [hl]; omega) (fun j b hj hb => ?_) (fun b hk hb e => ?_), take_ext _ _ (by omega)]
  · have g1 := bt_list hb
    have hlt : j < s.size := by rw [← hl]; exact (List.getElem?_eq_some_iff.1 hb).1
    exact byte48 (by rw [← g1]; exact h4 j (by omega) (by omega))
  · subst e
    have g1 := bt_list hb
    rw [show (((zTail s s.size).toNat - 1 : Nat) : Int) = zTail s s.size - 1 by omega] at g1
    exact h3 g1
theorem zTail_ext (s : ByteArray) (a : Nat) (ha : a ≤ s.size) : ∀ j, 0 ≤ j → j ≤ (s.size : Int) - a → (∃ z, 0 ≤ z ∧ z < j ∧ bt s (a + z) ≠ 48) → zTail (s.extract a s.size) j = zTail s (a + j) - a := by
  refine down_ind fun j hj ih hjs hz => ?_
  obtain ⟨z, hz0, hzj, hzb⟩ := hz
  have e : bt (s.extract a s.size) (j - 1) = bt s (a + j - 1) := by
    rw [bt_ext (by omega) (by omega) (Nat.le_refl _)]
    congr 1
    omega
  by_cases h : bt s (a + j - 1) = 48
  · rw [zTail_yes ⟨by omega, e.trans h⟩, zTail_yes (j := a + j) ⟨by omega, h⟩]
    have hne : z ≠ j - 1 := fun h' => hzb (by rw [h', show (a : Int) + (j - 1) = a + j - 1 by omega]; exact h)
    rw [ih (j - 1) (by omega) (by omega) (by omega) ⟨z, hz0, by omega, hzb⟩, show (a : Int) + (j - 1) = a + j - 1 by omega]
  · rw [zTail_no (fun h' => h (e.symm.trans h'.2)), zTail_no (j := a + j) (fun h' => h h'.2)]
    omega
theorem empty_list (s : ByteArray) : s.toList = ([] : List UInt8) ↔ s.size = 0 := by
  rw [Go.ByteArray.toList_eq]
  constructor
  · intro h
    have := congrArg List.length h
    simpa using this
  · intro h
    apply List.eq_nil_of_length_eq_zero
    simpa using h
theorem normal_eq (neg : Bool) (s : ByteArray) (exp : Int) (hs : s.size ≤ 281474976710656) (he : -4611686018427387904 ≤ exp) (he' : exp ≤ 4611686018427387904) :
    scan_normal.f neg s exp = some (nrm neg s exp) := by
  unfold scan_normal.f xTrimLeft.f
  rw [if_pos rfl, Option.bind_some, trimL]
  have hr := zHead_range s 0 (by omega)
  unfold nrm
  have hsz : (s.extract (zHead s 0).toNat s.size).size = s.size - (zHead s 0).toNat := ext_size (Nat.le_refl _)
  by_cases e : zHead s 0 = (s.size : Int)
  · rw [if_pos e, if_pos ((empty_list _).2 (by omega))]
  · rw [if_neg e, if_neg (fun h => by have := (empty_list _).1 h; omega)]
    have hzb : bt s (zHead s 0) ≠ 48 := fun h => by
      have := zHead_stop s 0 (by omega)
      rw [zB_of (by omega) h] at this
      cases this
    obtain ⟨t1, t2, t3, t4⟩ := zTail_spec s (zHead s 0) (by omega) hzb s.size (by omega) (by omega)
    have hzt := zTail_ext s (zHead s 0).toNat (by omega) ((s.size : Int) - (zHead s 0).toNat) (by omega) (by omega) ⟨0, by omega, by omega, by rw [show (((zHead s 0).toNat : Nat) : Int) + 0 = zHead s 0 by omega]; exact hzb⟩
    rw [show (((zHead s 0).toNat : Nat) : Int) + ((s.size : Int) - (zHead s 0).toNat) = s.size by omega] at hzt
    unfold xTrimRight.f
    rw [if_pos ⟨rfl, by omega⟩, Option.bind_some]
    have hb0 : bt (s.extract (zHead s 0).toNat s.size) 0 ≠ 48 := by
      rw [bt_ext (by omega) (by omega) (Nat.le_refl _), show (((zHead s 0).toNat : Nat) : Int) + 0 = zHead s 0 by omega]
      exact hzb
    rw [trimR (s.extract (zHead s 0).toNat s.size) 0 (by omega) (by omega) hb0, hsz, show ((s.size - (zHead s 0).toNat : Nat) : Int) = (s.size : Int) - (zHead s 0).toNat by omega, hzt]
    have hex : (s.extract (zHead s 0).toNat s.size).extract 0 (zTail s s.size - (zHead s 0).toNat).toNat = s.extract (zHead s 0).toNat (zTail s s.size).toNat := by
      rw [ByteArray.extract_extract]
      congr 1
      omega
    rw [hex]
    unfold xClone.f
    have hsz2 : (s.extract (zHead s 0).toNat (zTail s s.size).toNat).size = (zTail s s.size).toNat - (zHead s 0).toNat := ext_size (by omega)
    rw [if_pos (by omega), Option.bind_some, hsz2, wrap_id (x := exp + _) (by omega) (by omega), wrap_id (by omega) (by omega)]
    congr 3
    omega
end Go.Proofs.YtcgjfckhnpimbaaDoor.Pl
end

section
set_option linter.unusedVariables false
set_option linter.unusedSimpArgs false
set_option linter.unusedSectionVars false
namespace Go.Proofs.YtcgjfckhnpimbaaDoor.Pl
open Go.RowKit Go.Proofs.YtcgjfckhnpimbaaDoorW.PrintWords Go.Proofs.YtcgjfckhnpimbaaDoor.X Go.Proofs.YtcgjfckhnpimbaaDoor.EScan

/-! ### The sorts of bytes, and the steps -/
theorem sort_dig {s : ByteArray} {i : Int} (h : dgB s i = true) : sortOf (bt s i) = 0 := by
  unfold dgB at h
  simp at h
  unfold sortOf
  rw [if_pos h.2]
theorem sort_of {s : ByteArray} {i : Int} (hlt : i < (s.size : Int)) :
    (dgB s i = true ∧ sortOf (bt s i) = 0) ∨ (dgB s i = false ∧ oneB s i 43 45 = true ∧ oneB s i 46 46 = false ∧ oneB s i 101 69 = false ∧ sortOf (bt s i) = 1) ∨
    (dgB s i = false ∧ oneB s i 43 45 = false ∧ oneB s i 46 46 = true ∧ oneB s i 101 69 = false ∧ sortOf (bt s i) = 2) ∨
    (dgB s i = false ∧ oneB s i 43 45 = false ∧ oneB s i 46 46 = false ∧ oneB s i 101 69 = true ∧ sortOf (bt s i) = 3) ∨
    (dgB s i = false ∧ oneB s i 43 45 = false ∧ oneB s i 46 46 = false ∧ oneB s i 101 69 = false ∧ sortOf (bt s i) = 4) := by
  unfold dgB oneB sortOf
  generalize bt s i = c
  by_cases h0 : 48 ≤ c ∧ c ≤ 57
  · left
    simp [hlt, h0]
  · right
    have hd : (decide (48 ≤ c) && decide (c ≤ 57)) = false := by
      simp only [Bool.and_eq_false_iff, decide_eq_false_iff_not]
      omega
    by_cases h1 : c = 43 ∨ c = 45
    · left
      simp only [hlt, h0, h1, hd, decide_true, Bool.true_and, if_false, if_true, Bool.or_eq_true, beq_iff_eq, Bool.or_eq_false_iff, beq_eq_false_iff_ne, true_and, and_true]
      omega
    · right
      by_cases h2 : c = 46
      · left
        subst h2
        simp [hlt]
      · right
        by_cases h3 : c = 101 ∨ c = 69
        · left
          simp only [hlt, h0, h1, h2, h3, hd, decide_true, Bool.true_and, if_false, if_true, Bool.or_eq_true, beq_iff_eq, Bool.or_eq_false_iff, beq_eq_false_iff_ne, true_and, and_true]
          omega
        · right
          simp only [hlt, h0, h1, h2, h3, hd, decide_true, Bool.true_and, if_false, if_true, Bool.or_eq_true, beq_iff_eq, Bool.or_eq_false_iff, beq_eq_false_iff_ne, true_and, and_true]
          omega
theorem step_eq {a c : Int} {v : Nat} (h : sortOf c = v) (h0 : 0 ≤ a) (h8 : a ≤ 8) : xStep.f a c = some (stepAt a.toNat v) := by
  unfold xStep.f
  rw [if_pos ⟨h0, h8⟩, h]
theorem dg_out {s : ByteArray} {i : Int} (h : ¬ i < (s.size : Int)) : dgB s i = false := by
  unfold dgB
  simp [h]
theorem one_out {s : ByteArray} {i a b : Int} (h : ¬ i < (s.size : Int)) : oneB s i a b = false := by
  unfold oneB
  simp [h]

/-! ### The longest, state by state -/
/-- Behind the digits (and a point) at i: with the exponent, if there is one. -/
def tEnd (s : ByteArray) (i : Int) : Int :=
  if oneB s i 101 69 = true then (if dgB s (if oneB s (i + 1) 43 45 = true then i + 1 + 1 else i + 1) = true then digEnd s (if oneB s (i + 1) 43 45 = true then i + 1 + 1 else i + 1) else i) else i
section
variable (s : ByteArray) (hs : s.size ≤ 4611686018427387904)
include hs
theorem lo_end {st last i : Int} (h : ¬ i < (s.size : Int)) : Ans (fun k => abacusref08_Longest.l0 k s st last i) last := by
  refine Ans.succ ?_
  simp only [abacusref08_Longest.l0, if_neg h]
  exact Ans.ret _
/-- One byte read: the state behind it is t. -/
theorem lo_step {st last i r t : Int} (h0 : 0 ≤ i) (h : i < (s.size : Int)) (ht : xStep.f st (bt s i) = some t) (hd : t = 9 → r = last) (hn : t ≠ 9 → Ans (fun k => abacusref08_Longest.l0 k s t (if t = 2 ∨ t = 3 ∨ t = 5 ∨ t = 8 then i + 1 else last) (i + 1)) r) :
    Ans (fun k => abacusref08_Longest.l0 k s st last i) r := by
  refine Ans.succ ?_
  simp only [abacusref08_Longest.l0, if_pos h, if_pos h0, ht, Option.bind_some]
  by_cases e9 : t = 9
  · simp only [if_pos e9]
    rw [hd e9]
    exact Ans.ret _
  · simp only [if_neg e9]
    have hn := hn e9
    rw [wrap_id (x := i + 1) (by omega) (by omega)]
    unfold abacusref08_ends.f
    by_cases e2 : t = 2
    · simp only [if_pos e2, Option.bind_some, if_true]
      rw [if_pos (.inl e2)] at hn
      exact hn
    · by_cases e3 : t = 3
      · simp only [if_neg e2, if_pos e3, Option.bind_some, if_true]
        rw [if_pos (.inr (.inl e3))] at hn
        exact hn
      · by_cases e5 : t = 5
        · simp only [if_neg e2, if_neg e3, if_pos e5, Option.bind_some, if_true]
          rw [if_pos (.inr (.inr (.inl e5)))] at hn
          exact hn
        · simp only [if_neg e2, if_neg e3, if_neg e5, Option.bind_some]
          by_cases e8 : t = 8
          · simp only [e8, beq_self_eq_true, if_true]
            rw [if_pos (.inr (.inr (.inr e8)))] at hn
            rw [e8] at hn
            exact hn
          · have : (t == 8) = false := beq_eq_false_iff_ne.mpr e8
            simp only [this, Bool.false_eq_true, if_false]
            rw [if_neg (by omega)] at hn
            exact hn
theorem lo8 : ∀ i, i ≤ (s.size : Int) → 0 ≤ i → Ans (fun k => abacusref08_Longest.l0 k s 8 i i) (digEnd s i) := by
  refine left_ind fun i hi ih h0 => ?_
  by_cases hlt : i < (s.size : Int)
  · rcases sort_of hlt with ⟨hd, hv⟩ | h
    · refine lo_step s hs h0 hlt (step_eq hv (by omega) (by omega)) (fun h => absurd h (by decide)) (fun _ => ?_)
      rw [digEnd_yes hd]
      exact ih (i + 1) (by omega) (by omega) (by omega)
    · have hd : dgB s i = false := by rcases h with h | h | h | h <;> exact h.1
      have hv : ∃ v, sortOf (bt s i) = v ∧ stepAt 8 v = 9 := by rcases h with h | h | h | h <;> exact ⟨_, h.2.2.2.2, rfl⟩
      obtain ⟨v, hv, h9⟩ := hv
      refine lo_step s hs h0 hlt (step_eq hv (by omega) (by omega)) (fun _ => by rw [digEnd_no hd]) (fun h => absurd h9 h)
  · rw [digEnd_no (dg_out hlt)]
    exact lo_end s hs hlt
/-- Within an exponent, no digit of it read yet (state 7: its sign was). -/
theorem lo7 {last i : Int} (h0 : 0 ≤ i) : Ans (fun k => abacusref08_Longest.l0 k s 7 last i) (if dgB s i = true then digEnd s i else last) := by
  by_cases hlt : i < (s.size : Int)
  · rcases sort_of hlt with ⟨hd, hv⟩ | h
    · refine lo_step s hs h0 hlt (step_eq hv (by omega) (by omega)) (fun h => absurd h (by decide)) (fun _ => ?_)
      rw [if_pos hd, digEnd_yes hd]
      exact lo8 s hs (i + 1) (by omega) (by omega)
    · have hd : dgB s i = false := by rcases h with h | h | h | h <;> exact h.1
      have hv : ∃ v, sortOf (bt s i) = v ∧ stepAt 7 v = 9 := by rcases h with h | h | h | h <;> exact ⟨_, h.2.2.2.2, rfl⟩
      obtain ⟨v, hv, h9⟩ := hv
      refine lo_step s hs h0 hlt (step_eq hv (by omega) (by omega)) (fun _ => by rw [hd]; rfl) (fun h => absurd h9 h)
  · rw [dg_out hlt]
    exact lo_end s hs hlt
theorem lo6 {last i : Int} (h0 : 0 ≤ i) : Ans (fun k => abacusref08_Longest.l0 k s 6 last i) (if dgB s (if oneB s i 43 45 = true then i + 1 else i) = true then digEnd s (if oneB s i 43 45 = true then i + 1 else i) else last) := by
  by_cases hlt : i < (s.size : Int)
  · rcases sort_of hlt with ⟨hd, hv⟩ | h
    · have h1 : oneB s i 43 45 = false := by
        have := dgB_byte hd
        unfold oneB
        simp
        omega
      simp only [h1, Bool.false_eq_true, if_false, hd, if_true]
      refine lo_step s hs h0 hlt (step_eq hv (by omega) (by omega)) (fun h => absurd h (by decide)) (fun _ => ?_)
      rw [digEnd_yes hd]
      exact lo8 s hs (i + 1) (by omega) (by omega)
    · have hd : dgB s i = false := by rcases h with h | h | h | h <;> exact h.1
      rcases h with h | h
      · refine lo_step s hs h0 hlt (step_eq h.2.2.2.2 (by omega) (by omega)) (fun h => absurd h (by decide)) (fun _ => ?_)
        rw [h.2.1, if_pos rfl]
        exact lo7 s hs (by omega)
      · have h1 : oneB s i 43 45 = false := by rcases h with h | h | h <;> exact h.2.1
        have hv : ∃ v, sortOf (bt s i) = v ∧ stepAt 6 v = 9 := by rcases h with h | h | h <;> exact ⟨_, h.2.2.2.2, rfl⟩
        obtain ⟨v, hv, h9⟩ := hv
        refine lo_step s hs h0 hlt (step_eq hv (by omega) (by omega)) (fun _ => by simp [h1, hd]) (fun h => absurd h9 h)
  · simp only [one_out hlt, Bool.false_eq_true, if_false, dg_out hlt]
    exact lo_end s hs hlt
/-- In a state at whose byte the literal may end or go on with an exponent, not with a digit. -/
theorem lo_tail {st i : Int} (hst : 0 ≤ st ∧ st ≤ 8) (h3 : stepAt st.toNat 3 = 6) (h1 : stepAt st.toNat 1 = 9) (h4 : stepAt st.toNat 4 = 9) (h0 : 0 ≤ i) (hd : dgB s i = false) (hp : oneB s i 46 46 = true → stepAt st.toNat 2 = 9) :
    Ans (fun k => abacusref08_Longest.l0 k s st i i) (tEnd s i) := by
  unfold tEnd
  by_cases hlt : i < (s.size : Int)
  · rcases sort_of hlt with ⟨hd', _⟩ | h | h | h | h
    · rw [hd] at hd'
      cases hd'
    · refine lo_step s hs h0 hlt (step_eq h.2.2.2.2 hst.1 hst.2) (fun _ => by rw [h.2.2.2.1]; rfl) (fun h' => absurd h1 h')
    · refine lo_step s hs h0 hlt (step_eq h.2.2.2.2 hst.1 hst.2) (fun _ => by rw [h.2.2.2.1]; rfl) (fun h' => absurd (hp h.2.2.1) h')
    · refine lo_step s hs h0 hlt (step_eq h.2.2.2.2 hst.1 hst.2) (fun h' => absurd (h3.symm.trans h') (by decide)) (fun _ => ?_)
      rw [h3, h.2.2.2.1, if_pos rfl]
      exact lo6 s hs (by omega)
    · refine lo_step s hs h0 hlt (step_eq h.2.2.2.2 hst.1 hst.2) (fun _ => by rw [h.2.2.2.1]; rfl) (fun h' => absurd h4 h')
  · rw [one_out hlt]
    exact lo_end s hs hlt
theorem lo5 : ∀ i, i ≤ (s.size : Int) → 0 ≤ i → Ans (fun k => abacusref08_Longest.l0 k s 5 i i) (tEnd s (digEnd s i)) := by
  refine left_ind fun i hi ih h0 => ?_
  cases hd : dgB s i
  · rw [digEnd_no hd]
    exact lo_tail s hs (by omega) rfl rfl rfl h0 hd (fun _ => rfl)
  · have hlt := dgB_lt hd
    refine lo_step s hs h0 hlt (step_eq (sort_dig hd) (by omega) (by omega)) (fun h => absurd h (by decide)) (fun _ => ?_)
    rw [digEnd_yes hd]
    exact ih (i + 1) (by omega) (by omega) (by omega)
theorem lo3 {i : Int} (hi : i ≤ (s.size : Int)) (h0 : 0 ≤ i) : Ans (fun k => abacusref08_Longest.l0 k s 3 i i) (tEnd s (digEnd s i)) := by
  cases hd : dgB s i
  · rw [digEnd_no hd]
    exact lo_tail s hs (by omega) rfl rfl rfl h0 hd (fun _ => rfl)
  · have hlt := dgB_lt hd
    refine lo_step s hs h0 hlt (step_eq (sort_dig hd) (by omega) (by omega)) (fun h => absurd h (by decide)) (fun _ => ?_)
    rw [digEnd_yes hd]
    exact lo5 s hs (i + 1) (by omega) (by omega)
theorem lo4 {last i : Int} (h0 : 0 ≤ i) : Ans (fun k => abacusref08_Longest.l0 k s 4 last i) (if dgB s i = true then tEnd s (digEnd s i) else last) := by
  cases hd : dgB s i
  · by_cases hlt : i < (s.size : Int)
    · have hv : ∃ v, sortOf (bt s i) = v ∧ stepAt 4 v = 9 := by
        rcases sort_of hlt with ⟨hd', _⟩ | h | h | h | h
        · rw [hd] at hd'
          cases hd'
        all_goals exact ⟨_, h.2.2.2.2, rfl⟩
      obtain ⟨v, hv, h9⟩ := hv
      refine lo_step s hs h0 hlt (step_eq hv (by omega) (by omega)) (fun _ => rfl) (fun h => absurd h9 h)
    · exact lo_end s hs hlt
  · have hlt := dgB_lt hd
    refine lo_step s hs h0 hlt (step_eq (sort_dig hd) (by omega) (by omega)) (fun h => absurd h (by decide)) (fun _ => ?_)
    rw [if_pos rfl, digEnd_yes hd]
    exact lo5 s hs (i + 1) (by omega) (by omega)
theorem lo2 : ∀ i, i ≤ (s.size : Int) → 0 ≤ i → Ans (fun k => abacusref08_Longest.l0 k s 2 i i) (if oneB s (digEnd s i) 46 46 = true then tEnd s (digEnd s (digEnd s i + 1)) else tEnd s (digEnd s i)) := by
  refine left_ind fun i hi ih h0 => ?_
  cases hd : dgB s i
  · rw [digEnd_no hd]
    cases hp : oneB s i 46 46
    · rw [if_neg (by decide)]
      exact lo_tail s hs (by omega) rfl rfl rfl h0 hd (fun h => absurd (hp.symm.trans h) (by decide))
    · rw [if_pos rfl]
      have hlt := oneB_lt hp
      have hv : sortOf (bt s i) = 2 := by
        unfold oneB at hp
        simp at hp
        rw [hp.2]
        rfl
      refine lo_step s hs h0 hlt (step_eq hv (by omega) (by omega)) (fun h => absurd h (by decide)) (fun _ => ?_)
      exact lo3 s hs (by omega) (by omega)
  · have hlt := dgB_lt hd
    refine lo_step s hs h0 hlt (step_eq (sort_dig hd) (by omega) (by omega)) (fun h => absurd h (by decide)) (fun _ => ?_)
    rw [digEnd_yes hd]
    exact ih (i + 1) (by omega) (by omega) (by omega)
/-- Behind a sign, or none, at i: the literal's end, or k. -/
def hEnd (s : ByteArray) (k i : Int) : Int :=
  if dgB s i = true then (if oneB s (digEnd s i) 46 46 = true then tEnd s (digEnd s (digEnd s i + 1)) else tEnd s (digEnd s i))
  else if oneB s i 46 46 = true then (if dgB s (i + 1) = true then tEnd s (digEnd s (i + 1)) else k) else k
theorem lo1 {k0 i : Int} (h0 : 0 ≤ i) : Ans (fun k => abacusref08_Longest.l0 k s 1 k0 i) (hEnd s k0 i) := by
  unfold hEnd
  by_cases hlt : i < (s.size : Int)
  · rcases sort_of hlt with ⟨hd, hv⟩ | h | h | h | h
    · rw [if_pos hd]
      refine lo_step s hs h0 hlt (step_eq hv (by omega) (by omega)) (fun h => absurd h (by decide)) (fun _ => ?_)
      rw [digEnd_yes hd]
      exact lo2 s hs (i + 1) (by omega) (by omega)
    · rw [h.1, if_neg (by decide), h.2.2.1, if_neg (by decide)]
      exact lo_step s hs h0 hlt (step_eq h.2.2.2.2 (by omega) (by omega)) (fun _ => rfl) (fun h => absurd rfl h)
    · rw [h.1, if_neg (by decide), h.2.2.1, if_pos rfl]
      refine lo_step s hs h0 hlt (step_eq h.2.2.2.2 (by omega) (by omega)) (fun h => absurd h (by decide)) (fun _ => ?_)
      exact lo4 s hs (by omega)
    · rw [h.1, if_neg (by decide), h.2.2.1, if_neg (by decide)]
      exact lo_step s hs h0 hlt (step_eq h.2.2.2.2 (by omega) (by omega)) (fun _ => rfl) (fun h => absurd rfl h)
    · rw [h.1, if_neg (by decide), h.2.2.1, if_neg (by decide)]
      exact lo_step s hs h0 hlt (step_eq h.2.2.2.2 (by omega) (by omega)) (fun _ => rfl) (fun h => absurd rfl h)
  · rw [dg_out hlt, if_neg (by decide), one_out hlt, if_neg (by decide)]
    exact lo_end s hs hlt
theorem lo0 {k0 i : Int} (h0 : 0 ≤ i) : Ans (fun k => abacusref08_Longest.l0 k s 0 k0 i) (hEnd s k0 (if oneB s i 43 45 = true then i + 1 else i)) := by
  by_cases hlt : i < (s.size : Int)
  · rcases sort_of hlt with ⟨hd, hv⟩ | h | h | h | h
    · have h1 : oneB s i 43 45 = false := by
        have := dgB_byte hd
        unfold oneB
        simp
        omega
      rw [h1, if_neg (by decide)]
      unfold hEnd
      rw [if_pos hd]
      refine lo_step s hs h0 hlt (step_eq hv (by omega) (by omega)) (fun h => absurd h (by decide)) (fun _ => ?_)
      rw [digEnd_yes hd]
      exact lo2 s hs (i + 1) (by omega) (by omega)
    · rw [h.2.1, if_pos rfl]
      refine lo_step s hs h0 hlt (step_eq h.2.2.2.2 (by omega) (by omega)) (fun h => absurd h (by decide)) (fun _ => ?_)
      exact lo1 s hs (by omega)
    · rw [h.2.1, if_neg (by decide)]
      unfold hEnd
      rw [h.1, if_neg (by decide), h.2.2.1, if_pos rfl]
      refine lo_step s hs h0 hlt (step_eq h.2.2.2.2 (by omega) (by omega)) (fun h => absurd h (by decide)) (fun _ => ?_)
      exact lo4 s hs (by omega)
    · rw [h.2.1, if_neg (by decide)]
      unfold hEnd
      rw [h.1, if_neg (by decide), h.2.2.1, if_neg (by decide)]
      exact lo_step s hs h0 hlt (step_eq h.2.2.2.2 (by omega) (by omega)) (fun _ => rfl) (fun h => absurd rfl h)
    · rw [h.2.1, if_neg (by decide)]
      unfold hEnd
      rw [h.1, if_neg (by decide), h.2.2.1, if_neg (by decide)]
      exact lo_step s hs h0 hlt (step_eq h.2.2.2.2 (by omega) (by omega)) (fun _ => rfl) (fun h => absurd rfl h)
  · rw [one_out hlt, if_neg (by decide)]
    unfold hEnd
    rw [dg_out hlt, if_neg (by decide), one_out hlt, if_neg (by decide)]
    exact lo_end s hs hlt
end
end Go.Proofs.YtcgjfckhnpimbaaDoor.Pl
end

section
set_option linter.unusedVariables false
set_option linter.unusedSimpArgs false
set_option linter.unusedSectionVars false
namespace Go.Proofs.YtcgjfckhnpimbaaDoor.Pl
open Go.RowKit Go.Proofs.YtcgjfckhnpimbaaDoorW.PrintWords Go.Proofs.YtcgjfckhnpimbaaDoor.X Go.Proofs.YtcgjfckhnpimbaaDoor.EScan

theorem sort_f (c : Int) : Ans (fun k => abacusref08_sort.f k c) (sortOf c : Int) := by
  have j1 : ∀ b : Bool, (b = decide (c = 43 ∨ c = 45)) → ¬ (48 ≤ c ∧ c ≤ 57) → Ans (fun k => abacusref08_sort.j1 k c b) (sortOf c : Int) := by
    intro b hb h0
    refine Ans.succ ?_
    simp only [abacusref08_sort.j1]
    unfold sortOf
    rw [if_neg h0]
    by_cases h1 : c = 43 ∨ c = 45
    · have : b = true := by rw [hb]; exact decide_eq_true h1
      simp only [this, if_true, if_pos h1]
      exact Ans.ret _
    · have : b = false := by rw [hb]; exact decide_eq_false h1
      simp only [this, Bool.false_eq_true, if_false, if_neg h1]
      by_cases h2 : c = 46
      · simp only [if_pos h2]
        exact Ans.ret _
      · simp only [if_neg h2]
        by_cases h3 : c = 101
        · simp only [h3, if_true, true_or]
          exact Ans.ret _
        · by_cases h4 : c = 69
          · simp only [h4, if_true, or_true, if_neg (show ¬ (69 : Int) = 101 by decide)]
            exact Ans.ret _
          · simp only [if_neg h3, if_neg h4, h3, h4, or_self, if_false]
            exact Ans.ret _
  have j0 : ∀ b : Bool, (b = decide (48 ≤ c ∧ c ≤ 57)) → Ans (fun k => abacusref08_sort.j0 k c b) (sortOf c : Int) := by
    intro b hb
    refine Ans.succ ?_
    simp only [abacusref08_sort.j0]
    by_cases h0 : 48 ≤ c ∧ c ≤ 57
    · have : b = true := by rw [hb]; exact decide_eq_true h0
      simp only [this, if_true]
      unfold sortOf
      rw [if_pos h0]
      exact Ans.ret _
    · have : b = false := by rw [hb]; exact decide_eq_false h0
      simp only [this, Bool.false_eq_true, if_false]
      by_cases h1 : c = 43
      · simp only [if_pos h1]
        exact j1 true (by simp [h1]) h0
      · simp only [if_neg h1]
        exact j1 _ (by simp [h1]; rfl) h0
  unfold abacusref08_sort.f
  by_cases h : c ≥ 48
  · simp only [if_pos h]
    exact j0 _ (by simp; omega)
  · simp only [if_neg h]
    exact j0 _ (by simp; omega)

/-! ### The digits as a text -/
def bytesL (s : ByteArray) (a b : Int) : List Int := if h : a < b then bt s a :: bytesL s (a + 1) b else []
termination_by (b - a).toNat
decreasing_by omega
theorem bytesL_nil {s : ByteArray} {a b : Int} (h : ¬ a < b) : bytesL s a b = [] := by rw [bytesL, dif_neg h]
theorem bytesL_cons {s : ByteArray} {a b : Int} (h : a < b) : bytesL s a b = bt s a :: bytesL s (a + 1) b := by rw [bytesL, dif_pos h]
theorem bytesL_len (s : ByteArray) (b : Int) : ∀ a, a ≤ b → ((bytesL s a b).length : Int) = b - a := by
  refine left_ind fun a hab ih => ?_
  by_cases h : a < b
  · rw [bytesL_cons h, List.length_cons]
    have := ih (a + 1) (by omega) (by omega)
    omega
  · rw [bytesL_nil h]
    simp
    omega
section
variable (s : ByteArray) (k n : Int) (hk : 0 ≤ k) (hkn : k ≤ n) (hn : n ≤ s.size) (hs : s.size ≤ 140737488351232)
include hk hkn hn hs
/-- The end: the normal form of what was gathered. -/
def wEnd (s : ByteArray) (k n : Int) (all : List Int) (scale exp : Int) (down : Bool) : Bool × ByteArray × Int :=
  nrm (decide (k < n) && (bt s k == 45)) (strOfNums all) ((if down = true then -exp else exp) - scale)
theorem u_size : (s.extract k.toNat n.toNat).size = n.toNat - k.toNat := ext_size (by omega)
theorem u_bt {p : Int} (h0 : k ≤ p) (h1 : p < n) : bt (s.extract k.toNat n.toNat) (p - k) = bt s p := by
  rw [bt_ext (by omega) (by omega) (by omega)]
  congr 1
  omega
theorem strOfNums_size (l : List Int) : (strOfNums l).size = l.length := by
  unfold strOfNums
  simp [ByteArray.size]
theorem w_end {all : List Int} {scale st exp : Int} {down : Bool} (ha : all.length ≤ 140737488351232) (h0 : 0 ≤ exp) (h1 : exp ≤ 1000000000000000) (h2 : 0 ≤ scale) (h3 : scale ≤ 140737488351232) :
    Ans (fun f => abacusref08_Worth.l0 f (s.extract k.toNat n.toNat) all scale st exp down (n - k)) (wEnd s k n all scale exp down) := by
  refine Ans.succ ?_
  have hu := u_size s k n hk hkn hn hs
  have hlt : ¬ (n - k < ((s.extract k.toNat n.toNat).size : Int)) := by omega
  simp only [abacusref08_Worth.l0, if_neg hlt]
  have hsz : (strOfNums all).size ≤ 1152921504606846976 := by rw [strOfNums_size s k n hk hkn hn hs]; omega
  have fin : ∀ (ng : Bool) (x : Int), -4611686018427387904 ≤ x → x ≤ 4611686018427387904 → Ans (fun f => (abacusref08_normal.f f ng (strOfNums all) x).bind fun b => some (b.1, b.2.1, b.2.2)) (nrm ng (strOfNums all) x) := by
    intro ng x hx hx'
    exact Ans.bind (ref_normal ng (strOfNums all) x hsz hx hx') (Ans.ret _)
  unfold wEnd
  by_cases hkn' : k < n
  · have hb : bt (s.extract k.toNat n.toNat) 0 = bt s k := by
      have := u_bt s k n hk hkn hn hs (p := k) (Int.le_refl _) hkn'
      rw [show k - k = (0 : Int) by omega] at this
      exact this
    simp only [if_pos (show ((s.extract k.toNat n.toNat).size : Int) > 0 by omega), if_pos (show 0 < ((s.extract k.toNat n.toNat).size : Int) by omega), hb, decide_eq_true hkn', Bool.true_and]
    cases down
    · simp only [Bool.false_eq_true, if_false]
      rw [wrap_id (by omega) (by omega)]
      exact fin _ _ (by omega) (by omega)
    · simp only [if_true]
      rw [wrap_id (x := -exp) (by omega) (by omega), wrap_id (by omega) (by omega)]
      exact fin _ _ (by omega) (by omega)
  · simp only [if_neg (show ¬ ((s.extract k.toNat n.toNat).size : Int) > 0 by omega), decide_eq_false hkn', Bool.false_and]
    cases down
    · simp only [Bool.false_eq_true, if_false]
      rw [wrap_id (by omega) (by omega)]
      exact fin _ _ (by omega) (by omega)
    · simp only [if_true]
      rw [wrap_id (x := -exp) (by omega) (by omega), wrap_id (by omega) (by omega)]
      exact fin _ _ (by omega) (by omega)
/-- One byte read. -/
theorem w_step {all : List Int} {scale st exp p t : Int} {down : Bool} {v : Nat} {R : Bool × ByteArray × Int} (hp : k ≤ p) (hpn : p < n) (hv : sortOf (bt s p) = v) (h0 : 0 ≤ st) (h8 : st ≤ 8) (ht : stepAt st.toNat v = t) (h2v : t = 2 → v = 0)
    (ha : all.length ≤ p) (hx0 : 0 ≤ exp) (hx1 : exp ≤ 1000000000000000) (hs0 : 0 ≤ scale) (hs1 : scale ≤ p) (hd8 : t = 8 → 48 ≤ bt s p ∧ bt s p ≤ 57)
    (hr : Ans (fun f => abacusref08_Worth.l0 f (s.extract k.toNat n.toNat) (if t = 2 ∨ t = 5 then all ++ [bt s p] else all) (if t = 5 then scale + 1 else scale) t (if t = 8 then cap15 (exp * 10 + (bt s p - 48)) else exp) (if t = 7 then (bt s p == 45) else down) (p + 1 - k)) R) :
    Ans (fun f => abacusref08_Worth.l0 f (s.extract k.toNat n.toNat) all scale st exp down (p - k)) R := by
  refine Ans.succ ?_
  have hu := u_size s k n hk hkn hn hs
  have hb := u_bt s k n hk hkn hn hs hp hpn
  have hlt : p - k < ((s.extract k.toNat n.toNat).size : Int) := by omega
  have hge : 0 ≤ p - k := by omega
  have hst : xStep.f st (bt (s.extract k.toNat n.toNat) (p - k)) = some t := by rw [hb, step_eq hv h0 h8, ht]
  simp only [abacusref08_Worth.l0, if_pos hlt, if_pos hge, hst, Option.bind_some]
  have hw : wrap64 (p - k + 1) = p + 1 - k := by rw [wrap_id (by omega) (by omega)]; omega
  by_cases e2 : t = 2
  · simp only [if_pos e2, hb]
    have hv0 := h2v e2
    refine Ans.bind (sort_f (bt s p)) ?_
    rw [hv, hv0]
    refine Ans.succ ?_
    simp only [abacusref08_Worth.j1, show (((0 : Nat) : Int) == 0) = true from rfl, if_true, if_pos hge, if_pos hlt, if_pos (show all.length < 140737488355328 by omega), hb, hw]
    rw [if_pos (.inl e2), if_neg (by omega), if_neg (by omega), if_neg (by omega)] at hr
    exact hr
  · simp only [if_neg e2]
    refine Ans.succ ?_
    simp only [abacusref08_Worth.j1, Bool.false_eq_true, if_false]
    by_cases e5 : t = 5
    · simp only [if_pos e5, if_pos hge, if_pos hlt, if_pos (show all.length < 140737488355328 by omega), hb, hw, wrap_id (x := scale + 1) (by omega) (by omega)]
      rw [if_pos (.inr e5), if_pos e5, if_neg (by omega), if_neg (by omega)] at hr
      exact hr
    · simp only [if_neg e5]
      by_cases e7 : t = 7
      · simp only [if_pos e7, if_pos hge, if_pos hlt, hb, hw]
        rw [if_neg (by omega), if_neg e5, if_neg (by omega), if_pos e7] at hr
        exact hr
      · simp only [if_neg e7]
        by_cases e8 : t = 8
        · have h8b := hd8 e8
          have hmod : (bt s p - 48) % 256 = bt s p - 48 := by omega
          simp only [if_pos e8, if_pos hge, if_pos hlt, hb, hw, hmod, wrap_id (x := exp * 10) (by omega) (by omega), wrap_id (x := exp * 10 + (bt s p - 48)) (by omega) (by omega)]
          rw [if_neg (by omega), if_neg e5, if_pos e8, if_neg e7] at hr
          unfold cap15 at hr
          by_cases hc : exp * 10 + (bt s p - 48) > 1000000000000000
          · simp only [if_pos hc] at hr ⊢
            exact hr
          · simp only [if_neg hc] at hr ⊢
            exact hr
        · simp only [if_neg e8, hw]
          rw [if_neg (by omega), if_neg e5, if_neg e8, if_neg e7] at hr
          exact hr
end
end Go.Proofs.YtcgjfckhnpimbaaDoor.Pl
end

section
set_option linter.unusedVariables false
set_option linter.unusedSimpArgs false
set_option linter.unusedSectionVars false
namespace Go.Proofs.YtcgjfckhnpimbaaDoor.Pl
open Go.RowKit Go.Proofs.YtcgjfckhnpimbaaDoorW.PrintWords Go.Proofs.YtcgjfckhnpimbaaDoor.X Go.Proofs.YtcgjfckhnpimbaaDoor.EScan

theorem sort_sign {s : ByteArray} {i : Int} (h : oneB s i 43 45 = true) : sortOf (bt s i) = 1 := by
  rcases sort_of (oneB_lt h) with ⟨hd, _⟩ | g | g | g | g
  · have := dgB_byte hd
    unfold oneB at h
    simp at h
    omega
  · exact g.2.2.2.2
  all_goals rw [g.2.1] at h; cases h
theorem sort_point {s : ByteArray} {i : Int} (h : oneB s i 46 46 = true) : sortOf (bt s i) = 2 := by
  unfold oneB at h
  simp at h
  rw [h.2]
  rfl
theorem sort_letter {s : ByteArray} {i : Int} (h : oneB s i 101 69 = true) : sortOf (bt s i) = 3 := by
  unfold oneB at h
  simp at h
  rcases h.2 with e | e <;> rw [e] <;> rfl
section
variable (s : ByteArray) (k n : Int) (hk : 0 ≤ k) (hkn : k ≤ n) (hn : n ≤ s.size) (hs : s.size ≤ 140737488351232)
include hk hkn hn hs
/-- The digits of an exponent, to the end. -/
theorem w8 : ∀ p, p ≤ n → k ≤ p → ∀ {all : List Int} {scale exp : Int} {down : Bool}, digEnd s p = n → all.length ≤ p → 0 ≤ exp → exp ≤ 1000000000000000 → 0 ≤ scale → scale ≤ p →
    Ans (fun f => abacusref08_Worth.l0 f (s.extract k.toNat n.toNat) all scale 8 exp down (p - k)) (wEnd s k n all scale (expRun s p exp) down) := by
  refine left_ind fun p hp ih hkp => ?_
  intro all scale exp down he ha h0 h1 h2 h3
  by_cases hd : dgB s p = true
  · have hlt : p < n := by
      have := digEnd_range s (p + 1) (by have := dgB_lt hd; omega)
      rw [digEnd_yes hd] at he
      omega
    have hb := dgB_byte hd
    refine w_step s k n hk hkn hn hs hkp hlt (sort_dig hd) (by omega) (by omega) rfl (fun h => absurd h (by decide)) ha h0 h1 h2 h3 (fun _ => hb) ?_
    have hc := cap15_range (x := exp * 10 + (bt s p - 48)) (by omega)
    rw [expRun_yes hd]
    exact ih (p + 1) (by omega) (by omega) (by omega) (by rw [← digEnd_yes hd]; exact he) (by show (all.length : Int) ≤ p + 1; omega) hc.1 hc.2 h2 (by show scale ≤ p + 1; omega)
  · have hd : dgB s p = false := by simpa using hd
    rw [digEnd_no hd] at he
    subst he
    rw [expRun_no hd]
    exact w_end s k p hk hkn hn hs (by omega) h0 h1 h2 (by omega)
/-- The first digit of an exponent (states 6 and 7). -/
theorem w67 {st p : Int} (hst : st = 6 ∨ st = 7) (hkp : k ≤ p) (hpn : p < n) {all : List Int} {scale : Int} {down : Bool} (hd : dgB s p = true) (he : digEnd s p = n) (ha : all.length ≤ p) (h2 : 0 ≤ scale) (h3 : scale ≤ p) :
    Ans (fun f => abacusref08_Worth.l0 f (s.extract k.toNat n.toNat) all scale st 0 down (p - k)) (wEnd s k n all scale (expRun s p 0) down) := by
  have hb := dgB_byte hd
  refine w_step s k n hk hkn hn hs hkp hpn (t := 8) (sort_dig hd) (by omega) (by omega) (by rcases hst with h | h <;> rw [h] <;> rfl) (fun h => absurd h (by decide)) ha (by omega) (by omega) h2 h3 (fun _ => hb) ?_
  have hc := cap15_range (x := 0 * 10 + (bt s p - 48)) (by omega)
  rw [expRun_yes hd]
  exact w8 s k n hk hkn hn hs (p + 1) (by omega) (by omega) (by rw [← digEnd_yes hd]; exact he) (by show (all.length : Int) ≤ p + 1; omega) hc.1 hc.2 h2 (by show scale ≤ p + 1; omega)
/-- What the tail is worth, behind the digits that are gathered: all of it from p on. -/
theorem w_tail {st p : Int} (h0 : 0 ≤ st) (h8 : st ≤ 8) (h3 : stepAt st.toNat 3 = 6) (hkp : k ≤ p) (hpn : p ≤ n) {all : List Int} {scale : Int} (ha : all.length ≤ p) (h2 : 0 ≤ scale) (h4 : scale ≤ p) (he : tEnd s p = n) (neg : Bool) (dg : ByteArray)
    (hd : strOfNums all = dg) (hneg : (decide (k < n) && (bt s k == 45)) = neg) :
    Ans (fun f => abacusref08_Worth.l0 f (s.extract k.toNat n.toNat) all scale st 0 false (p - k)) (nrm (litTail s neg dg scale p).1 (litTail s neg dg scale p).2.1 (litTail s neg dg scale p).2.2.1) := by
  have fin : ∀ exp down, wEnd s k n all scale exp down = nrm neg dg ((if down = true then -exp else exp) - scale) := by
    intro exp down
    unfold wEnd
    rw [hneg, hd]
  have stop : p = n → Ans (fun f => abacusref08_Worth.l0 f (s.extract k.toNat n.toNat) all scale st 0 false (p - k)) (nrm neg dg (0 - scale)) := by
    intro e
    subst e
    have := w_end s k p hk hkn hn hs (st := st) (exp := 0) (down := false) (all := all) (scale := scale) (by omega) (by omega) (by omega) h2 (by omega)
    rw [fin] at this
    exact this
  unfold tEnd at he
  cases g1 : oneB s p 101 69
  · rw [litTail_n g1]
    simp only [g1, Bool.false_eq_true, if_false] at he
    exact stop he
  · simp only [g1, if_true] at he
    cases g2 : oneB s (p + 1) 43 45
    · simp only [g2, Bool.false_eq_true, if_false] at he
      cases g4 : dgB s (p + 1)
      · rw [litTail_z g1 g2 g4]
        simp only [g4, Bool.false_eq_true, if_false] at he
        exact stop he
      · rw [litTail_zd g1 g2 g4]
        simp only [g4, if_true] at he
        have hr := digEnd_range s (p + 1 + 1) (by have := dgB_lt g4; omega)
        have he' := he
        rw [digEnd_yes g4] at he'
        refine w_step s k n hk hkn hn hs hkp (by omega) (sort_letter g1) h0 h8 h3 (fun h => absurd h (by decide)) ha (by omega) (by omega) h2 h4 (fun h => absurd h (by decide)) ?_
        have := w67 s k n hk hkn hn hs (st := 6) (p := p + 1) (all := all) (scale := scale) (down := false) (.inl rfl) (by omega) (by omega) g4 he (by omega) h2 (by omega)
        rw [fin] at this
        exact this
    · simp only [g2, if_true] at he
      cases g4 : dgB s (p + 1 + 1)
      · rw [litTail_s g1 g2 g4]
        simp only [g4, Bool.false_eq_true, if_false] at he
        exact stop he
      · rw [litTail_sd g1 g2 rfl g4]
        simp only [g4, if_true] at he
        have hr := digEnd_range s (p + 1 + 1 + 1) (by have := dgB_lt g4; omega)
        have he' := he
        rw [digEnd_yes g4] at he'
        refine w_step s k n hk hkn hn hs hkp (by omega) (sort_letter g1) h0 h8 h3 (fun h => absurd h (by decide)) ha (by omega) (by omega) h2 h4 (fun h => absurd h (by decide)) ?_
        refine w_step s k n hk hkn hn hs (st := 6) (p := p + 1) (t := 7) (by omega) (by omega) (sort_sign g2) (by omega) (by omega) rfl (fun h => absurd h (by decide)) (by show all.length ≤ p + 1; omega) (by show (0 : Int) ≤ 0; omega) (by show (0 : Int) ≤ _; omega) h2 (by show scale ≤ p + 1; omega) (fun h => absurd h (by decide)) ?_
        have := w67 s k n hk hkn hn hs (st := 7) (p := p + 1 + 1) (all := all) (scale := scale) (down := (bt s (p + 1) == 45)) (.inr rfl) (by omega) (by omega) g4 he (by omega) h2 (by omega)
        rw [fin] at this
        exact this
/-- Digits behind a point. -/
theorem w5 : ∀ p, p ≤ n → k ≤ p → ∀ {st : Int} {all : List Int} {scale : Int}, (st = 5 ∨ st = 3) → digEnd s p ≤ n → all.length ≤ p → 0 ≤ scale → scale ≤ p → tEnd s (digEnd s p) = n → ∀ (neg : Bool) (dg : ByteArray),
    strOfNums (all ++ bytesL s p (digEnd s p)) = dg → (decide (k < n) && (bt s k == 45)) = neg →
    Ans (fun f => abacusref08_Worth.l0 f (s.extract k.toNat n.toNat) all scale st 0 false (p - k)) (nrm (litTail s neg dg (scale + (digEnd s p - p)) (digEnd s p)).1 (litTail s neg dg (scale + (digEnd s p - p)) (digEnd s p)).2.1 (litTail s neg dg (scale + (digEnd s p - p)) (digEnd s p)).2.2.1) := by
  refine left_ind fun p hp ih hkp => ?_
  intro st all scale hst hde ha h2 h3 he neg dg hdg hneg
  cases hd : dgB s p
  · rw [digEnd_no hd] at he hdg ⊢
    rw [bytesL_nil (by omega), List.append_nil] at hdg
    rw [show scale + (p - p) = scale by omega]
    exact w_tail s k n hk hkn hn hs (by omega) (by omega) (by rcases hst with h | h <;> rw [h] <;> rfl) hkp hp ha h2 h3 he neg dg hdg hneg
  · have hlt := dgB_lt hd
    have hr := digEnd_range s (p + 1) (by omega)
    have hyes := digEnd_yes hd
    refine w_step s k n hk hkn hn hs hkp (by omega) (t := 5) (sort_dig hd) (by omega) (by omega) (by rcases hst with h | h <;> rw [h] <;> rfl) (fun h => absurd h (by decide)) ha (by omega) (by omega) h2 h3 (fun h => absurd h (by decide)) ?_
    have := ih (p + 1) (by omega) (by omega) (by omega) (st := 5) (all := all ++ [bt s p]) (scale := scale + 1) (.inl rfl) (by omega) (by simp; omega) (by omega) (by omega) (by rw [← hyes]; exact he) neg dg
      (by rw [← hyes, List.append_assoc, List.singleton_append, ← bytesL_cons (by omega)]; exact hdg) hneg
    rw [← hyes, show scale + 1 + (digEnd s p - (p + 1)) = scale + (digEnd s p - p) by omega] at this
    exact this
/-- Digits ahead of a point. -/
theorem w2 : ∀ p, p ≤ n → k ≤ p → ∀ {all : List Int}, digEnd s p ≤ n → all.length ≤ p → ∀ (neg : Bool) (r : Bool × ByteArray × Int × Int × Bool),
    (oneB s (digEnd s p) 46 46 = true → digEnd s (digEnd s p + 1) ≤ n ∧ tEnd s (digEnd s (digEnd s p + 1)) = n ∧ r = litTail s neg (strOfNums (all ++ bytesL s p (digEnd s p) ++ bytesL s (digEnd s p + 1) (digEnd s (digEnd s p + 1)))) (digEnd s (digEnd s p + 1) - (digEnd s p + 1)) (digEnd s (digEnd s p + 1))) →
    (oneB s (digEnd s p) 46 46 = false → tEnd s (digEnd s p) = n ∧ r = litTail s neg (strOfNums (all ++ bytesL s p (digEnd s p))) 0 (digEnd s p)) → (decide (k < n) && (bt s k == 45)) = neg →
    Ans (fun f => abacusref08_Worth.l0 f (s.extract k.toNat n.toNat) all 0 2 0 false (p - k)) (nrm r.1 r.2.1 r.2.2.1) := by
  refine left_ind fun p hp ih hkp => ?_
  intro all hde ha neg r hpt hno hneg
  cases hd : dgB s p
  · rw [digEnd_no hd] at hpt hno
    rw [bytesL_nil (by omega), List.append_nil] at hpt hno
    cases g : oneB s p 46 46
    · obtain ⟨h1, rfl⟩ := hno g
      exact w_tail s k n hk hkn hn hs (by omega) (by omega) rfl hkp hp ha (by omega) (by omega) h1 neg _ rfl hneg
    · obtain ⟨h0, h1, rfl⟩ := hpt g
      have hlt := oneB_lt g
      have hr := digEnd_range s (p + 1) (by omega)
      refine w_step s k n hk hkn hn hs hkp (by omega) (t := 3) (sort_point g) (by omega) (by omega) rfl (fun h => absurd h (by decide)) ha (by omega) (by omega) (by omega) (by omega) (fun h => absurd h (by decide)) ?_
      have := w5 s k n hk hkn hn hs (p + 1) (by omega) (by omega) (st := 3) (all := all) (scale := 0) (.inr rfl) h0 (by omega) (by omega) (by omega) h1 neg _ rfl hneg
      rw [show (0 : Int) + (digEnd s (p + 1) - (p + 1)) = digEnd s (p + 1) - (p + 1) by omega] at this
      exact this
  · have hlt := dgB_lt hd
    have hr := digEnd_range s (p + 1) (by omega)
    have hyes := digEnd_yes hd
    refine w_step s k n hk hkn hn hs hkp (by omega) (t := 2) (sort_dig hd) (by omega) (by omega) rfl (fun _ => rfl) ha (by omega) (by omega) (by omega) (by omega) (fun h => absurd h (by decide)) ?_
    have hcat : all ++ [bt s p] ++ bytesL s (p + 1) (digEnd s p) = all ++ bytesL s p (digEnd s p) := by rw [List.append_assoc, List.singleton_append, ← bytesL_cons (by omega)]
    exact ih (p + 1) (by omega) (by omega) (by omega) (all := all ++ [bt s p]) (by omega) (by simp; omega) neg r (by rw [← hyes, hcat]; exact hpt) (by rw [← hyes, hcat]; exact hno) hneg
end
theorem strOf_bytes (s : ByteArray) {b : Int} (hb : b ≤ s.size) : ∀ a, a ≤ b → 0 ≤ a → strOfNums (bytesL s a b) = s.extract a.toNat b.toNat := by
  have key : ∀ a, a ≤ b → 0 ≤ a → (bytesL s a b).map (fun n => UInt8.ofNat n.toNat) = (s.data.toList.drop a.toNat).take (b.toNat - a.toNat) := by
    refine left_ind fun a hab ih h0 => ?_
    by_cases h : a < b
    · obtain ⟨c, hc, hbt⟩ := list_bt (s := s) (j := a.toNat) (by omega)
      obtain ⟨hl, he⟩ := List.getElem?_eq_some_iff.1 hc
      rw [bytesL_cons h, List.map_cons, ih (a + 1) (by omega) (by omega) (by omega), List.drop_eq_getElem_cons hl, he, show b.toNat - a.toNat = (b.toNat - (a + 1).toNat) + 1 by omega, List.take_succ_cons, show (a + 1).toNat = a.toNat + 1 by omega]
      congr 1
      rw [show ((a.toNat : Nat) : Int) = a by omega] at hbt
      rw [← hbt]
      simp
    · rw [bytesL_nil h, show b.toNat - a.toNat = 0 by omega]
      rfl
  intro a hab h0
  apply ByteArray.ext
  rw [ByteArray.data_extract]
  apply Array.ext'
  unfold strOfNums
  simp only [Array.toList_extract, List.extract]
  exact key a hab h0
theorem strOf_app (a b : List Int) : strOfNums (a ++ b) = strOfNums a ++ strOfNums b := by
  unfold strOfNums
  apply ByteArray.ext
  simp [ByteArray.data_append]
end Go.Proofs.YtcgjfckhnpimbaaDoor.Pl
end

section
set_option linter.unusedVariables false
set_option linter.unusedSimpArgs false
set_option linter.unusedSectionVars false
namespace Go.Proofs.YtcgjfckhnpimbaaDoor.Pl
open Go.RowKit Go.Proofs.YtcgjfckhnpimbaaDoorW.PrintWords Go.Proofs.YtcgjfckhnpimbaaDoor.X Go.Proofs.YtcgjfckhnpimbaaDoor.EScan

theorem expRun_range (s : ByteArray) : ∀ i, i ≤ (s.size : Int) → ∀ x, 0 ≤ x → x ≤ 1000000000000000 → 0 ≤ expRun s i x ∧ expRun s i x ≤ 1000000000000000 := by
  refine left_ind fun i hi ih x h0 h1 => ?_
  cases h : dgB s i
  · rw [expRun_no h]
    exact ⟨h0, h1⟩
  · rw [expRun_yes h]
    have hb := dgB_byte h
    have hc := cap15_range (x := x * 10 + (bt s i - 48)) (by omega)
    exact ih (i + 1) (by omega) (by have := dgB_lt h; omega) _ hc.1 hc.2
theorem tEnd_range (s : ByteArray) {i : Int} (hi : i ≤ s.size) : i ≤ tEnd s i ∧ tEnd s i ≤ s.size := by
  unfold tEnd
  cases g1 : oneB s i 101 69
  · simp only [Bool.false_eq_true, if_false]
    omega
  · simp only [if_true]
    have h1 := oneB_lt g1
    cases g2 : oneB s (i + 1) 43 45
    · simp only [Bool.false_eq_true, if_false]
      cases g4 : dgB s (i + 1)
      · simp only [Bool.false_eq_true, if_false]
        omega
      · simp only [if_true]
        have := digEnd_range s (i + 1) (by omega)
        omega
    · simp only [if_true]
      have h2 := oneB_lt g2
      cases g4 : dgB s (i + 1 + 1)
      · simp only [Bool.false_eq_true, if_false]
        omega
      · simp only [if_true]
        have := digEnd_range s (i + 1 + 1) (by omega)
        omega
/-- What is told of the tail. -/
theorem litTail_facts (s : ByteArray) (neg : Bool) (dg : ByteArray) (places i : Int) (hi : i ≤ s.size) (hp : 0 ≤ places) (hp' : places ≤ s.size) :
    (litTail s neg dg places i).1 = neg ∧ (litTail s neg dg places i).2.1 = dg ∧ (litTail s neg dg places i).2.2.2.1 = tEnd s i ∧ (litTail s neg dg places i).2.2.2.2 = true ∧
    -1000000000000000 - s.size ≤ (litTail s neg dg places i).2.2.1 ∧ (litTail s neg dg places i).2.2.1 ≤ 1000000000000000 := by
  unfold tEnd
  cases g1 : oneB s i 101 69
  · rw [litTail_n g1]
    simp only [Bool.false_eq_true, if_false, true_and]
    omega
  · have h1 := oneB_lt g1
    cases g2 : oneB s (i + 1) 43 45
    · cases g4 : dgB s (i + 1)
      · rw [litTail_z g1 g2 g4]
        simp only [Bool.false_eq_true, if_false, if_true, true_and, g4]
        omega
      · rw [litTail_zd g1 g2 g4]
        have := expRun_range s (i + 1) (by omega) 0 (by omega) (by omega)
        simp only [litExp, Bool.false_eq_true, if_false, if_true, true_and, g4]
        omega
    · have h2 := oneB_lt g2
      cases g4 : dgB s (i + 1 + 1)
      · rw [litTail_s g1 g2 g4]
        simp only [Bool.false_eq_true, if_false, if_true, true_and, g4]
        omega
      · rw [litTail_sd g1 g2 rfl g4]
        have := expRun_range s (i + 1 + 1) (by omega) 0 (by omega) (by omega)
        simp only [litExp, if_true, true_and, g4]
        split <;> omega
/-- A literal as it is read from k on: its sign, where its digits begin, its answer. -/
structure LitAt (s : ByteArray) (k : Int) (r : Bool × ByteArray × Int × Int × Bool) : Prop where
  ok : r.2.2.2.2 = true
  lt : k < r.2.2.2.1
  le : r.2.2.2.1 ≤ s.size
  size : r.2.1.size ≤ s.size
  lo : -1000000000000000 - s.size ≤ r.2.2.1
  hi : r.2.2.1 ≤ 1000000000000000
  longest : hEnd s k (if oneB s k 43 45 = true then k + 1 else k) = r.2.2.2.1
  worth : Ans (fun f => abacusref08_Worth.f f (s.extract k.toNat r.2.2.2.1.toNat)) (nrm r.1 r.2.1 r.2.2.1)
section
variable (s : ByteArray) (hs : s.size ≤ 140737488351232)
include hs
/-- From the first digit or the point on, in state 0 or 1. -/
theorem lit_body {k k1 : Int} (hk : 0 ≤ k) (h1 : k1 = k ∨ k1 = k + 1) (hk1 : k1 ≤ s.size) {st : Int} (hst : st = 0 ∨ st = 1) (neg : Bool) (hneg : (bt s k == 45) = neg ∨ (neg = false ∧ bt s k ≠ 45)) :
    (litA s neg k1 k1 = (false, ⟨#[]⟩, 0, 0, false) ∧ hEnd s k k1 = k) ∨
    (∃ r, litA s neg k1 k1 = r ∧ r.2.2.2.2 = true ∧ k1 < r.2.2.2.1 ∧ r.2.2.2.1 ≤ s.size ∧ r.2.1.size ≤ s.size ∧ -1000000000000000 - s.size ≤ r.2.2.1 ∧ r.2.2.1 ≤ 1000000000000000 ∧ hEnd s k k1 = r.2.2.2.1 ∧
      Ans (fun f => abacusref08_Worth.l0 f (s.extract k.toNat r.2.2.2.1.toNat) [] 0 st 0 false (k1 - k)) (nrm r.1 r.2.1 r.2.2.1)) := by
  have hng : ∀ n, k < n → (decide (k < n) && (bt s k == 45)) = neg := by
    intro n hn
    rw [decide_eq_true hn, Bool.true_and]
    rcases hneg with h | ⟨h, h'⟩
    · exact h
    · rw [h]
      exact beq_eq_false_iff_ne.mpr h'
  cases hd : dgB s k1
  · cases hp : oneB s k1 46 46
    · left
      constructor
      · rw [litA_no hd (by simp [hp])]
        unfold litM
        rw [if_pos rfl]
      · unfold hEnd
        simp [hd, hp]
    · have hlt := oneB_lt hp
      cases hd2 : dgB s (k1 + 1)
      · left
        constructor
        · rw [litA_no hd (by simp [hp, hd2])]
          unfold litM
          rw [if_pos rfl]
        · unfold hEnd
          simp [hd, hp, hd2]
      · right
        have hlt2 := dgB_lt hd2
        have hr := digEnd_range s (k1 + 1 + 1) (by omega)
        have hyes := digEnd_yes hd2
        have hde := digEnd_range s (k1 + 1) (by omega)
        have hdig : digs s k1 k1 (digEnd s (k1 + 1)) = s.extract (k1 + 1).toNat (digEnd s (k1 + 1)).toNat := by
          unfold digs
          rw [if_pos (by omega)]
          have : s.extract k1.toNat k1.toNat = ⟨#[]⟩ := by
            apply ByteArray.ext
            rw [ByteArray.data_extract]
            apply Array.ext'
            simp [Array.toList_extract, List.extract]
          rw [this]
          apply ByteArray.ext
          simp [ByteArray.data_append]
        have hA : litA s neg k1 k1 = litTail s neg (s.extract (k1 + 1).toNat (digEnd s (k1 + 1)).toNat) (digEnd s (k1 + 1) - (k1 + 1)) (digEnd s (k1 + 1)) := by
          rw [litA_pt hd (by simp [hp, hd2])]
          unfold litB litM
          rw [if_neg (by omega), hdig, show (0 : Int) + (digEnd s (k1 + 1) - (k1 + 1)) = digEnd s (k1 + 1) - (k1 + 1) by omega]
        obtain ⟨f1, f2, f3, f4, f5, f6⟩ := litTail_facts s neg (s.extract (k1 + 1).toNat (digEnd s (k1 + 1)).toNat) (digEnd s (k1 + 1) - (k1 + 1)) (digEnd s (k1 + 1)) (by omega) (by omega) (by omega)
        have ht := tEnd_range s (i := digEnd s (k1 + 1)) (by omega)
        refine ⟨_, hA, f4, by rw [f3]; omega, by rw [f3]; omega, by rw [f2, ByteArray.size_extract]; omega, f5, f6, ?_, ?_⟩
        · rw [f3]
          unfold hEnd
          simp [hd, hp, hd2]
        · rw [f3]
          have hnk := hng (tEnd s (digEnd s (k1 + 1))) (by omega)
          refine w_step s k _ hk (by omega) ht.2 hs (p := k1) (t := 4) (by omega) (by omega) (sort_point hp) (by omega) (by omega) (by rcases hst with h | h <;> rw [h] <;> rfl) (fun h => absurd h (by decide)) (by simp; omega) (by omega) (by omega) (by omega) (by omega) (fun h => absurd h (by decide)) ?_
          refine w_step s k _ hk (by omega) ht.2 hs (st := 4) (p := k1 + 1) (t := 5) (by omega) (by omega) (sort_dig hd2) (by omega) (by omega) rfl (fun h => absurd h (by decide)) (by show ((List.length ([] : List Int) : Nat) : Int) ≤ k1 + 1; simp; omega) (by show (0 : Int) ≤ 0; omega) (by show (0 : Int) ≤ _; omega) (by show (0 : Int) ≤ 0; omega) (by show (0 : Int) ≤ k1 + 1; omega) (fun h => absurd h (by decide)) ?_
          have := w5 s k (tEnd s (digEnd s (k1 + 1))) hk (by omega) ht.2 hs (k1 + 1 + 1) (by omega) (by omega) (st := 5) (all := [bt s (k1 + 1)]) (scale := 1) (.inl rfl) (by rw [← hyes]; omega) (by simp; omega) (by omega) (by omega) (by rw [← hyes]) neg (s.extract (k1 + 1).toNat (digEnd s (k1 + 1)).toNat)
            (by rw [List.singleton_append, ← hyes, ← bytesL_cons (by omega), strOf_bytes s (by omega) _ (by omega) (by omega)]) hnk
          rw [← hyes, show (1 : Int) + (digEnd s (k1 + 1) - (k1 + 1 + 1)) = digEnd s (k1 + 1) - (k1 + 1) by omega] at this
          exact this
  · right
    have hlt := dgB_lt hd
    have hr := digEnd_range s (k1 + 1) (by omega)
    have hyes := digEnd_yes hd
    have hne : digEnd s k1 ≠ k1 := by omega
    have hstep : ∀ n r, k1 < n → n ≤ s.size → Ans (fun f => abacusref08_Worth.l0 f (s.extract k.toNat n.toNat) [bt s k1] 0 2 0 false (k1 + 1 - k)) r → Ans (fun f => abacusref08_Worth.l0 f (s.extract k.toNat n.toNat) [] 0 st 0 false (k1 - k)) r := by
      intro n r hn hns h
      exact w_step s k n hk (by omega) hns hs (p := k1) (t := 2) (by omega) (by omega) (sort_dig hd) (by omega) (by omega) (by rcases hst with h | h <;> rw [h] <;> rfl) (fun _ => rfl) (by simp; omega) (by omega) (by omega) (by omega) (by omega) (fun h => absurd h (by decide)) h
    cases hp : oneB s (digEnd s k1) 46 46
    · have hA : litA s neg k1 k1 = litTail s neg (s.extract k1.toNat (digEnd s k1).toNat) 0 (digEnd s k1) := by
        unfold litA
        simp only [hp, Bool.false_and, Bool.false_eq_true, if_false]
        unfold litM digs
        rw [if_neg hne, if_neg (by omega)]
      obtain ⟨f1, f2, f3, f4, f5, f6⟩ := litTail_facts s neg (s.extract k1.toNat (digEnd s k1).toNat) 0 (digEnd s k1) (by omega) (by omega) (by omega)
      have ht := tEnd_range s (i := digEnd s k1) (by omega)
      refine ⟨_, hA, f4, by rw [f3]; omega, by rw [f3]; omega, by rw [f2, ByteArray.size_extract]; omega, f5, f6, ?_, ?_⟩
      · rw [f3]
        unfold hEnd
        simp [hd, hp]
      · rw [f3]
        refine hstep _ _ (by omega) ht.2 ?_
        refine w2 s k _ hk (by omega) ht.2 hs (k1 + 1) (by omega) (by omega) (all := [bt s k1]) (by rw [← hyes]; omega) (by simp; omega) neg _ ?_ ?_ (hng _ (by omega))
        · rw [← hyes, hp]
          intro h
          cases h
        · rw [← hyes, List.singleton_append, ← bytesL_cons (by omega), strOf_bytes s (by omega) _ (by omega) (by omega)]
          exact fun _ => ⟨rfl, rfl⟩
    · have hplt := oneB_lt hp
      have hr2 := digEnd_range s (digEnd s k1 + 1) (by omega)
      have hA : litA s neg k1 k1 = litTail s neg (s.extract k1.toNat (digEnd s k1).toNat ++ s.extract (digEnd s k1 + 1).toNat (digEnd s (digEnd s k1 + 1)).toNat) (digEnd s (digEnd s k1 + 1) - (digEnd s k1 + 1)) (digEnd s (digEnd s k1 + 1)) := by
        unfold litA
        simp only [hp, beq_eq_false_iff_ne.mpr hne, Bool.false_and, Bool.not_false, Bool.and_self, if_true]
        unfold litB litM digs
        rw [if_neg (by omega), if_pos (by omega), show (0 : Int) + (digEnd s (digEnd s k1 + 1) - (digEnd s k1 + 1)) = digEnd s (digEnd s k1 + 1) - (digEnd s k1 + 1) by omega]
      obtain ⟨f1, f2, f3, f4, f5, f6⟩ := litTail_facts s neg (s.extract k1.toNat (digEnd s k1).toNat ++ s.extract (digEnd s k1 + 1).toNat (digEnd s (digEnd s k1 + 1)).toNat) (digEnd s (digEnd s k1 + 1) - (digEnd s k1 + 1)) (digEnd s (digEnd s k1 + 1)) (by omega) (by omega) (by omega)
      have ht := tEnd_range s (i := digEnd s (digEnd s k1 + 1)) (by omega)
      refine ⟨_, hA, f4, by rw [f3]; omega, by rw [f3]; omega, by rw [f2, ByteArray.size_append, ByteArray.size_extract, ByteArray.size_extract]; omega, f5, f6, ?_, ?_⟩
      · rw [f3]
        unfold hEnd
        simp [hd, hp]
      · rw [f3]
        refine hstep _ _ (by omega) ht.2 ?_
        refine w2 s k _ hk (by omega) ht.2 hs (k1 + 1) (by omega) (by omega) (all := [bt s k1]) (by rw [← hyes]; omega) (by simp; omega) neg _ ?_ ?_ (hng _ (by omega))
        · rw [← hyes, List.singleton_append, ← bytesL_cons (by omega), strOf_app, strOf_bytes s (by omega) _ (by omega) (by omega), strOf_bytes s (by omega) _ (by omega) (by omega)]
          exact fun _ => ⟨by omega, rfl, rfl⟩
        · rw [← hyes, hp]
          intro h
          cases h
theorem lit_cases {k : Int} (hk : 0 ≤ k) (hks : k ≤ s.size) :
    (litF s k = (false, ⟨#[]⟩, 0, 0, false) ∧ hEnd s k (if oneB s k 43 45 = true then k + 1 else k) = k) ∨ LitAt s k (litF s k) := by
  cases h1 : oneB s k 43 45
  · have hF : litF s k = litA s false k k := by
      unfold litF
      rw [h1, if_neg (by decide)]
    rw [hF]
    simp only [Bool.false_eq_true, if_false]
    by_cases h45 : bt s k = 45 ∧ k < s.size
    · exfalso
      unfold oneB at h1
      simp [h45.1, h45.2] at h1
    · by_cases hlt : k < s.size
      · rcases lit_body s hs hk (k1 := k) (.inl rfl) (by omega) (st := 0) (.inl rfl) false (.inr ⟨rfl, fun h => h45 ⟨h, hlt⟩⟩) with ⟨e, g⟩ | ⟨r, e, g1, g2, g3, g4, g5, g6, g7, g8⟩
        · exact .inl ⟨e, g⟩
        · rw [e]
          refine .inr ⟨g1, by omega, g3, g4, g5, g6, by rw [h1]; simpa using g7, ?_⟩
          rw [show k - k = (0 : Int) by omega] at g8
          exact g8
      · left
        have hd := dg_out (s := s) (i := k) hlt
        have hp := one_out (s := s) (i := k) (a := 46) (b := 46) hlt
        constructor
        · rw [litA_no hd (by simp [hp])]
          unfold litM
          rw [if_pos rfl]
        · unfold hEnd
          simp [hd, hp]
  · have hlt := oneB_lt h1
    have hF : litF s k = litA s (bt s k == 45) (k + 1) (k + 1) := by
      unfold litF
      rw [h1, if_pos rfl]
    rw [hF]
    simp only [if_true]
    rcases lit_body s hs hk (k1 := k + 1) (.inr rfl) (by omega) (st := 1) (.inr rfl) (bt s k == 45) (.inl rfl) with ⟨e, g⟩ | ⟨r, e, g1, g2, g3, g4, g5, g6, g7, g8⟩
    · exact .inl ⟨e, g⟩
    · rw [e]
      refine .inr ⟨g1, by omega, g3, g4, g5, g6, by rw [h1]; simpa using g7, ?_⟩
      have := w_step s k r.2.2.2.1 hk (by omega) g3 hs (all := []) (scale := 0) (exp := 0) (down := false) (st := 0) (p := k) (t := 1) (by omega) (by omega) (sort_sign h1) (by omega) (by omega) rfl (fun h => absurd h (by decide)) (by simp; omega) (by omega) (by omega) (by omega) (by omega) (fun h => absurd h (by decide)) g8
      rw [show k - k = (0 : Int) by omega] at this
      exact this

/-! ### Number and Whole -/
def num (s : ByteArray) : Bool × ByteArray × Int × Int :=
  if (litF s (blEnd s 0)).2.2.2.2 = true then
    ((nrm (litF s (blEnd s 0)).1 (litF s (blEnd s 0)).2.1 (litF s (blEnd s 0)).2.2.1).1, (nrm (litF s (blEnd s 0)).1 (litF s (blEnd s 0)).2.1 (litF s (blEnd s 0)).2.2.1).2.1, (nrm (litF s (blEnd s 0)).1 (litF s (blEnd s 0)).2.1 (litF s (blEnd s 0)).2.2.1).2.2, (litF s (blEnd s 0)).2.2.2.1)
  else (false, ⟨#[]⟩, 0, 0)
theorem number_s : Ans (fun k => scan_Number.f k s) (num s) := by
  have hb := blEnd_range s 0 (by omega)
  unfold scan_Number.f
  refine Ans.bind (blanks_l s (by omega) 0 (by omega) (Int.le_refl _)) ?_
  have hl : xLiteral.f s (blEnd s 0) = some (litF s (blEnd s 0)) := by
    unfold xLiteral.f
    rw [if_pos ⟨by omega, by omega, by omega⟩]
  simp only [hl, Option.bind_some]
  unfold num
  rcases lit_cases s hs (k := blEnd s 0) (by omega) (by omega) with ⟨e, g⟩ | L
  · rw [e]
    simp only [Bool.false_eq_true, if_false]
    exact Ans.ret _
  · have h1 := L.size
    have h2 := L.lo
    have h3 := L.hi
    simp only [L.ok, if_true, normal_eq _ _ _ (show (litF s (blEnd s 0)).2.1.size ≤ 281474976710656 by omega) (show -4611686018427387904 ≤ (litF s (blEnd s 0)).2.2.1 by omega) (show (litF s (blEnd s 0)).2.2.1 ≤ 4611686018427387904 by omega), Option.bind_some]
    exact Ans.ret _
theorem number_r : Ans (fun k => abacusref08_Number.f k s) (num s) := by
  have hb := blEnd_range s 0 (by omega)
  unfold abacusref08_Number.f abacusref08_Blanks.f
  refine Ans.bind (blanks_r s (by omega) 0 (by omega) (Int.le_refl _)) ?_
  unfold abacusref08_Longest.f
  refine Ans.bind (lo0 s (by omega) (k0 := blEnd s 0) (i := blEnd s 0) (by omega)) ?_
  unfold num
  rcases lit_cases s hs (k := blEnd s 0) (by omega) (by omega) with ⟨e, g⟩ | L
  · rw [e, g]
    simp only [Bool.false_eq_true, if_false, if_true]
    exact Ans.ret _
  · rw [L.longest]
    have h1 := L.lt
    have h2 := L.le
    have h3 := L.ok
    simp only [if_neg (show ¬ (litF s (blEnd s 0)).2.2.2.1 = blEnd s 0 by omega), if_pos (show 0 ≤ blEnd s 0 by omega), if_pos (show blEnd s 0 ≤ (litF s (blEnd s 0)).2.2.2.1 by omega), if_pos h2, h3, if_true]
    exact Ans.bind L.worth (Ans.ret _)
def whole (s : ByteArray) : Bool × ByteArray × Int × Bool :=
  if (num s).2.2.2 = 0 then (false, ⟨#[]⟩, 0, false) else if blEnd s (num s).2.2.2 = s.size then ((num s).1, (num s).2.1, (num s).2.2.1, true) else (false, ⟨#[]⟩, 0, false)
theorem num_end : 0 ≤ (num s).2.2.2 ∧ (num s).2.2.2 ≤ s.size := by
  have hb := blEnd_range s 0 (by omega)
  unfold num
  rcases lit_cases s hs (k := blEnd s 0) (by omega) (by omega) with ⟨e, g⟩ | L
  · rw [e]
    simp
  · have h1 := L.lt
    have h2 := L.le
    simp only [L.ok, if_true]
    omega
theorem whole_s : Ans (fun k => scan_Whole.f k s) (whole s) := by
  have hr := num_end s hs
  unfold scan_Whole.f whole
  refine Ans.bind (number_s s hs) ?_
  by_cases e : (num s).2.2.2 = 0
  · simp only [if_pos e]
    exact Ans.ret _
  · simp only [if_neg e]
    unfold scan_blanks.f
    refine Ans.bind (blanks_l s (by omega) _ (by omega) (by omega)) ?_
    by_cases e2 : blEnd s (num s).2.2.2 = s.size
    · simp only [if_pos e2]
      exact Ans.ret _
    · simp only [if_neg e2]
      exact Ans.ret _
theorem blB_ext {a : Nat} (ha : a ≤ s.size) {i : Int} (h0 : 0 ≤ i) : blB (s.extract a s.size) i = blB s (a + i) := by
  have hz := ext_size (s := s) (a := a) (b := s.size) (Nat.le_refl _)
  by_cases h : i < (s.size : Int) - a
  · unfold blB
    rw [bt_ext h0 h (Nat.le_refl _)]
    congr 1
    rw [hz]
    simp only [decide_eq_decide]
    omega
  · rw [blB_out (by rw [hz]; omega), blB_out (by omega)]
theorem blEnd_ext {a : Nat} (ha : a ≤ s.size) : ∀ i, i ≤ (s.size : Int) - a → 0 ≤ i → blEnd (s.extract a s.size) i = blEnd s (a + i) - a := by
  refine left_ind fun i hi ih h0 => ?_
  have e := blB_ext s hs ha h0
  cases h : blB s (a + i)
  · rw [blEnd_no (e.trans h), blEnd_no h]
    omega
  · have hlt := blB_lt h
    rw [blEnd_yes (e.trans h), blEnd_yes h, ih (i + 1) (by omega) (by omega) (by omega), show (a : Int) + (i + 1) = a + i + 1 by omega]
theorem whole_r : Ans (fun k => abacusref08_Whole.f k s) (whole s) := by
  have hr := num_end s hs
  unfold abacusref08_Whole.f whole
  refine Ans.bind (number_r s hs) ?_
  by_cases e : (num s).2.2.2 = 0
  · simp only [if_pos e]
    exact Ans.ret _
  · simp only [if_neg e, if_pos hr.1, if_pos hr.2]
    unfold abacusref08_Blanks.f
    have hz := ext_size (s := s) (a := (num s).2.2.2.toNat) (b := s.size) (Nat.le_refl _)
    refine Ans.bind (blanks_r (s.extract (num s).2.2.2.toNat s.size) (by omega) 0 (by omega) (Int.le_refl _)) ?_
    have hx := blEnd_ext s hs (a := (num s).2.2.2.toNat) (by omega) 0 (by omega) (Int.le_refl _)
    rw [show (((num s).2.2.2.toNat : Nat) : Int) + 0 = (num s).2.2.2 by omega, show (((num s).2.2.2.toNat : Nat) : Int) = (num s).2.2.2 by omega] at hx
    have hbr := blEnd_range s (num s).2.2.2 hr.2
    rw [hx, wrap_id (by omega) (by omega), show (num s).2.2.2 + (blEnd s (num s).2.2.2 - (num s).2.2.2) = blEnd s (num s).2.2.2 by omega]
    by_cases e2 : blEnd s (num s).2.2.2 = s.size
    · simp only [if_pos e2]
      exact Ans.ret _
    · simp only [if_neg e2]
      exact Ans.ret _
theorem numbers_t : Ans (fun k => abacuslaw08_numbers.f k s) true := by
  unfold abacuslaw08_numbers.f
  refine Ans.bind (number_r s hs) (Ans.bind (number_s s hs) ?_)
  simp only [beq_self_eq_true, Bool.and_self, if_true]
  exact Ans.ret _
theorem wholes_t : Ans (fun k => abacuslaw08_wholes.f k s) true := by
  unfold abacuslaw08_wholes.f
  refine Ans.bind (whole_r s hs) (Ans.bind (whole_s s hs) ?_)
  simp only [beq_self_eq_true, Bool.and_self, if_true]
  exact Ans.ret _
end
end Go.Proofs.YtcgjfckhnpimbaaDoor.Pl
end
