/-
  Plain laws of the scan statements: answers of what runs with a bound, runs of bytes in a text, the normal form of a Dec.
-/
import Derived.Test.YtcgjfckhnpimbaaDoorOrXDef
import Derived.Test.YtcgjfckhnpimbaaDoorOrX
import Derived.Test.YtcgjfckhnpimbaaDoorOrEScanx3
import Derived.Test.YtcgjfckhnpimbaaDoorOrEScanx0
section
set_option linter.unusedVariables false
set_option linter.unusedSimpArgs false
namespace Go.Proofs.YtcgjfckhnpimbaaDoor.Pl
open Go.RowKit Go.Proofs.YtcgjfckhnpimbaaDoorW.PrintWords Go.Proofs.YtcgjfckhnpimbaaDoor.X
/-- With enough rounds the answer is r. -/
def Ans {α : Type} (g : Nat → Option α) (r : α) : Prop := ∃ n, ∀ k, n ≤ k → g k = some r
theorem Ans.ret {α : Type} (r : α) : Ans (fun _ => some r) r := ⟨0, fun _ _ => rfl⟩
theorem Ans.bind {α β : Type} {g : Nat → Option α} {h : Nat → α → Option β} {a : α} {r : β} (hg : Ans g a) (hh : Ans (fun k => h k a) r) : Ans (fun k => (g k).bind (h k)) r := by
  obtain ⟨n, hn⟩ := hg
  obtain ⟨m, hm⟩ := hh
  refine ⟨max n m, fun k hk => ?_⟩
  show (g k).bind (h k) = some r
  rw [hn k (by omega), Option.bind_some]
  exact hm k (by omega)
theorem Ans.succ {α : Type} {g : Nat → Option α} {r : α} (h : Ans (fun k => g (k + 1)) r) : Ans g r := by
  obtain ⟨n, hn⟩ := h
  refine ⟨n + 1, fun k hk => ?_⟩
  obtain ⟨m, rfl⟩ : ∃ m, k = m + 1 := ⟨k - 1, by omega⟩
  exact hn m (by omega)
theorem Ans.congr {α : Type} {g g' : Nat → Option α} {r : α} (h : Ans g' r) (e : ∀ k, g k = g' k) : Ans g r := by
  obtain ⟨n, hn⟩ := h
  exact ⟨n, fun k hk => (e k).trans (hn k hk)⟩
theorem Ans.some {α : Type} {g : Nat → Option α} {r : α} (h : Ans g r) : ∃ k, g k = Option.some r := by
  obtain ⟨n, hn⟩ := h
  exact ⟨n, hn n (Nat.le_refl _)⟩
theorem wrap_id {x : Int} (h : -9223372036854775808 ≤ x) (h' : x ≤ 9223372036854775807) : wrap64 x = x := by
  unfold wrap64
  omega
theorem bt_ext {s : ByteArray} {a b : Nat} {i : Int} (h0 : 0 ≤ i) (h : i < (b : Int) - a) (hb : b ≤ s.size) : bt (s.extract a b) i = bt s (a + i) := by
  unfold bt
  have h1 : i.toNat < (s.extract a b).size := by rw [ByteArray.size_extract]; omega
  have h2 : ((a : Int) + i).toNat < s.size := by omega
  rw [dif_pos h1, dif_pos h2, ByteArray.getElem_extract]
  have e : a + i.toNat = ((a : Int) + i).toNat := by omega
  simp only [e]
theorem ext_size {s : ByteArray} {a b : Nat} (hb : b ≤ s.size) : (s.extract a b).size = b - a := by
  rw [ByteArray.size_extract]
  omega
/-- Induction on what is left of the text. -/
theorem left_ind {n : Int} {P : Int → Prop} (step : ∀ i, i ≤ n → (∀ j, i < j → j ≤ n → P j) → P i) : ∀ i, i ≤ n → P i := by
  intro i hi
  generalize hd : (n - i).toNat = d
  induction d using Nat.strongRecOn generalizing i with
  | _ d ih => exact step i hi fun j hj hjn => ih (n - j).toNat (by omega) j hjn rfl
theorem digEnd_in (s : ByteArray) : ∀ i, i ≤ (s.size : Int) → ∀ j, i ≤ j → j < digEnd s i → dgB s j = true := by
  refine left_ind fun i hi ih j hij hj => ?_
  cases h : dgB s i
  · rw [digEnd_no h] at hj
    omega
  · rw [digEnd_yes h] at hj
    by_cases e : j = i
    · rw [e]
      exact h
    · exact ih (i + 1) (by omega) (by have := dgB_lt h; omega) j (by omega) hj
/-- What the digits' end is, by its places. -/
theorem digEnd_eq {s : ByteArray} {e : Int} (he : e ≤ (s.size : Int)) (hs : dgB s e = false) : ∀ i, i ≤ e → (∀ j, i ≤ j → j < e → dgB s j = true) → digEnd s i = e := by
  refine left_ind fun i hi ih h => ?_
  by_cases e' : i = e
  · rw [e', digEnd_no hs]
  · rw [digEnd_yes (h i (by omega) (by omega))]
    exact ih (i + 1) (by omega) (by omega) fun j h1 h2 => h j (by omega) h2
def zB (s : ByteArray) (i : Int) : Bool := decide (i < (s.size : Int)) && (bt s i == 48)
theorem zB_lt {s : ByteArray} {i : Int} (h : zB s i = true) : i < (s.size : Int) := by
  unfold zB at h
  simp at h
  exact h.1
/-- Behind the zeros at the head. -/
def zHead (s : ByteArray) (i : Int) : Int := if h : zB s i = true then zHead s (i + 1) else i
termination_by ((s.size : Int) - i).toNat
decreasing_by have := zB_lt h; omega
/-- Ahead of the zeros at the end. -/
def zTail (s : ByteArray) (j : Int) : Int := if h : 0 < j ∧ bt s (j - 1) = 48 then zTail s (j - 1) else j
termination_by j.toNat
decreasing_by omega
theorem zHead_yes {s : ByteArray} {i : Int} (h : zB s i = true) : zHead s i = zHead s (i + 1) := by rw [zHead, dif_pos h]
theorem zHead_no {s : ByteArray} {i : Int} (h : zB s i = false) : zHead s i = i := by rw [zHead, dif_neg (by simp [h])]
theorem zTail_yes {s : ByteArray} {j : Int} (h : 0 < j ∧ bt s (j - 1) = 48) : zTail s j = zTail s (j - 1) := by rw [zTail, dif_pos h]
theorem zTail_no {s : ByteArray} {j : Int} (h : ¬ (0 < j ∧ bt s (j - 1) = 48)) : zTail s j = j := by rw [zTail, dif_neg h]
theorem zHead_range (s : ByteArray) : ∀ i, i ≤ (s.size : Int) → i ≤ zHead s i ∧ zHead s i ≤ s.size := by
  refine left_ind fun i hi ih => ?_
  cases h : zB s i
  · rw [zHead_no h]
    omega
  · rw [zHead_yes h]
    have hl := zB_lt h
    have := ih (i + 1) (by omega) (by omega)
    omega
theorem zHead_stop (s : ByteArray) : ∀ i, i ≤ (s.size : Int) → zB s (zHead s i) = false := by
  refine left_ind fun i hi ih => ?_
  cases h : zB s i
  · rw [zHead_no h]
    exact h
  · rw [zHead_yes h]
    exact ih (i + 1) (by omega) (by have := zB_lt h; omega)
theorem zHead_in (s : ByteArray) : ∀ i, i ≤ (s.size : Int) → ∀ j, i ≤ j → j < zHead s i → bt s j = 48 := by
  refine left_ind fun i hi ih j hij hj => ?_
  cases h : zB s i
  · rw [zHead_no h] at hj
    omega
  · rw [zHead_yes h] at hj
    by_cases e : j = i
    · rw [e]
      unfold zB at h
      simp at h
      exact h.2
    · exact ih (i + 1) (by omega) (by have := zB_lt h; omega) j (by omega) hj
/-- Induction downwards. -/
theorem down_ind {P : Int → Prop} (step : ∀ j, 0 ≤ j → (∀ i, 0 ≤ i → i < j → P i) → P j) : ∀ j, 0 ≤ j → P j := by
  intro j hj
  generalize hd : j.toNat = d
  induction d using Nat.strongRecOn generalizing j with
  | _ d ih => exact step j hj fun i hi hij => ih i.toNat (by omega) i hi rfl
theorem zTail_spec (s : ByteArray) (z : Int) (hz0 : 0 ≤ z) (hz : bt s z ≠ 48) : ∀ j, 0 ≤ j → z < j → z < zTail s j ∧ zTail s j ≤ j ∧ bt s (zTail s j - 1) ≠ 48 ∧ (∀ i, zTail s j ≤ i → i < j → bt s i = 48) := by
  refine down_ind fun j hj ih hzj => ?_
  by_cases h : 0 < j ∧ bt s (j - 1) = 48
  · rw [zTail_yes h]
    have hne : z ≠ j - 1 := fun e => hz (by rw [e]; exact h.2)
    obtain ⟨h1, h2, h3, h4⟩ := ih (j - 1) (by omega) (by omega) (by omega)
    refine ⟨h1, by omega, h3, fun i hi hij => ?_⟩
    by_cases e : i = j - 1
    · rw [e]
      exact h.2
    · exact h4 i hi (by omega)
  · rw [zTail_no h]
    refine ⟨hzj, Int.le_refl _, fun e => h ⟨by omega, e⟩, fun i hi hij => by omega⟩
/-- The normal Dec of digits with an exponent, by places. -/
def nrm (neg : Bool) (s : ByteArray) (exp : Int) : Bool × ByteArray × Int :=
  if zHead s 0 = (s.size : Int) then (neg, ⟨#[48]⟩, 0) else (neg, s.extract (zHead s 0).toNat (zTail s s.size).toNat, exp + s.size - zTail s s.size)
end Go.Proofs.YtcgjfckhnpimbaaDoor.Pl
end
section
set_option linter.unusedVariables false
set_option linter.unusedSimpArgs false
namespace Go.Proofs.YtcgjfckhnpimbaaDoor.Pl
open Go.RowKit Go.Proofs.YtcgjfckhnpimbaaDoorW.PrintWords Go.Proofs.YtcgjfckhnpimbaaDoor.X Go.Proofs.YtcgjfckhnpimbaaDoor.EScan
theorem zB_of {s : ByteArray} {i : Int} (h : i < (s.size : Int)) (e : bt s i = 48) : zB s i = true := by
  unfold zB
  simp [h, e]
theorem zB_ne {s : ByteArray} {i : Int} (e : ¬ bt s i = 48) : zB s i = false := by
  unfold zB
  simp [e]
theorem zB_out {s : ByteArray} {i : Int} (h : ¬ i < (s.size : Int)) : zB s i = false := by
  unfold zB
  simp [h]
theorem bt_list {s : ByteArray} {j : Nat} {b : UInt8} (h : s.data.toList[j]? = some b) : bt s j = (b.toNat : Int) := by
  unfold bt
  have hj : j < s.size := by
    have := (List.getElem?_eq_some_iff.1 h).1
    simpa using this
  have e : s[(j : Int).toNat]'(by simpa using hj) = b := by
    obtain ⟨h1, h2⟩ := List.getElem?_eq_some_iff.1 h
    rw [← h2]
    rfl
  rw [dif_pos (by simpa using hj), e]
theorem byte48 {b : UInt8} (h : (b.toNat : Int) = 48) : b = 48 := by
  apply UInt8.toNat.inj
  have : b.toNat = 48 := by omega
  rw [this]
  rfl
theorem drop_ext (s : ByteArray) (k : Nat) : (⟨(s.data.toList.drop k).toArray⟩ : ByteArray) = s.extract k s.size := by
  apply ByteArray.ext
  rw [ByteArray.data_extract]
  apply Array.ext'
  simp only [Array.toList_extract, List.extract]
  rw [List.take_of_length_le]
  rw [List.length_drop, Array.length_toList]
  exact Nat.le_refl _
theorem take_ext (s : ByteArray) (k : Nat) (h : k ≤ s.size) : (⟨(s.data.toList.take k).toArray⟩ : ByteArray) = s.extract 0 k := by
  apply ByteArray.ext
  rw [ByteArray.data_extract]
  apply Array.ext'
  simp [Array.toList_extract, List.extract]
theorem trimL (s : ByteArray) : (⟨(Lib.trimLeftB s.data.toList 48).toArray⟩ : ByteArray) = s.extract (zHead s 0).toNat s.size := by
  have hr := zHead_range s 0 (by omega)
  have hl : s.data.toList.length = s.size := by simp
  rw [Lib.trimLeftB_drop _ 48 (zHead s 0).toNat (by rw [hl]; omega) (fun j b hj hb => ?_) (fun b hb e => ?_), drop_ext]
  · have h1 := bt_list hb
    have h2 := zHead_in s 0 (by omega) j (by omega) (by omega)
    exact byte48 (by omega)
  · subst e
    have h1 := bt_list hb
    have hlt : (zHead s 0).toNat < s.size := by rw [← hl]; exact (List.getElem?_eq_some_iff.1 hb).1
    have h3 := zHead_stop s 0 (by omega)
    rw [show ((zHead s 0).toNat : Int) = zHead s 0 by omega] at h1
    rw [zB_of (by omega) h1] at h3
    cases h3
theorem trimR (s : ByteArray) (z : Int) (h0 : 0 ≤ z) (hz : z < s.size) (hb : bt s z ≠ 48) : (⟨(Lib.trimRightB s.data.toList 48).toArray⟩ : ByteArray) = s.extract 0 (zTail s s.size).toNat := by
  have hl : s.data.toList.length = s.size := by simp
  obtain ⟨h1, h2, h3, h4⟩ := zTail_spec s z h0 hb s.size (by omega) hz
  rw [Lib.trimRightB_take _ 48 (zTail s s.size).toNat (by rw [hl]; omega) (fun j b hj hb => ?_) (fun b hk hb e => ?_), take_ext _ _ (by omega)]
  · have g1 := bt_list hb
    have hlt : j < s.size := by rw [← hl]; exact (List.getElem?_eq_some_iff.1 hb).1
    exact byte48 (by rw [← g1]; exact h4 j (by omega) (by omega))
  · subst e
    have g1 := bt_list hb
    rw [show (((zTail s s.size).toNat - 1 : Nat) : Int) = zTail s s.size - 1 by omega] at g1
    exact h3 g1
theorem zTail_ext (s : ByteArray) (a : Nat) (ha : a ≤ s.size) : ∀ j, 0 ≤ j → j ≤ (s.size : Int) - a → (∃ z, 0 ≤ z ∧ z < j ∧ bt s (a + z) ≠ 48) → zTail (s.extract a s.size) j = zTail s (a + j) - a := by
  refine down_ind fun j hj ih hjs hz => ?_
  obtain ⟨z, hz0, hzj, hzb⟩ := hz
  have e : bt (s.extract a s.size) (j - 1) = bt s (a + j - 1) := by
    rw [bt_ext (by omega) (by omega) (Nat.le_refl _)]
    congr 1
    omega
  by_cases h : bt s (a + j - 1) = 48
  · rw [zTail_yes ⟨by omega, e.trans h⟩, zTail_yes (j := a + j) ⟨by omega, h⟩]
    have hne : z ≠ j - 1 := fun h' => hzb (by rw [h', show (a : Int) + (j - 1) = a + j - 1 by omega]; exact h)
    rw [ih (j - 1) (by omega) (by omega) (by omega) ⟨z, hz0, by omega, hzb⟩, show (a : Int) + (j - 1) = a + j - 1 by omega]
  · rw [zTail_no (fun h' => h (e.symm.trans h'.2)), zTail_no (j := a + j) (fun h' => h h'.2)]
    omega
theorem empty_list (s : ByteArray) : s.toList = ([] : List UInt8) ↔ s.size = 0 := by
  rw [Go.ByteArray.toList_eq]
  constructor
  · intro h
    have := congrArg List.length h
    simpa using this
  · intro h
    apply List.eq_nil_of_length_eq_zero
    simpa using h
theorem normal_eq (neg : Bool) (s : ByteArray) (exp : Int) (hs : s.size ≤ 281474976710656) (he : -4611686018427387904 ≤ exp) (he' : exp ≤ 4611686018427387904) :
    scan_normal.f neg s exp = some (nrm neg s exp) := by
  unfold scan_normal.f xTrimLeft.f
  rw [if_pos rfl, Option.bind_some, trimL]
  have hr := zHead_range s 0 (by omega)
  unfold nrm
  have hsz : (s.extract (zHead s 0).toNat s.size).size = s.size - (zHead s 0).toNat := ext_size (Nat.le_refl _)
  by_cases e : zHead s 0 = (s.size : Int)
  · rw [if_pos e, if_pos ((empty_list _).2 (by omega))]
  · rw [if_neg e, if_neg (fun h => by have := (empty_list _).1 h; omega)]
    have hzb : bt s (zHead s 0) ≠ 48 := fun h => by
      have := zHead_stop s 0 (by omega)
      rw [zB_of (by omega) h] at this
      cases this
    obtain ⟨t1, t2, t3, t4⟩ := zTail_spec s (zHead s 0) (by omega) hzb s.size (by omega) (by omega)
    have hzt := zTail_ext s (zHead s 0).toNat (by omega) ((s.size : Int) - (zHead s 0).toNat) (by omega) (by omega) ⟨0, by omega, by omega, by rw [show (((zHead s 0).toNat : Nat) : Int) + 0 = zHead s 0 by omega]; exact hzb⟩
    rw [show (((zHead s 0).toNat : Nat) : Int) + ((s.size : Int) - (zHead s 0).toNat) = s.size by omega] at hzt
    unfold xTrimRight.f
    rw [if_pos ⟨rfl, by omega⟩, Option.bind_some]
    have hb0 : bt (s.extract (zHead s 0).toNat s.size) 0 ≠ 48 := by
      rw [bt_ext (by omega) (by omega) (Nat.le_refl _), show (((zHead s 0).toNat : Nat) : Int) + 0 = zHead s 0 by omega]
      exact hzb
    rw [trimR (s.extract (zHead s 0).toNat s.size) 0 (by omega) (by omega) hb0, hsz, show ((s.size - (zHead s 0).toNat : Nat) : Int) = (s.size : Int) - (zHead s 0).toNat by omega, hzt]
    have hex : (s.extract (zHead s 0).toNat s.size).extract 0 (zTail s s.size - (zHead s 0).toNat).toNat = s.extract (zHead s 0).toNat (zTail s s.size).toNat := by
      rw [ByteArray.extract_extract]
      congr 1
      omega
    rw [hex]
    unfold xClone.f
    have hsz2 : (s.extract (zHead s 0).toNat (zTail s s.size).toNat).size = (zTail s s.size).toNat - (zHead s 0).toNat := ext_size (by omega)
    rw [if_pos (by omega), Option.bind_some, hsz2, wrap_id (x := exp + _) (by omega) (by omega), wrap_id (by omega) (by omega)]
    congr 3
    omega
theorem dg_out {s : ByteArray} {i : Int} (h : ¬ i < (s.size : Int)) : dgB s i = false := by
  unfold dgB
  simp [h]
end Go.Proofs.YtcgjfckhnpimbaaDoor.Pl
end
