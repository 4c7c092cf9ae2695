/-
  Plain laws of the chars statements: Lower, Upper, Index of the program and of the document agree; CharsIndexes answers true.
-/
import Derived.Test.YtdeannaaafffbaaPBase
import Derived.Test.YtdeannaaafffbaaEChx10
import Derived.Lib.IndexLaws
set_option linter.unusedVariables false
set_option linter.unusedSimpArgs false
namespace Go.Proofs.Ytdeannaaafffbaa.Pl
open Go.RowKit Go.Proofs.YtdeannaaafffbaaW.PrintWords Go.Proofs.Ytdeannaaafffbaa.X Go.Proofs.Ytdeannaaafffbaa.ECh

/-- A byte, moved where it lies between. -/
def tg (lo hi st b : Int) : Int := if lo ≤ b ∧ b ≤ hi then (b + st) % 256 else b
def half (g : Int → Int) (l : List Int) (i : Nat) : List Int := (l.map g).take i ++ l.drop i
theorem half_len (g : Int → Int) (l : List Int) (i : Nat) : (half g l i).length = l.length := by
  simp [half]
  omega
theorem half_zero (g : Int → Int) (l : List Int) : half g l 0 = l := by simp [half]
theorem half_end (g : Int → Int) (l : List Int) : half g l l.length = l.map g := by
  unfold half
  rw [List.drop_length, List.append_nil, List.take_of_length_le (by simp)]
theorem half_get (g : Int → Int) (l : List Int) (i : Nat) (h : i < l.length) : (half g l i)[i]? = l[i]? := by
  unfold half
  rw [List.getElem?_append_right (by simp; omega)]
  simp only [List.length_take, List.length_map, Nat.min_eq_left (Nat.le_of_lt h), Nat.sub_self]
  rw [List.getElem?_drop]
  rfl
theorem half_rd (g : Int → Int) (l : List Int) (i : Nat) (h : i < l.length) : rd (half g l i) (i : Int) = l[i] := by
  unfold rd
  rw [Int.toNat_natCast, List.getD, half_get g l i h, List.getElem?_eq_getElem h]
  rfl
theorem half_set (g : Int → Int) (l : List Int) (i : Nat) (h : i < l.length) : (half g l i).set i (g l[i]) = half g l (i + 1) := by
  apply List.ext_getElem?
  intro j
  have hl : ((l.map g).take i).length = i := by simp; omega
  have hl' : ((l.map g).take (i + 1)).length = i + 1 := by simp; omega
  by_cases hj : j < i
  · rw [List.getElem?_set_ne (by omega)]
    unfold half
    rw [List.getElem?_append_left (by omega), List.getElem?_append_left (by omega), List.getElem?_take, List.getElem?_take, if_pos hj, if_pos (by omega)]
  · by_cases e : j = i
    · subst e
      rw [List.getElem?_set_self (by rw [half_len]; exact h)]
      unfold half
      rw [List.getElem?_append_left (by omega), List.getElem?_take, if_pos (by omega)]
      simp [List.getElem?_eq_getElem h]
    · rw [List.getElem?_set_ne (by omega)]
      unfold half
      rw [List.getElem?_append_right (by omega), List.getElem?_append_right (by omega), hl, hl', List.getElem?_drop, List.getElem?_drop]
      congr 1
      omega
theorem half_same (g : Int → Int) (l : List Int) (i : Nat) (h : i < l.length) (e : g l[i] = l[i]) : half g l i = half g l (i + 1) := by
  rw [← half_set g l i h, e]
  apply List.ext_getElem?
  intro j
  by_cases hj : j = i
  · subst hj
    rw [List.getElem?_set_self (by rw [half_len]; exact h), half_get g l j h, List.getElem?_eq_getElem h]
  · rw [List.getElem?_set_ne (by omega)]
theorem bytes_range (s : ByteArray) : ∀ b ∈ bytesOf s, 0 ≤ b ∧ b ≤ 255 := by
  intro b hb
  obtain ⟨c, _, rfl⟩ := List.mem_map.1 hb
  have := c.toNat_lt
  omega
section
variable (lo hi st : Int) (hst : -256 ≤ st) (hst' : st ≤ 256)
include hst hst'
theorem step_eq {b : Int} (h0 : 0 ≤ b) (h1 : b ≤ 255) : (wrap64 ((wrap64 b) + st)) % 256 = (b + st) % 256 := by
  rw [wrap_id (x := b) (by omega) (by omega), wrap_id (by omega) (by omega)]
theorem turned_l0 (l : List Int) (hl : l.length ≤ 281474976710656) (hr : ∀ b ∈ l, 0 ≤ b ∧ b ≤ 255) : ∀ i : Int, i ≤ (l.length : Int) → 0 ≤ i →
    Ans (fun k => chars_turned.l0 k lo hi st (half (tg lo hi st) l i.toNat) (l.length : Int) i) (strOfNums (l.map (tg lo hi st))) := by
  refine left_ind fun i hi' ih h0 => Ans.succ ?_
  obtain ⟨j, rfl⟩ : ∃ j : Nat, i = j := ⟨i.toNat, by omega⟩
  simp only [chars_turned.l0, Int.toNat_natCast]
  by_cases hlt : (j : Int) < (l.length : Int)
  · have hj : j < l.length := by omega
    have hb := hr l[j] (List.getElem_mem hj)
    have next := ih (j + 1) (by omega) (by omega) (by omega)
    rw [show ((j : Int) + 1).toNat = j + 1 by omega] at next
    simp only [if_pos hlt, if_pos h0, half_len, half_rd _ l j hj]
    rw [wrap_id (x := (j : Int) + 1) (by omega) (by omega), step_eq st hst hst' hb.1 hb.2]
    have hg : tg lo hi st l[j] = if lo ≤ l[j] ∧ l[j] ≤ hi then (l[j] + st) % 256 else l[j] := rfl
    by_cases c1 : l[j] ≥ lo
    · simp only [if_pos c1]
      by_cases c2 : l[j] ≤ hi
      · simp only [if_pos c2]
        rw [if_pos ⟨c1, c2⟩] at hg
        rw [← hg, half_set _ l j hj]
        exact next
      · simp only [if_neg c2]
        rw [if_neg (fun h => c2 h.2)] at hg
        rw [half_same _ l j hj hg]
        exact next
    · simp only [if_neg c1]
      rw [if_neg (fun h => c1 h.1)] at hg
      rw [half_same _ l j hj hg]
      exact next
  · simp only [if_neg hlt]
    have : j = l.length := by omega
    subst this
    rw [half_end]
    exact Ans.ret _
theorem changed_l0 (l : List Int) (hl : l.length ≤ 281474976710656) (hr : ∀ b ∈ l, 0 ≤ b ∧ b ≤ 255) : ∀ i : Int, i ≤ (l.length : Int) → 0 ≤ i →
    Ans (fun k => abacusref20_changed.l0 k lo hi st (half (tg lo hi st) l i.toNat) i) (strOfNums (l.map (tg lo hi st))) := by
  refine left_ind fun i hi' ih h0 => Ans.succ ?_
  obtain ⟨j, rfl⟩ : ∃ j : Nat, i = j := ⟨i.toNat, by omega⟩
  simp only [abacusref20_changed.l0, Int.toNat_natCast, half_len]
  by_cases hlt : (j : Int) < (l.length : Int)
  · have hj : j < l.length := by omega
    have hb := hr l[j] (List.getElem_mem hj)
    have next := ih (j + 1) (by omega) (by omega) (by omega)
    rw [show ((j : Int) + 1).toNat = j + 1 by omega] at next
    simp only [if_pos hlt, if_pos h0, half_rd _ l j hj]
    rw [wrap_id (x := (j : Int) + 1) (by omega) (by omega), step_eq st hst hst' hb.1 hb.2]
    have hg : tg lo hi st l[j] = if lo ≤ l[j] ∧ l[j] ≤ hi then (l[j] + st) % 256 else l[j] := rfl
    by_cases c1 : l[j] ≥ lo
    · simp only [if_pos c1]
      by_cases c2 : l[j] ≤ hi
      · simp only [if_pos c2]
        rw [if_pos ⟨c1, c2⟩] at hg
        rw [← hg, half_set _ l j hj]
        exact next
      · simp only [if_neg c2]
        rw [if_neg (fun h => c2 h.2)] at hg
        rw [half_same _ l j hj hg]
        exact next
    · simp only [if_neg c1]
      rw [if_neg (fun h => c1 h.1)] at hg
      rw [half_same _ l j hj hg]
      exact next
  · simp only [if_neg hlt]
    have : j = l.length := by omega
    subst this
    rw [half_end]
    exact Ans.ret _
theorem turned_t (s : ByteArray) (hs : s.size ≤ 281474976710656) : Ans (fun k => chars_turned.f k s lo hi st) (strOfNums ((bytesOf s).map (tg lo hi st))) := by
  have h := turned_l0 lo hi st hst hst' (bytesOf s) (by rw [bytesOf_length]; exact hs) (bytes_range s) 0 (by omega) (by omega)
  rw [show (0 : Int).toNat = 0 by rfl, half_zero] at h
  unfold chars_turned.f
  simp only [if_pos hs, Option.bind_some]
  exact h
theorem changed_t (s : ByteArray) (hs : s.size ≤ 281474976710656) : Ans (fun k => abacusref20_changed.f k s lo hi st) (strOfNums ((bytesOf s).map (tg lo hi st))) := by
  have h := changed_l0 lo hi st hst hst' (bytesOf s) (by rw [bytesOf_length]; exact hs) (bytes_range s) 0 (by omega) (by omega)
  rw [show (0 : Int).toNat = 0 by rfl, half_zero] at h
  unfold abacusref20_changed.f
  simp only [if_pos hs]
  exact h
end
def low (s : ByteArray) : ByteArray := strOfNums ((bytesOf s).map (tg 65 90 32))
def upp (s : ByteArray) : ByteArray := strOfNums ((bytesOf s).map (tg 97 122 (-32)))
theorem lower_t (s : ByteArray) (hs : s.size ≤ 281474976710656) : Ans (fun k => chars_Lower.f k s) (low s) := by
  unfold chars_Lower.f
  refine Ans.bind (turned_t 65 90 32 (by decide) (by decide) s hs) ?_
  exact Ans.ret _
theorem upper_t (s : ByteArray) (hs : s.size ≤ 281474976710656) : Ans (fun k => chars_Upper.f k s) (upp s) := by
  unfold chars_Upper.f
  refine Ans.bind (turned_t 97 122 (-32) (by decide) (by decide) s hs) ?_
  exact Ans.ret _
theorem rlower_t (s : ByteArray) (hs : s.size ≤ 281474976710656) : Ans (fun k => abacusref20_Lower.f k s) (low s) := by
  unfold abacusref20_Lower.f
  refine Ans.bind (changed_t 65 90 32 (by decide) (by decide) s hs) ?_
  exact Ans.ret _
theorem rupper_t (s : ByteArray) (hs : s.size ≤ 281474976710656) : Ans (fun k => abacusref20_Upper.f k s) (upp s) := by
  unfold abacusref20_Upper.f
  refine Ans.bind (changed_t 97 122 (-32) (by decide) (by decide) s hs) ?_
  exact Ans.ret _

/-! ### Index -/
theorem stands_eq (s t : ByteArray) (i : Nat) (hi : i ≤ s.size) (hs : s.size < 4294967281) (ht : t.size < 4294967281) : abacusref20_Stands.f s i t = some (Lib.occAt s.data.toList t.data.toList i) := by
  have hl : s.data.toList.length = s.size := by simp
  have hl' : t.data.toList.length = t.size := by simp
  unfold abacusref20_Stands.f Lib.occAt
  rw [wrap_id (by omega) (by omega)]
  by_cases h : (s.size : Int) - i ≥ (t.size : Int)
  · rw [if_pos h, wrap_id (by omega) (by omega), if_pos (by omega), if_pos (by omega), if_pos (by omega)]
    congr 1
    rw [Go.ByteArray.toList_eq, Go.ByteArray.toList_eq, ByteArray.data_extract, Array.toList_extract, Int.toNat_natCast, show ((i : Int) + (t.size : Int)).toNat = i + t.size by omega, List.extract_eq_take_drop,
      show i + t.size - i = t.size by omega]
    rw [Bool.eq_iff_iff, beq_iff_eq, List.isPrefixOf_iff_prefix, List.prefix_iff_eq_take, hl']
    exact ⟨fun h => h.symm, fun h => h.symm⟩
  · rw [if_neg h]
    congr 1
    symm
    rw [Bool.eq_false_iff, ne_eq, List.isPrefixOf_iff_prefix]
    intro hp
    have := hp.length_le
    rw [List.length_drop] at this
    omega
theorem rindex_l0 (s t : ByteArray) (hs : s.size < 4294967281) (ht : t.size < 4294967281) : ∀ i : Int, i ≤ (s.size : Int) + 1 → 0 ≤ i → Lib.NoOcc s.data.toList t.data.toList i.toNat →
    Ans (fun k => abacusref20_Index.l0 k s t i) (Lib.index s.data.toList t.data.toList + 1) := by
  have hl : s.data.toList.length = s.size := by simp
  refine left_ind fun i hi ih h0 hn => Ans.succ ?_
  obtain ⟨j, rfl⟩ : ∃ j : Nat, i = j := ⟨i.toNat, by omega⟩
  rw [Int.toNat_natCast] at hn
  simp only [abacusref20_Index.l0]
  by_cases hlt : (j : Int) ≤ (s.size : Int)
  · simp only [if_pos hlt, stands_eq s t j (by omega) hs ht, Option.bind_some]
    rw [wrap_id (x := (j : Int) + 1) (by omega) (by omega)]
    cases ho : Lib.occAt s.data.toList t.data.toList j
    · simp only [Bool.false_eq_true, if_false]
      refine ih (j + 1) (by omega) (by omega) (by omega) ?_
      rw [show ((j : Int) + 1).toNat = j + 1 by omega]
      exact hn.succ ho
    · simp only [if_true]
      rw [Lib.index_hit hn (by omega) ho]
      exact Ans.ret _
  · simp only [if_neg hlt]
    have hsub : t.data.toList ≠ [] := by
      intro e
      have := hn 0 (by omega)
      rw [e] at this
      simp [Lib.occAt] at this
    rw [Lib.index_past hsub hn (by
      have : 0 < t.data.toList.length := List.length_pos_iff.2 hsub
      omega)]
    exact Ans.ret _
theorem rindex_t (s t : ByteArray) (hs : s.size < 4294967281) (ht : t.size < 4294967281) : Ans (fun k => abacusref20_Index.f k s t) (Lib.index s.data.toList t.data.toList + 1) :=
  rindex_l0 s t hs ht 0 (by omega) (by omega) (Lib.NoOcc.zero _ _)
theorem index_le : ∀ s sub : List UInt8, Lib.index s sub ≤ s.length
  | [], sub => by unfold Lib.index; split <;> simp
  | b :: l, sub => by
    have := index_le l sub
    unfold Lib.index
    split
    · simp
      omega
    · split
      · simp
        omega
      · simp
        omega
theorem index_t (s t : ByteArray) (hs : s.size < 4294967281) : chars_Index.f s t = some (Lib.index s.data.toList t.data.toList + 1) := by
  have h1 := Lib.index_ge s.data.toList t.data.toList
  have h2 := index_le s.data.toList t.data.toList
  have hl : s.data.toList.length = s.size := by simp
  unfold chars_Index.f xIndex.f
  rw [if_pos hs, Option.bind_some, wrap_id (by omega) (by omega)]

/-! ### The law -/
section
variable (l : List S28) (hl : l.length ≤ 1048576) (hs : ∀ a ∈ l, a.f0.size ≤ 1048576 ∧ a.f1.size ≤ 1048576)
include hl hs
theorem idx_l0 : ∀ i : Int, i ≤ (l.length : Int) → 0 ≤ i → Ans (fun k => abacuslaw20_CharsIndexes.l0 k l i) true := by
  refine left_ind fun i hi ih h0 => Ans.succ ?_
  simp only [abacuslaw20_CharsIndexes.l0]
  by_cases hlt : i < (l.length : Int)
  · simp only [if_pos hlt, if_pos h0]
    obtain ⟨a1, a2⟩ := hs (rd_T28 l i) (by
      unfold rd_T28
      rw [List.getD, List.getElem?_eq_getElem (show i.toNat < l.length by omega)]
      exact List.getElem_mem _)
    generalize rd_T28 l i = a at *
    rw [index_t a.f0 a.f1 (by omega)]
    simp only [Option.bind_some]
    refine Ans.bind (rindex_t a.f0 a.f1 (by omega) (by omega)) ?_
    simp only [if_true]
    rw [index_t a.f1 a.f0 (by omega)]
    simp only [Option.bind_some]
    refine Ans.bind (rindex_t a.f1 a.f0 (by omega) (by omega)) ?_
    simp only [bne_self_eq_false]
    refine Ans.succ ?_
    simp only [abacuslaw20_CharsIndexes.j2, Bool.false_eq_true, if_false]
    refine Ans.bind (lower_t a.f0 (by omega)) ?_
    refine Ans.bind (rlower_t a.f0 (by omega)) ?_
    simp only [if_true]
    refine Ans.bind (upper_t a.f0 (by omega)) ?_
    refine Ans.bind (rupper_t a.f0 (by omega)) ?_
    simp only [if_true]
    rw [wrap_id (by omega) (by omega)]
    exact ih (i + 1) (by omega) (by omega) (by omega)
  · simp only [if_neg hlt]
    exact Ans.ret _
theorem charsIndexes_true : Ans (fun k => abacuslaw20_CharsIndexes.f k l) true := by
  have c1 : Lib.index [104, 101, 108, 108, 111] [108, 111] + 1 = 4 := by decide
  have e1 : (low ⟨#[65, 98, 90, 91]⟩).toList = ([97, 98, 122, 91] : List UInt8) := by rw [Go.ByteArray.toList_eq]; decide
  have e2 : (upp ⟨#[97, 122, 123]⟩).toList = ([65, 90, 123] : List UInt8) := by rw [Go.ByteArray.toList_eq]; decide
  unfold abacuslaw20_CharsIndexes.f
  rw [index_t _ _ (by decide)]
  simp only [Option.bind_some]
  simp only [c1, if_true]
  refine Ans.bind (lower_t _ (by decide)) ?_
  simp only [e1, if_true]
  refine Ans.bind (upper_t _ (by decide)) ?_
  simp only [e2, bne_self_eq_false]
  refine Ans.succ ?_
  simp only [abacuslaw20_CharsIndexes.j0, Bool.false_eq_true, if_false]
  exact idx_l0 l hl hs 0 (by omega) (by omega)
end
end Go.Proofs.Ytdeannaaafffbaa.Pl
