/-
  Plain laws of the chars statements, second seat: the runs of bytes that are no blanks; CharsBack answers true.
-/
import Derived.Test.YtdeannaaafffbaaDoorPd
set_option linter.unusedVariables false
set_option linter.unusedSimpArgs false
set_option linter.unusedSectionVars false
namespace Go.Proofs.YtdeannaaafffbaaDoor.Pl
open Go.RowKit Go.Proofs.YtdeannaaafffbaaDoorW.PrintWords Go.Proofs.YtdeannaaafffbaaDoor.X Go.Proofs.YtdeannaaafffbaaDoor.ECd

theorem bt_get (s : ByteArray) (i : Nat) (h : i < s.data.toList.length) : bt s (i : Int) = ((s.data.toList[i]).toNat : Int) := by
  unfold bt
  rw [Int.toNat_natCast, dif_pos (by rw [← size_l]; exact h)]
  congr 1
def nb (l : List UInt8) : List UInt8 := l.filter fun b => !blk (b.toNat : Int)
theorem nb_no {a : UInt8} {l : List UInt8} (h : blk (a.toNat : Int) = false) : nb (a :: l) = a :: nb l := by
  unfold nb
  rw [List.filter_cons, h]
  rfl
theorem nb_yes {a : UInt8} {l : List UInt8} (h : blk (a.toNat : Int) = true) : nb (a :: l) = nb l := by
  unfold nb
  rw [List.filter_cons, h]
  rfl
theorem blank3 (b : Int) : abacuslaw20_blank.f b = some (blk b) := by
  unfold abacuslaw20_blank.f blk
  by_cases h : b = 32
  · simp [h]
  · by_cases h1 : b ≥ 9
    · simp [h, h1]
    · simp [h, h1]
section
variable (s : ByteArray)
theorem drop_cons {i : Nat} (h : i < s.data.toList.length) : s.data.toList.drop i = s.data.toList[i] :: s.data.toList.drop (i + 1) := List.drop_eq_getElem_cons h
theorem runL_cat : ∀ i : Int, i ≤ (s.size : Int) → 0 ≤ i → ∀ b : Int, b ≤ i → cat (runL s b i) = (if b < 0 then [] else (s.data.toList.drop b.toNat).take (i.toNat - b.toNat)) ++ nb (s.data.toList.drop i.toNat) := by
  have h2 := size_l s
  refine left_ind fun i hi ih h0 b hb => ?_
  obtain ⟨m, rfl⟩ : ∃ m : Nat, i = m := ⟨i.toNat, by omega⟩
  rw [runL, Int.toNat_natCast]
  by_cases hlt : (m : Int) < (s.size : Int)
  · have hm : m < s.data.toList.length := by omega
    rw [dif_pos hlt, bt_get s m hm]
    have next := ih (m + 1) (by omega) (by omega) (by omega)
    rw [show ((m : Int) + 1).toNat = m + 1 by omega] at next
    cases hk : blk ((s.data.toList[m]).toNat : Int)
    · have hn : nb (s.data.toList.drop m) = s.data.toList[m] :: nb (s.data.toList.drop (m + 1)) := by
        rw [drop_cons s hm, nb_no hk]
      rw [if_neg (by decide)]
      by_cases h1 : b < 0
      · rw [if_pos h1, if_pos h1, next m (by omega), if_neg (by omega), Int.toNat_natCast, show m + 1 - m = 1 by omega, hn, drop_cons s hm]
        rfl
      · rw [if_neg h1, if_neg h1, next b (by omega), if_neg h1, hn]
        have ht : (s.data.toList.drop b.toNat).take (m + 1 - b.toNat) = (s.data.toList.drop b.toNat).take (m - b.toNat) ++ [s.data.toList[m]] := by
          rw [show m + 1 - b.toNat = (m - b.toNat) + 1 by omega, List.take_add, List.drop_drop, show b.toNat + (m - b.toNat) = m by omega, drop_cons s hm]
          rfl
        rw [ht]
        simp
    · have hn : nb (s.data.toList.drop m) = nb (s.data.toList.drop (m + 1)) := by
        rw [drop_cons s hm, nb_yes hk]
      rw [if_pos rfl]
      by_cases h1 : b < 0
      · rw [if_pos h1, if_pos h1, next (-1) (by omega), if_pos (by decide), hn]
      · rw [if_neg h1, if_neg h1]
        have := next (-1) (by omega)
        rw [if_pos (by decide), List.nil_append] at this
        unfold cat at this ⊢
        rw [List.map_cons, List.flatten_cons, this, ext_l, hn]
  · have hd : s.data.toList.drop m = [] := List.drop_eq_nil_of_le (by omega)
    rw [dif_neg hlt, hd]
    by_cases h1 : b < 0
    · rw [if_pos h1, if_pos h1]
      rfl
    · rw [if_neg h1, if_neg h1]
      simp [cat, nb, ext_l]
theorem runL_good : ∀ i : Int, i ≤ (s.size : Int) → 0 ≤ i → ∀ b : Int, (b < 0 ∨ (b < i ∧ ∀ j : Nat, b ≤ (j : Int) → (j : Int) < i → blk (bt s j) = false)) → ∀ x ∈ runL s b i, 0 < x.size ∧ x.size ≤ s.size ∧ ∀ j : Nat, j < x.size → blk (bt x j) = false := by
  have h2 := size_l s
  have part : ∀ (b i : Int), 0 ≤ b → b < i → i ≤ (s.size : Int) → (∀ j : Nat, b ≤ (j : Int) → (j : Int) < i → blk (bt s j) = false) → 0 < (s.extract b.toNat i.toNat).size ∧ (s.extract b.toNat i.toNat).size ≤ s.size ∧ ∀ j : Nat, j < (s.extract b.toNat i.toNat).size → blk (bt (s.extract b.toNat i.toNat) j) = false := by
    intro b i hb hbi hi hh
    have hs : (s.extract b.toNat i.toNat).size = i.toNat - b.toNat := by
      rw [← size_l, ext_l, List.length_take, List.length_drop]
      omega
    refine ⟨by omega, by omega, fun j hj => ?_⟩
    have e : bt (s.extract b.toNat i.toNat) j = bt s ((b.toNat + j : Nat) : Int) := by
      rw [bt_get _ j (by rw [size_l]; exact hj), bt_get s (b.toNat + j) (by omega)]
      congr 2
      have : (s.extract b.toNat i.toNat).data.toList[j]? = s.data.toList[b.toNat + j]? := by
        rw [ext_l, List.getElem?_take, if_pos (by omega), List.getElem?_drop]
      rw [List.getElem?_eq_getElem (by rw [size_l]; exact hj), List.getElem?_eq_getElem (by omega)] at this
      exact Option.some.inj this
    rw [e]
    exact hh (b.toNat + j) (by omega) (by omega)
  refine left_ind fun i hi ih h0 b hb x hx => ?_
  obtain ⟨m, rfl⟩ : ∃ m : Nat, i = m := ⟨i.toNat, by omega⟩
  rw [runL] at hx
  by_cases hlt : (m : Int) < (s.size : Int)
  · rw [dif_pos hlt] at hx
    have next := ih (m + 1) (by omega) (by omega) (by omega)
    cases hk : blk (bt s m)
    · rw [hk, if_neg (by decide)] at hx
      by_cases h1 : b < 0
      · rw [if_pos h1] at hx
        refine next m (.inr ⟨by omega, fun j g1 g2 => ?_⟩) x hx
        rw [show (j : Int) = m by omega]
        exact hk
      · rw [if_neg h1] at hx
        obtain ⟨g1, g2⟩ := hb.resolve_left h1
        refine next b (.inr ⟨by omega, fun j k1 k2 => ?_⟩) x hx
        by_cases e : (j : Int) = m
        · rw [e]
          exact hk
        · exact g2 j k1 (by omega)
    · rw [hk, if_pos rfl] at hx
      by_cases h1 : b < 0
      · rw [if_pos h1] at hx
        exact next (-1) (.inl (by decide)) x hx
      · rw [if_neg h1] at hx
        obtain ⟨g1, g2⟩ := hb.resolve_left h1
        rcases List.mem_cons.1 hx with rfl | hx
        · exact part b m (by omega) g1 hi g2
        · exact next (-1) (.inl (by decide)) x hx
  · rw [dif_neg hlt] at hx
    by_cases h1 : b < 0
    · rw [if_pos h1] at hx
      cases hx
    · rw [if_neg h1, List.mem_singleton] at hx
      obtain ⟨g1, g2⟩ := hb.resolve_left h1
      rw [hx]
      exact part b m (by omega) g1 hi g2
end
section
variable (s : ByteArray) (hs : s.size ≤ 1048576)
include hs
theorem back_l4 (l : List ByteArray) (i : Nat) (hi : i < l.length) (hl : l.length ≤ 1048577) (x : ByteArray) (hx : l[i] = x) (hxs : x.size ≤ s.size) (hg : ∀ j : Nat, j < x.size → blk (bt x j) = false) (hnext : Ans (fun k => abacuslaw20_CharsBack.l3 k l ((i : Int) + 1)) true) :
    ∀ j : Int, j ≤ (x.size : Int) → 0 ≤ j → Ans (fun k => abacuslaw20_CharsBack.l4 k l (i : Int) j) true := by
  have hrd : rdOf ByteArray.empty l (i : Int) = x := by
    unfold rdOf
    rw [Int.toNat_natCast, List.getD, List.getElem?_eq_getElem hi, hx]
    rfl
  refine left_ind fun j hj ih h0 => Ans.succ ?_
  obtain ⟨m, rfl⟩ : ∃ m : Nat, j = m := ⟨j.toNat, by omega⟩
  simp only [abacuslaw20_CharsBack.l4, hrd, if_pos (show (0 : Int) ≤ (i : Int) by omega), if_pos (show (i : Int) < (l.length : Int) by omega)]
  by_cases hlt : (m : Int) < (x.size : Int)
  · simp only [if_pos hlt, if_pos h0, blank3, Option.bind_some, hg m (by omega), Bool.false_eq_true, if_false]
    rw [wrap_id (by omega) (by omega)]
    exact ih (m + 1) (by omega) (by omega) (by omega)
  · simp only [if_neg hlt]
    rw [wrap_id (by omega) (by omega)]
    exact hnext
theorem back_l3 (l : List ByteArray) (hl : l.length ≤ 1048577) (hg : ∀ x ∈ l, 0 < x.size ∧ x.size ≤ s.size ∧ ∀ j : Nat, j < x.size → blk (bt x j) = false) : ∀ i : Int, i ≤ (l.length : Int) → 0 ≤ i → Ans (fun k => abacuslaw20_CharsBack.l3 k l i) true := by
  refine left_ind fun i hi ih h0 => Ans.succ ?_
  obtain ⟨m, rfl⟩ : ∃ m : Nat, i = m := ⟨i.toNat, by omega⟩
  simp only [abacuslaw20_CharsBack.l3]
  by_cases hlt : (m : Int) < (l.length : Int)
  · have hm : m < l.length := by omega
    obtain ⟨g1, g2, g3⟩ := hg l[m] (List.getElem_mem hm)
    have hrd : rdOf ByteArray.empty l (m : Int) = l[m] := by
      unfold rdOf
      rw [Int.toNat_natCast, List.getD, List.getElem?_eq_getElem hm]
      rfl
    have hne : ¬ (l[m]).toList = ([] : List UInt8) := by
      rw [Go.ByteArray.toList_eq]
      intro e
      have := size_l l[m]
      rw [e] at this
      have h0 : ([] : List UInt8).length = 0 := rfl
      omega
    simp only [if_pos hlt, if_pos h0, hrd, if_neg hne]
    exact back_l4 s hs l m hm hl l[m] rfl g2 g3 (ih (m + 1) (by omega) (by omega) (by omega)) 0 (by omega) (by omega)
  · simp only [if_neg hlt]
    exact Ans.ret _
/-- Behind the counting. -/
theorem back_l2 (T : List Int) (hT : strOfNums T = ⟨(nb s.data.toList).toArray⟩) : ∀ i : Int, i ≤ (s.size : Int) → 0 ≤ i → ∀ (b : Int) (c : Nat), b ≤ i → (c : Int) ≤ i → ((b < 0 ∧ (i = 0 ∨ blk (bt s (i - 1)) = true)) ∨ (0 ≤ b ∧ 0 < i ∧ blk (bt s (i - 1)) = false)) →
    (c + (runL s b i).length = (runL s (-1) 0).length + (if b < 0 then 0 else 1)) → Ans (fun k => abacuslaw20_CharsBack.l2 k s (runL s (-1) 0) T (c : Int) i) true := by
  have hr := runL_len s 0 (by omega) (by omega) (-1)
  have hg := runL_good s 0 (by omega) (by omega) (-1) (.inl (by decide))
  refine left_ind fun i hi ih h0 b c hb hc hst hlen => Ans.succ ?_
  simp only [abacuslaw20_CharsBack.l2]
  by_cases hlt : i < (s.size : Int)
  · have next := ih (i + 1) (by omega) (by omega) (by omega)
    simp only [if_pos hlt, if_pos h0, blank3, Option.bind_some]
    rw [wrap_id (x := i + 1) (by omega) (by omega), wrap_id (x := (c : Int) + 1) (by omega) (by omega)]
    rw [runL, dif_pos hlt] at hlen
    have e1 : i + 1 - 1 = i := by omega
    cases hk : blk (bt s i)
    · rw [hk, if_neg (by decide)] at hlen
      simp only [Bool.false_eq_true, if_false]
      have yes : b < 0 → Ans (fun k => abacuslaw20_CharsBack.l2 k s (runL s (-1) 0) T ((c : Int) + 1) (i + 1)) true := by
        intro h1
        rw [if_pos h1, if_pos h1] at hlen
        have := next i (c + 1) (by omega) (by omega) (.inr ⟨h0, by omega, by rw [e1]; exact hk⟩) (by rw [if_neg (by omega)]; omega)
        rw [show ((c + 1 : Nat) : Int) = (c : Int) + 1 by omega] at this
        exact this
      have no : 0 ≤ b → Ans (fun k => abacuslaw20_CharsBack.l2 k s (runL s (-1) 0) T (c : Int) (i + 1)) true := by
        intro h1
        rw [if_neg (by omega), if_neg (by omega)] at hlen
        exact next b c (by omega) (by omega) (.inr ⟨h1, by omega, by rw [e1]; exact hk⟩) (by rw [if_neg (by omega)]; omega)
      by_cases hz : i = 0
      · simp only [if_pos hz]
        exact yes (by omega)
      · simp only [if_neg hz]
        rw [wrap_id (x := i - 1) (by omega) (by omega)]
        simp only [if_pos (show 0 ≤ i - 1 by omega), if_pos (show i - 1 < (s.size : Int) by omega)]
        rcases hst with ⟨h1, h3⟩ | ⟨h1, h4, h3⟩
        · simp only [h3.resolve_left hz, if_true]
          exact yes h1
        · simp only [h3, Bool.false_eq_true, if_false]
          exact no h1
    · rw [hk, if_pos rfl] at hlen
      simp only [if_true]
      refine next (-1) c (by omega) (by omega) (.inl ⟨by decide, .inr (by rw [e1]; exact hk)⟩) ?_
      rw [if_pos (by decide)]
      by_cases h1 : b < 0
      · rw [if_pos h1, if_pos h1] at hlen
        omega
      · rw [if_neg h1, if_neg h1, List.length_cons] at hlen
        omega
  · simp only [if_neg hlt]
    rw [runL, dif_neg hlt] at hlen
    have hce : (runL s (-1) 0).length = c := by
      by_cases h1 : b < 0
      · rw [if_pos h1, if_pos h1, List.length_nil] at hlen
        omega
      · rw [if_neg h1, if_neg h1] at hlen
        simp at hlen
        omega
    have hcat := runL_cat s 0 (by omega) (by omega) (-1) (by omega)
    rw [if_pos (by decide), List.nil_append, show (0 : Int).toNat = 0 by rfl, List.drop_zero] at hcat
    have hnb : (nb s.data.toList).length ≤ s.size := by
      have := List.length_filter_le (fun b : UInt8 => !blk (b.toNat : Int)) s.data.toList
      rw [size_l] at this
      exact this
    have hj : joinV (runL s (-1) 0) ⟨#[]⟩ = (⟨(nb s.data.toList).toArray⟩, 0) := by
      unfold joinV
      rw [← jb_len, jb_cat, hcat, if_neg (by omega), join_jb, jb_cat, hcat]
    refine Ans.bind (cat_t _ (by omega) (fun x hx => by have := (hg x hx).2.1; omega)) ?_
    rw [hj]
    simp only [if_true, hT]
    refine Ans.succ ?_
    have hz : (((runL s (-1) 0).length : Int) != (c : Int)) = false := by rw [hce]; simp
    simp only [abacuslaw20_CharsBack.j6, hz, Bool.false_eq_true, if_false]
    exact back_l3 s hs _ (by omega) hg 0 (by omega) (by omega)
theorem back_l1 : ∀ i : Int, i ≤ (s.size : Int) → 0 ≤ i → ∀ x10 : List UInt8, x10.length ≤ i.toNat → x10 ++ nb (s.data.toList.drop i.toNat) = nb s.data.toList → Ans (fun k => abacuslaw20_CharsBack.l1 k s (runL s (-1) 0) (bl x10) i) true := by
  have h2 := size_l s
  refine left_ind fun i hi ih h0 x10 hx hn => Ans.succ ?_
  obtain ⟨m, rfl⟩ : ∃ m : Nat, i = m := ⟨i.toNat, by omega⟩
  rw [Int.toNat_natCast] at hx hn
  simp only [abacuslaw20_CharsBack.l1]
  have hb : (bl x10).length = x10.length := by simp [bl]
  by_cases hlt : (m : Int) < (s.size : Int)
  · have hm : m < s.data.toList.length := by omega
    have next := ih (m + 1) (by omega) (by omega) (by omega)
    rw [show ((m : Int) + 1).toNat = m + 1 by omega] at next
    simp only [if_pos hlt, if_pos h0, blank3, Option.bind_some, bt_get s m hm]
    rw [wrap_id (by omega) (by omega)]
    rw [drop_cons s hm] at hn
    cases hk : blk ((s.data.toList[m]).toNat : Int)
    · simp only [Bool.false_eq_true, if_false, if_pos (show (bl x10).length < 140737488355328 by omega)]
      have e : bl x10 ++ [((s.data.toList[m]).toNat : Int)] = bl (x10 ++ [s.data.toList[m]]) := by simp [bl]
      rw [e]
      refine next _ (by simp; omega) ?_
      rw [← hn, nb_no hk]
      simp
    · simp only [if_true]
      refine next x10 (by omega) ?_
      rw [← hn, nb_yes hk]
  · simp only [if_neg hlt]
    have hd : s.data.toList.drop m = [] := List.drop_eq_nil_of_le (by omega)
    rw [hd] at hn
    have hn' : x10 = nb s.data.toList := by simpa [nb] using hn
    rw [hn']
    exact back_l2 s hs _ (num_bl _) 0 (by omega) (by omega) (-1) 0 (by omega) (by omega) (.inl ⟨by decide, .inl rfl⟩) (by rw [if_pos (by decide)]; omega)
theorem back_j3 : Ans (fun k => abacuslaw20_CharsBack.j3 k s) true := by
  refine Ans.succ ?_
  simp only [abacuslaw20_CharsBack.j3]
  refine Ans.bind (split_t s ⟨#[32]⟩ hs (by decide)) ?_
  have e : splitV s ⟨#[32]⟩ = runL s (-1) 0 := by
    unfold splitV
    by_cases c1 : s.data.toList = []
    · have hz : s.size = 0 := by rw [← size_l, c1]; rfl
      rw [if_pos c1, runL, dif_neg (by omega), if_pos (by decide)]
    · rw [if_neg c1, if_pos rfl]
  rw [e]
  exact back_l1 s hs 0 (by omega) (by omega) [] (by simp) (by simp)
end
theorem index_part (x o : ByteArray) (hx : x.size ≤ 1048576) (h : Lib.index x.data.toList o.data.toList = -1) : chars_Index.f x o = some 0 := by
  unfold chars_Index.f xIndex.f
  rw [if_pos (by omega), h, Option.bind_some, wrap_id (by decide) (by decide)]
  rfl
/-- Split, whatever the separator's length. -/
theorem split_any (s o : ByteArray) (hs : s.size ≤ 1048576) : Ans (fun k => chars_Split.f k s o) (splitV s o) := by
  have h2 := size_l s
  have h3 := size_l o
  unfold chars_Split.f splitV
  simp only [Go.ByteArray.toList_eq]
  by_cases c1 : s.data.toList = []
  · simp only [if_pos c1]
    exact Ans.ret _
  · simp only [if_neg c1]
    by_cases c2 : o.data.toList = [32]
    · simp only [if_pos c2]
      refine Ans.bind (words_t s hs) ?_
      exact Ans.ret _
    · simp only [if_neg c2]
      by_cases c3 : o.data.toList = []
      · simp only [if_pos c3, if_pos (show (0 : Int) ≤ (s.size : Int) by omega), Int.toNat_natCast, if_pos (show s.size ≤ 17592186044416 by omega), Option.bind_some, List.length_replicate]
        exact bytes1 s hs 0 (by omega) (by omega) _ (by simp) (fun j hj => by omega)
      · have hol : 0 < o.size := by rw [← h3]; exact List.length_pos_iff.2 c3
        have hx : xSplit.f s o = some (parts s o (Lib.count s.data.toList o.data.toList) 0) := by
          unfold xSplit.f
          rw [if_pos ⟨by omega, by omega⟩]
          congr 1
          exact splitB_parts s o hol _ 0 s (by omega) (by simp) (by simp)
        simp only [if_neg c3, hx, Option.bind_some]
        exact Ans.ret _
section
variable (s o : ByteArray) (hs : s.size ≤ 1048576) (ho : o.size ≤ 140737488351232) (h1 : o.data.toList ≠ [32])
include hs ho h1
theorem back_l0 : ∀ i : Int, i ≤ ((splitV s o).length : Int) → 0 ≤ i → Ans (fun k => abacuslaw20_CharsBack.l0 k s o (splitV s o) i) true := by
  have hlen := splitV_len s o
  refine left_ind fun i hi ih h0 => Ans.succ ?_
  obtain ⟨m, rfl⟩ : ∃ m : Nat, i = m := ⟨i.toNat, by omega⟩
  simp only [abacuslaw20_CharsBack.l0, Go.ByteArray.toList_eq]
  by_cases hlt : (m : Int) < ((splitV s o).length : Int)
  · have hm : m < (splitV s o).length := by omega
    have next := ih (m + 1) (by omega) (by omega) (by omega)
    have hrd : rdOf ByteArray.empty (splitV s o) (m : Int) = (splitV s o)[m] := by
      unfold rdOf
      rw [Int.toNat_natCast, List.getD, List.getElem?_eq_getElem hm]
      rfl
    have hmem := List.getElem_mem hm
    simp only [if_pos hlt]
    by_cases c3 : o.data.toList = []
    · simp only [if_pos c3]
      refine Ans.succ ?_
      have := split_one s o c3 _ hmem
      simp only [abacuslaw20_CharsBack.j2, Bool.false_eq_true, if_false, Go.ByteArray.toList_eq, if_pos c3, if_pos h0, if_pos hlt, hrd, this]
      rw [wrap_id (by omega) (by omega)]
      simp only [if_pos (show ((1 : Nat) : Int) = 1 by rfl)]
      exact next
    · have hsz := split_size s o h1 _ hmem
      have hix := split_no s o h1 c3 _ hmem
      simp only [if_neg c3, if_pos h0, hrd, index_part _ o (by omega) hix, Option.bind_some, bne_self_eq_false]
      refine Ans.succ ?_
      simp only [abacuslaw20_CharsBack.j2, Bool.false_eq_true, if_false, Go.ByteArray.toList_eq, if_neg c3]
      rw [wrap_id (by omega) (by omega)]
      exact next
  · simp only [if_neg hlt]
    exact back_j3 s hs
end
theorem back_const : splitV ⟨#[97, 44, 98, 44]⟩ ⟨#[44]⟩ = [(⟨#[97]⟩ : ByteArray), ⟨#[98]⟩, ⟨#[]⟩] := by
  unfold splitV
  rw [if_neg (by decide), if_neg (by decide), if_neg (by decide)]
  decide
theorem charsBack_true (s o : ByteArray) (hs' : s.size ≤ 140737488351232) (ho : o.size ≤ 140737488351232) : Ans (fun k => abacuslaw20_CharsBack.f k s o) true := by
  unfold abacuslaw20_CharsBack.f
  refine Ans.bind (split_any _ _ (by decide)) ?_
  rw [back_const]
  refine Ans.bind (alike_t _ (by decide)) ?_
  simp only [if_true]
  by_cases hs : (s.size : Int) > 1048576
  · simp only [if_pos hs]
    exact Ans.ret _
  · simp only [if_neg hs]
    have hs2 : s.size ≤ 1048576 := by omega
    have hlen := splitV_len s o
    refine Ans.bind (split_any s o hs2) ?_
    simp only [Go.ByteArray.toList_eq]
    by_cases h1 : o.data.toList = [32]
    · simp only [if_pos h1]
      exact back_j3 s hs2
    · simp only [if_neg h1]
      have hj : joinV (splitV s o) o = (s, 0) := by
        unfold joinV
        rw [← jb_len, join_jb, split_join s o h1, size_l, if_neg (by omega)]
      refine Ans.bind (join_t _ _ (by omega) (fun x hx => by have := split_size s o h1 x hx; omega) (by omega)) ?_
      rw [hj]
      simp only [if_true, bne_self_eq_false]
      refine Ans.succ ?_
      simp only [abacuslaw20_CharsBack.j0, Bool.false_eq_true, if_false]
      exact back_l0 s o hs2 ho h1 0 (by omega) (by omega)
end Go.Proofs.YtdeannaaafffbaaDoor.Pl
