/-
  Plain laws of the chars statements: the places that the document finds are the program's; CharsReplaces answers true.
-/
import Derived.Test.YtdeannaaafffbaaPr
set_option linter.unusedVariables false
set_option linter.unusedSimpArgs false
set_option linter.unusedSectionVars false
namespace Go.Proofs.Ytdeannaaafffbaa.Pl
open Go.RowKit Go.Proofs.YtdeannaaafffbaaW.PrintWords Go.Proofs.Ytdeannaaafffbaa.X Go.Proofs.Ytdeannaaafffbaa.ECh

theorem occ_drop (S O : List UInt8) (p i : Nat) (h : p ≤ i) : Lib.occAt (S.drop p) O (i - p) = Lib.occAt S O i := by
  unfold Lib.occAt
  rw [List.drop_drop, show p + (i - p) = i by omega]
theorem count_zero {l O : List UInt8} (h : Lib.NoOcc l O (l.length + 1)) : Lib.count l O = 0 := by
  rcases Lib.index_spec l O with ⟨h1, _⟩ | ⟨i, h1, h2, h3, h4⟩
  · exact Lib.count_miss h1
  · rw [h i (by omega)] at h3
    cases h3
theorem range_id (n : Nat) : (List.range n).map (0 + ·) = List.range n := by simp
section
variable (s o w : ByteArray) (hs : s.size ≤ 33554432) (ho : o.size ≤ 33554432)
include hs ho
theorem prog_fin (hw : w.size ≤ 33554432) (P : List Nat) (hc : Chain s.data.toList o.data.toList true 0 P) (hP : P.length ≤ 33554433) : Ans (fun k => chars_Replace.j0 k s o w (P.length : Int)) (ansR s o w P) := by
  have h2 := size_l s
  have h3 := size_l o
  have h4 := size_l w
  have ha := asm_len s.data.toList o.data.toList w.data.toList hc (by omega)
  have he := chain_end s.data.toList o.data.toList hc (by omega)
  rw [h2, h3, h4] at ha
  rw [h2, h3] at he
  have hm : P.length * w.size ≤ 33554433 * 33554432 := Nat.mul_le_mul hP hw
  have c1 : ((P.length * w.size : Nat) : Int) = (P.length : Int) * (w.size : Int) := Int.natCast_mul _ _
  have c2 : ((P.length * o.size : Nat) : Int) = (P.length : Int) * (o.size : Int) := Int.natCast_mul _ _
  have c4 : (w.size : Int) * (P.length : Int) = (P.length : Int) * (w.size : Int) := Int.mul_comm _ _
  have bad : (s.size : Int) + P.length * w.size - P.length * o.size > 16777216 → Ans (fun k => chars_Replace.j1 k s o w (P.length : Int) true) (ansR s o w P) := by
    intro h
    refine Ans.succ ?_
    simp only [chars_Replace.j1, if_true]
    unfold ansR
    rw [if_pos h]
    exact Ans.ret _
  have good : ¬ (s.size : Int) + P.length * w.size - P.length * o.size > 16777216 → Ans (fun k => chars_Replace.j1 k s o w (P.length : Int) false) (ansR s o w P) := by
    intro h
    refine Ans.succ ?_
    simp only [chars_Replace.j1, Bool.false_eq_true, if_false]
    have h0 : (⟨#[]⟩ : ByteArray).size = 0 := rfl
    have := prog_l0 s o w hs ho (P.length : Int) (P.length : Int) P 0 ⟨#[]⟩ s 0 (by simp) hc (by omega) (by omega) (by omega) (by omega)
    unfold ansR
    rw [if_neg h]
    simpa using this
  refine Ans.succ ?_
  simp only [chars_Replace.j0]
  rw [wrap_id (x := (P.length : Int) * (o.size : Int)) (by omega) (by omega), wrap_id (x := (s.size : Int) - (P.length : Int) * (o.size : Int)) (by omega) (by omega)]
  by_cases hd : (s.size : Int) - (P.length : Int) * (o.size : Int) > 16777216
  · simp only [if_pos hd]
    exact bad (by omega)
  simp only [if_neg hd]
  by_cases h0 : (P.length : Int) > 0
  · simp only [if_pos h0, if_neg (show ¬ (P.length : Int) = 0 by omega)]
    rw [wrap_id (x := 16777216 - ((s.size : Int) - (P.length : Int) * (o.size : Int))) (by omega) (by omega), Int.tdiv_eq_ediv_of_nonneg (by omega)]
    have hdiv : ∀ z : Int, (16777216 - ((s.size : Int) - (P.length : Int) * (o.size : Int))) / (P.length : Int) < z ↔ (16777216 - ((s.size : Int) - (P.length : Int) * (o.size : Int))) < z * (P.length : Int) := fun z => Int.ediv_lt_iff_lt_mul h0
    have hd0 : 0 ≤ (16777216 - ((s.size : Int) - (P.length : Int) * (o.size : Int))) / (P.length : Int) := Int.ediv_nonneg (by omega) (by omega)
    have hd1 : (16777216 - ((s.size : Int) - (P.length : Int) * (o.size : Int))) / (P.length : Int) ≤ 16777216 - ((s.size : Int) - (P.length : Int) * (o.size : Int)) := Int.ediv_le_self _ (by omega)
    rw [wrap_id (by omega) (by omega)]
    by_cases h6 : (w.size : Int) > (16777216 - ((s.size : Int) - (P.length : Int) * (o.size : Int))) / (P.length : Int)
    · have h7 := (hdiv _).1 h6
      simp only [decide_eq_true h6]
      exact bad (by omega)
    · have h7 : ¬ _ := fun h => h6 ((hdiv (w.size : Int)).2 h)
      simp only [decide_eq_false h6]
      exact good (by omega)
  · simp only [if_neg h0]
    have hz : P.length = 0 := by omega
    refine good ?_
    rw [hz] at hd ⊢
    simp at hd ⊢
    omega

/-! ### The document's places -/
theorem scan1 (hO : o.data.toList ≠ []) (most : Int) (R : ByteArray × Int × Int) : ∀ i : Int, i ≤ (s.size : Int) + 1 → 0 ≤ i → ∀ (Q : List Nat) (p r : Nat), (p : Int) ≤ i → p ≤ s.size → Q.length ≤ p → Lib.NoOcc (s.data.toList.drop p) o.data.toList (i.toNat - p) →
    ((most < 0 ∧ r = Lib.count (s.data.toList.drop p) o.data.toList) ∨ (0 ≤ most ∧ (Q.length : Int) ≤ most ∧ ((r = Lib.count (s.data.toList.drop p) o.data.toList ∧ (Q.length : Int) + r ≤ most) ∨ (r ≤ Lib.count (s.data.toList.drop p) o.data.toList ∧ (Q.length : Int) + r = most)))) →
    (∀ i' : Int, Ans (fun k => abacusref20_Replace.j1 k s o w most ((Q ++ plc s.data.toList o.data.toList r p).map Int.ofNat) i' false) R) →
    Ans (fun k => abacusref20_Replace.l0 k s o w most (Q.map Int.ofNat) i) R := by
  have h2 := size_l s
  have h3 := size_l o
  have hol : 0 < o.size := by rw [← h3]; exact List.length_pos_iff.2 hO
  have o0 : ¬ o.toList = ([] : List UInt8) := by rw [Go.ByteArray.toList_eq]; exact hO
  refine left_ind fun i hi ih h0 Q p r hpi hps hQp hno hr hR => Ans.succ ?_
  obtain ⟨j, rfl⟩ : ∃ j : Nat, i = j := ⟨i.toNat, by omega⟩
  rw [Int.toNat_natCast] at hno
  have hQ : (Q.map Int.ofNat).length = Q.length := by simp
  simp only [abacusref20_Replace.l0, hQ]
  by_cases hlt : (j : Int) ≤ (s.size : Int)
  · simp only [if_pos hlt]
    have go : (most < 0 ∨ (Q.length : Int) < most) → Ans (fun k => abacusref20_Replace.j1 k s o w most (Q.map Int.ofNat) j true) R := by
      intro hmo
      refine Ans.succ ?_
      simp only [abacusref20_Replace.j1, if_true, stands_eq s o j (by omega) (by omega) (by omega), Option.bind_some, hQ]
      cases hocc : Lib.occAt s.data.toList o.data.toList j
      · simp only [Bool.false_eq_true, if_false]
        rw [wrap_id (x := (j : Int) + 1) (by omega) (by omega)]
        refine ih (j + 1) (by omega) (by omega) (by omega) Q p r (by omega) hps hQp ?_ hr hR
        rw [show ((j : Int) + 1).toNat - p = j - p + 1 by omega]
        exact hno.succ (by rw [occ_drop s.data.toList o.data.toList p j (by omega)]; exact hocc)
      · have hroom := (Lib.occAt_room hocc).resolve_right hO
        have hidx : Lib.index (s.data.toList.drop p) o.data.toList = ((j - p : Nat) : Int) := Lib.index_hit hno (by rw [List.length_drop]; omega) (by rw [occ_drop s.data.toList o.data.toList p j (by omega)]; exact hocc)
        have hcnt := Lib.count_hit hO hidx
        rw [List.drop_drop, show p + (j - p + o.data.toList.length) = j + o.size by omega] at hcnt
        obtain ⟨r', rfl⟩ : ∃ r', r = r' + 1 := ⟨r - 1, by omega⟩
        simp only [if_true, if_pos (show Q.length < 17592186044416 by omega), Option.bind_some, if_neg o0]
        rw [wrap_id (x := (j : Int) + (o.size : Int)) (by omega) (by omega)]
        have hmap : Q.map Int.ofNat ++ [(j : Int)] = (Q ++ [j]).map Int.ofNat := by simp
        rw [hmap]
        have hpl : plc s.data.toList o.data.toList (r' + 1) p = j :: plc s.data.toList o.data.toList r' (j + o.size) := by
          rw [plc, hidx, Int.toNat_natCast, show p + (j - p) = j by omega, h3]
        rw [hpl] at hR
        refine ih (j + o.size) (by omega) (by omega) (by omega) (Q ++ [j]) (j + o.size) r' (by omega) (by omega) (by rw [List.length_append, List.length_singleton]; omega) ?_ ?_ ?_
        · rw [show ((j : Int) + (o.size : Int)).toNat - (j + o.size) = 0 by omega]
          exact Lib.NoOcc.zero _ _
        · rw [List.length_append, List.length_singleton]
          omega
        · intro i'
          have := hR i'
          rw [List.append_assoc]
          exact this
    by_cases hm : most < 0
    · simp only [if_pos hm]
      exact go (.inl hm)
    · simp only [if_neg hm]
      by_cases hq : (Q.length : Int) < most
      · simp only [decide_eq_true hq]
        exact go (.inr hq)
      · simp only [decide_eq_false hq]
        have hz : r = 0 := by omega
        have := hR j
        rw [hz] at this
        simpa [plc] using this
  · simp only [if_neg hlt]
    have hz : r = 0 := by
      have := count_zero (l := s.data.toList.drop p) (O := o.data.toList) (by
        rw [List.length_drop, show s.data.toList.length - p + 1 = j - p by omega]
        exact hno)
      omega
    have := hR j
    rw [hz] at this
    simpa [plc] using this
theorem scan2 (hO : o.data.toList = []) (most : Int) (R : ByteArray × Int × Int) (n : Nat) (hn : n ≤ s.size + 1) (hn' : (most < 0 ∧ n = s.size + 1) ∨ (0 ≤ most ∧ (((n : Int) = most) ∨ (n = s.size + 1 ∧ (n : Int) ≤ most))))
    (hR : ∀ i' : Int, Ans (fun k => abacusref20_Replace.j1 k s o w most ((List.range n).map Int.ofNat) i' false) R) : ∀ i : Int, i ≤ (s.size : Int) + 1 → 0 ≤ i → i ≤ n →
    Ans (fun k => abacusref20_Replace.l0 k s o w most ((List.range i.toNat).map Int.ofNat) i) R := by
  have h2 := size_l s
  have h3 := size_l o
  have o0 : o.toList = ([] : List UInt8) := by rw [Go.ByteArray.toList_eq]; exact hO
  refine left_ind fun i hi ih h0 hin => Ans.succ ?_
  obtain ⟨j, rfl⟩ : ∃ j : Nat, i = j := ⟨i.toNat, by omega⟩
  rw [Int.toNat_natCast]
  have hQ : ((List.range j).map Int.ofNat).length = j := by simp
  simp only [abacusref20_Replace.l0, hQ]
  have fin : n = j → ∀ i' : Int, Ans (fun k => abacusref20_Replace.j1 k s o w most ((List.range j).map Int.ofNat) i' false) R := by
    intro e
    subst e
    exact hR
  by_cases hlt : (j : Int) ≤ (s.size : Int)
  · simp only [if_pos hlt]
    have go : (j : Int) < n → Ans (fun k => abacusref20_Replace.j1 k s o w most ((List.range j).map Int.ofNat) j true) R := by
      intro hmo
      have hocc : Lib.occAt s.data.toList o.data.toList j = true := by rw [hO]; simp [Lib.occAt]
      refine Ans.succ ?_
      simp only [abacusref20_Replace.j1, if_true, stands_eq s o j (by omega) (by omega) (by omega), Option.bind_some, hQ, hocc, if_pos (show j < 17592186044416 by omega), if_pos o0]
      rw [wrap_id (x := (j : Int) + 1) (by omega) (by omega)]
      have hmap : (List.range j).map Int.ofNat ++ [(j : Int)] = (List.range (j + 1)).map Int.ofNat := by rw [List.range_succ, List.map_append]; rfl
      rw [hmap]
      have := ih (j + 1) (by omega) (by omega) (by omega) (by omega)
      rw [show ((j : Int) + 1).toNat = j + 1 by omega] at this
      exact this
    by_cases hm : most < 0
    · simp only [if_pos hm]
      exact go (by omega)
    · simp only [if_neg hm]
      by_cases hq : (j : Int) < most
      · simp only [decide_eq_true hq]
        exact go (by omega)
      · simp only [decide_eq_false hq]
        exact fin (by omega) j
  · simp only [if_neg hlt]
    exact fin (by omega) j

/-- Both answer the same. -/
theorem rep_both (hw : w.size ≤ 33554432) (most : Int) : ∃ R, Ans (fun k => abacusref20_Replace.f k s o w most) R ∧ Ans (fun k => chars_Replace.f k s o w most) R := by
  have h2 := size_l s
  have h3 := size_l o
  -- the number of places, and what the program makes of it
  have key : ∀ (c n : Nat) (P : List Nat), chars_count.f s o = some (c : Int) → P.length = n → n ≤ 33554433 → Chain s.data.toList o.data.toList true 0 P → ((most < 0 ∧ n = c) ∨ (0 ≤ most ∧ (n : Int) = (if most < (c : Int) then most else (c : Int)))) →
      (∀ R, (∀ i' : Int, Ans (fun k => abacusref20_Replace.j1 k s o w most (P.map Int.ofNat) i' false) R) → Ans (fun k => abacusref20_Replace.l0 k s o w most ([] : List Int) 0) R) →
      ∃ R, Ans (fun k => abacusref20_Replace.f k s o w most) R ∧ Ans (fun k => chars_Replace.f k s o w most) R := by
    intro c n P hcnt hPl hPn hc hn hscan
    refine ⟨ansR s o w P, ?_, ?_⟩
    · unfold abacusref20_Replace.f
      exact hscan _ fun i' => ref_fin s o w hs ho hw most P true hc (by omega) i'
    · have hp := prog_fin s o w hs ho hw P hc (by omega)
      unfold chars_Replace.f
      simp only [hcnt, Option.bind_some]
      rcases hn with ⟨hm, rfl⟩ | ⟨hm, hn⟩
      · simp only [if_neg (show ¬ most ≥ 0 by omega)]
        rw [hPl] at hp
        exact hp
      · simp only [if_pos (show most ≥ 0 by omega)]
        have : mn (c : Int) most = (P.length : Int) := by
          rw [hPl, hn]
          rfl
        rw [this]
        exact hp
  by_cases hO : o.data.toList = []
  · have o0 : o.toList = ([] : List UInt8) := by rw [Go.ByteArray.toList_eq]; exact hO
    have hcnt : chars_count.f s o = some ((s.size + 1 : Nat) : Int) := by
      unfold chars_count.f
      rw [if_pos o0, wrap_id (by omega) (by omega)]
      rfl
    obtain ⟨n, hn1, hn2⟩ : ∃ n : Nat, n ≤ s.size + 1 ∧ ((most < 0 ∧ n = s.size + 1) ∨ (0 ≤ most ∧ (n : Int) = (if most < ((s.size + 1 : Nat) : Int) then most else ((s.size + 1 : Nat) : Int)))) := by
      by_cases hm : most < 0
      · exact ⟨s.size + 1, by omega, .inl ⟨hm, rfl⟩⟩
      · by_cases hq : most < ((s.size + 1 : Nat) : Int)
        · exact ⟨most.toNat, by omega, .inr ⟨by omega, by rw [if_pos hq]; omega⟩⟩
        · exact ⟨s.size + 1, by omega, .inr ⟨by omega, by rw [if_neg hq]⟩⟩
    have hch := chain_range s.data.toList o.data.toList hO n 0 (by omega)
    rw [range_id, decide_eq_true rfl] at hch
    refine key (s.size + 1) n (List.range n) hcnt (by simp) (by omega) hch hn2 fun R hR => ?_
    have := scan2 s o w hs ho hO most R n hn1 (by
      rcases hn2 with h | ⟨h, h'⟩
      · exact .inl h
      · refine .inr ⟨h, ?_⟩
        split at h'
        · exact .inl h'
        · exact .inr ⟨by omega, by omega⟩) hR 0 (by omega) (by omega) (by omega)
    simpa using this
  · have o0 : ¬ o.toList = ([] : List UInt8) := by rw [Go.ByteArray.toList_eq]; exact hO
    have hol : 0 < o.size := by rw [← h3]; exact List.length_pos_iff.2 hO
    have hcnt : chars_count.f s o = some ((Lib.count s.data.toList o.data.toList : Nat) : Int) := by
      unfold chars_count.f xCount.f
      rw [if_neg o0, if_pos ⟨by omega, by omega⟩]
      rfl
    have hcl := Lib.count_le s.data.toList o.data.toList
    generalize hcc : Lib.count s.data.toList o.data.toList = c at hcnt hcl
    obtain ⟨n, hn1, hn2⟩ : ∃ n : Nat, n ≤ c ∧ ((most < 0 ∧ n = c) ∨ (0 ≤ most ∧ (n : Int) = (if most < (c : Int) then most else (c : Int)))) := by
      by_cases hm : most < 0
      · exact ⟨c, by omega, .inl ⟨hm, rfl⟩⟩
      · by_cases hq : most < (c : Int)
        · exact ⟨most.toNat, by omega, .inr ⟨by omega, by rw [if_pos hq]; omega⟩⟩
        · exact ⟨c, by omega, .inr ⟨by omega, by rw [if_neg hq]⟩⟩
    have hch := plc_chain s.data.toList o.data.toList hO n 0 (by omega) (by rw [List.drop_zero, hcc]; exact hn1) true
    refine key c n _ hcnt (plc_len _ _ _ _) (by omega) hch hn2 fun R hR => ?_
    have := scan1 s o w hs ho hO most R 0 (by omega) (by omega) [] 0 n (by omega) (by omega) (Nat.le_refl _) (Lib.NoOcc.zero _ _) (by
      rw [List.drop_zero, hcc]
      rcases hn2 with h | ⟨h, h'⟩
      · exact .inl h
      · refine .inr ⟨h, by simpa using h, ?_⟩
        split at h'
        · exact .inr ⟨hn1, by simpa using h'⟩
        · exact .inl ⟨by omega, by simp; omega⟩) hR
    simpa using this
theorem replaces_t (hw : w.size ≤ 33554432) (most : Int) : Ans (fun k => abacuslaw20_replaces.f k s o w most) true := by
  obtain ⟨R, h1, h2⟩ := rep_both s o w hs ho hw most
  unfold abacuslaw20_replaces.f
  refine Ans.bind h1 ?_
  refine Ans.bind h2 ?_
  simp only [if_true, beq_self_eq_true]
  exact Ans.ret _
end
section
variable (l : List S28) (hl : l.length ≤ 1048576) (hs : ∀ a ∈ l, a.f0.size ≤ 1048576 ∧ a.f1.size ≤ 1048576 ∧ a.f2.size ≤ 1048576)
include hl hs
theorem reps_l0 : ∀ i : Int, i ≤ (l.length : Int) → 0 ≤ i → Ans (fun k => abacuslaw20_CharsReplaces.l0 k l i) true := by
  refine left_ind fun i hi ih h0 => Ans.succ ?_
  simp only [abacuslaw20_CharsReplaces.l0]
  by_cases hlt : i < (l.length : Int)
  · simp only [if_pos hlt, if_pos h0]
    obtain ⟨a1, a2, a3⟩ := hs (rd_T28 l i) (by
      unfold rd_T28
      rw [List.getD, List.getElem?_eq_getElem (show i.toNat < l.length by omega)]
      exact List.getElem_mem _)
    have next := ih (i + 1) (by omega) (by omega) (by omega)
    generalize rd_T28 l i = a at *
    rw [wrap_id (x := i + 1) (by omega) (by omega)]
    simp only [if_neg (show ¬ (a.f0.size : Int) > 16777216 by omega)]
    refine Ans.bind (replaces_t a.f0 a.f1 a.f2 (by omega) (by omega) (by omega) a.f6) ?_
    simp only [if_true]
    refine Ans.bind (replaces_t a.f0 a.f1 a.f2 (by omega) (by omega) (by omega) (-1)) ?_
    simp only [if_true]
    refine Ans.bind (replaces_t a.f0 ⟨#[]⟩ a.f2 (by omega) (by decide) (by omega) a.f6) ?_
    simp only [if_true]
    exact next
  · simp only [if_neg hlt]
    exact Ans.ret _
theorem charsReplaces_true : Ans (fun k => abacuslaw20_CharsReplaces.f k l) true := by
  unfold abacuslaw20_CharsReplaces.f
  refine Ans.bind (replaces_t _ _ _ (by decide) (by decide) (by decide) (-1)) ?_
  simp only [if_true]
  exact reps_l0 l hl hs 0 (by omega) (by omega)
end
end Go.Proofs.Ytdeannaaafffbaa.Pl
