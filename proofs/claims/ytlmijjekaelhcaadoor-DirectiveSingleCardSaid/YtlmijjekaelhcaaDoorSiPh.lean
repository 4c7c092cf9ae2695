/-
  Plain law of DirectiveSingle: it answers true. Conditions: those in the statements.
-/
import Derived.Test.YtlmijjekaelhcaaDoorSiPg
import Derived.Test.YtlmijjekaelhcaaDoorSiEDmx33
set_option linter.unusedVariables false
set_option linter.unusedSimpArgs false
namespace Go.Proofs.YtlmijjekaelhcaaDoor.Pl
open Go.RowKit Go.Proofs.YtlmijjekaelhcaaDoorW.PrintWords Go.Proofs.YtlmijjekaelhcaaDoor.EDi Go.Proofs.YtlmijjekaelhcaaDoor.X
theorem tl_nil : (⟨#[]⟩ : ByteArray).toList = ([] : List UInt8) := by rw [Go.ByteArray.toList_eq]
/-- The answer: nothing. -/
theorem fin_na (A B S : ByteArray) (p0 : ByteArray) (p1 p2 p3 p4 p5 p6 : Int) (pt : Bool) (h : pt = true → p3 = 2 ∨ p5 = 2) :
    Ans (fun k => abacuslaw13_DirectiveSingle.j1 k A B S ⟨#[]⟩ ⟨#[]⟩ false pt p0 p1 p2 p3 p4 p5 p6 0 0 0 0) true := by
  have j2 : Ans (fun k => abacuslaw13_DirectiveSingle.j2 k A B S ⟨#[]⟩ ⟨#[]⟩ false true p0 p1 p2 p3 p4 p5 p6 0 0 0 0) true := by
    refine Ans.succ (Ans.of fun k => ?_)
    simp only [abacuslaw13_DirectiveSingle.j2, if_true, Bool.false_eq_true, if_false, tl_nil]
    rfl
  refine Ans.succ ?_
  simp only [abacuslaw13_DirectiveSingle.j1]
  cases pt with
  | false =>
    simp only [Bool.false_eq_true, if_false]
    exact j2
  | true =>
    simp only [if_true]
    by_cases h3 : p3 = 2
    · simp only [if_pos h3]
      exact j2
    · have h5 : p5 = 2 := (h rfl).resolve_left h3
      have e : (p5 == 2) = true := beq_iff_eq.2 h5
      simp only [if_neg h3, e]
      exact j2
/-- The answer: the two texts and the directive. -/
theorem fin_ok (A B S : ByteArray) (hS : S.size ≤ 1099511627776) (p : S25) (hg : Good p) (W P : Int) (hs : Ans (fun k => directive_Settle.f k p.f0 p.f1 p.f2 p.f3 p.f4 p.f5 p.f6 0 0) (p.f1, p.f2, W, P, 0))
    (h2 : Ans (fun k => directive_Single.f k (S ++ S)) NA) : Ans (fun k => abacuslaw13_DirectiveSingle.j1 k A B S A B true true p.f0 p.f1 p.f2 p.f3 p.f4 p.f5 p.f6 p.f1 p.f2 W P) true := by
  have h3 := hg.2.2.1
  have h5 : (p.f5 == 2) = false := beq_eq_false_iff_ne.2 hg.2.2.2
  refine Ans.succ ?_
  simp only [abacuslaw13_DirectiveSingle.j1, if_true, if_neg h3, h5]
  refine Ans.succ ?_
  simp only [abacuslaw13_DirectiveSingle.j2, Bool.false_eq_true, if_false]
  refine Ans.bind hs ?_
  have hne : (!(p.f1 == p.f1) || (!(p.f2 == p.f2) || (!(W == W) || (!(P == P))))) = false := by simp
  simp only [if_true, hne, Bool.false_eq_true, if_false, if_pos (show S.size + S.size ≤ 9223372036854775807 by omega)]
  refine Ans.bind h2 ?_
  exact Ans.ret _
theorem pL_tp {q : S25} (h : TP q) : pL q = esc (uq q) := by
  rcases h with h | h
  · rw [h]
    rfl
  · have e0 := h.2.1
    have e : pL q = q.f0.data.toList := by
      unfold pL
      rw [if_pos e0]
    have eu : uq q = q.f0.data.toList := by
      unfold uq
      rw [if_neg (by rw [e0]; decide)]
    rw [e, eu, esc_plain _ (ix_neg 37 _ h.2.2.2.2.2.2.2)]
theorem uq_len {q : S25} (h : TP q) : (uq q).length ≤ q.f0.size + 1 := by
  unfold uq
  split
  · simp
  · rw [tl_len]
    omega
theorem cat_l (x y : List UInt8) (p : S25) : cat (cutA [] x ++ p :: cutA [] y) = esc x ++ (pL p ++ esc y) := by
  rw [cat_append, cat_cons, cat_cut, cat_cut]
theorem directiveSingle_true (A B p0 : ByteArray) (p1 p2 p3 p4 p5 p6 : Int) (h1 : 0 ≤ p1 ∧ p1 ≤ 255) (h2 : I64 p2) : Ans (fun k => abacuslaw13_DirectiveSingle.f k A p0 p1 p2 p3 p4 p5 p6 B) true := by
  have big : Ans (fun k => abacuslaw13_DirectiveSingle.j0 k A B true p0 p1 p2 p3 p4 p5 p6) true := by
    refine Ans.succ ?_
    simp only [abacuslaw13_DirectiveSingle.j0, if_true]
    exact Ans.ret _
  unfold abacuslaw13_DirectiveSingle.f
  refine Ans.bind awake_ans' ?_
  simp only [if_true]
  by_cases hA : (A.size : Int) > 1048576
  · simp only [if_pos hA]
    exact big
  simp only [if_neg hA]
  by_cases hp0 : (p0.size : Int) > 1048576
  · simp only [if_pos hp0]
    exact big
  simp only [if_neg hp0]
  by_cases hB : (B.size : Int) > 1048576
  · simp only [decide_eq_true hB]
    exact big
  simp only [decide_eq_false hB]
  refine Ans.succ ?_
  simp only [abacuslaw13_DirectiveSingle.j0, Bool.false_eq_true, if_false]
  have lA := cutA_len A.data.toList []
  have lB := cutA_len B.data.toList []
  rw [List.length_nil, tl_len] at lA lB
  refine Ans.bind (cut_ans (by omega)) ?_
  simp only [List.nil_append, if_pos (show ([] : List S25).length + (cutA [] A.data.toList).length < 2199023255552 by rw [List.length_nil]; omega)]
  refine Ans.bind (Ans.ret _) ?_
  simp only [if_pos (show (cutA [] A.data.toList).length < 2199023255552 by omega)]
  refine Ans.bind (Ans.ret _) ?_
  refine Ans.bind (cut_ans (by omega)) ?_
  obtain ⟨p, hp⟩ : ∃ p : S25, p = ⟨p0, p1, p2, p3, p4, p5, p6⟩ := ⟨_, rfl⟩
  rw [← hp]
  have e0 : p0 = p.f0 := by rw [hp]
  have e1 : p1 = p.f1 := by rw [hp]
  have e2 : p2 = p.f2 := by rw [hp]
  have e3 : p3 = p.f3 := by rw [hp]
  have e4 : p4 = p.f4 := by rw [hp]
  have e5 : p5 = p.f5 := by rw [hp]
  have e6 : p6 = p.f6 := by rw [hp]
  rw [e0] at hp0
  rw [e1] at h1
  rw [e2] at h2
  clear hp
  subst e0 e1 e2 e3 e4 e5 e6
  have hr : Rng p := ⟨h1, h2⟩
  have hx : (A.data.toList).length = A.size := tl_len A
  have hy : (B.data.toList).length = B.size := tl_len B
  have bx := esc_len A.data.toList
  have by_ := esc_len B.data.toList
  have hlen : (cutA [] A.data.toList ++ [p]).length + (cutA [] B.data.toList).length < 2199023255552 := by
    rw [List.length_append, List.length_cons, List.length_nil]
    omega
  simp only [if_pos hlen]
  have el : cutA [] A.data.toList ++ [p] ++ cutA [] B.data.toList = cutA [] A.data.toList ++ p :: cutA [] B.data.toList := by simp
  rw [el]
  have hll : (cutA [] A.data.toList ++ p :: cutA [] B.data.toList).length ≤ 9223372036854775806 := by
    rw [List.length_append, List.length_cons]
    omega
  by_cases hok : OkP p
  · have hall : ∀ q ∈ cutA [] A.data.toList ++ p :: cutA [] B.data.toList, OkP q := by
      intro q hq
      rcases List.mem_append.1 hq with hq | hq
      · exact tp_ok (cut_tp _ q hq)
      · rcases List.mem_cons.1 hq with rfl | hq
        · exact hok
        · exact tp_ok (cut_tp _ q hq)
    have hpl := pL_len hok
    have hcat : (cat (cutA [] A.data.toList ++ p :: cutA [] B.data.toList)).length ≤ 16777216 := by
      rw [cat_l, List.length_append, List.length_append]
      omega
    have hpr : Ans (fun k => directive_Print.f k (cutA [] A.data.toList ++ p :: cutA [] B.data.toList)) (⟨(cat (cutA [] A.data.toList ++ p :: cutA [] B.data.toList)).toArray⟩, 0) := print_l0 _ hall hll hcat 0 (by omega) (by omega) 0 (by simp) (by omega)
    refine Ans.bind hpr ?_
    refine Ans.bind (check_ok hok) ?_
    simp only [if_true]
    have key : ∀ (R : ByteArray × Int × Int × Int × Int × ByteArray × Bool), Ans (fun k => directive_Single.f k ⟨(cat (cutA [] A.data.toList ++ p :: cutA [] B.data.toList)).toArray⟩) R →
        (∀ bb : Bool, (bb = true ↔ Point p.f1) → Ans (fun k => abacuslaw13_DirectiveSingle.j1 k A B ⟨(cat (cutA [] A.data.toList ++ p :: cutA [] B.data.toList)).toArray⟩ R.1 R.2.2.2.2.2.1 R.2.2.2.2.2.2 bb p.f0 p.f1 p.f2 p.f3 p.f4 p.f5 p.f6 R.2.1 R.2.2.1 R.2.2.2.1 R.2.2.2.2.1) true) →
        Ans (fun k => (directive_Single.f k ⟨(cat (cutA [] A.data.toList ++ p :: cutA [] B.data.toList)).toArray⟩).bind fun bt553 => (if p.f1 = 101 then (abacuslaw13_DirectiveSingle.j1 k A B ⟨(cat (cutA [] A.data.toList ++ p :: cutA [] B.data.toList)).toArray⟩ bt553.1 bt553.2.2.2.2.2.1 bt553.2.2.2.2.2.2 true p.f0 p.f1 p.f2 p.f3 p.f4 p.f5 p.f6 bt553.2.1 bt553.2.2.1 bt553.2.2.2.1 bt553.2.2.2.2.1) else (if p.f1 = 69 then (abacuslaw13_DirectiveSingle.j1 k A B ⟨(cat (cutA [] A.data.toList ++ p :: cutA [] B.data.toList)).toArray⟩ bt553.1 bt553.2.2.2.2.2.1 bt553.2.2.2.2.2.2 true p.f0 p.f1 p.f2 p.f3 p.f4 p.f5 p.f6 bt553.2.1 bt553.2.2.1 bt553.2.2.2.1 bt553.2.2.2.2.1) else (if p.f1 = 102 then (abacuslaw13_DirectiveSingle.j1 k A B ⟨(cat (cutA [] A.data.toList ++ p :: cutA [] B.data.toList)).toArray⟩ bt553.1 bt553.2.2.2.2.2.1 bt553.2.2.2.2.2.2 true p.f0 p.f1 p.f2 p.f3 p.f4 p.f5 p.f6 bt553.2.1 bt553.2.2.1 bt553.2.2.2.1 bt553.2.2.2.2.1) else (if p.f1 = 70 then (abacuslaw13_DirectiveSingle.j1 k A B ⟨(cat (cutA [] A.data.toList ++ p :: cutA [] B.data.toList)).toArray⟩ bt553.1 bt553.2.2.2.2.2.1 bt553.2.2.2.2.2.2 true p.f0 p.f1 p.f2 p.f3 p.f4 p.f5 p.f6 bt553.2.1 bt553.2.2.1 bt553.2.2.2.1 bt553.2.2.2.2.1) else (if p.f1 = 103 then (abacuslaw13_DirectiveSingle.j1 k A B ⟨(cat (cutA [] A.data.toList ++ p :: cutA [] B.data.toList)).toArray⟩ bt553.1 bt553.2.2.2.2.2.1 bt553.2.2.2.2.2.2 true p.f0 p.f1 p.f2 p.f3 p.f4 p.f5 p.f6 bt553.2.1 bt553.2.2.1 bt553.2.2.2.1 bt553.2.2.2.2.1) else (abacuslaw13_DirectiveSingle.j1 k A B ⟨(cat (cutA [] A.data.toList ++ p :: cutA [] B.data.toList)).toArray⟩ bt553.1 bt553.2.2.2.2.2.1 bt553.2.2.2.2.2.2 (p.f1 == 71) p.f0 p.f1 p.f2 p.f3 p.f4 p.f5 p.f6 bt553.2.1 bt553.2.2.1 bt553.2.2.2.1 bt553.2.2.2.2.1))))))) true := by
      intro R hR hj
      refine Ans.bind hR ?_
      by_cases c1 : p.f1 = 101
      · simp only [if_pos c1]
        exact hj true (by simp [Point, c1])
      by_cases c2 : p.f1 = 69
      · simp only [if_neg c1, if_pos c2]
        exact hj true (by simp [Point, c2])
      by_cases c3 : p.f1 = 102
      · simp only [if_neg c1, if_neg c2, if_pos c3]
        exact hj true (by simp [Point, c3])
      by_cases c4 : p.f1 = 70
      · simp only [if_neg c1, if_neg c2, if_neg c3, if_pos c4]
        exact hj true (by simp [Point, c4])
      by_cases c5 : p.f1 = 103
      · simp only [if_neg c1, if_neg c2, if_neg c3, if_neg c4, if_pos c5]
        exact hj true (by simp [Point, c5])
      simp only [if_neg c1, if_neg c2, if_neg c3, if_neg c4, if_neg c5]
      exact hj (p.f1 == 71) (by simp [Point, c1, c2, c3, c4, c5])
    by_cases hg : Good p
    · obtain ⟨W, P, hs⟩ := settle_good hg.1 hg.2.2.1 hg.2.2.2
      have hsi := single_good A.data.toList B.data.toList (by omega) (by omega) p hg hr (by omega) W P hs
      have eA : (⟨A.data.toList.toArray⟩ : ByteArray) = A := (mk_of rfl).symm
      have eB : (⟨B.data.toList.toArray⟩ : ByteArray) = B := (mk_of rfl).symm
      rw [eA, eB] at hsi
      refine key _ hsi fun bb hbb => ?_
      obtain rfl : bb = true := hbb.2 hg.2.1
      refine fin_ok A B _ (by rw [ba_size]; omega) p hg W P hs ?_
      have e := single_two A.data.toList (B.data.toList ++ A.data.toList) B.data.toList (by omega) (by rw [List.length_append]; omega) (by omega) p hg hr
      have ec : cat (cutA [] A.data.toList ++ p :: (cutA [] (B.data.toList ++ A.data.toList) ++ p :: cutA [] B.data.toList)) = cat (cutA [] A.data.toList ++ p :: cutA [] B.data.toList) ++ cat (cutA [] A.data.toList ++ p :: cutA [] B.data.toList) := by
        rw [cat_append, cat_cons, cat_append, cat_cons, cat_cut, cat_cut, cat_cut, cat_l, esc_append]
        simp
      rw [ec] at e
      rw [ba_app]
      exact e (by rw [List.length_append]; omega)
    · have hna : Ans (fun k => directive_Single.f k ⟨(cat (cutA [] A.data.toList ++ p :: cutA [] B.data.toList)).toArray⟩) NA := by
        by_cases hd : Dir p
        · exact single_bad A.data.toList (by omega) p hd hr _ (cut_tp _) (adj_cutA _ _) (by omega) (by rw [List.length_append, List.length_cons]; omega) hg
        · have ht : TP p := hok.resolve_left hd
          have ec : cat (cutA [] A.data.toList ++ p :: cutA [] B.data.toList) = esc (A.data.toList ++ (uq p ++ B.data.toList)) := by
            rw [cat_l, pL_tp ht, esc_append, esc_append]
          rw [ec]
          have := uq_len ht
          exact single_none _ (by rw [List.length_append, List.length_append]; omega)
      refine key NA hna fun bb hbb => ?_
      refine fin_na A B _ p.f0 p.f1 p.f2 p.f3 p.f4 p.f5 p.f6 bb fun hb => ?_
      have hpt := hbb.1 hb
      by_cases h3 : p.f3 = 2
      · exact .inl h3
      · by_cases h5 : p.f5 = 2
        · exact .inr h5
        · refine absurd ⟨?_, hpt, h3, h5⟩ hg
          rcases hok with hd | hd | hd
          · exact hd
          · exfalso
            rw [hd] at hpt
            revert hpt
            unfold Point
            decide
          · exfalso
            rw [hd.2.1] at hpt
            revert hpt
            unfold Point
            decide
  · obtain ⟨t, hb⟩ := print_bad (cutA [] A.data.toList ++ p :: cutA [] B.data.toList) hll ((cutA [] A.data.toList).length : Int) (by omega) (by rw [List.length_append, List.length_cons]; omega) (by rw [rd_get (a := p) (by simp)]; exact hok)
      (fun j hj0 hj => by
        have hg : (cutA [] A.data.toList)[j.toNat]? = some ((cutA [] A.data.toList)[j.toNat]'(by omega)) := List.getElem?_eq_getElem _
        have hrd := rd_get (l := cutA [] A.data.toList ++ p :: cutA [] B.data.toList) (i := j.toNat) (by rw [List.getElem?_append_left (by omega)]; exact hg)
        rw [show ((j.toNat : Nat) : Int) = j by omega] at hrd
        rw [hrd]
        exact tp_ok (cut_tp _ _ (List.getElem_mem _))) 0 (by omega) (by omega) 0
    have hb' : Ans (fun k => directive_Print.f k (cutA [] A.data.toList ++ p :: cutA [] B.data.toList)) (t, 132) := hb
    refine Ans.bind hb' ?_
    refine Ans.bind (check_bad hok) ?_
    simp only [if_neg (show ¬ (132 : Int) = 0 by decide)]
    exact Ans.ret _
end Go.Proofs.YtlmijjekaelhcaaDoor.Pl
