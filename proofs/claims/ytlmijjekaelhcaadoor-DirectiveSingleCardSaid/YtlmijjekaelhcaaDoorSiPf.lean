/-
  Plain laws of DirectiveSingle: a text as pieces, each percent by itself. Conditions: those in the statements.
-/
import Derived.Test.YtlmijjekaelhcaaDoorSiPe
import Derived.Test.YtlmijjekaelhcaaDoorSiEDmx31
set_option linter.unusedVariables false
set_option linter.unusedSimpArgs false
namespace Go.Proofs.YtlmijjekaelhcaaDoor.Pl
open Go.RowKit Go.Proofs.YtlmijjekaelhcaaDoorW.PrintWords Go.Proofs.YtlmijjekaelhcaaDoor.EDi Go.Proofs.YtlmijjekaelhcaaDoor.X
def pc : S25 := ⟨⟨#[]⟩, 37, 0, 0, 0, 0, 0⟩
def cutA (cur : List UInt8) : List UInt8 → List S25
  | [] => opt cur
  | c :: r => if c = 37 then opt cur ++ pc :: cutA [] r else cutA (cur ++ [c]) r
def esc : List UInt8 → List UInt8
  | [] => []
  | c :: r => if c = 37 then 37 :: 37 :: esc r else c :: esc r
theorem esc_append : ∀ x y : List UInt8, esc (x ++ y) = esc x ++ esc y
  | [], y => rfl
  | c :: r, y => by
    simp only [List.cons_append, esc, esc_append r y]
    split <;> rfl
theorem esc_plain : ∀ x : List UInt8, (∀ c ∈ x, c ≠ 37) → esc x = x
  | [], _ => rfl
  | c :: r, h => by
    simp only [esc, if_neg (h c (by simp)), esc_plain r (fun a ha => h a (by simp [ha]))]
theorem esc_len : ∀ x : List UInt8, (esc x).length ≤ 2 * x.length
  | [] => by simp [esc]
  | c :: r => by
    have := esc_len r
    simp only [esc]
    split <;> simp only [List.length_cons] <;> omega
theorem cat_append (l m : List S25) : cat (l ++ m) = cat l ++ cat m := by simp [cat]
theorem cat_opt (c : List UInt8) : cat (opt c) = c := by
  unfold opt
  split
  · rename_i h
    rw [h]
    rfl
  · simp [cat, pL, tp]
theorem cat_cutA : ∀ r cur, cat (cutA cur r) = cur ++ esc r
  | [], cur => by rw [cutA, cat_opt]; simp [esc]
  | c :: r, cur => by
    simp only [cutA, esc]
    split
    · rw [cat_append, cat_opt, cat_cons, cat_cutA r []]
      simp [pL, pc]
    · rw [cat_cutA r (cur ++ [c])]
      simp
theorem cat_cut (x : List UInt8) : cat (cutA [] x) = esc x := cat_cutA x []
/-- A text or a percent. -/
def TP (q : S25) : Prop := Pct q ∨ Txt q
theorem tp_txt {cur : List UInt8} (h0 : cur ≠ []) (h : ∀ c ∈ cur, c ≠ 37) : Txt (tp cur) := by
  refine ⟨?_, rfl, rfl, rfl, rfl, rfl, rfl, ?_⟩
  · rw [Go.ByteArray.toList_eq]
    exact h0
  · show Lib.indexByte cur 37 < 0
    by_cases hx : 0 ≤ Lib.indexByte cur 37
    · obtain ⟨a, r, e, _, _⟩ := ix_pos 37 cur hx
      exact absurd rfl (h 37 (by rw [e]; simp))
    · omega
theorem opt_tp {cur : List UInt8} (h : ∀ c ∈ cur, c ≠ 37) : ∀ q ∈ opt cur, TP q := by
  intro q hq
  unfold opt at hq
  split at hq
  · cases hq
  · rename_i h0
    rw [List.mem_singleton.1 hq]
    exact .inr (tp_txt h0 h)
theorem cutA_tp : ∀ r cur, (∀ c ∈ cur, c ≠ 37) → ∀ q ∈ cutA cur r, TP q
  | [], cur, h => opt_tp h
  | c :: r, cur, h => by
    intro q hq
    simp only [cutA] at hq
    split at hq
    · rcases List.mem_append.1 hq with hq | hq
      · exact opt_tp h q hq
      · rcases List.mem_cons.1 hq with rfl | hq
        · exact .inl rfl
        · exact cutA_tp r [] (by simp) q hq
    · rename_i hc
      refine cutA_tp r (cur ++ [c]) ?_ q hq
      intro d hd
      rcases List.mem_append.1 hd with hd | hd
      · exact h d hd
      · rw [List.mem_singleton.1 hd]
        exact hc
theorem cut_tp (x : List UInt8) : ∀ q ∈ cutA [] x, TP q := cutA_tp x [] (by simp)
theorem tp_ok {q : S25} (h : TP q) : OkP q := .inr h
theorem tp_rng {q : S25} (h : TP q) : Rng q := by
  rcases h with h | h
  · rw [h]
    exact ⟨⟨by decide, by decide⟩, by decide, by decide⟩
  · obtain ⟨_, h1, h2, _⟩ := h
    unfold Rng
    rw [h1, h2]
    exact ⟨⟨by decide, by decide⟩, by decide, by decide⟩
theorem adj_mid {l m : List S25} {q : S25} (hl : Adj l) (hm : Adj m) (hq : q.f1 ≠ 0) : Adj (l ++ q :: m) := by
  intro i a b ha hb
  rw [List.getElem?_append] at ha hb
  by_cases h1 : i + 1 < l.length
  · rw [if_pos (by omega)] at ha
    rw [if_pos h1] at hb
    exact hl i a b ha hb
  · rw [if_neg h1] at hb
    by_cases h2 : i + 1 = l.length
    · rw [show i + 1 - l.length = 0 by omega] at hb
      injection hb with hb
      rw [← hb]
      exact fun h => hq h.2
    · rw [if_neg (by omega)] at ha
      by_cases h3 : i = l.length
      · rw [show i - l.length = 0 by omega] at ha
        injection ha with ha
        rw [← ha]
        exact fun h => hq h.1
      · obtain ⟨j, hj⟩ : ∃ j, i = l.length + 1 + j := ⟨i - l.length - 1, by omega⟩
        rw [show i - l.length = j + 1 by omega] at ha
        rw [show i + 1 - l.length = j + 1 + 1 by omega] at hb
        exact hm j a b ha hb
theorem adj_opt (c : List UInt8) : Adj (opt c) := by
  intro i a b ha hb
  have := opt_len c
  have := (List.getElem?_eq_some_iff.1 hb).1
  omega
theorem adj_cutA : ∀ r cur, Adj (cutA cur r)
  | [], cur => adj_opt cur
  | c :: r, cur => by
    simp only [cutA]
    split
    · exact adj_mid (adj_opt cur) (adj_cutA r []) (by decide)
    · exact adj_cutA r _
theorem cutA_len : ∀ r cur, (cutA cur r).length ≤ cur.length + 2 * r.length + 1
  | [], cur => by
    have := opt_len cur
    simp only [cutA]
    omega
  | c :: r, cur => by
    simp only [cutA]
    split
    · have h1 := opt_len cur
      have h2 := cutA_len r []
      rw [List.length_nil] at h2
      rw [List.length_append, List.length_cons, List.length_cons]
      omega
    · have h2 := cutA_len r (cur ++ [c])
      rw [List.length_append, List.length_cons, List.length_nil] at h2
      rw [List.length_cons]
      omega
/-- What a piece stands for. -/
def uq (q : S25) : List UInt8 := if q.f1 = 37 then [37] else q.f0.data.toList
def uL (l : List S25) : List UInt8 := (l.map uq).flatten
theorem uL_append (l m : List S25) : uL (l ++ m) = uL l ++ uL m := by simp [uL]
theorem uL_opt (c : List UInt8) : uL (opt c) = c := by
  unfold opt
  split
  · rename_i h
    rw [h]
    rfl
  · simp [uL, uq, tp]
theorem uL_cutA : ∀ r cur, uL (cutA cur r) = cur ++ r
  | [], cur => by rw [cutA, uL_opt]; simp
  | c :: r, cur => by
    simp only [cutA]
    split
    · rename_i h
      rw [uL_append, uL_opt]
      show cur ++ (uq pc ++ uL (cutA [] r)) = _
      rw [uL_cutA r [], h]
      simp [uq, pc]
    · rw [uL_cutA r (cur ++ [c])]
      simp
theorem uL_cut (x : List UInt8) : uL (cutA [] x) = x := uL_cutA x []
/-- The pieces of a text, printed, are read back. -/
theorem parse_esc (x : List UInt8) : parse (esc x) = (cutA [] x, 0, 0) := by
  rw [← cat_cut]
  exact parse_cat (fun q hq => tp_ok (cut_tp x q hq)) (fun q hq => tp_rng (cut_tp x q hq)) (adj_cutA x [])
theorem rest_ext {T : ByteArray} {from_ i : Int} {c : UInt8} (h0 : 0 ≤ from_) (hf : from_ ≤ i) (hi : i < (T.size : Int)) (hr : rest T i = c :: rest T (i + 1)) :
    (T.data.toList.take (i + 1).toNat).drop from_.toNat = (T.data.toList.take i.toNat).drop from_.toNat ++ [c] := by
  have e : (i + 1).toNat = i.toNat + 1 := by omega
  have hlen : T.data.toList.length = T.size := tl_len T
  have hc : T.data.toList[i.toNat]? = some c := by
    unfold rest at hr
    have := congrArg (fun l => l[0]?) hr
    simpa using this
  rw [e, List.take_add_one, hc, List.drop_append_of_le_length (by rw [List.length_take]; omega)]
  rfl
theorem cut_l0 {T : ByteArray} (hT : T.size ≤ 1048576) : ∀ i, i ≤ (T.size : Int) + 1 → 0 ≤ i → ∀ (x : List S25) (from_ : Int), 0 ≤ from_ → (from_ ≤ i ∨ i = (T.size : Int) + 1) → (i ≤ (T.size : Int) → from_ ≤ i) → (x.length : Int) ≤ 2 * i →
    ∀ r, (i ≤ (T.size : Int) → r = x ++ cutA ((T.data.toList.take i.toNat).drop from_.toNat) (rest T i)) → (i = (T.size : Int) + 1 → r = x) →
    Ans (fun k => abacuslaw13_cut.l0 k T x from_ i) r := by
  refine left_ind fun i hi ih h0 x from_ hf0 hf hfi hx r h1 h2 => ?_
  refine Ans.succ ?_
  simp only [abacuslaw13_cut.l0]
  have hw : wrap64 (i + 1) = i + 1 := wrap_id (by omega) (by omega)
  by_cases hle : i ≤ (T.size : Int)
  · have hfl := hfi hle
    have hr := h1 hle
    simp only [if_pos hle]
    by_cases hlt : i < (T.size : Int)
    · obtain ⟨c, hc, hb⟩ := rest_cons h0 hlt
      simp only [if_pos hlt, if_pos h0]
      rw [hc] at hr
      by_cases h37 : c = 37
      · have hbt : bt T i = 37 := by rw [hb, h37]; decide
        subst h37
        rw [hbt]
        refine Ans.succ ?_
        simp only [abacuslaw13_cut.j1, hw, if_neg (show ¬ ((37 : Int) != 37) = true by decide)]
        have hn : ∀ x' : List S25, x ++ opt ((T.data.toList.take i.toNat).drop from_.toNat) = x' → (x'.length : Int) ≤ 2 * i + 1 → Ans (fun k => abacuslaw13_cut.l0 k T (x' ++ [pc]) (i + 1) (i + 1)) r := by
          intro x' hx' hl'
          refine ih (i + 1) (by omega) (by omega) (by omega) _ _ (by omega) (.inl (by omega)) (fun _ => by omega) (by simp only [List.length_append, List.length_cons, List.length_nil]; omega) r ?_ ?_
          · intro h3
            have e1 : (T.data.toList.take (i + 1).toNat).drop (i + 1).toNat = [] := List.drop_eq_nil_of_le (by rw [List.length_take]; omega)
            rw [hr, cutA, if_pos rfl, e1, ← hx']
            simp
          · intro h3
            omega
        by_cases hgt : i > from_
        · have hne : ((T.data.toList.take i.toNat).drop from_.toNat) ≠ [] := by
            intro e
            have := congrArg List.length e
            have hlen : T.data.toList.length = T.size := tl_len T
            simp only [List.length_drop, List.length_take, List.length_nil] at this
            omega
          have etp : (⟨T.extract from_.toNat i.toNat, 0, 0, 0, 0, 0, 0⟩ : S25) = tp ((T.data.toList.take i.toNat).drop from_.toNat) := by
            unfold tp
            congr 1
            exact mk_of (by rw [ByteArray.data_extract, Array.toList_extract, List.extract_eq_drop_take', ])
          have eo : opt ((T.data.toList.take i.toNat).drop from_.toNat) = [tp ((T.data.toList.take i.toNat).drop from_.toNat)] := by
            unfold opt
            rw [if_neg hne]
          simp only [if_pos hgt, if_pos hf0, if_pos hfl, if_pos (show i ≤ (T.size : Int) by omega), if_pos (show x.length < 2199023255552 by omega)]
          refine Ans.bind (Ans.ret _) ?_
          simp only [if_pos (show (x ++ [(⟨T.extract from_.toNat i.toNat, 0, 0, 0, 0, 0, 0⟩ : S25)]).length < 2199023255552 by simp only [List.length_append, List.length_cons, List.length_nil]; omega)]
          simp only [if_pos hlt]
          rw [etp]
          exact hn _ (by rw [eo]) (by simp only [List.length_append, List.length_cons, List.length_nil]; omega)
        · have he : from_ = i := by omega
          simp only [if_neg hgt, if_pos hlt, if_pos (show x.length < 2199023255552 by omega)]
          refine hn x ?_ (by omega)
          rw [he, List.drop_eq_nil_of_le (by rw [List.length_take]; omega)]
          simp [opt]
      · have hbt : (bt T i != 37) = true := by
          rw [hb]
          exact bne_iff_ne.2 (fun e => h37 (cI_inj (b := 37) (e.trans (by decide))))
        rw [hbt]
        refine Ans.succ ?_
        simp only [abacuslaw13_cut.j1, hw, if_true]
        refine ih (i + 1) (by omega) (by omega) (by omega) _ _ hf0 (.inl (by omega)) (fun _ => by omega) (by omega) r ?_ ?_
        · intro h3
          rw [hr, cutA, if_neg h37, rest_ext hf0 hfl hlt hc]
        · intro h3
          omega
    · have he : i = (T.size : Int) := by omega
      simp only [if_neg hlt]
      refine Ans.succ ?_
      simp only [abacuslaw13_cut.j1, hw, Bool.false_eq_true, if_false]
      have hn : ∀ x' : List S25, x ++ opt ((T.data.toList.take i.toNat).drop from_.toNat) = x' → (x'.length : Int) ≤ 2 * i + 1 → Ans (fun k => abacuslaw13_cut.l0 k T x' (i + 1) (i + 1)) r := by
        intro x' hx' hl'
        refine ih (i + 1) (by omega) (by omega) (by omega) _ _ (by omega) (.inl (by omega)) (fun _ => by omega) (by omega) r (fun h3 => by omega) ?_
        intro h3
        rw [hr, rest_nil (by omega), cutA, hx']
      by_cases hgt : i > from_
      · have hne : ((T.data.toList.take i.toNat).drop from_.toNat) ≠ [] := by
          intro e
          have := congrArg List.length e
          have hlen : T.data.toList.length = T.size := tl_len T
          simp only [List.length_drop, List.length_take, List.length_nil] at this
          omega
        have etp : (⟨T.extract from_.toNat i.toNat, 0, 0, 0, 0, 0, 0⟩ : S25) = tp ((T.data.toList.take i.toNat).drop from_.toNat) := by
          unfold tp
          congr 1
          exact mk_of (by rw [ByteArray.data_extract, Array.toList_extract, List.extract_eq_drop_take'])
        have eo : opt ((T.data.toList.take i.toNat).drop from_.toNat) = [tp ((T.data.toList.take i.toNat).drop from_.toNat)] := by
          unfold opt
          rw [if_neg hne]
        simp only [if_pos hgt, if_pos hf0, if_pos hfl, if_pos hle, if_pos (show x.length < 2199023255552 by omega)]
        refine Ans.bind (Ans.ret _) ?_
        simp only [if_neg hlt]
        rw [etp]
        exact hn _ (by rw [eo]) (by simp only [List.length_append, List.length_cons, List.length_nil]; omega)
      · have hef : from_ = i := by omega
        simp only [if_neg hgt, if_neg hlt]
        refine hn x ?_ (by omega)
        rw [hef, List.drop_eq_nil_of_le (by rw [List.length_take]; omega)]
        simp [opt]
  · simp only [if_neg hle]
    rw [h2 (by omega)]
    exact Ans.ret _
theorem cut_ans {T : ByteArray} (hT : T.size ≤ 1048576) : Ans (fun k => abacuslaw13_cut.f k T) (cutA [] T.data.toList) := by
  unfold abacuslaw13_cut.f
  refine cut_l0 hT 0 (by omega) (by omega) [] 0 (by omega) (.inl (by omega)) (fun _ => by omega) (by simp) _ (fun _ => ?_) (fun h => by omega)
  simp [rest]
end Go.Proofs.YtlmijjekaelhcaaDoor.Pl
