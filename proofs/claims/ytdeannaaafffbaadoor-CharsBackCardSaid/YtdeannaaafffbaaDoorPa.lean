/-
  Plain laws of the chars statements, second seat: Join, Cat and Split of the program and of the document agree; CharsSplits answers true.
-/
import Derived.Test.YtdeannaaafffbaaDoorPBase
import Derived.Test.YtdeannaaafffbaaDoorECdx14
import Derived.Lib.CountLaws
import Derived.Lib.SplitLaws
import Derived.Lib.Join
set_option linter.unusedVariables false
set_option linter.unusedSimpArgs false
set_option linter.unusedSectionVars false
namespace Go.Proofs.YtdeannaaafffbaaDoor.Pl
open Go.RowKit Go.Proofs.YtdeannaaafffbaaDoorW.PrintWords Go.Proofs.YtdeannaaafffbaaDoor.X Go.Proofs.YtdeannaaafffbaaDoor.ECd

theorem ext_l (x : ByteArray) (a b : Nat) : (x.extract a b).data.toList = (x.data.toList.drop a).take (b - a) := Lib.extract_data x a b
theorem size_l (x : ByteArray) : x.data.toList.length = x.size := (Lib.size_eq x).symm
theorem app_l (x y : ByteArray) : (x ++ y).data.toList = x.data.toList ++ y.data.toList := by simp [ByteArray.data_append]
theorem ba_ext {x y : ByteArray} (h : x.data.toList = y.data.toList) : x = y := ByteArray.ext (Array.ext' h)
def bl (l : List UInt8) : List Int := l.map fun b => (b.toNat : Int)
theorem bl_app (a b : List UInt8) : bl (a ++ b) = bl a ++ bl b := by simp [bl]
theorem bytes_bl (x : ByteArray) : bytesOf x = bl x.data.toList := rfl
theorem num_bl (l : List UInt8) : strOfNums (bl l) = ⟨l.toArray⟩ := by
  apply ba_ext
  rw [strOfNums_data]
  simp [bl]
  induction l with
  | nil => rfl
  | cons b l ih =>
    rw [List.map_cons, ih]
    simp
theorem stands_eq (s t : ByteArray) (i : Nat) (hi : i ≤ s.size) (hs : s.size < 4294967281) (ht : t.size < 4294967281) : abacusref20_Stands.f s i t = some (Lib.occAt s.data.toList t.data.toList i) := by
  have hl : s.data.toList.length = s.size := by simp
  have hl' : t.data.toList.length = t.size := by simp
  unfold abacusref20_Stands.f Lib.occAt
  rw [wrap_id (by omega) (by omega)]
  by_cases h : (s.size : Int) - i ≥ (t.size : Int)
  · rw [if_pos h, wrap_id (by omega) (by omega), if_pos (by omega), if_pos (by omega), if_pos (by omega)]
    congr 1
    rw [Go.ByteArray.toList_eq, Go.ByteArray.toList_eq, ByteArray.data_extract, Array.toList_extract, Int.toNat_natCast, show ((i : Int) + (t.size : Int)).toNat = i + t.size by omega, List.extract_eq_take_drop,
      show i + t.size - i = t.size by omega]
    rw [Bool.eq_iff_iff, beq_iff_eq, List.isPrefixOf_iff_prefix, List.prefix_iff_eq_take, hl']
    exact ⟨fun h => h.symm, fun h => h.symm⟩
  · rw [if_neg h]
    congr 1
    symm
    rw [Bool.eq_false_iff, ne_eq, List.isPrefixOf_iff_prefix]
    intro hp
    have := hp.length_le
    rw [List.length_drop] at this
    omega
section
variable (O : List UInt8)
theorem hit_of_count {l : List UInt8} (h : 0 < Lib.count l O) : ∃ i : Nat, Lib.index l O = i ∧ i ≤ l.length ∧ Lib.occAt l O i = true ∧ Lib.NoOcc l O i := by
  rcases Lib.index_spec l O with ⟨h1, _⟩ | h1
  · rw [Lib.count_miss h1] at h
    omega
  · exact h1
end
theorem occ_drop (S O : List UInt8) (p i : Nat) (h : p ≤ i) : Lib.occAt (S.drop p) O (i - p) = Lib.occAt S O i := by
  unfold Lib.occAt
  rw [List.drop_drop, show p + (i - p) = i by omega]
theorem count_zero {l O : List UInt8} (h : Lib.NoOcc l O (l.length + 1)) : Lib.count l O = 0 := by
  rcases Lib.index_spec l O with ⟨h1, _⟩ | ⟨i, h1, h2, h3, h4⟩
  · exact Lib.count_miss h1
  · rw [h i (by omega)] at h3
    cases h3
def jlen (sep : ByteArray) : Bool → List ByteArray → Nat
  | _, [] => 0
  | f, x :: r => (if f = true then 0 else sep.size) + x.size + jlen sep false r
theorem jtail_len (sep : ByteArray) : ∀ r : List ByteArray, (Lib.joinTail sep.data.toList (r.map (·.data.toList))).length = jlen sep false r
  | [] => rfl
  | x :: r => by
    have ih := jtail_len sep r
    unfold Lib.joinTail at ih ⊢
    rw [List.map_cons, List.map_cons, List.flatten_cons, List.length_append, ih, List.length_append, size_l, size_l, jlen]
    simp
theorem join_len (sep : ByteArray) : ∀ r : List ByteArray, (Lib.join (r.map (·.data.toList)) sep.data.toList).length = jlen sep true r
  | [] => rfl
  | x :: r => by
    rw [List.map_cons, Lib.join_cons, List.length_append, jtail_len, size_l, jlen]
    simp
def joinV (l : List ByteArray) (sep : ByteArray) : ByteArray × Int :=
  if jlen sep true l > 16777216 then ((⟨#[]⟩ : ByteArray), 3) else (⟨(Lib.join (l.map (·.data.toList)) sep.data.toList).toArray⟩, 0)
theorem join_l0 (l : List ByteArray) (sep : ByteArray) (hl : l.length ≤ 140737488355328) (hs : ∀ x ∈ l, x.size ≤ 1152921504606846976) (hp : sep.size ≤ 1152921504606846976) :
    ∀ (R : List ByteArray) (i acc : Nat), l.drop i = R → i + R.length = l.length → acc ≤ 16777216 → acc + jlen sep (decide (i = 0)) R = jlen sep true l → Ans (fun k => chars_Join.l0 k l sep (acc : Int) l (l.length : Int) (i : Int)) (joinV l sep) := by
  intro R
  induction R with
  | nil =>
    intro i acc hd hi ha hj
    rw [List.length_nil] at hi
    rw [jlen] at hj
    refine Ans.succ ?_
    have hx : xJoin.f l sep = some ⟨(Lib.join (l.map (·.data.toList)) sep.data.toList).toArray⟩ := by
      unfold xJoin.f
      rw [if_pos ⟨hl, by rw [join_len]; omega⟩]
    simp only [chars_Join.l0, if_neg (show ¬ (i : Int) < (l.length : Int) by omega), hx, Option.bind_some]
    unfold joinV
    rw [if_neg (by omega)]
    exact Ans.ret _
  | cons x R ih =>
    intro i acc hd hi ha hj
    rw [List.length_cons] at hi
    have hil : i < l.length := by omega
    have hx : l[i] = x := by
      have := congrArg List.head? hd
      rw [List.head?_drop, List.getElem?_eq_getElem hil] at this
      simpa using this
    have hd' : l.drop (i + 1) = R := by
      have := congrArg List.tail hd
      rw [List.tail_drop] at this
      simpa using this
    have hrd : rdOf ByteArray.empty l (i : Int) = x := by
      unfold rdOf
      rw [Int.toNat_natCast, List.getD, List.getElem?_eq_getElem hil, hx]
      rfl
    have hxs := hs x (by rw [← hx]; exact List.getElem_mem hil)
    rw [jlen] at hj
    have bad : acc + (if decide (i = 0) = true then 0 else sep.size) + x.size > 16777216 → joinV l sep = ((⟨#[]⟩ : ByteArray), 3) := by
      intro h
      unfold joinV
      rw [if_pos (by omega)]
    have next := ih (i + 1) (acc + (if decide (i = 0) = true then 0 else sep.size) + x.size) hd' (by omega)
    rw [decide_eq_false (show ¬ i + 1 = 0 by omega)] at next
    refine Ans.succ ?_
    simp only [chars_Join.l0, hrd, if_pos (show (i : Int) < (l.length : Int) by omega), if_pos (show (0 : Int) ≤ (i : Int) by omega)]
    rw [wrap_id (x := (i : Int) + 1) (by omega) (by omega)]
    by_cases h0 : i = 0
    · rw [decide_eq_true h0, if_pos rfl] at bad next hj
      simp only [if_neg (show ¬ (i : Int) > 0 by omega)]
      rw [wrap_id (x := (acc : Int) + (x.size : Int)) (by omega) (by omega)]
      by_cases h1 : (acc : Int) + (x.size : Int) > 16777216
      · simp only [if_pos h1]
        rw [bad (by omega)]
        exact Ans.ret _
      · simp only [if_neg h1]
        have := next (by omega) (by omega)
        rw [show ((acc + 0 + x.size : Nat) : Int) = (acc : Int) + (x.size : Int) by omega] at this
        exact this
    · rw [decide_eq_false h0, if_neg (by decide)] at bad next hj
      simp only [if_pos (show (i : Int) > 0 by omega)]
      rw [wrap_id (x := (acc : Int) + (sep.size : Int)) (by omega) (by omega), wrap_id (x := (acc : Int) + (sep.size : Int) + (x.size : Int)) (by omega) (by omega)]
      by_cases h1 : (acc : Int) + (sep.size : Int) + (x.size : Int) > 16777216
      · simp only [if_pos h1]
        rw [bad (by omega)]
        exact Ans.ret _
      · simp only [if_neg h1]
        have := next (by omega) (by omega)
        rw [show ((acc + sep.size + x.size : Nat) : Int) = (acc : Int) + (sep.size : Int) + (x.size : Int) by omega] at this
        exact this
theorem join_t (l : List ByteArray) (sep : ByteArray) (hl : l.length ≤ 140737488355328) (hs : ∀ x ∈ l, x.size ≤ 1152921504606846976) (hp : sep.size ≤ 1152921504606846976) : Ans (fun k => chars_Join.f k l sep) (joinV l sep) := by
  unfold chars_Join.f
  exact join_l0 l sep hl hs hp l 0 0 rfl (by omega) (by omega) (by simp)
theorem cat_t (l : List ByteArray) (hl : l.length ≤ 140737488355328) (hs : ∀ x ∈ l, x.size ≤ 1152921504606846976) : Ans (fun k => chars_Cat.f k l) (joinV l ⟨#[]⟩) := by
  unfold chars_Cat.f
  refine Ans.bind (join_t l ⟨#[]⟩ hl hs (by decide)) ?_
  exact Ans.ret _


/-! ### The document's Join -/
def jb (sep : ByteArray) : Bool → List ByteArray → List UInt8
  | _, [] => []
  | f, x :: r => (if f = true then [] else sep.data.toList) ++ (x.data.toList ++ jb sep false r)
theorem jtail_jb (sep : ByteArray) : ∀ r : List ByteArray, Lib.joinTail sep.data.toList (r.map (·.data.toList)) = jb sep false r
  | [] => rfl
  | x :: r => by
    have ih := jtail_jb sep r
    unfold Lib.joinTail at ih ⊢
    rw [List.map_cons, List.map_cons, List.flatten_cons, ih, jb]
    simp
theorem join_jb (sep : ByteArray) : ∀ r : List ByteArray, Lib.join (r.map (·.data.toList)) sep.data.toList = jb sep true r
  | [] => rfl
  | x :: r => by
    rw [List.map_cons, Lib.join_cons, jtail_jb, jb]
    simp
theorem jb_len (sep : ByteArray) : ∀ (r : List ByteArray) (f : Bool), (jb sep f r).length = jlen sep f r
  | [], _ => rfl
  | x :: r, f => by
    rw [jb, jlen, List.length_append, List.length_append, jb_len sep r, size_l]
    cases f
    · rw [if_neg (by decide), if_neg (by decide), size_l]
      omega
    · rw [if_pos rfl, if_pos rfl, List.length_nil]
      omega
theorem rj_l1 (l : List ByteArray) (sep : ByteArray) (hl : l.length ≤ 140737488355328) : ∀ (R : List ByteArray) (i : Nat) (A : List UInt8), l.drop i = R → i + R.length = l.length → A.length + (jb sep (decide (i = 0)) R).length ≤ 16777216 →
    Ans (fun k => abacusref20_Join.l1 k l sep (bl A) (i : Int)) ((⟨(A ++ jb sep (decide (i = 0)) R).toArray⟩ : ByteArray), 0) := by
  intro R
  induction R with
  | nil =>
    intro i A hd hi hj
    rw [List.length_nil] at hi
    refine Ans.succ ?_
    simp only [abacusref20_Join.l1, if_neg (show ¬ (i : Int) < (l.length : Int) by omega)]
    rw [num_bl, jb, List.append_nil]
    exact Ans.ret _
  | cons x R ih =>
    intro i A hd hi hj
    rw [List.length_cons] at hi
    have hil : i < l.length := by omega
    have hx : l[i] = x := by
      have := congrArg List.head? hd
      rw [List.head?_drop, List.getElem?_eq_getElem hil] at this
      simpa using this
    have hd' : l.drop (i + 1) = R := by
      have := congrArg List.tail hd
      rw [List.tail_drop] at this
      simpa using this
    have hrd : rdOf ByteArray.empty l (i : Int) = x := by
      unfold rdOf
      rw [Int.toNat_natCast, List.getD, List.getElem?_eq_getElem hil, hx]
      rfl
    rw [jb, List.length_append, List.length_append, size_l] at hj
    have next := ih (i + 1) (A ++ ((if decide (i = 0) = true then [] else sep.data.toList) ++ x.data.toList)) hd' (by omega)
    rw [decide_eq_false (show ¬ i + 1 = 0 by omega), List.length_append, List.length_append, size_l] at next
    have next := next (by omega)
    have hb : (bl A).length = A.length := by simp [bl]
    refine Ans.succ ?_
    simp only [abacusref20_Join.l1, hrd, if_pos (show (i : Int) < (l.length : Int) by omega), if_pos (show (0 : Int) ≤ (i : Int) by omega)]
    rw [wrap_id (x := (i : Int) + 1) (by omega) (by omega), jb]
    by_cases h0 : i = 0
    · rw [decide_eq_true h0, if_pos rfl] at next hj ⊢
      rw [List.nil_append] at next ⊢
      rw [List.length_nil] at hj
      simp only [if_neg (show ¬ (i : Int) > 0 by omega), if_pos (show (bl A).length + x.size < 140737488355328 by omega)]
      rw [bytes_bl, ← bl_app, ← List.append_assoc]
      exact next
    · rw [decide_eq_false h0, if_neg (by decide)] at next hj ⊢
      rw [size_l] at hj
      have hy : bl A ++ bytesOf sep = bl (A ++ sep.data.toList) := by rw [bytes_bl, bl_app]
      have hyl : (bl (A ++ sep.data.toList)).length = A.length + sep.size := by rw [bl, List.length_map, List.length_append, size_l]
      simp only [if_pos (show (i : Int) > 0 by omega), if_pos (show (bl A).length + sep.size < 140737488355328 by omega), Option.bind_some, hy, hyl, if_pos (show A.length + sep.size + x.size < 140737488355328 by omega)]
      rw [bytes_bl, ← bl_app]
      have e : A ++ sep.data.toList ++ x.data.toList = A ++ (sep.data.toList ++ x.data.toList) := List.append_assoc _ _ _
      rw [e]
      have e2 : A ++ (sep.data.toList ++ (x.data.toList ++ jb sep false R)) = A ++ (sep.data.toList ++ x.data.toList) ++ jb sep false R := by simp [List.append_assoc]
      rw [e2]
      exact next
theorem rj_l0 (l : List ByteArray) (sep : ByteArray) (hl : l.length ≤ 140737488355328) (hs : ∀ x ∈ l, x.size ≤ 1152921504606846976) (hp : sep.size ≤ 1152921504606846976) :
    ∀ (R : List ByteArray) (i acc : Nat), l.drop i = R → i + R.length = l.length → acc ≤ 16777216 → acc + jlen sep (decide (i = 0)) R = jlen sep true l → Ans (fun k => abacusref20_Join.l0 k l sep (acc : Int) (i : Int)) (joinV l sep) := by
  intro R
  induction R with
  | nil =>
    intro i acc hd hi ha hj
    rw [List.length_nil] at hi
    rw [jlen] at hj
    refine Ans.succ ?_
    simp only [abacusref20_Join.l0, if_neg (show ¬ (i : Int) < (l.length : Int) by omega)]
    have h := rj_l1 l sep hl l 0 [] rfl (by omega) (by rw [decide_eq_true rfl, jb_len, List.length_nil]; omega)
    rw [decide_eq_true rfl, List.nil_append, ← join_jb] at h
    unfold joinV
    rw [if_neg (by omega)]
    exact h
  | cons x R ih =>
    intro i acc hd hi ha hj
    rw [List.length_cons] at hi
    have hil : i < l.length := by omega
    have hx : l[i] = x := by
      have := congrArg List.head? hd
      rw [List.head?_drop, List.getElem?_eq_getElem hil] at this
      simpa using this
    have hd' : l.drop (i + 1) = R := by
      have := congrArg List.tail hd
      rw [List.tail_drop] at this
      simpa using this
    have hrd : rdOf ByteArray.empty l (i : Int) = x := by
      unfold rdOf
      rw [Int.toNat_natCast, List.getD, List.getElem?_eq_getElem hil, hx]
      rfl
    have hxs := hs x (by rw [← hx]; exact List.getElem_mem hil)
    rw [jlen] at hj
    have bad : acc + (if decide (i = 0) = true then 0 else sep.size) + x.size > 16777216 → joinV l sep = ((⟨#[]⟩ : ByteArray), 3) := by
      intro h
      unfold joinV
      rw [if_pos (by omega)]
    have next := ih (i + 1) (acc + (if decide (i = 0) = true then 0 else sep.size) + x.size) hd' (by omega)
    rw [decide_eq_false (show ¬ i + 1 = 0 by omega)] at next
    refine Ans.succ ?_
    simp only [abacusref20_Join.l0, hrd, if_pos (show (i : Int) < (l.length : Int) by omega), if_pos (show (0 : Int) ≤ (i : Int) by omega)]
    rw [wrap_id (x := (i : Int) + 1) (by omega) (by omega), wrap_id (x := (acc : Int) + (x.size : Int)) (by omega) (by omega)]
    by_cases h0 : i = 0
    · rw [decide_eq_true h0, if_pos rfl] at bad next hj
      simp only [if_neg (show ¬ (i : Int) > 0 by omega)]
      by_cases h1 : (acc : Int) + (x.size : Int) > 16777216
      · simp only [if_pos h1]
        rw [bad (by omega)]
        exact Ans.ret _
      · simp only [if_neg h1]
        have := next (by omega) (by omega)
        rw [show ((acc + 0 + x.size : Nat) : Int) = (acc : Int) + (x.size : Int) by omega] at this
        exact this
    · rw [decide_eq_false h0, if_neg (by decide)] at bad next hj
      simp only [if_pos (show (i : Int) > 0 by omega)]
      rw [wrap_id (x := (acc : Int) + (x.size : Int) + (sep.size : Int)) (by omega) (by omega)]
      by_cases h1 : (acc : Int) + (x.size : Int) + (sep.size : Int) > 16777216
      · simp only [if_pos h1]
        rw [bad (by omega)]
        exact Ans.ret _
      · simp only [if_neg h1]
        have := next (by omega) (by omega)
        rw [show ((acc + sep.size + x.size : Nat) : Int) = (acc : Int) + (x.size : Int) + (sep.size : Int) by omega] at this
        exact this
theorem rj_t (l : List ByteArray) (sep : ByteArray) (hl : l.length ≤ 140737488355328) (hs : ∀ x ∈ l, x.size ≤ 1152921504606846976) (hp : sep.size ≤ 1152921504606846976) : Ans (fun k => abacusref20_Join.f k l sep) (joinV l sep) := by
  unfold abacusref20_Join.f
  exact rj_l0 l sep hl hs hp l 0 0 rfl (by omega) (by omega) (by simp)
theorem joins_t (l : List ByteArray) (sep : ByteArray) (hl : l.length ≤ 140737488355328) (hs : ∀ x ∈ l, x.size ≤ 1152921504606846976) (hp : sep.size ≤ 1152921504606846976) : Ans (fun k => abacuslaw20_joins.f k l sep) true := by
  unfold abacuslaw20_joins.f
  refine Ans.bind (rj_t l sep hl hs hp) ?_
  refine Ans.bind (join_t l sep hl hs hp) ?_
  simp only [if_true, bne_self_eq_false]
  refine Ans.succ ?_
  simp only [abacuslaw20_joins.j0, Bool.false_eq_true, if_false]
  have hc : Ans (fun k => abacusref20_Cat.f k l) (joinV l ⟨#[]⟩) := by
    unfold abacusref20_Cat.f
    refine Ans.bind (rj_t l ⟨#[]⟩ hl hs (by decide)) ?_
    exact Ans.ret _
  refine Ans.bind hc ?_
  refine Ans.bind (cat_t l hl hs) ?_
  simp only [if_true, beq_self_eq_true]
  exact Ans.ret _
end Go.Proofs.YtdeannaaafffbaaDoor.Pl
