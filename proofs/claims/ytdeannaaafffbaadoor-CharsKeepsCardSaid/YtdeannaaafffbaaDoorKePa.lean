/-
  Plain laws of the chars statements, second seat: Join, Cat and Split of the program and of the document agree; CharsSplits answers true.
-/
import Derived.Test.YtdeannaaafffbaaDoorKePBase
import Derived.Test.YtdeannaaafffbaaDoorKeECdx0
import Derived.Test.YtdeannaaafffbaaDoorKeECdx1
import Derived.Test.YtdeannaaafffbaaDoorKeECdx4
import Derived.Test.YtdeannaaafffbaaDoorKeECdx5
import Derived.Test.YtdeannaaafffbaaDoorKeECdx6
import Derived.Test.YtdeannaaafffbaaDoorKeX
import Derived.Lib.CountLaws
import Derived.Lib.SplitLaws
import Derived.Lib.Join
set_option linter.unusedSimpArgs false
set_option linter.unusedVariables false
set_option linter.unusedSimpArgs false
set_option linter.unusedSectionVars false
namespace Go.Proofs.YtdeannaaafffbaaDoor.Pl
open Go.RowKit Go.Proofs.YtdeannaaafffbaaDoorW.PrintWords Go.Proofs.YtdeannaaafffbaaDoor.X Go.Proofs.YtdeannaaafffbaaDoor.ECd
theorem ext_l (x : ByteArray) (a b : Nat) : (x.extract a b).data.toList = (x.data.toList.drop a).take (b - a) := Lib.extract_data x a b
theorem size_l (x : ByteArray) : x.data.toList.length = x.size := (Lib.size_eq x).symm
theorem ba_ext {x y : ByteArray} (h : x.data.toList = y.data.toList) : x = y := ByteArray.ext (Array.ext' h)
section
variable (O : List UInt8)
theorem hit_of_count {l : List UInt8} (h : 0 < Lib.count l O) : ∃ i : Nat, Lib.index l O = i ∧ i ≤ l.length ∧ Lib.occAt l O i = true ∧ Lib.NoOcc l O i := by
  rcases Lib.index_spec l O with ⟨h1, _⟩ | h1
  · rw [Lib.count_miss h1] at h
    omega
  · exact h1
end
def jlen (sep : ByteArray) : Bool → List ByteArray → Nat
  | _, [] => 0
  | f, x :: r => (if f = true then 0 else sep.size) + x.size + jlen sep false r
theorem jtail_len (sep : ByteArray) : ∀ r : List ByteArray, (Lib.joinTail sep.data.toList (r.map (·.data.toList))).length = jlen sep false r
  | [] => rfl
  | x :: r => by
    have ih := jtail_len sep r
    unfold Lib.joinTail at ih ⊢
    rw [List.map_cons, List.map_cons, List.flatten_cons, List.length_append, ih, List.length_append, size_l, size_l, jlen]
    simp
theorem join_len (sep : ByteArray) : ∀ r : List ByteArray, (Lib.join (r.map (·.data.toList)) sep.data.toList).length = jlen sep true r
  | [] => rfl
  | x :: r => by
    rw [List.map_cons, Lib.join_cons, List.length_append, jtail_len, size_l, jlen]
    simp
def joinV (l : List ByteArray) (sep : ByteArray) : ByteArray × Int :=
  if jlen sep true l > 16777216 then ((⟨#[]⟩ : ByteArray), 3) else (⟨(Lib.join (l.map (·.data.toList)) sep.data.toList).toArray⟩, 0)
theorem join_l0 (l : List ByteArray) (sep : ByteArray) (hl : l.length ≤ 140737488355328) (hs : ∀ x ∈ l, x.size ≤ 1152921504606846976) (hp : sep.size ≤ 1152921504606846976) :
    ∀ (R : List ByteArray) (i acc : Nat), l.drop i = R → i + R.length = l.length → acc ≤ 16777216 → acc + jlen sep (decide (i = 0)) R = jlen sep true l → Ans (fun k => chars_Join.l0 k l sep (acc : Int) l (l.length : Int) (i : Int)) (joinV l sep) := by
  intro R
  induction R with
  | nil =>
    intro i acc hd hi ha hj
    rw [List.length_nil] at hi
    rw [jlen] at hj
    refine Ans.succ ?_
    have hx : xJoin.f l sep = some ⟨(Lib.join (l.map (·.data.toList)) sep.data.toList).toArray⟩ := by
      unfold xJoin.f
      rw [if_pos ⟨hl, by rw [join_len]; omega⟩]
    simp only [chars_Join.l0, if_neg (show ¬ (i : Int) < (l.length : Int) by omega), hx, Option.bind_some]
    unfold joinV
    rw [if_neg (by omega)]
    exact Ans.ret _
  | cons x R ih =>
    intro i acc hd hi ha hj
    rw [List.length_cons] at hi
    have hil : i < l.length := by omega
    have hx : l[i] = x := by
      have := congrArg List.head? hd
      rw [List.head?_drop, List.getElem?_eq_getElem hil] at this
      simpa using this
    have hd' : l.drop (i + 1) = R := by
      have := congrArg List.tail hd
      rw [List.tail_drop] at this
      simpa using this
    have hrd : rdOf ByteArray.empty l (i : Int) = x := by
      unfold rdOf
      rw [Int.toNat_natCast, List.getD, List.getElem?_eq_getElem hil, hx]
      rfl
    have hxs := hs x (by rw [← hx]; exact List.getElem_mem hil)
    rw [jlen] at hj
    have bad : acc + (if decide (i = 0) = true then 0 else sep.size) + x.size > 16777216 → joinV l sep = ((⟨#[]⟩ : ByteArray), 3) := by
      intro h
      unfold joinV
      rw [if_pos (by omega)]
    have next := ih (i + 1) (acc + (if decide (i = 0) = true then 0 else sep.size) + x.size) hd' (by omega)
    rw [decide_eq_false (show ¬ i + 1 = 0 by omega)] at next
    refine Ans.succ ?_
    simp only [chars_Join.l0, hrd, if_pos (show (i : Int) < (l.length : Int) by omega), if_pos (show (0 : Int) ≤ (i : Int) by omega)]
    rw [wrap_id (x := (i : Int) + 1) (by omega) (by omega)]
    by_cases h0 : i = 0
    · rw [decide_eq_true h0, if_pos rfl] at bad next hj
      simp only [if_neg (show ¬ (i : Int) > 0 by omega)]
      rw [wrap_id (x := (acc : Int) + (x.size : Int)) (by omega) (by omega)]
      by_cases h1 : (acc : Int) + (x.size : Int) > 16777216
      · simp only [if_pos h1]
        rw [bad (by omega)]
        exact Ans.ret _
      · simp only [if_neg h1]
        have := next (by omega) (by omega)
        rw [show ((acc + 0 + x.size : Nat) : Int) = (acc : Int) + (x.size : Int) by omega] at this
        exact this
    · rw [decide_eq_false h0, if_neg (by decide)] at bad next hj
      simp only [if_pos (show (i : Int) > 0 by omega)]
      rw [wrap_id (x := (acc : Int) + (sep.size : Int)) (by omega) (by omega), wrap_id (x := (acc : Int) + (sep.size : Int) + (x.size : Int)) (by omega) (by omega)]
      by_cases h1 : (acc : Int) + (sep.size : Int) + (x.size : Int) > 16777216
      · simp only [if_pos h1]
        rw [bad (by omega)]
        exact Ans.ret _
      · simp only [if_neg h1]
        have := next (by omega) (by omega)
        rw [show ((acc + sep.size + x.size : Nat) : Int) = (acc : Int) + (sep.size : Int) + (x.size : Int) by omega] at this
        exact this
theorem join_t (l : List ByteArray) (sep : ByteArray) (hl : l.length ≤ 140737488355328) (hs : ∀ x ∈ l, x.size ≤ 1152921504606846976) (hp : sep.size ≤ 1152921504606846976) : Ans (fun k => chars_Join.f k l sep) (joinV l sep) := by
  unfold chars_Join.f
  exact join_l0 l sep hl hs hp l 0 0 rfl (by omega) (by omega) (by simp)
theorem cat_t (l : List ByteArray) (hl : l.length ≤ 140737488355328) (hs : ∀ x ∈ l, x.size ≤ 1152921504606846976) : Ans (fun k => chars_Cat.f k l) (joinV l ⟨#[]⟩) := by
  unfold chars_Cat.f
  refine Ans.bind (join_t l ⟨#[]⟩ hl hs (by decide)) ?_
  exact Ans.ret _
end Go.Proofs.YtdeannaaafffbaaDoor.Pl
