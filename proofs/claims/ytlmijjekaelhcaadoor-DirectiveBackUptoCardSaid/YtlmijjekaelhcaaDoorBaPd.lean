/-
  Plain laws of the directive statements: a format behind another, same and Wants of one list, and DirectiveChain. Conditions: the texts' bytes are at most 2^38.
-/
import Derived.Test.YtlmijjekaelhcaaDoorBaPc
import Derived.Test.YtlmijjekaelhcaaDoorBaEDix28
set_option linter.unusedVariables false
set_option linter.unusedSimpArgs false
namespace Go.Proofs.YtlmijjekaelhcaaDoor.Pl
open Go.RowKit Go.Proofs.YtlmijjekaelhcaaDoorW.PrintWords Go.Proofs.YtlmijjekaelhcaaDoor.EDi Go.Proofs.YtlmijjekaelhcaaDoor.X
section
variable (ls : List S25) (cur : List UInt8) (d : Int)
end
def sz (s : St) : Nat := match s with
  | .text ps t => ps.length + (opt t).length
  | .pct ps => ps.length
  | .flg ps _ => ps.length
  | .wid ps _ _ _ => ps.length
  | .aw ps _ _ _ => ps.length
  | .pnt ps _ _ _ => ps.length
  | .prc ps _ _ _ _ _ => ps.length
  | .ap ps _ _ _ _ _ => ps.length
  | .bad _ _ => 0
def All (b : Nat) (ps : List S25) : Prop := ∀ q ∈ ps, q.f0.size ≤ b
theorem All.snoc {b : Nat} {ps : List S25} {q : S25} (h : All b ps) (hq : q.f0.size ≤ b) : All b (ps ++ [q]) := by
  intro x hx
  rcases List.mem_append.1 hx with hx | hx
  · exact h x hx
  · rw [List.mem_singleton.1 hx]
    exact hq
theorem All.opt {b : Nat} {ps : List S25} {t : List UInt8} (h : All b ps) (ht : t.length ≤ b) : All b (ps ++ opt t) := by
  unfold Pl.opt
  split
  · rw [List.append_nil]
    exact h
  · exact h.snoc (by show (⟨t.toArray⟩ : ByteArray).size ≤ b; exact ht)
theorem rd_mem {l : List S25} {j : Int} (h0 : 0 ≤ j) (h : j < (l.length : Int)) : rd_T25 l j ∈ l := by
  have hj : j.toNat < l.length := by omega
  unfold rd_T25
  rw [List.getD_eq_getElem?_getD, List.getElem?_eq_getElem hj]
  exact List.getElem_mem hj
theorem same_l0 (l : List S25) (hl : l.length ≤ 9223372036854775806) : ∀ j, j ≤ (l.length : Int) → 0 ≤ j → Ans (fun k => abacuslaw13_same.l0 k l l j) true := by
  refine left_ind fun j hj ih h0 => ?_
  refine Ans.succ ?_
  simp only [abacuslaw13_same.l0]
  by_cases h : j < (l.length : Int)
  · simp only [if_pos h, if_pos h0, beq_self_eq_true, Bool.not_true, Bool.or_false, Bool.false_eq_true, if_false]
    rw [wrap_id (x := j + 1) (by omega) (by omega)]
    exact ih (j + 1) (by omega) (by omega) (by omega)
  · simp only [if_neg h]
    exact Ans.ret _
theorem same_self (l : List S25) (hl : l.length ≤ 9223372036854775806) : Ans (fun k => abacuslaw13_same.f k l l) true := by
  unfold abacuslaw13_same.f
  simp only [if_true]
  exact same_l0 l hl 0 (by omega) (by omega)
theorem rd_drop {l : List S25} {j : Int} (h0 : 0 ≤ j) (h : j < (l.length : Int)) : l.drop j.toNat = rd_T25 l j :: l.drop (j + 1).toNat := by
  have hj : j.toNat < l.length := by omega
  rw [List.drop_eq_getElem_cons hj, show (j + 1).toNat = j.toNat + 1 by omega]
  unfold rd_T25
  rw [List.getD_eq_getElem?_getD, List.getElem?_eq_getElem hj]
  rfl
end Go.Proofs.YtlmijjekaelhcaaDoor.Pl
