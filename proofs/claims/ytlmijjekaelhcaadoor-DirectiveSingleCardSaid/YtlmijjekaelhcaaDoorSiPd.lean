/-
  Plain laws of the directive statements: a format behind another, same and Wants of one list, and DirectiveChain. Conditions: the texts' bytes are at most 2^38.
-/
import Derived.Test.YtlmijjekaelhcaaDoorSiPc
import Derived.Test.YtlmijjekaelhcaaDoorSiEDix28
set_option linter.unusedVariables false
set_option linter.unusedSimpArgs false
namespace Go.Proofs.YtlmijjekaelhcaaDoor.Pl
open Go.RowKit Go.Proofs.YtlmijjekaelhcaaDoorW.PrintWords Go.Proofs.YtlmijjekaelhcaaDoor.EDi Go.Proofs.YtlmijjekaelhcaaDoor.X
section
variable (ls : List S25) (cur : List UInt8) (d : Int)
end
def sz (s : St) : Nat := match s with
  | .text ps t => ps.length + (opt t).length
  | .pct ps => ps.length
  | .flg ps _ => ps.length
  | .wid ps _ _ _ => ps.length
  | .aw ps _ _ _ => ps.length
  | .pnt ps _ _ _ => ps.length
  | .prc ps _ _ _ _ _ => ps.length
  | .ap ps _ _ _ _ _ => ps.length
  | .bad _ _ => 0
theorem opt_len (t : List UInt8) : (opt t).length ≤ 1 := by
  unfold opt
  split <;> simp
def All (b : Nat) (ps : List S25) : Prop := ∀ q ∈ ps, q.f0.size ≤ b
theorem All.snoc {b : Nat} {ps : List S25} {q : S25} (h : All b ps) (hq : q.f0.size ≤ b) : All b (ps ++ [q]) := by
  intro x hx
  rcases List.mem_append.1 hx with hx | hx
  · exact h x hx
  · rw [List.mem_singleton.1 hx]
    exact hq
theorem All.opt {b : Nat} {ps : List S25} {t : List UInt8} (h : All b ps) (ht : t.length ≤ b) : All b (ps ++ opt t) := by
  unfold Pl.opt
  split
  · rw [List.append_nil]
    exact h
  · exact h.snoc (by show (⟨t.toArray⟩ : ByteArray).size ≤ b; exact ht)
theorem rd_mem {l : List S25} {j : Int} (h0 : 0 ≤ j) (h : j < (l.length : Int)) : rd_T25 l j ∈ l := by
  have hj : j.toNat < l.length := by omega
  unfold rd_T25
  rw [List.getD_eq_getElem?_getD, List.getElem?_eq_getElem hj]
  exact List.getElem_mem hj
theorem rd_drop {l : List S25} {j : Int} (h0 : 0 ≤ j) (h : j < (l.length : Int)) : l.drop j.toNat = rd_T25 l j :: l.drop (j + 1).toNat := by
  have hj : j.toNat < l.length := by omega
  rw [List.drop_eq_getElem_cons hj, show (j + 1).toNat = j.toNat + 1 by omega]
  unfold rd_T25
  rw [List.getD_eq_getElem?_getD, List.getElem?_eq_getElem hj]
  rfl
end Go.Proofs.YtlmijjekaelhcaaDoor.Pl
