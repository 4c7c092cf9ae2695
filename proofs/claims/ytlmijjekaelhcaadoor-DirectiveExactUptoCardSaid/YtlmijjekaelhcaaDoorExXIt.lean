/-
  A range over the text of the flags ("-+ #0"): its iterator, told by its place, and the two operations (range, next) on it. No conditions.
-/
import Derived.Test.YtlmijjekaelhcaaDoorExX
import Derived.Lib.OthersKept
set_option linter.unusedVariables false
namespace Go.Proofs.YtlmijjekaelhcaaDoor.X
open Go.RowKit Go.Proofs.YtlmijjekaelhcaaDoorW.PrintWords
def It (w : World) (k : Nat) (pos : Int) : Prop := ∃ p : Nat, pos = (p : Int) ∧ p ≤ 5 ∧ w.heap[k]? = some (.stringIter ⟨#[45, 43, 32, 35, 48]⟩ p)
theorem blk_below_ {W w1 : World} {g : Nat} {c : Obj} (h : W.heap[g]? = some c) (hb : Below W.heap.size W w1) : w1.heap[g]? = some c :=
 (hb.block g (Array.getElem?_eq_some_iff.1 h).1).trans h
theorem It.ne {w : World} {k g : Nat} {pos : Int} {cs : Array Value} {t : TypeId} {f : Nat × Nat} (h : It w k pos) (hb : w.heap[g]? = some (.cells cs t f)) : g ≠ k := by
 rintro rfl
 obtain ⟨p, _, _, hp⟩ := h
 rw [hb] at hp
 injection hp with hp
 cases hp
theorem It.moved {W w1 : World} {k g : Nat} {pos : Int} {cs : Array Value} {t : TypeId} {f : Nat × Nat} (h : It W k pos) (hb : W.heap[g]? = some (.cells cs t f)) (ho : ∀ j, j ≠ k → w1.heap[j]? = W.heap[j]?) :
  w1.heap[g]? = some (.cells cs t f) := (ho g (h.ne hb)).trans hb
theorem It.step {B k : Nat} {w0 W w1 : World} (h : Below B w0 W) (hB : B ≤ k) (hb : Below k W w1) : Below B w0 w1 := h.trans (hb.mono hB)
section
variable {ops : Array Oper} {rest : List Oper} {o : Oper} {a : Act} {Q : Exit → Act → World → Prop}
theorem It.new {W : World} (hgd : o.guard = none) {N : Tmp} (_hd : o.dst = some N) {x : Operand} {T : TypeId} (ho : o.op = .range T x) (hT : Tryd.prog.underlying T = some .string)
  (hx : a.eval x = .string ⟨#[45, 43, 32, 35, 48]⟩)
  (h : ∀ g w1, It w1 g 0 → Below W.heap.size W w1 → g = W.heap.size → wpList Tryd.prog ops Q rest (a.put o.dst (.pointer (some ⟨g, 0, none⟩))) w1) : wpList Tryd.prog ops Q (o :: rest) a W := by
 have hrun : (execOp a.eval o).run Tryd.prog W = .ok (.value (.pointer (some ⟨W.heap.size, 0, none⟩))) (W.alloc (.stringIter ⟨#[45, 43, 32, 35, 48]⟩ 0)) := by
  simp only [execOp, ho, hx]
  go_simp
  rfl
 refine Kd.event_run hgd hrun (h _ _ ⟨0, rfl, by omega, ?_⟩ (below_alloc (Below.refl _ _) _) rfl)
 show (W.heap.push _)[W.heap.size]? = _
 simp
theorem It.next {W : World} {k : Nat} {pos : Int} (hi : It W k pos) (hlt : pos < 5) (hgd : o.guard = none) {N : Tmp} (_hd : o.dst = some N) {x : Operand} (ho : o.op = .next x true)
  (hx : a.eval x = .pointer (some ⟨k, 0, none⟩))
  (h : ∀ (c : Int) w1, It w1 k (wrap64 (pos + 1)) → (∀ j, j ≠ k → w1.heap[j]? = W.heap[j]?) → Below k W w1 → wpList Tryd.prog ops Q rest (a.put o.dst (.tuple #[.bool true, .int .i64 pos, .int .i32 c])) w1) :
  wpList Tryd.prog ops Q (o :: rest) a W := by
 obtain ⟨p, rfl, hp, hk⟩ := hi
 have hp5 : p < 5 := by omega
 have hsz : p < (⟨#[45, 43, 32, 35, 48]⟩ : ByteArray).size := hp5
 have ha : ((⟨#[45, 43, 32, 35, 48]⟩ : ByteArray)[p]'hsz).toNat < 128 := by
  have : p = 0 ∨ p = 1 ∨ p = 2 ∨ p = 3 ∨ p = 4 := by omega
  rcases this with rfl | rfl | rfl | rfl | rfl <;> decide +revert
 have hrun : (execOp a.eval o).run Tryd.prog W = .ok (.value (.tuple #[.bool true, .int .i64 p, .int .i32 (((⟨#[45, 43, 32, 35, 48]⟩ : ByteArray)[p]'hsz).toNat)])) (W.iterAt k ⟨#[45, 43, 32, 35, 48]⟩ (p + 1)) := by
  simp only [execOp, ho, hx, Sem.run_bind]
  rw [Lib.run_next_ascii_at W k _ p o.type hk hsz ha]
  rfl
 refine Kd.event_run hgd hrun (h _ _ ⟨p + 1, ?_, by omega, Lib.iterAt_heap W k _ p (p + 1) hk⟩ (fun j hj => Lib.iterAt_other W k j _ (p + 1) hj) (Lib.below_iterAt (Below.refl k W) (Nat.le_refl k) _ _))
 unfold wrap64; omega
theorem It.done {W : World} {k : Nat} {pos : Int} (hi : It W k pos) (hlt : ¬ pos < 5) (hgd : o.guard = none) {N : Tmp} (_hd : o.dst = some N) {x : Operand} (ho : o.op = .next x true)
  (hx : a.eval x = .pointer (some ⟨k, 0, none⟩)) (h : wpList Tryd.prog ops Q rest (a.put o.dst (.tuple #[.bool false])) W) :
  wpList Tryd.prog ops Q (o :: rest) a W := by
 obtain ⟨p, rfl, hp, hk⟩ := hi
 have hsz : ¬ p < (⟨#[45, 43, 32, 35, 48]⟩ : ByteArray).size := by
  show ¬ p < 5
  omega
 have hrun : (execOp a.eval o).run Tryd.prog W = .ok (.value (.tuple #[.bool false])) W := by
  simp only [execOp, ho, hx, Sem.run_bind]
  rw [Lib.run_next_end_at W k _ p o.type hk hsz]
  rfl
 exact Kd.event_run hgd hrun h
end
end Go.Proofs.YtlmijjekaelhcaaDoor.X
