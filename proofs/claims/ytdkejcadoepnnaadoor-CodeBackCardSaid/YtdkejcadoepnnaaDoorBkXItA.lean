/-
  A range over the head "ABC1": its iterator, told by its place, and the two operations (range, next) on it; the step of a call that may panic in a region that draws. No conditions.
-/
import Derived.Test.YtdkejcadoepnnaaDoorBkXPan
import Derived.Lib.OthersKept
set_option linter.unusedSimpArgs false
set_option linter.unusedVariables false
namespace Go.Proofs.YtdkejcadoepnnaaDoor.X
open Go.RowKit Go.Proofs.YtdkejcadoepnnaaDoorW.PrintWords Go.Proofs.YtdkejcadoepnnaaDoorW.PrintLast
def It (w : World) (k : Nat) (pos : Int) : Prop := ∃ p : Nat, pos = (p : Int) ∧ p ≤ 4 ∧ w.heap[k]? = some (.stringIter ⟨#[65, 66, 67, 49]⟩ p)
theorem It.ne {w : World} {k g : Nat} {pos : Int} {cs : Array Value} {t : TypeId} {f : Nat × Nat} (h : It w k pos) (hb : w.heap[g]? = some (.cells cs t f)) : g ≠ k := by
 rintro rfl
 obtain ⟨p, _, _, hp⟩ := h
 rw [hb] at hp
 injection hp with hp
 cases hp
theorem It.moved {W w1 : World} {k g : Nat} {pos : Int} {cs : Array Value} {t : TypeId} {f : Nat × Nat} (h : It W k pos) (hb : W.heap[g]? = some (.cells cs t f)) (ho : ∀ j, j ≠ k → w1.heap[j]? = W.heap[j]?) :
  w1.heap[g]? = some (.cells cs t f) := (ho g (h.ne hb)).trans hb
theorem It.step {B k : Nat} {w0 W w1 : World} (h : Below B w0 W) (hB : B ≤ k) (hb : Below k W w1) : Below B w0 w1 := h.trans (hb.mono hB)
section
variable {ops : Array Oper} {rest : List Oper} {o : Oper} {a : Act} {Q : Exit → Act → World → Prop}
theorem It.new {W : World} (hgd : o.guard = none) {N : Tmp} (_hd : o.dst = some N) {x : Operand} {T : TypeId} (ho : o.op = .range T x) (hT : Tryd.prog.underlying T = some .string)
  (hx : a.eval x = .string ⟨#[65, 66, 67, 49]⟩)
  (h : ∀ g w1, It w1 g 0 → Below W.heap.size W w1 → g = W.heap.size → wpList Tryd.prog ops Q rest (a.put o.dst (.pointer (some ⟨g, 0, none⟩))) w1) : wpList Tryd.prog ops Q (o :: rest) a W := by
 have hrun : (execOp a.eval o).run Tryd.prog W = .ok (.value (.pointer (some ⟨W.heap.size, 0, none⟩))) (W.alloc (.stringIter ⟨#[65, 66, 67, 49]⟩ 0)) := by
  simp only [execOp, ho, hx]
  go_simp
  rfl
 refine Kd.event_run hgd hrun (h _ _ ⟨0, rfl, by omega, ?_⟩ (below_alloc (Below.refl _ _) _) rfl)
 show (W.heap.push _)[W.heap.size]? = _
 simp
theorem It.next {W : World} {k : Nat} {pos : Int} (hi : It W k pos) (hlt : pos < 4) (hgd : o.guard = none) {N : Tmp} (_hd : o.dst = some N) {x : Operand} (ho : o.op = .next x true)
  (hx : a.eval x = .pointer (some ⟨k, 0, none⟩))
  (h : ∀ (c : Int) w1, It w1 k (wrap64 (pos + 1)) → (∀ j, j ≠ k → w1.heap[j]? = W.heap[j]?) → Below k W w1 → wpList Tryd.prog ops Q rest (a.put o.dst (.tuple #[.bool true, .int .i64 pos, .int .i32 c])) w1) :
  wpList Tryd.prog ops Q (o :: rest) a W := by
 obtain ⟨p, rfl, hp, hk⟩ := hi
 have hp4 : p < 4 := by omega
 have hsz : p < (⟨#[65, 66, 67, 49]⟩ : ByteArray).size := hp4
 have ha : ((⟨#[65, 66, 67, 49]⟩ : ByteArray)[p]'hsz).toNat < 128 := by
  have : p = 0 ∨ p = 1 ∨ p = 2 ∨ p = 3 := by omega
  rcases this with rfl | rfl | rfl | rfl <;> decide +revert
 have hrun : (execOp a.eval o).run Tryd.prog W = .ok (.value (.tuple #[.bool true, .int .i64 p, .int .i32 (((⟨#[65, 66, 67, 49]⟩ : ByteArray)[p]'hsz).toNat)])) (W.iterAt k ⟨#[65, 66, 67, 49]⟩ (p + 1)) := by
  simp only [execOp, ho, hx, Sem.run_bind]
  rw [Lib.run_next_ascii_at W k _ p o.type hk hsz ha]
  rfl
 refine Kd.event_run hgd hrun (h _ _ ⟨p + 1, ?_, by omega, Lib.iterAt_heap W k _ p (p + 1) hk⟩ (fun j hj => Lib.iterAt_other W k j _ (p + 1) hj) (Lib.below_iterAt (Below.refl k W) (Nat.le_refl k) _ _))
 unfold wrap64; omega
theorem It.done {W : World} {k : Nat} {pos : Int} (hi : It W k pos) (hlt : ¬ pos < 4) (hgd : o.guard = none) {N : Tmp} (_hd : o.dst = some N) {x : Operand} (ho : o.op = .next x true)
  (hx : a.eval x = .pointer (some ⟨k, 0, none⟩)) (h : wpList Tryd.prog ops Q rest (a.put o.dst (.tuple #[.bool false])) W) :
  wpList Tryd.prog ops Q (o :: rest) a W := by
 obtain ⟨p, rfl, hp, hk⟩ := hi
 have hsz : ¬ p < (⟨#[65, 66, 67, 49]⟩ : ByteArray).size := by
  show ¬ p < 4
  omega
 have hrun : (execOp a.eval o).run Tryd.prog W = .ok (.value (.tuple #[.bool false])) W := by
  simp only [execOp, ho, hx, Sem.run_bind]
  rw [Lib.run_next_end_at W k _ p o.type hk hsz]
  rfl
 exact Kd.event_run hgd hrun h
end
theorem It.ge {w : World} {k : Nat} {pos : Int} (h : It w k pos) : 0 ≤ pos := by
 obtain ⟨p, rfl, _⟩ := h
 omega
theorem It.keep {w W w1 : World} {g k : Nat} (h : KeepBut w W g none) (hk : w.heap.size ≤ k) (ho : ∀ j, j ≠ k → w1.heap[j]? = W.heap[j]?) (hb : Below k W w1) : KeepBut w w1 g none :=
 ⟨Nat.le_trans h.1 hb.size, fun i hi hg hr => (ho i (by omega)).trans (h.2 i hi hg hr)⟩
theorem It.drewN {w : World} {k : Nat} {pos : Int} (h : It w k pos) (m : Nat) : It (w.drewN m) k pos := h
theorem It.drew {w : World} {k : Nat} {pos : Int} (h : It w k pos) : It w.drew k pos := h
theorem It.kept {w w1 : World} {g k : Nat} {pos : Int} (h : It w k pos) (hk : KeepBut w w1 g none) (hne : k ≠ g) : It w1 k pos := by
 obtain ⟨p, e, hp, hb⟩ := h
 exact ⟨p, e, hp, (hk.2 k (Array.getElem?_eq_some_iff.1 hb).1 hne (by simp)).trans hb⟩
section
variable {P : Program} {ops : Array Oper} {o : Oper} {a : Act} {Q : Exit → Act → World → Prop} {Kc : Act → World → Prop}
/-- A call that returns, or panics, as a step of a region that draws. -/
theorem goesS_ {N : Option Tmp} {w : World} {f : FuncId} {fn : Func} {as_ : Array Operand} {ts : Array TypeId} (hf : P.funcs[f]? = some fn) (hname : (fn.name == "runtime.NumGoroutine") = false) (hb : fn.body.isSome = true) (args : Array Value)
  (hw : Region.wanted o (yielded ops a.tmps) = true) (hN : o.dst = N) (hop : o.op = .call { callee := .value (.func f), args := as_, argTypes := ts }) (hargs : as_.map a.eval = args)
  (h : Calls P f args w fun e w' => (∃ v, e = .returned v ∧ Kc (a.put N v) w') ∨ (∃ c, e = .panicked c ∧ Q (.panic c) a w')) : if Region.wanted o (yielded ops a.tmps) = true then Oper.wp P o a w Kc Q else Kc (a.put N undef) w := by
 rw [if_pos hw]
 have he := enters_ hf hname hb args w
 have hrun : (execOp a.eval o).run P w = .ok (.enter f args) w := by
  unfold execOp
  simp [hop, resolve, Deferred.ofValue, invoke, Act.eval, hargs, he]
 unfold Oper.wp
 rw [hrun, Oper.upon_enter]
 refine h.mono fun e w'' hh => ?_
 rcases hh with ⟨v, rfl, hk⟩ | ⟨c, rfl, hk⟩
 ·subst hN
  exact hk
 ·exact hk
end
end Go.Proofs.YtdkejcadoepnnaaDoor.X
