/-
  Calls that may give up by a panic: how such a call ends, and its step in a walk. Conditions: those in the statements.
-/
import Derived.Test.YtdkejcadoepnnaaDoorBkX
import Derived.Test.YtdkejcadoepnnaaDoorBkWTab
import Derived.WalkSmall
set_option linter.unusedSimpArgs false
set_option linter.unusedVariables false
namespace Go.Proofs.YtdkejcadoepnnaaDoor.X
open Go.RowKit Go.Proofs.YtdkejcadoepnnaaDoorW.PrintWords Go.Proofs.YtdkejcadoepnnaaDoorW.PrintLast
/-- How a reader's call ends: it returns v (the mark is 0), or gives up at place p (the mark is 1). -/
def Out (v : Value) (m p : Int) (e : Ending) : Prop := (m = 0 ∧ e = .returned v) ∨ (m = 1 ∧ e = .panicked [{ v := .iface 91 (.int .i64 p), recovered := false }])
theorem mk0 {t : Int} (h : (t == 1) = true) : ¬ t = 0 := fun e => by subst e; cases h
theorem mk1 {t : Int} (h : (t == 1) = false) : ¬ t = 1 := fun e => by subst e; cases h
section
variable {P : Program} {ops : Array Oper} {Q : Exit → Act → World → Prop}
/-- A call that returns, or panics. -/
theorem goesO_ {rest : List Oper} {oi : Oper} {a : Act} {w : World} (N : Option Tmp) (hd : oi.dst = N) (hg : oi.guard = none) {f : FuncId} {fn : Func} {as_ : Array Operand} {ts : Array TypeId} (hf : P.funcs[f]? = some fn) (hname : (fn.name == "runtime.NumGoroutine") = false) (hb : fn.body.isSome = true) (args : Array Value)
  (hop : oi.op = .call { callee := .value (.func f), args := as_, argTypes := ts }) (hargs : as_.map a.eval = args)
  (h : Calls P f args w fun e w' => (∃ v, e = .returned v ∧ wpList P ops Q rest (a.put N v) w') ∨ (∃ c, e = .panicked c ∧ Q (.panic c) a w')) : wpList P ops Q (oi :: rest) a w := by
 refine wpList_plain hg fun K hK => ?_
 have he := enters_ hf hname hb args w
 have hrun : (execOp a.eval oi).run P w = .ok (.enter f args) w := by
  unfold execOp
  simp [hop, resolve, Deferred.ofValue, invoke, Act.eval, hargs, he]
 unfold Oper.wp
 rw [hrun, Oper.upon_enter]
 refine h.mono fun e w'' hh => ?_
 rcases hh with ⟨v, rfl, hk⟩ | ⟨c, rfl, hk⟩
 ·subst hd
  exact hK _ _ hk
 ·exact hk
end
end Go.Proofs.YtdkejcadoepnnaaDoor.X
