/-
  The words' table of package code (rows): its cells, and the contract of the call that makes it. No conditions.
-/
import Derived.Test.YtdkejcadoepnnaaDoorProg
import Derived.Test.YtdkejcadoepnnaaDoorTuWWords
import Derived.Test.YtdkejcadoepnnaaDoorTuWMore
import Derived.Deep.QuietTactic
import Derived.BigQuiet
import Derived.WalkKit
import Derived.KernelRfl
import Derived.Deep.WholeRow
set_option linter.unusedVariables false
namespace Go.Proofs.YtdkejcadoepnnaaDoor.X
open Go.RowKit Go.Proofs.YtdkejcadoepnnaaDoorW.PrintWords
def tabC : Array Value := #[Value.string ⟨#[]⟩, .int .i64 0, .int .i64 0, .int .i64 0, .int .i64 0, Value.string ⟨#[110, 117, 109]⟩, .int .i64 1, .int .i64 0, .int .i64 0, .int .i64 1, Value.string ⟨#[115, 116, 114]⟩, .int .i64 2, .int .i64 0, .int .i64 0, .int .i64 1, Value.string ⟨#[118, 97, 114]⟩, .int .i64 3, .int .i64 0, .int .i64 0, .int .i64 1, Value.string ⟨#[115, 101, 116, 118, 97, 114]⟩, .int .i64 3, .int .i64 0, .int .i64 1, .int .i64 1, Value.string ⟨#[111, 112, 118, 97, 114]⟩, .int .i64 3, .int .i64 5, .int .i64 1, .int .i64 1, Value.string ⟨#[115, 116, 101, 112, 118, 97, 114]⟩, .int .i64 3, .int .i64 6, .int .i64 0, .int .i64 1, Value.string ⟨#[115, 117, 98, 118, 97, 114]⟩, .int .i64 3, .int .i64 7, .int .i64 2, .int .i64 1, Value.string ⟨#[102, 105, 101, 108, 100]⟩, .int .i64 0, .int .i64 0, .int .i64 1, .int .i64 1, Value.string ⟨#[115, 101, 116, 102, 105, 101, 108, 100]⟩, .int .i64 0, .int .i64 0, .int .i64 2, .int .i64 1, Value.string ⟨#[111, 112, 102, 105, 101, 108, 100]⟩, .int .i64 0, .int .i64 5, .int .i64 2, .int .i64 1, Value.string ⟨#[115, 116, 101, 112, 102, 105, 101, 108, 100]⟩, .int .i64 0, .int .i64 6, .int .i64 1, .int .i64 1, Value.string ⟨#[115, 117, 98, 102, 105, 101, 108, 100]⟩, .int .i64 0, .int .i64 7, .int .i64 3, .int .i64 1, Value.string ⟨#[107, 101, 121]⟩, .int .i64 10, .int .i64 0, .int .i64 (-1), .int .i64 1, Value.string ⟨#[101, 108, 101, 109]⟩, .int .i64 4, .int .i64 0, .int .i64 1, .int .i64 1, Value.string ⟨#[115, 101, 116, 101, 108, 101, 109]⟩, .int .i64 4, .int .i64 0, .int .i64 2, .int .i64 1, Value.string ⟨#[111, 112, 101, 108, 101, 109]⟩, .int .i64 4, .int .i64 5, .int .i64 2, .int .i64 1, Value.string ⟨#[115, 116, 101, 112, 101, 108, 101, 109]⟩, .int .i64 4, .int .i64 6, .int .i64 1, .int .i64 1, Value.string ⟨#[115, 117, 98, 101, 108, 101, 109]⟩, .int .i64 4, .int .i64 7, .int .i64 3, .int .i64 1, Value.string ⟨#[105, 110]⟩, .int .i64 4, .int .i64 0, .int .i64 1, .int .i64 1, Value.string ⟨#[110, 101, 103]⟩, .int .i64 0, .int .i64 0, .int .i64 1, .int .i64 1, Value.string ⟨#[112, 111, 115]⟩, .int .i64 0, .int .i64 0, .int .i64 1, .int .i64 1, Value.string ⟨#[110, 111, 116]⟩, .int .i64 0, .int .i64 0, .int .i64 1, .int .i64 1, Value.string ⟨#[116, 114, 117, 116, 104]⟩, .int .i64 0, .int .i64 0, .int .i64 1, .int .i64 1, Value.string ⟨#[98, 105, 110]⟩, .int .i64 5, .int .i64 0, .int .i64 2, .int .i64 1, Value.string ⟨#[99, 97, 116]⟩, .int .i64 0, .int .i64 0, .int .i64 2, .int .i64 1, Value.string ⟨#[114, 101, 108]⟩, .int .i64 8, .int .i64 0, .int .i64 2, .int .i64 1, Value.string ⟨#[106, 117, 109, 112]⟩, .int .i64 9, .int .i64 0, .int .i64 0, .int .i64 0, Value.string ⟨#[105, 102, 110, 111, 116]⟩, .int .i64 9, .int .i64 0, .int .i64 1, .int .i64 0, Value.string ⟨#[105, 102]⟩, .int .i64 9, .int .i64 0, .int .i64 1, .int .i64 0, Value.string ⟨#[112, 111, 112]⟩, .int .i64 0, .int .i64 0, .int .i64 1, .int .i64 0, Value.string ⟨#[99, 97, 108, 108]⟩, .int .i64 11, .int .i64 12, .int .i64 (-2), .int .i64 1, Value.string ⟨#[115, 112, 108, 105, 116]⟩, .int .i64 4, .int .i64 0, .int .i64 2, .int .i64 1, Value.string ⟨#[97, 115, 111, 114, 116]⟩, .int .i64 4, .int .i64 0, .int .i64 0, .int .i64 1]
theorem results_one73 {P : Program} {fn : Func} {p : Tmp} {ty : TypeId} (h : fn.results = #[.cell p ty]) (tmps : Array Value) (w : World) (g : Nat) (t : TypeId) (cs : Array Value) (fr : Nat × Nat) (d : TypeDesc)
    (hp : tmps.getD p undef = .pointer (some ⟨g, 0, none⟩)) (hg : w.heap[g]? = some (.cells cs t fr))
    (hu : P.underlying ty = some d) (hd : (match d with | .struct _ | .array _ _ => true | _ => false) = true) (hi : (P.info? ty).map (·.size) = some cs.size) :
    (results fn tmps).run P w = .ok (.agg cs) w := by
  have hp' : tmps[p]?.getD undef = .pointer (some ⟨g, 0, none⟩) := by simpa using hp
  simp [results, h, hp', asAddr, run_loadVar_row w g t ty cs fr d hg hu hd hi]
set_option maxHeartbeats 4000000 in
set_option maxRecDepth 100000 in
theorem xRows.calls (w : World) : Calls Tryd.prog 25 #[] w fun e w' => e = .returned (.agg tabC) ∧ Below w.heap.size w w' := by
  go_enter Tryd.func25, Tryd.ntmps25
  go_wp2_with (first | ((with_reducible refine wpList_store_row rfl 73 (.tmp 0) (.tmp 34) rfl w.heap.size tabC rfl ?hy 73 _ (heap_alloc_last _ _) (by kernel_rfl) (by kernel_rfl) (by kernel_rfl) ?_); (case hy => rfl); rw [World.setRow_alloc_new]))
  have hB := Aside0.mk ((Below.refl w.heap.size w).alloc (Nat.le_refl _) (.cells tabC 73))
  have hg := Aside0.mk (heap_alloc_last w (.cells tabC 73))
  revert hB hg
  generalize w.alloc (.cells tabC 73) = w1
  intro hB hg
  refine bodyPost_ret (results_one73 rfl _ _ w.heap.size 73 tabC (0, 0) _ rfl hg.out Tryd.underlying73 rfl (by kernel_rfl)) rfl ?_
  exact ⟨rfl, hB.out⟩
end Go.Proofs.YtdkejcadoepnnaaDoor.X
