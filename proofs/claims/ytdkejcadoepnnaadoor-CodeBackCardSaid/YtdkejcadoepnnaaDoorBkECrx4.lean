/-
  Several texts of this session's own in one: XTab XTb ECcx4 ECrx3 ECrx4.
-/
import Derived.Test.YtdkejcadoepnnaaDoorProg
import Derived.Test.YtdkejcadoepnnaaDoorBkWWords
import Derived.Test.YtdkejcadoepnnaaDoorBkWTab
import Derived.Deep.QuietTactic
import Derived.BigQuiet
import Derived.WalkKit
import Derived.KernelRfl
import Derived.Deep.WholeRow
import Derived.Test.YtdkejcadoepnnaaDoorBkECcx0
import Derived.Test.YtdkejcadoepnnaaDoorBkA0
import Derived.Test.YtdkejcadoepnnaaDoorBkXPan
section
set_option linter.unusedVariables false
namespace Go.Proofs.YtdkejcadoepnnaaDoor.X
open Go.RowKit Go.Proofs.YtdkejcadoepnnaaDoorW.PrintWords
def tabC : Array Value := #[Value.string ⟨#[]⟩, .int .i64 0, .int .i64 0, .int .i64 0, .int .i64 0, Value.string ⟨#[110, 117, 109]⟩, .int .i64 1, .int .i64 0, .int .i64 0, .int .i64 1, Value.string ⟨#[115, 116, 114]⟩, .int .i64 2, .int .i64 0, .int .i64 0, .int .i64 1, Value.string ⟨#[118, 97, 114]⟩, .int .i64 3, .int .i64 0, .int .i64 0, .int .i64 1, Value.string ⟨#[115, 101, 116, 118, 97, 114]⟩, .int .i64 3, .int .i64 0, .int .i64 1, .int .i64 1, Value.string ⟨#[111, 112, 118, 97, 114]⟩, .int .i64 3, .int .i64 5, .int .i64 1, .int .i64 1, Value.string ⟨#[115, 116, 101, 112, 118, 97, 114]⟩, .int .i64 3, .int .i64 6, .int .i64 0, .int .i64 1, Value.string ⟨#[115, 117, 98, 118, 97, 114]⟩, .int .i64 3, .int .i64 7, .int .i64 2, .int .i64 1, Value.string ⟨#[102, 105, 101, 108, 100]⟩, .int .i64 0, .int .i64 0, .int .i64 1, .int .i64 1, Value.string ⟨#[115, 101, 116, 102, 105, 101, 108, 100]⟩, .int .i64 0, .int .i64 0, .int .i64 2, .int .i64 1, Value.string ⟨#[111, 112, 102, 105, 101, 108, 100]⟩, .int .i64 0, .int .i64 5, .int .i64 2, .int .i64 1, Value.string ⟨#[115, 116, 101, 112, 102, 105, 101, 108, 100]⟩, .int .i64 0, .int .i64 6, .int .i64 1, .int .i64 1, Value.string ⟨#[115, 117, 98, 102, 105, 101, 108, 100]⟩, .int .i64 0, .int .i64 7, .int .i64 3, .int .i64 1, Value.string ⟨#[107, 101, 121]⟩, .int .i64 10, .int .i64 0, .int .i64 (-1), .int .i64 1, Value.string ⟨#[101, 108, 101, 109]⟩, .int .i64 4, .int .i64 0, .int .i64 1, .int .i64 1, Value.string ⟨#[115, 101, 116, 101, 108, 101, 109]⟩, .int .i64 4, .int .i64 0, .int .i64 2, .int .i64 1, Value.string ⟨#[111, 112, 101, 108, 101, 109]⟩, .int .i64 4, .int .i64 5, .int .i64 2, .int .i64 1, Value.string ⟨#[115, 116, 101, 112, 101, 108, 101, 109]⟩, .int .i64 4, .int .i64 6, .int .i64 1, .int .i64 1, Value.string ⟨#[115, 117, 98, 101, 108, 101, 109]⟩, .int .i64 4, .int .i64 7, .int .i64 3, .int .i64 1, Value.string ⟨#[105, 110]⟩, .int .i64 4, .int .i64 0, .int .i64 1, .int .i64 1, Value.string ⟨#[110, 101, 103]⟩, .int .i64 0, .int .i64 0, .int .i64 1, .int .i64 1, Value.string ⟨#[112, 111, 115]⟩, .int .i64 0, .int .i64 0, .int .i64 1, .int .i64 1, Value.string ⟨#[110, 111, 116]⟩, .int .i64 0, .int .i64 0, .int .i64 1, .int .i64 1, Value.string ⟨#[116, 114, 117, 116, 104]⟩, .int .i64 0, .int .i64 0, .int .i64 1, .int .i64 1, Value.string ⟨#[98, 105, 110]⟩, .int .i64 5, .int .i64 0, .int .i64 2, .int .i64 1, Value.string ⟨#[99, 97, 116]⟩, .int .i64 0, .int .i64 0, .int .i64 2, .int .i64 1, Value.string ⟨#[114, 101, 108]⟩, .int .i64 8, .int .i64 0, .int .i64 2, .int .i64 1, Value.string ⟨#[106, 117, 109, 112]⟩, .int .i64 9, .int .i64 0, .int .i64 0, .int .i64 0, Value.string ⟨#[105, 102, 110, 111, 116]⟩, .int .i64 9, .int .i64 0, .int .i64 1, .int .i64 0, Value.string ⟨#[105, 102]⟩, .int .i64 9, .int .i64 0, .int .i64 1, .int .i64 0, Value.string ⟨#[112, 111, 112]⟩, .int .i64 0, .int .i64 0, .int .i64 1, .int .i64 0, Value.string ⟨#[99, 97, 108, 108]⟩, .int .i64 11, .int .i64 12, .int .i64 (-2), .int .i64 1, Value.string ⟨#[115, 112, 108, 105, 116]⟩, .int .i64 4, .int .i64 0, .int .i64 2, .int .i64 1, Value.string ⟨#[97, 115, 111, 114, 116]⟩, .int .i64 4, .int .i64 0, .int .i64 0, .int .i64 1]
theorem results_one73 {P : Program} {fn : Func} {p : Tmp} {ty : TypeId} (h : fn.results = #[.cell p ty]) (tmps : Array Value) (w : World) (g : Nat) (t : TypeId) (cs : Array Value) (fr : Nat × Nat) (d : TypeDesc)
  (hp : tmps.getD p undef = .pointer (some ⟨g, 0, none⟩)) (hg : w.heap[g]? = some (.cells cs t fr))
  (hu : P.underlying ty = some d) (hd : (match d with | .struct _ | .array _ _ => true | _ => false) = true) (hi : (P.info? ty).map (·.size) = some cs.size) :
  (results fn tmps).run P w = .ok (.agg cs) w := by
 have hp' : tmps[p]?.getD undef = .pointer (some ⟨g, 0, none⟩) := by simpa using hp
 simp [results, h, hp', asAddr, run_loadVar_row w g t ty cs fr d hg hu hd hi]
set_option maxHeartbeats 4000000 in
set_option maxRecDepth 100000 in
theorem xRows.calls (w : World) : Calls Tryd.prog 25 #[] w fun e w' => e = .returned (.agg tabC) ∧ Below w.heap.size w w' := by
 go_enter Tryd.func25, Tryd.ntmps25
 go_wp2_with (first | ((with_reducible refine wpList_store_row rfl 73 (.tmp 0) (.tmp 34) rfl w.heap.size tabC rfl ?hy 73 _ (heap_alloc_last _ _) (by kernel_rfl) (by kernel_rfl) (by kernel_rfl) ?_); (case hy => rfl); rw [World.setRow_alloc_new]))
 have hB := Aside0.mk ((Below.refl w.heap.size w).alloc (Nat.le_refl _) (.cells tabC 73))
 have hg := Aside0.mk (heap_alloc_last w (.cells tabC 73))
 revert hB hg
 generalize w.alloc (.cells tabC 73) = w1
 intro hB hg
 refine bodyPost_ret (results_one73 rfl _ _ w.heap.size 73 tabC (0, 0) _ rfl hg.out Tryd.underlying73 rfl (by kernel_rfl)) rfl ?_
 exact ⟨rfl, hB.out⟩
end Go.Proofs.YtdkejcadoepnnaaDoor.X
end
section
set_option linter.unusedVariables false
set_option linter.unusedSimpArgs false
namespace Go.Proofs.YtdkejcadoepnnaaDoor.X
open Go.RowKit Go.Proofs.YtdkejcadoepnnaaDoorW.PrintWords Go.Proofs.YtdkejcadoepnnaaDoorW.PrintLast Go.Proofs.YtdkejcadoepnnaaDoorW.PrintMore Go.Proofs.YtdkejcadoepnnaaDoor.ECc
set_option maxRecDepth 100000 in
def tabL : List S72 := [⟨⟨#[]⟩, 0, 0, 0, 0⟩, ⟨⟨#[110, 117, 109]⟩, 1, 0, 0, 1⟩, ⟨⟨#[115, 116, 114]⟩, 2, 0, 0, 1⟩, ⟨⟨#[118, 97, 114]⟩, 3, 0, 0, 1⟩, ⟨⟨#[115, 101, 116, 118, 97, 114]⟩, 3, 0, 1, 1⟩, ⟨⟨#[111, 112, 118, 97, 114]⟩, 3, 5, 1, 1⟩, ⟨⟨#[115, 116, 101, 112, 118, 97, 114]⟩, 3, 6, 0, 1⟩, ⟨⟨#[115, 117, 98, 118, 97, 114]⟩, 3, 7, 2, 1⟩, ⟨⟨#[102, 105, 101, 108, 100]⟩, 0, 0, 1, 1⟩, ⟨⟨#[115, 101, 116, 102, 105, 101, 108, 100]⟩, 0, 0, 2, 1⟩, ⟨⟨#[111, 112, 102, 105, 101, 108, 100]⟩, 0, 5, 2, 1⟩, ⟨⟨#[115, 116, 101, 112, 102, 105, 101, 108, 100]⟩, 0, 6, 1, 1⟩, ⟨⟨#[115, 117, 98, 102, 105, 101, 108, 100]⟩, 0, 7, 3, 1⟩, ⟨⟨#[107, 101, 121]⟩, 10, 0, (-1), 1⟩, ⟨⟨#[101, 108, 101, 109]⟩, 4, 0, 1, 1⟩, ⟨⟨#[115, 101, 116, 101, 108, 101, 109]⟩, 4, 0, 2, 1⟩, ⟨⟨#[111, 112, 101, 108, 101, 109]⟩, 4, 5, 2, 1⟩, ⟨⟨#[115, 116, 101, 112, 101, 108, 101, 109]⟩, 4, 6, 1, 1⟩, ⟨⟨#[115, 117, 98, 101, 108, 101, 109]⟩, 4, 7, 3, 1⟩, ⟨⟨#[105, 110]⟩, 4, 0, 1, 1⟩, ⟨⟨#[110, 101, 103]⟩, 0, 0, 1, 1⟩, ⟨⟨#[112, 111, 115]⟩, 0, 0, 1, 1⟩, ⟨⟨#[110, 111, 116]⟩, 0, 0, 1, 1⟩, ⟨⟨#[116, 114, 117, 116, 104]⟩, 0, 0, 1, 1⟩, ⟨⟨#[98, 105, 110]⟩, 5, 0, 2, 1⟩, ⟨⟨#[99, 97, 116]⟩, 0, 0, 2, 1⟩, ⟨⟨#[114, 101, 108]⟩, 8, 0, 2, 1⟩, ⟨⟨#[106, 117, 109, 112]⟩, 9, 0, 0, 0⟩, ⟨⟨#[105, 102, 110, 111, 116]⟩, 9, 0, 1, 0⟩, ⟨⟨#[105, 102]⟩, 9, 0, 1, 0⟩, ⟨⟨#[112, 111, 112]⟩, 0, 0, 1, 0⟩, ⟨⟨#[99, 97, 108, 108]⟩, 11, 12, (-2), 1⟩, ⟨⟨#[115, 112, 108, 105, 116]⟩, 4, 0, 2, 1⟩, ⟨⟨#[97, 115, 111, 114, 116]⟩, 4, 0, 0, 1⟩]
set_option maxRecDepth 100000 in
theorem tabL_len : tabL.length = 34 := rfl
set_option maxRecDepth 100000 in
theorem tab_at : ∀ j : Nat, j < 34 → ∃ p, tabL[j]? = some p ∧ tabC[j * 5 + 0]? = some (.string p.f0) ∧ tabC[j * 5 + 1]? = some (.int .i64 p.f1) ∧ tabC[j * 5 + 2]? = some (.int .i64 p.f2) ∧ tabC[j * 5 + 3]? = some (.int .i64 p.f3) ∧ tabC[j * 5 + 4]? = some (.int .i64 p.f4) := by
 intro j hj
 repeat (rcases j with _ | j; · exact ⟨_, rfl, rfl, rfl, rfl, rfl, rfl⟩)
 omega
/-- The block of the table, as a row of structs. -/
theorem tab_rows {w : World} {g : Nat} (h : w.heap[g]? = some (.cells tabC 73 (0, 0))) : Kd.C k72 w (some ⟨g, 0, none⟩) tabL.length tabL := by
 refine ⟨rfl, by rw [tabL_len]; decide, fun _ => ⟨_, rfl, fun j p hj => ?_⟩⟩
 have hjl : j < 34 := (List.getElem?_eq_some_iff.1 hj).1
 obtain ⟨q, hq, h0, h1, h2, h3, h4⟩ := tab_at j hjl
 have hpq : p = q := Option.some.inj (hj.symm.trans hq)
 subst hpq
 refine ⟨[.string p.f0, .int .i64 p.f1, .int .i64 p.f2, .int .i64 p.f3, .int .i64 p.f4], rfl, k72_mk w p, fun i u hu => ?_⟩
 have hadd : (⟨g, 0, none⟩ : Addr).add (j * Kd.sz k72 + i) = ⟨g, j * 5 + i, none⟩ := by
  show (⟨g, 0, none⟩ : Addr).add (j * 5 + i) = _
  unfold Addr.add
  split <;> simp_all
 rw [hadd, cell_of_row w g (j * 5 + i) tabC 73 (0, 0) h]
 rcases i with _ | _ | _ | _ | _ | i
 ·rw [h0]; simpa using hu
 ·rw [h1]; simpa using hu
 ·rw [h2]; simpa using hu
 ·rw [h3]; simpa using hu
 ·rw [h4]; simpa using hu
 ·simp at hu
/-- The same, the address told apart. -/
theorem tab_rowsA {w : World} {g : Nat} {ad : Addr} (e : ad = ⟨g, 0, none⟩) (h : w.heap[g]? = some (.cells tabC 73 (0, 0))) : Kd.C k72 w (some ad) tabL.length tabL := by
 subst e
 exact tab_rows h
theorem slice_inj {g g' n n' c c' : Nat} (h : Value.slice (some ⟨g, 0, none⟩) n c = .slice (some ⟨g', 0, none⟩) n' c') : g = g' ∧ n = n' ∧ c = c' := by
 injection h with h1 h2 h3
 injection h1 with h1
 injection h1 with h1
 exact ⟨h1, h2, h3⟩
section
variable {ops : Array Oper} {rest : List Oper} {o1 o2 : Oper} {a : Act} {W : World} {Q : Exit → Act → World → Prop}
set_option maxRecDepth 100000 in
def zerosC : Array Value := #[Value.string ⟨#[]⟩, .int .i64 0, .int .i64 0, .int .i64 0, .int .i64 0, Value.string ⟨#[]⟩, .int .i64 0, .int .i64 0, .int .i64 0, .int .i64 0, Value.string ⟨#[]⟩, .int .i64 0, .int .i64 0, .int .i64 0, .int .i64 0, Value.string ⟨#[]⟩, .int .i64 0, .int .i64 0, .int .i64 0, .int .i64 0, Value.string ⟨#[]⟩, .int .i64 0, .int .i64 0, .int .i64 0, .int .i64 0, Value.string ⟨#[]⟩, .int .i64 0, .int .i64 0, .int .i64 0, .int .i64 0, Value.string ⟨#[]⟩, .int .i64 0, .int .i64 0, .int .i64 0, .int .i64 0, Value.string ⟨#[]⟩, .int .i64 0, .int .i64 0, .int .i64 0, .int .i64 0, Value.string ⟨#[]⟩, .int .i64 0, .int .i64 0, .int .i64 0, .int .i64 0, Value.string ⟨#[]⟩, .int .i64 0, .int .i64 0, .int .i64 0, .int .i64 0, Value.string ⟨#[]⟩, .int .i64 0, .int .i64 0, .int .i64 0, .int .i64 0, Value.string ⟨#[]⟩, .int .i64 0, .int .i64 0, .int .i64 0, .int .i64 0, Value.string ⟨#[]⟩, .int .i64 0, .int .i64 0, .int .i64 0, .int .i64 0, Value.string ⟨#[]⟩, .int .i64 0, .int .i64 0, .int .i64 0, .int .i64 0, Value.string ⟨#[]⟩, .int .i64 0, .int .i64 0, .int .i64 0, .int .i64 0, Value.string ⟨#[]⟩, .int .i64 0, .int .i64 0, .int .i64 0, .int .i64 0, Value.string ⟨#[]⟩, .int .i64 0, .int .i64 0, .int .i64 0, .int .i64 0, Value.string ⟨#[]⟩, .int .i64 0, .int .i64 0, .int .i64 0, .int .i64 0, Value.string ⟨#[]⟩, .int .i64 0, .int .i64 0, .int .i64 0, .int .i64 0, Value.string ⟨#[]⟩, .int .i64 0, .int .i64 0, .int .i64 0, .int .i64 0, Value.string ⟨#[]⟩, .int .i64 0, .int .i64 0, .int .i64 0, .int .i64 0, Value.string ⟨#[]⟩, .int .i64 0, .int .i64 0, .int .i64 0, .int .i64 0, Value.string ⟨#[]⟩, .int .i64 0, .int .i64 0, .int .i64 0, .int .i64 0, Value.string ⟨#[]⟩, .int .i64 0, .int .i64 0, .int .i64 0, .int .i64 0, Value.string ⟨#[]⟩, .int .i64 0, .int .i64 0, .int .i64 0, .int .i64 0, Value.string ⟨#[]⟩, .int .i64 0, .int .i64 0, .int .i64 0, .int .i64 0, Value.string ⟨#[]⟩, .int .i64 0, .int .i64 0, .int .i64 0, .int .i64 0, Value.string ⟨#[]⟩, .int .i64 0, .int .i64 0, .int .i64 0, .int .i64 0, Value.string ⟨#[]⟩, .int .i64 0, .int .i64 0, .int .i64 0, .int .i64 0, Value.string ⟨#[]⟩, .int .i64 0, .int .i64 0, .int .i64 0, .int .i64 0, Value.string ⟨#[]⟩, .int .i64 0, .int .i64 0, .int .i64 0, .int .i64 0, Value.string ⟨#[]⟩, .int .i64 0, .int .i64 0, .int .i64 0, .int .i64 0, Value.string ⟨#[]⟩, .int .i64 0, .int .i64 0, .int .i64 0, .int .i64 0, Value.string ⟨#[]⟩, .int .i64 0, .int .i64 0, .int .i64 0, .int .i64 0]
set_option maxRecDepth 100000 in
theorem zero73 : (Tryd.prog.info? 73).map (fun i => (i.zero, i.size)) = some (some (.agg zerosC), 170) := by kernel_rfl
theorem alloc73 {o : Oper} {a : Act} (ho : o.op = .alloc 73) (W : World) : (execOp a.eval o).run Tryd.prog W = .ok (.value (.pointer (some ⟨W.heap.size, 0, none⟩))) (W.alloc (.cells zerosC 73 (0, 0))) := by
 obtain ⟨h1, h2⟩ := zero_of_info zero73
 have hz := h1 W
 unfold execOp
 simp [ho, Instr.alloc, hz, newVar, newRow, Value.cells]
/-- The table is made: the call's answer, a variable, the store. -/
theorem tab_event {T B : Tmp} (g1 : o1.guard = none) (d1 : o1.dst = some T) (h1 : o1.op = .alloc 73) (g2 : o2.guard = none) (d2 : o2.dst = none) (h2 : o2.op = .store 73 (.tmp T) (.tmp B))
  (hx : ∀ v, (a.put (some T) v).eval (.tmp T) = v) (hy : ∀ v, (a.put (some T) v).eval (.tmp B) = .agg tabC)
  (h : ∀ (g : Nat) (ad : Addr), W.heap.size ≤ g → Aside0 (ad = ⟨g, 0, none⟩) → ∀ w1, w1.heap[g]? = some (.cells tabC 73 (0, 0)) → Below W.heap.size W w1 → wpList Tryd.prog ops Q rest ((a.put (some T) (.pointer (some ad))).put none undef) w1) : wpList Tryd.prog ops Q (o1 :: o2 :: rest) a W := by
 refine Kd.event_run g1 (alloc73 h1 W) ?_
 rw [d1]
 refine wpList_store_row g2 73 (.tmp T) (.tmp B) h2 W.heap.size tabC (hx _) (hy _) 73 zerosC (heap_alloc_last _ _) (by kernel_rfl) (by kernel_rfl) (by kernel_rfl) ?_
 rw [World.setRow_alloc_new, d2]
 exact h _ _ (Nat.le_refl _) ⟨rfl⟩ _ (heap_alloc_last _ _) (below_alloc (Below.refl _ _) _)
def IdxV (j a b v : Int) : Prop := (j = 0 ∧ v = a) ∨ (j = 1 ∧ v = b)
theorem wrap_two {x : Int} (h0 : 0 ≤ x) (h1 : x < 2) : 0 ≤ wrap64 (x + 1) := by
 unfold wrap64
 omega
theorem index_event {o : Oper} {N : Tmp} {x i : Operand} {j p q v : Int} (hgd : o.guard = none) (hd : o.dst = some N) (ho : o.op = .index 79 x i) (hx : a.eval x = .agg #[.int .i64 p, .int .i64 q]) (hi : a.eval i = .int .i64 j) (hj : IdxV j p q v)
  (h : wpList Tryd.prog ops Q rest (a.put o.dst (.int .i64 v)) W) : wpList Tryd.prog ops Q (o :: rest) a W := by
 have hrun : (execOp a.eval o).run Tryd.prog W = .ok (.value (.int .i64 v)) W := by
  have hu := Tryd.underlying79
  obtain ⟨i3, h3, s3⟩ : ∃ i, Tryd.prog.info? 3 = some i ∧ i.size = 1 := by
   have h : (Tryd.prog.info? 3).map (·.size) = some 1 := by kernel_rfl
   cases hq : Tryd.prog.info? 3 with
   | none => simp [hq] at h
   | some i => exact ⟨i, rfl, by simpa [hq] using h⟩
  unfold execOp
  rcases hj with ⟨rfl, rfl⟩ | ⟨rfl, rfl⟩
  ·simp [ho, hx, hi, Instr.index, asIntOf, run_underlying hu, part, sizeOf, typeInfo, h3, s3, Result.andThen]
  ·simp [ho, hx, hi, Instr.index, asIntOf, run_underlying hu, part, sizeOf, typeInfo, h3, s3, Result.andThen]
 exact Kd.event_run hgd hrun h
theorem exact_le {a b c : Nat} (h : b ≤ c) (h' : a ≤ b) : a ≤ c := Nat.le_trans h' h
theorem ne_lt_le {a b c : Nat} (h : b ≤ c) (h' : a < b) : a ≠ c := Nat.ne_of_lt (Nat.lt_of_lt_of_le h' h)
theorem ne_gt_le {a b c : Nat} (h : b ≤ c) (h' : a < b) : c ≠ a := Nat.ne_of_gt (Nat.lt_of_lt_of_le h' h)
end
end Go.Proofs.YtdkejcadoepnnaaDoor.X
end
section
namespace Go.Proofs.YtdkejcadoepnnaaDoor.ECc
open Go.RowKit Go.Proofs.YtdkejcadoepnnaaDoorW.PrintWords Go.Proofs.YtdkejcadoepnnaaDoorW.PrintLast Go.Proofs.YtdkejcadoepnnaaDoorW.PrintMore
attribute [local go_sem] max2_int min2_int max_two min_two max_three min_three max_four min_four
set_option linter.unusedVariables false
def c_within.f (a0 : Int) (a1 : Int) (a2 : Int) : Option (Bool) := if a1 ≤ a0 then (some (decide (a0 ≤ a2))) else (some false)
set_option maxHeartbeats 8000000 in
set_option maxRecDepth 100000 in
theorem c_within.calls (a0 : Int) (a1 : Int) (a2 : Int) (r : Bool) (w : World) (h : c_within.f a0 a1 a2 = some r) :
  Calls Tryd.prog 47 #[.int .i64 a0, .int .i64 a1, .int .i64 a2] w fun e w' => e = .returned (.bool r) ∧ Drawn0 w w' := by
 have H : (if a1 ≤ a0 then (some (decide (a0 ≤ a2))) else (some false)) = some r := h
 clear h
 by_cases c4 : a1 ≤ a0
 ·rw [if_pos c4] at H
  have c4b0 := decide_eq_true c4
  clear c4
  obtain rfl := Option.some.inj H
  go_enter Tryd.func47, Tryd.ntmps47
  go_wp2
  go_ret
  exact ⟨by first | rfl | (simp; done) | (simp [*]; done), by repeat (first | exact Drawn0.refl _ | apply Drawn0.step)⟩
 rw [if_neg c4] at H
 have c4b0 := decide_eq_false c4
 clear c4
 obtain rfl := Option.some.inj H
 go_enter Tryd.func47, Tryd.ntmps47
 go_wp2
 go_ret
 exact ⟨by first | rfl | (simp; done) | (simp [*]; done), by repeat (first | exact Drawn0.refl _ | apply Drawn0.step)⟩
end Go.Proofs.YtdkejcadoepnnaaDoor.ECc
end
section
namespace Go.Proofs.YtdkejcadoepnnaaDoor.ECc
open Go.RowKit Go.Proofs.YtdkejcadoepnnaaDoorW.PrintWords Go.Proofs.YtdkejcadoepnnaaDoorW.PrintLast Go.Proofs.YtdkejcadoepnnaaDoorW.PrintMore
open Go.Proofs.YtdkejcadoepnnaaDoor.X
attribute [local go_sem] max2_int min2_int max_two min_two max_three min_three max_four min_four
set_option linter.unusedVariables false
/-- A state of type 95 at block g of W; what its slices lead to came in by w0. -/
def IsS95 (Ab : Option Addr) (cb : Nat) (w0 W : World) (g : Nat) (f0 : List Int) (f1 : Int) : Prop := ∃ A0 c0, W.heap[g]? = some (.cells #[.slice A0 f0.length c0, .int .i64 f1] 95 (0, 0)) ∧ w0.heap.size ≤ g ∧ (Kd.C (Kd.int .u8) w0 A0 f0.length f0 ∧ Ab = A0 ∧ cb = c0)
theorem IsS95.grown {Ab : Option Addr} {cb : Nat} {w0 W : World} {g : Nat} {f0 : List Int} {f1 : Int} {W1 : World} {row : Option Nat} (h : IsS95 Ab cb w0 W g f0 f1) (hw : W.grownBy W1 row) (hne : some g ≠ row) : IsS95 Ab cb w0 W1 g f0 f1 := by
 obtain ⟨A0, c0, hb, hg, hr0⟩ := h
 exact ⟨A0, c0, blk_grown hb hw hne, hg, hr0⟩
theorem IsS95.kept {Ab : Option Addr} {cb : Nat} {w0 W : World} {g : Nat} {f0 : List Int} {f1 : Int} {W1 : World} {S : Nat → Prop} (h : IsS95 Ab cb w0 W g f0 f1) (hk : Kept W W1 S) (hne : ¬ S g) : IsS95 Ab cb w0 W1 g f0 f1 := by
 obtain ⟨A0, c0, hb, hg, hr0⟩ := h
 exact ⟨A0, c0, blk_kept hb hk hne, hg, hr0⟩
theorem IsS95.below {Ab : Option Addr} {cb : Nat} {w0 W : World} {g : Nat} {f0 : List Int} {f1 : Int} {W1 : World} (h : IsS95 Ab cb w0 W g f0 f1) (hw : Below W.heap.size W W1) : IsS95 Ab cb w0 W1 g f0 f1 := h.grown (grown_of_below hw none) (by simp)
theorem IsS95.alloc {Ab : Option Addr} {cb : Nat} {w0 W : World} {g : Nat} {f0 : List Int} {f1 : Int} (h : IsS95 Ab cb w0 W g f0 f1) (o : Obj) : IsS95 Ab cb w0 (W.alloc o) g f0 f1 := h.below (below_alloc (Below.refl _ _) o)
theorem IsS95.drewN {Ab : Option Addr} {cb : Nat} {w0 W : World} {g : Nat} {f0 : List Int} {f1 : Int} (h : IsS95 Ab cb w0 W g f0 f1) (m : Nat) : IsS95 Ab cb w0 (W.drewN m) g f0 f1 := h
theorem IsS95.drew {Ab : Option Addr} {cb : Nat} {w0 W : World} {g : Nat} {f0 : List Int} {f1 : Int} (h : IsS95 Ab cb w0 W g f0 f1) : IsS95 Ab cb w0 W.drew g f0 f1 := h
theorem IsS95.at_ {Ab : Option Addr} {cb : Nat} {w0 W : World} {g : Nat} {f0 : List Int} {f1 : Int} {w' : World} {m : Nat} (hq : W.drewN m = w') (h : IsS95 Ab cb w0 W g f0 f1) : IsS95 Ab cb w0 w' g f0 f1 := by subst hq; exact IsS95.drewN h m
theorem IsS95.apart {Ab : Option Addr} {cb : Nat} {w0 W : World} {g : Nat} {f0 : List Int} {f1 : Int} {α : Type} {d : Kd α} {e : Nat} {base : Nat} {ok : Nat → Prop} {v : Value} {xs : List α} (h : IsS95 Ab cb w0 W g f0 f1) (ho : d.R e W base ok v xs) (ht : ∀ q, q ∈ e :: d.E → q ≠ 95) : d.R e W base (fun k => ok k ∧ k ≠ g) v xs := by
 obtain ⟨A0, c0, hb, hg, hr0⟩ := h
 exact Kd.R_types ho hb ht
theorem IsS95.own_ne {Ab : Option Addr} {cb : Nat} {w0 W : World} {g : Nat} {f0 : List Int} {f1 : Int} {α : Type} {d : Kd α} {e : Nat} {base : Nat} {ok : Nat → Prop} {v : Value} {xs : List α} (h : IsS95 Ab cb w0 W g f0 f1) (ho : d.R e W base ok v xs) (ht : e ≠ 95) : some g ≠ v.ownBlock := by
 obtain ⟨A0, c0, hb, hg, hr0⟩ := h
 exact Kd.R_ne ho hb ht
theorem IsS95.lt {Ab : Option Addr} {cb : Nat} {w0 W : World} {g : Nat} {f0 : List Int} {f1 : Int} (h : IsS95 Ab cb w0 W g f0 f1) : g < W.heap.size := by
 obtain ⟨A0, c0, hb, hg, hr0⟩ := h
 exact blk_lt hb
theorem IsS95.ge {Ab : Option Addr} {cb : Nat} {w0 W : World} {g : Nat} {f0 : List Int} {f1 : Int} (h : IsS95 Ab cb w0 W g f0 f1) : w0.heap.size ≤ g := by
 obtain ⟨A0, c0, hb, hg, hr0⟩ := h
 exact hg
theorem IsS95.far {Ab : Option Addr} {cb : Nat} {w0 W : World} {g : Nat} {f0 : List Int} {f1 : Int} {p : Addr} (h : IsS95 Ab cb w0 W g f0 f1) (hne : g ≠ p.block) (u : Value) : IsS95 Ab cb w0 (W.setCell p u) g f0 f1 := by
 obtain ⟨A0, c0, hb, hg, hr0⟩ := h
 exact ⟨A0, c0, blk_far hb hne u, hg, hr0⟩
theorem cellS95_0 {W : World} {g : Nat} {A0 : Option Addr} {c0 : Nat} {f0 : List Int} {f1 : Int} (h : W.heap[g]? = some (.cells #[.slice A0 f0.length c0, .int .i64 f1] 95 (0, 0))) : W.cell? ⟨g, 0, none⟩ = some (.slice A0 f0.length c0) := (blk_cell h 0).trans rfl
theorem cellS95_1 {W : World} {g : Nat} {A0 : Option Addr} {c0 : Nat} {f0 : List Int} {f1 : Int} (h : W.heap[g]? = some (.cells #[.slice A0 f0.length c0, .int .i64 f1] 95 (0, 0))) : W.cell? ⟨g, 1, none⟩ = some (.int .i64 f1) := (blk_cell h 1).trans rfl
theorem IsS95.set_1 {Ab : Option Addr} {cb : Nat} {w0 W : World} {g : Nat} {f0 : List Int} {f1 : Int} (h : IsS95 Ab cb w0 W g f0 f1) (x : Int) : IsS95 Ab cb w0 (W.setCell ⟨g, 1, none⟩ (.int .i64 x)) g f0 x := by
 obtain ⟨A0, c0, hb, hg, hr0⟩ := h
 exact ⟨A0, c0, by simpa using blk_set hb 1 (.int .i64 x), hg, hr0⟩
theorem IsS95.new (w0 W : World) (A0 : Option Addr) (c0 : Nat) (f0 : List Int) (f1 : Int) (hB : Below w0.heap.size w0 W) (hr0 : Kd.C (Kd.int .u8) w0 A0 f0.length f0) : IsS95 A0 c0 w0 (W.alloc (.cells #[.slice A0 f0.length c0, .int .i64 f1] 95)) W.heap.size f0 f1 := ⟨A0, c0, by simpa using heap_alloc_new W _, hB.size, hr0, rfl, rfl⟩
def r_byte.f (s0_0 : List Int) (s0_1 : Int) : Option (Int × Int × Int × Int) := if s0_1 ≥ (s0_0.length : Int) then (some (0, 1, (s0_0.length : Int), s0_1)) else (if 0 ≤ (wrap64 ((wrap64 (s0_1 + 1)) - 1)) then (if (wrap64 ((wrap64 (s0_1 + 1)) - 1)) < (s0_0.length : Int) then (some (rd s0_0 (wrap64 ((wrap64 (s0_1 + 1)) - 1)), 0, 0, wrap64 (s0_1 + 1))) else (none)) else (none))
set_option maxHeartbeats 8000000 in
set_option maxRecDepth 100000 in
theorem r_byte.calls {Ab : Option Addr} {cb : Nat} (g : Nat) (s0_0 : List Int) (s0_1 : Int) (r1 : Int) (r2 : Int) (r3 : Int) (r4 : Int) (w0 w : World) (hI : IsS95 Ab cb w0 w g s0_0 s0_1) (hB : Below w0.heap.size w0 w) (h : r_byte.f s0_0 s0_1 = some (r1, r2, r3, r4)) :
  Calls Tryd.prog 62 #[.pointer (some ⟨g, 0, none⟩)] w fun e w' => Out (.int .u8 r1) r2 r3 e ∧ IsS95 Ab cb w0 w' g s0_0 r4 ∧ Below w0.heap.size w0 w' ∧ KeepBut w w' g none := by
 have HI0 := am hI
 have HK := am (KeepBut.refl w g none)
 have HL := am hB.size
 clear hI
 have HW0 := am hB.size
 have HB := am hB
 clear hB
 have H : (if s0_1 ≥ (s0_0.length : Int) then (some (0, 1, (s0_0.length : Int), s0_1)) else (if 0 ≤ (wrap64 ((wrap64 (s0_1 + 1)) - 1)) then (if (wrap64 ((wrap64 (s0_1 + 1)) - 1)) < (s0_0.length : Int) then (some (rd s0_0 (wrap64 ((wrap64 (s0_1 + 1)) - 1)), 0, 0, wrap64 (s0_1 + 1))) else (none)) else (none))) = some (r1, r2, r3, r4) := h
 clear h
 by_cases c2 : s0_1 ≥ (s0_0.length : Int)
 ·rw [if_pos c2] at H
  have c2b0 : decide ((s0_0.length : Int) ≤ s0_1) = true := decide_eq_true c2
  clear c2
  simp only [Option.some.injEq, Prod.mk.injEq] at H
  obtain ⟨rfl, rfl, rfl, rfl⟩ := H
  obtain ⟨ASz3_0, cSz3_0, HGz3, hgz3, HSz3_0⟩ := HI0.out
  have hcz3_0 := cellS95_0 HGz3
  have hcz3_1 := cellS95_1 HGz3
  have hfz3_1 := blk_frozen HGz3 1
  clear HGz3 hgz3
  go_enter Tryd.func62, Tryd.ntmps62
  go_wp2
  repeat (go_quiet (fail); try go_wp2)
  (first | go_ret | refine ⟨rfl, ?_⟩)
  exact ⟨by first | exact .inr ⟨rfl, rfl⟩ | exact .inl ⟨rfl, er⟩, by repeat (first | (with_reducible first | exact HI0.out | apply IsS95.alloc | apply IsS95.drewN | apply IsS95.drew | apply IsS95.set_1) | exact HI0.out), by repeat (first | (with_reducible first | exact HB.out | apply below_alloc | apply pw_below_drewN | apply below_drew1 | refine below_set ?_ (IsS95.ge HI0.out)) | exact HB.out), by repeat (first | (with_reducible first | exact HK.out | apply KeepBut.set_ | apply keep_drewN | apply keep_drew | apply keep_alloc) | exact HK.out)⟩
 rw [if_neg c2] at H
 have c2b0 : decide ((s0_0.length : Int) ≤ s0_1) = false := decide_eq_false c2
 clear c2
 obtain ⟨ji4, hji4⟩ : ∃ j_ : Int, (wrap64 ((wrap64 (s0_1 + 1)) - 1)) = j_ := ⟨_, rfl⟩
 replace H : (if 0 ≤ (ji4) then (if (ji4) < (s0_0.length : Int) then (some (rd s0_0 (ji4), 0, 0, wrap64 (s0_1 + 1))) else (none)) else (none)) = some (r1, r2, r3, r4) := by first | (rw [hji4] at H; exact H) | (simp only [hji4] at H ⊢; exact H)
 have hji4w : (IntKind.i64.wrap ((wrap64 (s0_1 + 1)) - 1)) = ji4 := (i64_w _).trans hji4
 by_cases c5 : 0 ≤ (ji4)
 rotate_left
 ·rw [if_neg c5] at H
  exact absurd H (by simp)
 rw [if_pos c5] at H
 have c5b0 := decide_eq_true c5
 clear c5
 by_cases c6 : (ji4) < (s0_0.length : Int)
 rotate_left
 ·rw [if_neg c6] at H
  exact absurd H (by simp)
 rw [if_pos c6] at H
 have c6b0 := decide_eq_true c6
 clear c6
 simp only [Option.some.injEq, Prod.mk.injEq] at H
 obtain ⟨rfl, rfl, rfl, rfl⟩ := H
 obtain ⟨ASz7_0, cSz7_0, HGz7, hgz7, HSz7_0⟩ := HI0.out
 have hcz7_0 := cellS95_0 HGz7
 have hcz7_1 := cellS95_1 HGz7
 have hfz7_1 := blk_frozen HGz7 1
 clear HGz7 hgz7
 have p101 : 0 ≤ ((ji4) : Int) := of_decide_eq_true od
 have q101 : (ji4) < (s0_0.length : Int) := of_decide_eq_true od
 obtain ⟨ad101, e101, hx101_0⟩ := Kd.at_int HSz7_0.1 (ji4) p101 q101
 cases e101
 have hn101_0 : ad101.block ≠ g := Nat.ne_of_lt (Nat.lt_of_lt_of_le (by have := World.block_lt_of_cell? _ _ hx101_0; first | rwa [add_block] at this | exact this) (IsS95.ge HI0.out))
 replace hx101_0 := pw_cell_below HB.out hx101_0
 replace hx101_0 := (cell_far (p := ⟨g, 1, none⟩) (by first | (rw [add_block]; exact hn101_0) | (show (Addr.add _ _).block ≠ _; rw [add_block]; exact hn101_0) | exact hn101_0) (.int .i64 (wrap64 (s0_1 + 1)))).trans hx101_0
 (try have hy101_0 := fun (n_ : Nat) => (show (((w.drewN n_).setCell ⟨g, 1, none⟩ (.int .i64 (wrap64 (s0_1 + 1))))).cell? _ = some _ from hx101_0))
 clear hn101_0
 replace p101 := eq_true p101
 replace q101 := eq_true q101
 go_enter Tryd.func62, Tryd.ntmps62
 go_wp2
 repeat (go_quiet (fail); try go_wp2)
 (first | go_ret | refine ⟨rfl, ?_⟩)
 exact ⟨by first | exact .inr ⟨rfl, rfl⟩ | exact .inl ⟨rfl, by first | rfl | (simp [errW_none, errW_some] <;> rfl) | (simp only [← hji4]; first | rfl | (simp [errW_none, errW_some] <;> rfl)) | (simp [*, errW_none, errW_some] <;> rfl)⟩, by repeat (first | (with_reducible first | exact HI0.out | apply IsS95.alloc | apply IsS95.drewN | apply IsS95.drew | apply IsS95.set_1) | exact HI0.out), by repeat (first | (with_reducible first | exact HB.out | apply below_alloc | apply pw_below_drewN | apply below_drew1 | refine below_set ?_ (IsS95.ge HI0.out)) | exact HB.out), by repeat (first | (with_reducible first | exact HK.out | apply KeepBut.set_ | apply keep_drewN | apply keep_drew | apply keep_alloc) | exact HK.out)⟩
end Go.Proofs.YtdkejcadoepnnaaDoor.ECc
end
section
namespace Go.Proofs.YtdkejcadoepnnaaDoor.ECc
open Go.RowKit Go.Proofs.YtdkejcadoepnnaaDoorW.PrintWords Go.Proofs.YtdkejcadoepnnaaDoorW.PrintLast Go.Proofs.YtdkejcadoepnnaaDoorW.PrintMore
open Go.Proofs.YtdkejcadoepnnaaDoor.X
attribute [local go_sem] max2_int min2_int max_two min_two max_three min_three max_four min_four
set_option linter.unusedVariables false
def r_number.l0 : Nat → Int → Int → Int → Int → List Int → Int → Option (Int × Int × Int × Int)
 | 0, _, _, _, _, _, _ => none
 | k + 1, x2, x3, x4, x11, x1000, x1001 => if x11 < 5 then ((r_byte.f x1000 x1001).bind fun bt102 => (if bt102.2.1 = 1 then (some (x2, 1, bt102.2.2.1, bt102.2.2.2)) else (if 0 ≤ (wrap64 (7 * x11)) then (if bt102.1 < 128 then (if bt102.1 = 0 then (if x11 > 0 then (some (x2, 1, x3, bt102.2.2.2)) else (if (Go.bits .or .i64 x4 (shl .i64 (wrap64 (Go.bits .and .u8 bt102.1 127)) (wrap64 (7 * x11)))) > 2147483647 then (some (x2, 1, x3, bt102.2.2.2)) else (some (Go.bits .or .i64 x4 (shl .i64 (wrap64 (Go.bits .and .u8 bt102.1 127)) (wrap64 (7 * x11))), 0, 0, bt102.2.2.2)))) else (if (Go.bits .or .i64 x4 (shl .i64 (wrap64 (Go.bits .and .u8 bt102.1 127)) (wrap64 (7 * x11)))) > 2147483647 then (some (x2, 1, x3, bt102.2.2.2)) else (some (Go.bits .or .i64 x4 (shl .i64 (wrap64 (Go.bits .and .u8 bt102.1 127)) (wrap64 (7 * x11))), 0, 0, bt102.2.2.2)))) else (r_number.l0 k x2 x3 (Go.bits .or .i64 x4 (shl .i64 (wrap64 (Go.bits .and .u8 bt102.1 127)) (wrap64 (7 * x11)))) (wrap64 (x11 + 1)) x1000 bt102.2.2.2)) else (none)))) else (some (x2, 1, x3, x1001))
def r_number.f (k : Nat) (s0_0 : List Int) (s0_1 : Int) : Option (Int × Int × Int × Int) := r_number.l0 k 0 s0_1 0 0 s0_0 s0_1
set_option maxHeartbeats 8000000 in
set_option maxRecDepth 100000 in
theorem r_number.calls {Ab : Option Addr} {cb : Nat} (k : Nat) (g : Nat) (s0_0 : List Int) (s0_1 : Int) (r1 : Int) (r2 : Int) (r3 : Int) (r4 : Int) (w0 w : World) (hI : IsS95 Ab cb w0 w g s0_0 s0_1) (hB : Below w0.heap.size w0 w) (h : r_number.f k s0_0 s0_1 = some (r1, r2, r3, r4)) :
  Calls Tryd.prog 63 #[.pointer (some ⟨g, 0, none⟩)] w fun e w' => Out (.int .i64 r1) r2 r3 e ∧ IsS95 Ab cb w0 w' g s0_0 r4 ∧ Below w0.heap.size w0 w' ∧ KeepBut w w' g none := by
 have HI0 := am hI
 have HK := am (KeepBut.refl w g none)
 have HL := am hB.size
 clear hI
 have HW0 := am hB.size
 have HB := am hB
 clear hB
 have H : (r_number.l0 k 0 s0_1 0 0 s0_0 s0_1) = some (r1, r2, r3, r4) := h
 clear h
 have H' := am H
 clear H
 obtain ⟨ASz2_0, cSz2_0, HGz2, hgz2, HSz2_0⟩ := HI0.out
 have hcz2_0 := cellS95_0 HGz2
 have hcz2_1 := cellS95_1 HGz2
 have hfz2_1 := blk_frozen HGz2 1
 clear HGz2 hgz2
 go_enter Tryd.func63, Tryd.ntmps63
 go_wp2
 go_loopg [2, 4, 11] k (fun kq v2 v4 v11 w' => ∃ (x2_1 : Int) (x4_1 : Int) (x11_1 : Int) (x1001_1 : Int), v2 = .int .i64 x2_1 ∧ v4 = .int .i64 x4_1 ∧ v11 = .int .i64 x11_1 ∧ Aside0 (r_number.l0 kq x2_1 s0_1 x4_1 x11_1 s0_0 x1001_1 = some (r1, r2, r3, r4)) ∧ Aside0 (kq ≤ k) ∧ Aside0 (IsS95 Ab cb w0 w' g s0_0 x1001_1) ∧ Aside0 (KeepBut w w' g none) ∧ Aside0 (Below w0.heap.size w0 w'))
 case atStart => exact ⟨(0), (0), (0), (s0_1), tv, tv, tv, H', ⟨Nat.le_refl _⟩, ⟨by repeat (first | (with_reducible first | exact HI0.out | apply IsS95.alloc | apply IsS95.drewN | apply IsS95.drew | apply IsS95.set_1) | exact HI0.out)⟩, ⟨by repeat (first | (with_reducible first | exact HK.out | apply KeepBut.set_ | apply keep_drewN | apply keep_drew | apply keep_alloc) | exact HK.out)⟩, ⟨by repeat (first | (with_reducible first | exact HB.out | apply below_alloc | apply pw_below_drewN | apply below_drew1 | refine below_set ?_ (IsS95.ge HI0.out)) | exact HB.out)⟩⟩
 case round =>
  clear H'
  try clear p2
  try clear hcz2_0 hcz2_1
  try clear hfz2_1
  obtain ⟨x2_1, x4_1, x11_1, x1001_1, rfl, rfl, rfl, HA, HK1, HI0, HK, HB⟩ := hrel
  cases gk with
  | zero => exact absurd HA.out (by simp [r_number.l0])
  | succ k1 =>
   have H := HA.out
   clear HA
   simp only [r_number.l0] at H
   by_cases c3 : x11_1 < 5
   rotate_left
   ·rw [if_neg c3] at H
    have c3b0 := decide_eq_false c3
    clear c3
    simp only [Option.some.injEq, Prod.mk.injEq] at H
    obtain ⟨rfl, rfl, rfl, rfl⟩ := H
    go_wp2
    (first | go_ret | refine ⟨rfl, ?_⟩)
    exact ⟨by first | exact .inr ⟨rfl, rfl⟩ | exact .inl ⟨rfl, er⟩, by repeat (first | (with_reducible first | exact HI0.out | apply IsS95.alloc | apply IsS95.drewN | apply IsS95.drew | apply IsS95.set_1) | exact HI0.out), by repeat (first | (with_reducible first | exact HB.out | apply below_alloc | apply pw_below_drewN | apply below_drew1 | refine below_set ?_ (IsS95.ge HI0.out)) | exact HB.out), by repeat (first | (with_reducible first | exact HK.out | apply KeepBut.set_ | apply keep_drewN | apply keep_drew | apply keep_alloc) | exact HK.out)⟩
   rw [if_pos c3] at H
   have c3b0 := decide_eq_true c3
   clear c3
   replace H := Option.bind_eq_some_iff.mp H
   obtain ⟨⟨t102, t103, t104, t105⟩, A40, H⟩ := H
   replace H : (if t103 = 1 then (some (x2_1, 1, t104, t105)) else (if 0 ≤ (wrap64 (7 * x11_1)) then (if t102 < 128 then (if t102 = 0 then (if x11_1 > 0 then (some (x2_1, 1, s0_1, t105)) else (if (Go.bits .or .i64 x4_1 (shl .i64 (wrap64 (Go.bits .and .u8 t102 127)) (wrap64 (7 * x11_1)))) > 2147483647 then (some (x2_1, 1, s0_1, t105)) else (some (Go.bits .or .i64 x4_1 (shl .i64 (wrap64 (Go.bits .and .u8 t102 127)) (wrap64 (7 * x11_1))), 0, 0, t105)))) else (if (Go.bits .or .i64 x4_1 (shl .i64 (wrap64 (Go.bits .and .u8 t102 127)) (wrap64 (7 * x11_1)))) > 2147483647 then (some (x2_1, 1, s0_1, t105)) else (some (Go.bits .or .i64 x4_1 (shl .i64 (wrap64 (Go.bits .and .u8 t102 127)) (wrap64 (7 * x11_1))), 0, 0, t105)))) else (r_number.l0 k1 x2_1 s0_1 (Go.bits .or .i64 x4_1 (shl .i64 (wrap64 (Go.bits .and .u8 t102 127)) (wrap64 (7 * x11_1)))) (wrap64 (x11_1 + 1)) s0_0 t105)) else (none))) = some (r1, r2, r3, r4) := H
   have A4 := am A40
   clear A40
   by_cases c5 : t103 = 1
   ·rw [if_pos c5] at H
    have c5b0 : (t103 == 1) = true := beq_iff_eq.mpr c5
    have c5b1 : (t103 != 1) = false := bne_eq_false_iff_eq.mpr c5
    clear c5
    simp only [Option.some.injEq, Prod.mk.injEq] at H
    obtain ⟨rfl, rfl, rfl, rfl⟩ := H
    go_wp2_with (first | ((with_reducible refine gate_callee (f := 62) rfl ?_); refine goesO_ (some 15) rfl rfl Tryd.func62 (by kernel_rfl) rfl #[.pointer (some ⟨g, 0, none⟩)] rfl ls ?_; (with_reducible refine (r_byte.calls (Ab := Ab) (cb := cb) g s0_0 x1001_1 t102 t103 t104 t105 w0 _ ?side1 ?side2 A4.out).mono ?_); (case side1 => repeat (first | (with_reducible first | exact HI0.out | apply IsS95.alloc | apply IsS95.drewN | apply IsS95.drew | apply IsS95.set_1) | exact HI0.out)); (case side2 => repeat (first | (with_reducible first | exact HB.out | apply below_alloc | apply pw_below_drewN | apply below_drew1 | refine below_set ?_ (IsS95.ge HI0.out)) | exact HB.out)); rintro e w6 ⟨ho, hi, hb, hk⟩; rcases ho with ⟨hm_, rfl⟩ | ⟨hm_, rfl⟩; (all_goals (first | exact absurd hm_ (mk0 (by assumption)) | exact absurd hm_ (mk1 (by assumption)) | skip)); (first | refine .inl ⟨_, rfl, ?_⟩ | refine .inr ⟨_, rfl, ?_⟩); have n0_ := am (KeepBut.trans kb hk (.inl rfl)); have n1_ := am (hb); have n2_ := am (hi); clear HK; clear HB; clear HI0; have HK := n0_; have HB := n1_; have HI0 := n2_; clear n0_ n1_ n2_; (try clear hb); (try clear hb2); (try clear hk); (try clear hi)))
    (first | go_ret | refine ⟨rfl, ?_⟩)
    exact ⟨by first | exact .inr ⟨rfl, rfl⟩ | exact .inl ⟨rfl, er⟩, by repeat (first | (with_reducible first | exact HI0.out | apply IsS95.alloc | apply IsS95.drewN | apply IsS95.drew | apply IsS95.set_1) | exact HI0.out), by repeat (first | (with_reducible first | exact HB.out | apply below_alloc | apply pw_below_drewN | apply below_drew1 | refine below_set ?_ (IsS95.ge HI0.out)) | exact HB.out), by repeat (first | (with_reducible first | exact HK.out | apply KeepBut.set_ | apply keep_drewN | apply keep_drew | apply keep_alloc) | exact HK.out)⟩
   rw [if_neg c5] at H
   have c5b0 : (t103 == 1) = false := beq_eq_false_iff_ne.mpr c5
   have c5b1 : (t103 != 1) = true := bne_iff_ne.mpr c5
   obtain ⟨ji7, hji7⟩ : ∃ j_ : Int, (wrap64 (7 * x11_1)) = j_ := ⟨_, rfl⟩
   replace H : (if 0 ≤ (ji7) then (if t102 < 128 then (if t102 = 0 then (if x11_1 > 0 then (some (x2_1, 1, s0_1, t105)) else (if (Go.bits .or .i64 x4_1 (shl .i64 (wrap64 (Go.bits .and .u8 t102 127)) (ji7))) > 2147483647 then (some (x2_1, 1, s0_1, t105)) else (some (Go.bits .or .i64 x4_1 (shl .i64 (wrap64 (Go.bits .and .u8 t102 127)) (ji7)), 0, 0, t105)))) else (if (Go.bits .or .i64 x4_1 (shl .i64 (wrap64 (Go.bits .and .u8 t102 127)) (ji7))) > 2147483647 then (some (x2_1, 1, s0_1, t105)) else (some (Go.bits .or .i64 x4_1 (shl .i64 (wrap64 (Go.bits .and .u8 t102 127)) (ji7)), 0, 0, t105)))) else (r_number.l0 k1 x2_1 s0_1 (Go.bits .or .i64 x4_1 (shl .i64 (wrap64 (Go.bits .and .u8 t102 127)) (ji7))) (wrap64 (x11_1 + 1)) s0_0 t105)) else (none)) = some (r1, r2, r3, r4) := by first | (rw [hji7] at H; exact H) | (simp only [hji7] at H ⊢; exact H)
   (try rw [hji7] at A4)
   have hji7w : (IntKind.i64.wrap (7 * x11_1)) = ji7 := (i64_w _).trans hji7
   by_cases c8 : 0 ≤ (ji7)
   rotate_left
   ·rw [if_neg c8] at H
    exact absurd H (by simp)
   rw [if_pos c8] at H
   have c8b0 := eq_true c8
   have c8b1 := decide_eq_true c8
   clear c8
   obtain ⟨ji9, hji9⟩ : ∃ j_ : Int, (shl .i64 (wrap64 (Go.bits .and .u8 t102 127)) (ji7)) = j_ := ⟨_, rfl⟩
   replace H : (if t102 < 128 then (if t102 = 0 then (if x11_1 > 0 then (some (x2_1, 1, s0_1, t105)) else (if (Go.bits .or .i64 x4_1 (ji9)) > 2147483647 then (some (x2_1, 1, s0_1, t105)) else (some (Go.bits .or .i64 x4_1 (ji9), 0, 0, t105)))) else (if (Go.bits .or .i64 x4_1 (ji9)) > 2147483647 then (some (x2_1, 1, s0_1, t105)) else (some (Go.bits .or .i64 x4_1 (ji9), 0, 0, t105)))) else (r_number.l0 k1 x2_1 s0_1 (Go.bits .or .i64 x4_1 (ji9)) (wrap64 (x11_1 + 1)) s0_0 t105)) = some (r1, r2, r3, r4) := by first | (rw [hji9] at H; exact H) | (simp only [hji9] at H ⊢; exact H)
   (try rw [hji9] at A4)
   have hji9_ : (IntKind.i64.wrap ((wrap64 (Go.bits .and .u8 t102 127)) * 2 ^ min (ji7).toNat 64)) = ji9 := hji9
   have hji9z : (ji7) ≤ 64 → (IntKind.i64.wrap ((wrap64 (Go.bits .and .u8 t102 127)) * 2 ^ (ji7).toNat)) = ji9 := shl_small hji9
   have hji9y : (wrap64 ((wrap64 (Go.bits .and .u8 t102 127)) * 2 ^ min (ji7).toNat 64)) = ji9 := (i64_w _).symm.trans hji9_
   have hji9x : (ji7) ≤ 64 → (wrap64 ((wrap64 (Go.bits .and .u8 t102 127)) * 2 ^ (ji7).toNat)) = ji9 := fun h_ => (i64_w _).symm.trans (hji9z h_)
   by_cases c10 : t102 < 128
   rotate_left
   ·rw [if_neg c10] at H
    have c10b0 := decide_eq_false c10
    clear c10
    have H' := am H
    clear H
    go_wp2_with (first | ((with_reducible refine gate_callee (f := 62) rfl ?_); refine goesO_ (some 15) rfl rfl Tryd.func62 (by kernel_rfl) rfl #[.pointer (some ⟨g, 0, none⟩)] rfl ls ?_; (with_reducible refine (r_byte.calls (Ab := Ab) (cb := cb) g s0_0 x1001_1 t102 t103 t104 t105 w0 _ ?side1 ?side2 A4.out).mono ?_); (case side1 => repeat (first | (with_reducible first | exact HI0.out | apply IsS95.alloc | apply IsS95.drewN | apply IsS95.drew | apply IsS95.set_1) | exact HI0.out)); (case side2 => repeat (first | (with_reducible first | exact HB.out | apply below_alloc | apply pw_below_drewN | apply below_drew1 | refine below_set ?_ (IsS95.ge HI0.out)) | exact HB.out)); rintro e w20 ⟨ho, hi, hb, hk⟩; rcases ho with ⟨hm_, rfl⟩ | ⟨hm_, rfl⟩; (all_goals (first | exact absurd hm_ (mk0 (by assumption)) | exact absurd hm_ (mk1 (by assumption)) | skip)); (first | refine .inl ⟨_, rfl, ?_⟩ | refine .inr ⟨_, rfl, ?_⟩); have n0_ := am (KeepBut.trans kb hk (.inl rfl)); have n1_ := am (hb); have n2_ := am (hi); clear HK; clear HB; clear HI0; have HK := n0_; have HB := n1_; have HI0 := n2_; clear n0_ n1_ n2_; (try clear hb); (try clear hb2); (try clear hk); (try clear hi)))
    go_roundg k1
    case measure => have := HK1.out; omega
    case rel => exact ⟨(x2_1), (Go.bits .or .i64 x4_1 (ji9)), (wrap64 (x11_1 + 1)), (t105), tv, (by first | rfl | (simp; done) | (simp only [← hji9] <;> (first | rfl | simp)) | (simp [*]; done)), tv, H', ⟨by have := HK1.out; omega⟩, ⟨by repeat (first | (with_reducible first | exact HI0.out | apply IsS95.alloc | apply IsS95.drewN | apply IsS95.drew | apply IsS95.set_1) | exact HI0.out)⟩, ⟨by repeat (first | (with_reducible first | exact HK.out | apply KeepBut.set_ | apply keep_drewN | apply keep_drew | apply keep_alloc) | exact HK.out)⟩, ⟨by repeat (first | (with_reducible first | exact HB.out | apply below_alloc | apply pw_below_drewN | apply below_drew1 | refine below_set ?_ (IsS95.ge HI0.out)) | exact HB.out)⟩⟩
   rw [if_pos c10] at H
   have c10b0 := decide_eq_true c10
   clear c10
   by_cases c11 : t102 = 0
   rotate_left
   ·rw [if_neg c11] at H
    have c11b0 : (t102 == 0) = false := beq_eq_false_iff_ne.mpr c11
    have c11b1 : (t102 != 0) = true := bne_iff_ne.mpr c11
    by_cases c17 : (Go.bits .or .i64 x4_1 (ji9)) > 2147483647
    ·rw [if_pos c17] at H
     have c17b0 : decide (2147483647 < (Go.bits .or .i64 x4_1 (ji9))) = true := decide_eq_true c17
     clear c17
     simp only [Option.some.injEq, Prod.mk.injEq] at H
     obtain ⟨rfl, rfl, rfl, rfl⟩ := H
     go_wp2_with (first | ((with_reducible refine gate_callee (f := 62) rfl ?_); refine goesO_ (some 15) rfl rfl Tryd.func62 (by kernel_rfl) rfl #[.pointer (some ⟨g, 0, none⟩)] rfl ls ?_; (with_reducible refine (r_byte.calls (Ab := Ab) (cb := cb) g s0_0 x1001_1 t102 t103 t104 t105 w0 _ ?side1 ?side2 A4.out).mono ?_); (case side1 => repeat (first | (with_reducible first | exact HI0.out | apply IsS95.alloc | apply IsS95.drewN | apply IsS95.drew | apply IsS95.set_1) | exact HI0.out)); (case side2 => repeat (first | (with_reducible first | exact HB.out | apply below_alloc | apply pw_below_drewN | apply below_drew1 | refine below_set ?_ (IsS95.ge HI0.out)) | exact HB.out)); rintro e w18 ⟨ho, hi, hb, hk⟩; rcases ho with ⟨hm_, rfl⟩ | ⟨hm_, rfl⟩; (all_goals (first | exact absurd hm_ (mk0 (by assumption)) | exact absurd hm_ (mk1 (by assumption)) | skip)); (first | refine .inl ⟨_, rfl, ?_⟩ | refine .inr ⟨_, rfl, ?_⟩); have n0_ := am (KeepBut.trans kb hk (.inl rfl)); have n1_ := am (hb); have n2_ := am (hi); clear HK; clear HB; clear HI0; have HK := n0_; have HB := n1_; have HI0 := n2_; clear n0_ n1_ n2_; (try clear hb); (try clear hb2); (try clear hk); (try clear hi)))
     (first | go_ret | refine ⟨rfl, ?_⟩)
     exact ⟨by first | exact .inr ⟨rfl, rfl⟩ | exact .inl ⟨rfl, by first | rfl | (simp [errW_none, errW_some] <;> rfl) | (simp only [← hji7, ← hji9]; first | rfl | (simp [errW_none, errW_some] <;> rfl)) | (simp [*, errW_none, errW_some] <;> rfl)⟩, by repeat (first | (with_reducible first | exact HI0.out | apply IsS95.alloc | apply IsS95.drewN | apply IsS95.drew | apply IsS95.set_1) | exact HI0.out), by repeat (first | (with_reducible first | exact HB.out | apply below_alloc | apply pw_below_drewN | apply below_drew1 | refine below_set ?_ (IsS95.ge HI0.out)) | exact HB.out), by repeat (first | (with_reducible first | exact HK.out | apply KeepBut.set_ | apply keep_drewN | apply keep_drew | apply keep_alloc) | exact HK.out)⟩
    rw [if_neg c17] at H
    have c17b0 : decide (2147483647 < (Go.bits .or .i64 x4_1 (ji9))) = false := decide_eq_false c17
    clear c17
    simp only [Option.some.injEq, Prod.mk.injEq] at H
    obtain ⟨rfl, rfl, rfl, rfl⟩ := H
    go_wp2_with (first | ((with_reducible refine gate_callee (f := 62) rfl ?_); refine goesO_ (some 15) rfl rfl Tryd.func62 (by kernel_rfl) rfl #[.pointer (some ⟨g, 0, none⟩)] rfl ls ?_; (with_reducible refine (r_byte.calls (Ab := Ab) (cb := cb) g s0_0 x1001_1 t102 t103 t104 t105 w0 _ ?side1 ?side2 A4.out).mono ?_); (case side1 => repeat (first | (with_reducible first | exact HI0.out | apply IsS95.alloc | apply IsS95.drewN | apply IsS95.drew | apply IsS95.set_1) | exact HI0.out)); (case side2 => repeat (first | (with_reducible first | exact HB.out | apply below_alloc | apply pw_below_drewN | apply below_drew1 | refine below_set ?_ (IsS95.ge HI0.out)) | exact HB.out)); rintro e w19 ⟨ho, hi, hb, hk⟩; rcases ho with ⟨hm_, rfl⟩ | ⟨hm_, rfl⟩; (all_goals (first | exact absurd hm_ (mk0 (by assumption)) | exact absurd hm_ (mk1 (by assumption)) | skip)); (first | refine .inl ⟨_, rfl, ?_⟩ | refine .inr ⟨_, rfl, ?_⟩); have n0_ := am (KeepBut.trans kb hk (.inl rfl)); have n1_ := am (hb); have n2_ := am (hi); clear HK; clear HB; clear HI0; have HK := n0_; have HB := n1_; have HI0 := n2_; clear n0_ n1_ n2_; (try clear hb); (try clear hb2); (try clear hk); (try clear hi)))
    (first | go_ret | refine ⟨rfl, ?_⟩)
    exact ⟨by first | exact .inr ⟨rfl, rfl⟩ | exact .inl ⟨rfl, by first | rfl | (simp [errW_none, errW_some] <;> rfl) | (simp only [← hji7, ← hji9]; first | rfl | (simp [errW_none, errW_some] <;> rfl)) | (simp [*, errW_none, errW_some] <;> rfl)⟩, by repeat (first | (with_reducible first | exact HI0.out | apply IsS95.alloc | apply IsS95.drewN | apply IsS95.drew | apply IsS95.set_1) | exact HI0.out), by repeat (first | (with_reducible first | exact HB.out | apply below_alloc | apply pw_below_drewN | apply below_drew1 | refine below_set ?_ (IsS95.ge HI0.out)) | exact HB.out), by repeat (first | (with_reducible first | exact HK.out | apply KeepBut.set_ | apply keep_drewN | apply keep_drew | apply keep_alloc) | exact HK.out)⟩
   rw [if_pos c11] at H
   have c11b0 : (t102 == 0) = true := beq_iff_eq.mpr c11
   have c11b1 : (t102 != 0) = false := bne_eq_false_iff_eq.mpr c11
   clear c11
   by_cases c12 : x11_1 > 0
   ·rw [if_pos c12] at H
    have c12b0 : decide (0 < x11_1) = true := decide_eq_true c12
    clear c12
    simp only [Option.some.injEq, Prod.mk.injEq] at H
    obtain ⟨rfl, rfl, rfl, rfl⟩ := H
    go_wp2_with (first | ((with_reducible refine gate_callee (f := 62) rfl ?_); refine goesO_ (some 15) rfl rfl Tryd.func62 (by kernel_rfl) rfl #[.pointer (some ⟨g, 0, none⟩)] rfl ls ?_; (with_reducible refine (r_byte.calls (Ab := Ab) (cb := cb) g s0_0 x1001_1 t102 t103 t104 t105 w0 _ ?side1 ?side2 A4.out).mono ?_); (case side1 => repeat (first | (with_reducible first | exact HI0.out | apply IsS95.alloc | apply IsS95.drewN | apply IsS95.drew | apply IsS95.set_1) | exact HI0.out)); (case side2 => repeat (first | (with_reducible first | exact HB.out | apply below_alloc | apply pw_below_drewN | apply below_drew1 | refine below_set ?_ (IsS95.ge HI0.out)) | exact HB.out)); rintro e w13 ⟨ho, hi, hb, hk⟩; rcases ho with ⟨hm_, rfl⟩ | ⟨hm_, rfl⟩; (all_goals (first | exact absurd hm_ (mk0 (by assumption)) | exact absurd hm_ (mk1 (by assumption)) | skip)); (first | refine .inl ⟨_, rfl, ?_⟩ | refine .inr ⟨_, rfl, ?_⟩); have n0_ := am (KeepBut.trans kb hk (.inl rfl)); have n1_ := am (hb); have n2_ := am (hi); clear HK; clear HB; clear HI0; have HK := n0_; have HB := n1_; have HI0 := n2_; clear n0_ n1_ n2_; (try clear hb); (try clear hb2); (try clear hk); (try clear hi)))
    (first | go_ret | refine ⟨rfl, ?_⟩)
    exact ⟨by first | exact .inr ⟨rfl, rfl⟩ | exact .inl ⟨rfl, by first | rfl | (simp [errW_none, errW_some] <;> rfl) | (simp only [← hji7, ← hji9]; first | rfl | (simp [errW_none, errW_some] <;> rfl)) | (simp [*, errW_none, errW_some] <;> rfl)⟩, by repeat (first | (with_reducible first | exact HI0.out | apply IsS95.alloc | apply IsS95.drewN | apply IsS95.drew | apply IsS95.set_1) | exact HI0.out), by repeat (first | (with_reducible first | exact HB.out | apply below_alloc | apply pw_below_drewN | apply below_drew1 | refine below_set ?_ (IsS95.ge HI0.out)) | exact HB.out), by repeat (first | (with_reducible first | exact HK.out | apply KeepBut.set_ | apply keep_drewN | apply keep_drew | apply keep_alloc) | exact HK.out)⟩
   rw [if_neg c12] at H
   have c12b0 : decide (0 < x11_1) = false := decide_eq_false c12
   clear c12
   by_cases c14 : (Go.bits .or .i64 x4_1 (ji9)) > 2147483647
   ·rw [if_pos c14] at H
    have c14b0 : decide (2147483647 < (Go.bits .or .i64 x4_1 (ji9))) = true := decide_eq_true c14
    clear c14
    simp only [Option.some.injEq, Prod.mk.injEq] at H
    obtain ⟨rfl, rfl, rfl, rfl⟩ := H
    go_wp2_with (first | ((with_reducible refine gate_callee (f := 62) rfl ?_); refine goesO_ (some 15) rfl rfl Tryd.func62 (by kernel_rfl) rfl #[.pointer (some ⟨g, 0, none⟩)] rfl ls ?_; (with_reducible refine (r_byte.calls (Ab := Ab) (cb := cb) g s0_0 x1001_1 t102 t103 t104 t105 w0 _ ?side1 ?side2 A4.out).mono ?_); (case side1 => repeat (first | (with_reducible first | exact HI0.out | apply IsS95.alloc | apply IsS95.drewN | apply IsS95.drew | apply IsS95.set_1) | exact HI0.out)); (case side2 => repeat (first | (with_reducible first | exact HB.out | apply below_alloc | apply pw_below_drewN | apply below_drew1 | refine below_set ?_ (IsS95.ge HI0.out)) | exact HB.out)); rintro e w15 ⟨ho, hi, hb, hk⟩; rcases ho with ⟨hm_, rfl⟩ | ⟨hm_, rfl⟩; (all_goals (first | exact absurd hm_ (mk0 (by assumption)) | exact absurd hm_ (mk1 (by assumption)) | skip)); (first | refine .inl ⟨_, rfl, ?_⟩ | refine .inr ⟨_, rfl, ?_⟩); have n0_ := am (KeepBut.trans kb hk (.inl rfl)); have n1_ := am (hb); have n2_ := am (hi); clear HK; clear HB; clear HI0; have HK := n0_; have HB := n1_; have HI0 := n2_; clear n0_ n1_ n2_; (try clear hb); (try clear hb2); (try clear hk); (try clear hi)))
    (first | go_ret | refine ⟨rfl, ?_⟩)
    exact ⟨by first | exact .inr ⟨rfl, rfl⟩ | exact .inl ⟨rfl, by first | rfl | (simp [errW_none, errW_some] <;> rfl) | (simp only [← hji7, ← hji9]; first | rfl | (simp [errW_none, errW_some] <;> rfl)) | (simp [*, errW_none, errW_some] <;> rfl)⟩, by repeat (first | (with_reducible first | exact HI0.out | apply IsS95.alloc | apply IsS95.drewN | apply IsS95.drew | apply IsS95.set_1) | exact HI0.out), by repeat (first | (with_reducible first | exact HB.out | apply below_alloc | apply pw_below_drewN | apply below_drew1 | refine below_set ?_ (IsS95.ge HI0.out)) | exact HB.out), by repeat (first | (with_reducible first | exact HK.out | apply KeepBut.set_ | apply keep_drewN | apply keep_drew | apply keep_alloc) | exact HK.out)⟩
   rw [if_neg c14] at H
   have c14b0 : decide (2147483647 < (Go.bits .or .i64 x4_1 (ji9))) = false := decide_eq_false c14
   clear c14
   simp only [Option.some.injEq, Prod.mk.injEq] at H
   obtain ⟨rfl, rfl, rfl, rfl⟩ := H
   go_wp2_with (first | ((with_reducible refine gate_callee (f := 62) rfl ?_); refine goesO_ (some 15) rfl rfl Tryd.func62 (by kernel_rfl) rfl #[.pointer (some ⟨g, 0, none⟩)] rfl ls ?_; (with_reducible refine (r_byte.calls (Ab := Ab) (cb := cb) g s0_0 x1001_1 t102 t103 t104 t105 w0 _ ?side1 ?side2 A4.out).mono ?_); (case side1 => repeat (first | (with_reducible first | exact HI0.out | apply IsS95.alloc | apply IsS95.drewN | apply IsS95.drew | apply IsS95.set_1) | exact HI0.out)); (case side2 => repeat (first | (with_reducible first | exact HB.out | apply below_alloc | apply pw_below_drewN | apply below_drew1 | refine below_set ?_ (IsS95.ge HI0.out)) | exact HB.out)); rintro e w16 ⟨ho, hi, hb, hk⟩; rcases ho with ⟨hm_, rfl⟩ | ⟨hm_, rfl⟩; (all_goals (first | exact absurd hm_ (mk0 (by assumption)) | exact absurd hm_ (mk1 (by assumption)) | skip)); (first | refine .inl ⟨_, rfl, ?_⟩ | refine .inr ⟨_, rfl, ?_⟩); have n0_ := am (KeepBut.trans kb hk (.inl rfl)); have n1_ := am (hb); have n2_ := am (hi); clear HK; clear HB; clear HI0; have HK := n0_; have HB := n1_; have HI0 := n2_; clear n0_ n1_ n2_; (try clear hb); (try clear hb2); (try clear hk); (try clear hi)))
   (first | go_ret | refine ⟨rfl, ?_⟩)
   exact ⟨by first | exact .inr ⟨rfl, rfl⟩ | exact .inl ⟨rfl, by first | rfl | (simp [errW_none, errW_some] <;> rfl) | (simp only [← hji7, ← hji9]; first | rfl | (simp [errW_none, errW_some] <;> rfl)) | (simp [*, errW_none, errW_some] <;> rfl)⟩, by repeat (first | (with_reducible first | exact HI0.out | apply IsS95.alloc | apply IsS95.drewN | apply IsS95.drew | apply IsS95.set_1) | exact HI0.out), by repeat (first | (with_reducible first | exact HB.out | apply below_alloc | apply pw_below_drewN | apply below_drew1 | refine below_set ?_ (IsS95.ge HI0.out)) | exact HB.out), by repeat (first | (with_reducible first | exact HK.out | apply KeepBut.set_ | apply keep_drewN | apply keep_drew | apply keep_alloc) | exact HK.out)⟩
end Go.Proofs.YtdkejcadoepnnaaDoor.ECc
end
