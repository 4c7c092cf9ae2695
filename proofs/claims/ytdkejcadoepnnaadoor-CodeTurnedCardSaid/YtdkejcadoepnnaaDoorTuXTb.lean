/-
  The words' table of package code, as a row of structs: how its block is told to the printed texts, and how it is made (three operations at once). Conditions: those in the statements.
-/
import Derived.Test.YtdkejcadoepnnaaDoorTuXTab
import Derived.Test.YtdkejcadoepnnaaDoorTuECcx0
set_option linter.unusedVariables false
set_option linter.unusedSimpArgs false
namespace Go.Proofs.YtdkejcadoepnnaaDoor.X
open Go.RowKit Go.Proofs.YtdkejcadoepnnaaDoorW.PrintWords Go.Proofs.YtdkejcadoepnnaaDoorW.PrintLast Go.Proofs.YtdkejcadoepnnaaDoorW.PrintMore Go.Proofs.YtdkejcadoepnnaaDoor.ECc
set_option maxRecDepth 100000 in
def tabL : List S72 := [⟨⟨#[]⟩, 0, 0, 0, 0⟩, ⟨⟨#[110, 117, 109]⟩, 1, 0, 0, 1⟩, ⟨⟨#[115, 116, 114]⟩, 2, 0, 0, 1⟩, ⟨⟨#[118, 97, 114]⟩, 3, 0, 0, 1⟩, ⟨⟨#[115, 101, 116, 118, 97, 114]⟩, 3, 0, 1, 1⟩, ⟨⟨#[111, 112, 118, 97, 114]⟩, 3, 5, 1, 1⟩, ⟨⟨#[115, 116, 101, 112, 118, 97, 114]⟩, 3, 6, 0, 1⟩, ⟨⟨#[115, 117, 98, 118, 97, 114]⟩, 3, 7, 2, 1⟩, ⟨⟨#[102, 105, 101, 108, 100]⟩, 0, 0, 1, 1⟩, ⟨⟨#[115, 101, 116, 102, 105, 101, 108, 100]⟩, 0, 0, 2, 1⟩, ⟨⟨#[111, 112, 102, 105, 101, 108, 100]⟩, 0, 5, 2, 1⟩, ⟨⟨#[115, 116, 101, 112, 102, 105, 101, 108, 100]⟩, 0, 6, 1, 1⟩, ⟨⟨#[115, 117, 98, 102, 105, 101, 108, 100]⟩, 0, 7, 3, 1⟩, ⟨⟨#[107, 101, 121]⟩, 10, 0, (-1), 1⟩, ⟨⟨#[101, 108, 101, 109]⟩, 4, 0, 1, 1⟩, ⟨⟨#[115, 101, 116, 101, 108, 101, 109]⟩, 4, 0, 2, 1⟩, ⟨⟨#[111, 112, 101, 108, 101, 109]⟩, 4, 5, 2, 1⟩, ⟨⟨#[115, 116, 101, 112, 101, 108, 101, 109]⟩, 4, 6, 1, 1⟩, ⟨⟨#[115, 117, 98, 101, 108, 101, 109]⟩, 4, 7, 3, 1⟩, ⟨⟨#[105, 110]⟩, 4, 0, 1, 1⟩, ⟨⟨#[110, 101, 103]⟩, 0, 0, 1, 1⟩, ⟨⟨#[112, 111, 115]⟩, 0, 0, 1, 1⟩, ⟨⟨#[110, 111, 116]⟩, 0, 0, 1, 1⟩, ⟨⟨#[116, 114, 117, 116, 104]⟩, 0, 0, 1, 1⟩, ⟨⟨#[98, 105, 110]⟩, 5, 0, 2, 1⟩, ⟨⟨#[99, 97, 116]⟩, 0, 0, 2, 1⟩, ⟨⟨#[114, 101, 108]⟩, 8, 0, 2, 1⟩, ⟨⟨#[106, 117, 109, 112]⟩, 9, 0, 0, 0⟩, ⟨⟨#[105, 102, 110, 111, 116]⟩, 9, 0, 1, 0⟩, ⟨⟨#[105, 102]⟩, 9, 0, 1, 0⟩, ⟨⟨#[112, 111, 112]⟩, 0, 0, 1, 0⟩, ⟨⟨#[99, 97, 108, 108]⟩, 11, 12, (-2), 1⟩, ⟨⟨#[115, 112, 108, 105, 116]⟩, 4, 0, 2, 1⟩, ⟨⟨#[97, 115, 111, 114, 116]⟩, 4, 0, 0, 1⟩]
set_option maxRecDepth 100000 in
theorem tabL_len : tabL.length = 34 := rfl
set_option maxRecDepth 100000 in
theorem tab_at : ∀ j : Nat, j < 34 → ∃ p, tabL[j]? = some p ∧ tabC[j * 5 + 0]? = some (.string p.f0) ∧ tabC[j * 5 + 1]? = some (.int .i64 p.f1) ∧ tabC[j * 5 + 2]? = some (.int .i64 p.f2) ∧ tabC[j * 5 + 3]? = some (.int .i64 p.f3) ∧ tabC[j * 5 + 4]? = some (.int .i64 p.f4) := by
  intro j hj
  repeat (rcases j with _ | j; · exact ⟨_, rfl, rfl, rfl, rfl, rfl, rfl⟩)
  omega
/-- The block of the table, as a row of structs. -/
theorem tab_rows {w : World} {g : Nat} (h : w.heap[g]? = some (.cells tabC 73 (0, 0))) : Kd.C k72 w (some ⟨g, 0, none⟩) tabL.length tabL := by
  refine ⟨rfl, by rw [tabL_len]; decide, fun _ => ⟨_, rfl, fun j p hj => ?_⟩⟩
  have hjl : j < 34 := (List.getElem?_eq_some_iff.1 hj).1
  obtain ⟨q, hq, h0, h1, h2, h3, h4⟩ := tab_at j hjl
  have hpq : p = q := Option.some.inj (hj.symm.trans hq)
  subst hpq
  refine ⟨[.string p.f0, .int .i64 p.f1, .int .i64 p.f2, .int .i64 p.f3, .int .i64 p.f4], rfl, k72_mk w p, fun i u hu => ?_⟩
  have hadd : (⟨g, 0, none⟩ : Addr).add (j * Kd.sz k72 + i) = ⟨g, j * 5 + i, none⟩ := by
    show (⟨g, 0, none⟩ : Addr).add (j * 5 + i) = _
    unfold Addr.add
    split <;> simp_all
  rw [hadd, cell_of_row w g (j * 5 + i) tabC 73 (0, 0) h]
  rcases i with _ | _ | _ | _ | _ | i
  · rw [h0]; simpa using hu
  · rw [h1]; simpa using hu
  · rw [h2]; simpa using hu
  · rw [h3]; simpa using hu
  · rw [h4]; simpa using hu
  · simp at hu
/-- The same, the address told apart. -/
theorem tab_rowsA {w : World} {g : Nat} {ad : Addr} (e : ad = ⟨g, 0, none⟩) (h : w.heap[g]? = some (.cells tabC 73 (0, 0))) : Kd.C k72 w (some ad) tabL.length tabL := by
  subst e
  exact tab_rows h
theorem slice_inj {g g' n n' c c' : Nat} (h : Value.slice (some ⟨g, 0, none⟩) n c = .slice (some ⟨g', 0, none⟩) n' c') : g = g' ∧ n = n' ∧ c = c' := by
  injection h with h1 h2 h3
  injection h1 with h1
  injection h1 with h1
  exact ⟨h1, h2, h3⟩
section
variable {ops : Array Oper} {rest : List Oper} {o1 o2 : Oper} {a : Act} {W : World} {Q : Exit → Act → World → Prop}
set_option maxRecDepth 100000 in
def zerosC : Array Value := #[Value.string ⟨#[]⟩, .int .i64 0, .int .i64 0, .int .i64 0, .int .i64 0, Value.string ⟨#[]⟩, .int .i64 0, .int .i64 0, .int .i64 0, .int .i64 0, Value.string ⟨#[]⟩, .int .i64 0, .int .i64 0, .int .i64 0, .int .i64 0, Value.string ⟨#[]⟩, .int .i64 0, .int .i64 0, .int .i64 0, .int .i64 0, Value.string ⟨#[]⟩, .int .i64 0, .int .i64 0, .int .i64 0, .int .i64 0, Value.string ⟨#[]⟩, .int .i64 0, .int .i64 0, .int .i64 0, .int .i64 0, Value.string ⟨#[]⟩, .int .i64 0, .int .i64 0, .int .i64 0, .int .i64 0, Value.string ⟨#[]⟩, .int .i64 0, .int .i64 0, .int .i64 0, .int .i64 0, Value.string ⟨#[]⟩, .int .i64 0, .int .i64 0, .int .i64 0, .int .i64 0, Value.string ⟨#[]⟩, .int .i64 0, .int .i64 0, .int .i64 0, .int .i64 0, Value.string ⟨#[]⟩, .int .i64 0, .int .i64 0, .int .i64 0, .int .i64 0, Value.string ⟨#[]⟩, .int .i64 0, .int .i64 0, .int .i64 0, .int .i64 0, Value.string ⟨#[]⟩, .int .i64 0, .int .i64 0, .int .i64 0, .int .i64 0, Value.string ⟨#[]⟩, .int .i64 0, .int .i64 0, .int .i64 0, .int .i64 0, Value.string ⟨#[]⟩, .int .i64 0, .int .i64 0, .int .i64 0, .int .i64 0, Value.string ⟨#[]⟩, .int .i64 0, .int .i64 0, .int .i64 0, .int .i64 0, Value.string ⟨#[]⟩, .int .i64 0, .int .i64 0, .int .i64 0, .int .i64 0, Value.string ⟨#[]⟩, .int .i64 0, .int .i64 0, .int .i64 0, .int .i64 0, Value.string ⟨#[]⟩, .int .i64 0, .int .i64 0, .int .i64 0, .int .i64 0, Value.string ⟨#[]⟩, .int .i64 0, .int .i64 0, .int .i64 0, .int .i64 0, Value.string ⟨#[]⟩, .int .i64 0, .int .i64 0, .int .i64 0, .int .i64 0, Value.string ⟨#[]⟩, .int .i64 0, .int .i64 0, .int .i64 0, .int .i64 0, Value.string ⟨#[]⟩, .int .i64 0, .int .i64 0, .int .i64 0, .int .i64 0, Value.string ⟨#[]⟩, .int .i64 0, .int .i64 0, .int .i64 0, .int .i64 0, Value.string ⟨#[]⟩, .int .i64 0, .int .i64 0, .int .i64 0, .int .i64 0, Value.string ⟨#[]⟩, .int .i64 0, .int .i64 0, .int .i64 0, .int .i64 0, Value.string ⟨#[]⟩, .int .i64 0, .int .i64 0, .int .i64 0, .int .i64 0, Value.string ⟨#[]⟩, .int .i64 0, .int .i64 0, .int .i64 0, .int .i64 0, Value.string ⟨#[]⟩, .int .i64 0, .int .i64 0, .int .i64 0, .int .i64 0, Value.string ⟨#[]⟩, .int .i64 0, .int .i64 0, .int .i64 0, .int .i64 0, Value.string ⟨#[]⟩, .int .i64 0, .int .i64 0, .int .i64 0, .int .i64 0, Value.string ⟨#[]⟩, .int .i64 0, .int .i64 0, .int .i64 0, .int .i64 0, Value.string ⟨#[]⟩, .int .i64 0, .int .i64 0, .int .i64 0, .int .i64 0, Value.string ⟨#[]⟩, .int .i64 0, .int .i64 0, .int .i64 0, .int .i64 0]
set_option maxRecDepth 100000 in
theorem zero73 : (Tryd.prog.info? 73).map (fun i => (i.zero, i.size)) = some (some (.agg zerosC), 170) := by kernel_rfl
theorem alloc73 {o : Oper} {a : Act} (ho : o.op = .alloc 73) (W : World) : (execOp a.eval o).run Tryd.prog W = .ok (.value (.pointer (some ⟨W.heap.size, 0, none⟩))) (W.alloc (.cells zerosC 73 (0, 0))) := by
  obtain ⟨h1, h2⟩ := zero_of_info zero73
  have hz := h1 W
  unfold execOp
  simp [ho, Instr.alloc, hz, newVar, newRow, Value.cells]
/-- The table is made: the call's answer, a variable, the store. -/
theorem tab_event {T B : Tmp} (g1 : o1.guard = none) (d1 : o1.dst = some T) (h1 : o1.op = .alloc 73) (g2 : o2.guard = none) (d2 : o2.dst = none) (h2 : o2.op = .store 73 (.tmp T) (.tmp B))
    (hx : ∀ v, (a.put (some T) v).eval (.tmp T) = v) (hy : ∀ v, (a.put (some T) v).eval (.tmp B) = .agg tabC)
    (h : ∀ (g : Nat) (ad : Addr), W.heap.size ≤ g → Aside0 (ad = ⟨g, 0, none⟩) → ∀ w1, w1.heap[g]? = some (.cells tabC 73 (0, 0)) → Below W.heap.size W w1 → wpList Tryd.prog ops Q rest ((a.put (some T) (.pointer (some ad))).put none undef) w1) : wpList Tryd.prog ops Q (o1 :: o2 :: rest) a W := by
  refine Kd.event_run g1 (alloc73 h1 W) ?_
  rw [d1]
  refine wpList_store_row g2 73 (.tmp T) (.tmp B) h2 W.heap.size tabC (hx _) (hy _) 73 zerosC (heap_alloc_last _ _) (by kernel_rfl) (by kernel_rfl) (by kernel_rfl) ?_
  rw [World.setRow_alloc_new, d2]
  exact h _ _ (Nat.le_refl _) ⟨rfl⟩ _ (heap_alloc_last _ _) (below_alloc (Below.refl _ _) _)
def IdxV (j a b v : Int) : Prop := (j = 0 ∧ v = a) ∨ (j = 1 ∧ v = b)
theorem wrap_two {x : Int} (h0 : 0 ≤ x) (h1 : x < 2) : 0 ≤ wrap64 (x + 1) := by
  unfold wrap64
  omega
theorem index_event {o : Oper} {N : Tmp} {x i : Operand} {j p q v : Int} (hgd : o.guard = none) (hd : o.dst = some N) (ho : o.op = .index 79 x i) (hx : a.eval x = .agg #[.int .i64 p, .int .i64 q]) (hi : a.eval i = .int .i64 j) (hj : IdxV j p q v)
    (h : wpList Tryd.prog ops Q rest (a.put o.dst (.int .i64 v)) W) : wpList Tryd.prog ops Q (o :: rest) a W := by
  have hrun : (execOp a.eval o).run Tryd.prog W = .ok (.value (.int .i64 v)) W := by
    have hu := Tryd.underlying79
    obtain ⟨i3, h3, s3⟩ : ∃ i, Tryd.prog.info? 3 = some i ∧ i.size = 1 := by
      have h : (Tryd.prog.info? 3).map (·.size) = some 1 := by kernel_rfl
      cases hq : Tryd.prog.info? 3 with
      | none => simp [hq] at h
      | some i => exact ⟨i, rfl, by simpa [hq] using h⟩
    unfold execOp
    rcases hj with ⟨rfl, rfl⟩ | ⟨rfl, rfl⟩
    · simp [ho, hx, hi, Instr.index, asIntOf, run_underlying hu, part, sizeOf, typeInfo, h3, s3, Result.andThen]
    · simp [ho, hx, hi, Instr.index, asIntOf, run_underlying hu, part, sizeOf, typeInfo, h3, s3, Result.andThen]
  exact Kd.event_run hgd hrun h
theorem exact_le {a b c : Nat} (h : b ≤ c) (h' : a ≤ b) : a ≤ c := Nat.le_trans h' h
theorem ne_lt_le {a b c : Nat} (h : b ≤ c) (h' : a < b) : a ≠ c := Nat.ne_of_lt (Nat.lt_of_lt_of_le h' h)
theorem ne_gt_le {a b c : Nat} (h : b ≤ c) (h' : a < b) : c ≠ a := Nat.ne_of_gt (Nat.lt_of_lt_of_le h' h)
end
end Go.Proofs.YtdkejcadoepnnaaDoor.X
