/-
  The contract of ways (the two places to which an instruction goes on, as an array of two). No conditions.
-/
import Derived.Test.YtdkejcadoepnnaaDoorBkECrx4
import Derived.Laws.CopyOwn
set_option linter.unusedVariables false
set_option linter.unusedSimpArgs false
namespace Go.Proofs.YtdkejcadoepnnaaDoor.X
open Go.RowKit Go.Proofs.YtdkejcadoepnnaaDoorW.PrintWords Go.Proofs.YtdkejcadoepnnaaDoorW.PrintLast Go.Proofs.YtdkejcadoepnnaaDoorW.PrintMore
def xWays.f (w a b i : Int) : Option (Int × Int) := if w = 27 then some (a, a) else if w = 29 ∨ w = 28 then some (wrap64 (i + 1), a) else some (wrap64 (i + 1), wrap64 (i + 1))
theorem store_pair {ops : Array Oper} {rest : List Oper} {o : Oper} {a : Act} {w0 W : World} {Q : Exit → Act → World → Prop} {x y : Operand} {g : Nat} {p q : Int} (hgd : o.guard = none) (ho : o.op = .store 79 x y) (hx : a.eval x = .pointer (some ⟨g, 0, none⟩)) (hy : a.eval y = .agg #[.int .i64 p, .int .i64 q])
  (hg : W.heap[g]? = some (.cells #[.int .i64 0, .int .i64 0] 79 (0, 0))) (hB : Below w0.heap.size w0 W) (hge : w0.heap.size ≤ g)
  (h : ∀ w1, w1.heap[g]? = some (.cells #[.int .i64 p, .int .i64 q] 79 (0, 0)) → Below w0.heap.size w0 w1 → wpList Tryd.prog ops Q rest (a.put o.dst undef) w1) : wpList Tryd.prog ops Q (o :: rest) a W := by
 refine wpList_store_row hgd 79 x y ho g #[.int .i64 p, .int .i64 q] hx hy 79 _ hg (by kernel_rfl) rfl (by simp [Value.oneCell']) ?_
 exact h _ (setRow_heap W g _ #[.int .i64 p, .int .i64 q] 79 (0, 0) hg) (below_setRow hB hge _)
set_option maxHeartbeats 4000000 in
set_option maxRecDepth 100000 in
theorem xWays.calls (c a b i r1 r2 : Int) (w : World) (h : xWays.f c a b i = some (r1, r2)) :
  Calls Tryd.prog 28 #[.agg #[.int .i64 c, .int .i64 a, .int .i64 b], .int .i64 i] w fun e w' => e = .returned (.agg #[.int .i64 r1, .int .i64 r2]) ∧ Below w.heap.size w w' := by
 have hu41 := Tryd.underlying41
 have hu79 := Tryd.underlying79
 have HB := Aside0.mk (Below.refl w.heap.size w)
 unfold xWays.f at h
 by_cases h27 : c = 27
 ·rw [if_pos h27] at h
  simp only [Option.some.injEq, Prod.mk.injEq] at h
  obtain ⟨rfl, rfl⟩ := h
  have c0 : (c == 27) = true := beq_iff_eq.mpr h27
  clear h27
  go_enter Tryd.func28, Tryd.ntmps28
  go_wp2_with (first | ((with_reducible refine gate_dst (N := 2) rfl ?_); refine box_event ?hg (N := 2) ?hd (cs := #[.int .i64 c, .int .i64 a, .int .i64 b]) (t := 41) ?hr ?_; (case hd => rfl); (case hg => rfl); (case hr => first | (go_simp; done) | (go_simp; rfl)); intro gb1 hg w1 hbox hb; have n0_ := Aside0.mk (below_step HB.out hb); have BK1 := Aside0.mk hbox; clear HB; have HB := n0_; clear n0_ hb hbox hg) | ((with_reducible refine gate_dst (N := 4) rfl ?_); refine box_event ?hg (N := 4) ?hd (cs := #[.int .i64 0, .int .i64 0]) (t := 79) ?hr ?_; (case hd => rfl); (case hg => rfl); (case hr => first | (go_simp; done) | (go_simp; rfl)); intro gb2 hg w2 hbox hb; have n0_ := Aside0.mk (below_step HB.out hb); have n1_ := Aside0.mk (blk_below BK1.out hb); have n2_ := Aside0.mk (show w.heap.size ≤ gb2 from by rw [hg]; exact below_size HB.out); have BK2 := Aside0.mk hbox; clear HB BK1; have HB := n0_; have BK1 := n1_; have GE2 := n2_; clear n0_ n1_ n2_ hb hbox hg; have hcz_0 : w2.cell? ⟨gb1, 0, none⟩ = some (.int .i64 c) := (blk_cell BK1.out 0).trans rfl; have hcz_1 : w2.cell? ⟨gb1, 1, none⟩ = some (.int .i64 a) := (blk_cell BK1.out 1).trans rfl; have hfz_0 := blk_frozen BK1.out 0; have hfz_1 := blk_frozen BK1.out 1) | (refine store_pair (w0 := w) (g := gb2) (p := a) (q := a) rfl rfl rfl rfl BK2.out HB.out GE2.out ?_; intro w3 hs hb3; have n0_ := Aside0.mk hs; clear BK2 HB; have BK2 := n0_; have HB := Aside0.mk hb3; clear hs hb3 n0_))
  refine bodyPost_ret (results_one73 rfl _ _ gb2 79 #[.int .i64 (a), .int .i64 (a)] (0, 0) _ rfl BK2.out Tryd.underlying79 rfl (by kernel_rfl)) rfl ?_
  exact ⟨rfl, HB.out⟩
 ·rw [if_neg h27] at h
  have c0 : (c == 27) = false := beq_eq_false_iff_ne.mpr h27
  clear h27
  by_cases h29 : c = 29
  ·rw [if_pos (.inl h29)] at h
   simp only [Option.some.injEq, Prod.mk.injEq] at h
   obtain ⟨rfl, rfl⟩ := h
   have c1 : (c == 29) = true := beq_iff_eq.mpr h29
   clear h29
   go_enter Tryd.func28, Tryd.ntmps28
   go_wp2_with (first | ((with_reducible refine gate_dst (N := 2) rfl ?_); refine box_event ?hg (N := 2) ?hd (cs := #[.int .i64 c, .int .i64 a, .int .i64 b]) (t := 41) ?hr ?_; (case hd => rfl); (case hg => rfl); (case hr => first | (go_simp; done) | (go_simp; rfl)); intro gb1 hg w1 hbox hb; have n0_ := Aside0.mk (below_step HB.out hb); have BK1 := Aside0.mk hbox; clear HB; have HB := n0_; clear n0_ hb hbox hg) | ((with_reducible refine gate_dst (N := 4) rfl ?_); refine box_event ?hg (N := 4) ?hd (cs := #[.int .i64 0, .int .i64 0]) (t := 79) ?hr ?_; (case hd => rfl); (case hg => rfl); (case hr => first | (go_simp; done) | (go_simp; rfl)); intro gb2 hg w2 hbox hb; have n0_ := Aside0.mk (below_step HB.out hb); have n1_ := Aside0.mk (blk_below BK1.out hb); have n2_ := Aside0.mk (show w.heap.size ≤ gb2 from by rw [hg]; exact below_size HB.out); have BK2 := Aside0.mk hbox; clear HB BK1; have HB := n0_; have BK1 := n1_; have GE2 := n2_; clear n0_ n1_ n2_ hb hbox hg; have hcz_0 : w2.cell? ⟨gb1, 0, none⟩ = some (.int .i64 c) := (blk_cell BK1.out 0).trans rfl; have hcz_1 : w2.cell? ⟨gb1, 1, none⟩ = some (.int .i64 a) := (blk_cell BK1.out 1).trans rfl; have hfz_0 := blk_frozen BK1.out 0; have hfz_1 := blk_frozen BK1.out 1) | (refine store_pair (w0 := w) (g := gb2) (p := (wrap64 (i + 1))) (q := a) rfl rfl rfl rfl BK2.out HB.out GE2.out ?_; intro w3 hs hb3; have n0_ := Aside0.mk hs; clear BK2 HB; have BK2 := n0_; have HB := Aside0.mk hb3; clear hs hb3 n0_))
   refine bodyPost_ret (results_one73 rfl _ _ gb2 79 #[.int .i64 ((wrap64 (i + 1))), .int .i64 (a)] (0, 0) _ rfl BK2.out Tryd.underlying79 rfl (by kernel_rfl)) rfl ?_
   exact ⟨rfl, HB.out⟩
  ·have c1 : (c == 29) = false := beq_eq_false_iff_ne.mpr h29
   by_cases h28 : c = 28
   ·rw [if_pos (.inr h28)] at h
    simp only [Option.some.injEq, Prod.mk.injEq] at h
    obtain ⟨rfl, rfl⟩ := h
    have c2 : (c == 28) = true := beq_iff_eq.mpr h28
    clear h28 h29
    go_enter Tryd.func28, Tryd.ntmps28
    go_wp2_with (first | ((with_reducible refine gate_dst (N := 2) rfl ?_); refine box_event ?hg (N := 2) ?hd (cs := #[.int .i64 c, .int .i64 a, .int .i64 b]) (t := 41) ?hr ?_; (case hd => rfl); (case hg => rfl); (case hr => first | (go_simp; done) | (go_simp; rfl)); intro gb1 hg w1 hbox hb; have n0_ := Aside0.mk (below_step HB.out hb); have BK1 := Aside0.mk hbox; clear HB; have HB := n0_; clear n0_ hb hbox hg) | ((with_reducible refine gate_dst (N := 4) rfl ?_); refine box_event ?hg (N := 4) ?hd (cs := #[.int .i64 0, .int .i64 0]) (t := 79) ?hr ?_; (case hd => rfl); (case hg => rfl); (case hr => first | (go_simp; done) | (go_simp; rfl)); intro gb2 hg w2 hbox hb; have n0_ := Aside0.mk (below_step HB.out hb); have n1_ := Aside0.mk (blk_below BK1.out hb); have n2_ := Aside0.mk (show w.heap.size ≤ gb2 from by rw [hg]; exact below_size HB.out); have BK2 := Aside0.mk hbox; clear HB BK1; have HB := n0_; have BK1 := n1_; have GE2 := n2_; clear n0_ n1_ n2_ hb hbox hg; have hcz_0 : w2.cell? ⟨gb1, 0, none⟩ = some (.int .i64 c) := (blk_cell BK1.out 0).trans rfl; have hcz_1 : w2.cell? ⟨gb1, 1, none⟩ = some (.int .i64 a) := (blk_cell BK1.out 1).trans rfl; have hfz_0 := blk_frozen BK1.out 0; have hfz_1 := blk_frozen BK1.out 1) | (refine store_pair (w0 := w) (g := gb2) (p := (wrap64 (i + 1))) (q := a) rfl rfl rfl rfl BK2.out HB.out GE2.out ?_; intro w3 hs hb3; have n0_ := Aside0.mk hs; clear BK2 HB; have BK2 := n0_; have HB := Aside0.mk hb3; clear hs hb3 n0_))
    refine bodyPost_ret (results_one73 rfl _ _ gb2 79 #[.int .i64 ((wrap64 (i + 1))), .int .i64 (a)] (0, 0) _ rfl BK2.out Tryd.underlying79 rfl (by kernel_rfl)) rfl ?_
    exact ⟨rfl, HB.out⟩
   ·rw [if_neg (fun e => e.elim h29 h28)] at h
    simp only [Option.some.injEq, Prod.mk.injEq] at h
    obtain ⟨rfl, rfl⟩ := h
    have c2 : (c == 28) = false := beq_eq_false_iff_ne.mpr h28
    clear h28 h29
    go_enter Tryd.func28, Tryd.ntmps28
    go_wp2_with (first | ((with_reducible refine gate_dst (N := 2) rfl ?_); refine box_event ?hg (N := 2) ?hd (cs := #[.int .i64 c, .int .i64 a, .int .i64 b]) (t := 41) ?hr ?_; (case hd => rfl); (case hg => rfl); (case hr => first | (go_simp; done) | (go_simp; rfl)); intro gb1 hg w1 hbox hb; have n0_ := Aside0.mk (below_step HB.out hb); have BK1 := Aside0.mk hbox; clear HB; have HB := n0_; clear n0_ hb hbox hg) | ((with_reducible refine gate_dst (N := 4) rfl ?_); refine box_event ?hg (N := 4) ?hd (cs := #[.int .i64 0, .int .i64 0]) (t := 79) ?hr ?_; (case hd => rfl); (case hg => rfl); (case hr => first | (go_simp; done) | (go_simp; rfl)); intro gb2 hg w2 hbox hb; have n0_ := Aside0.mk (below_step HB.out hb); have n1_ := Aside0.mk (blk_below BK1.out hb); have n2_ := Aside0.mk (show w.heap.size ≤ gb2 from by rw [hg]; exact below_size HB.out); have BK2 := Aside0.mk hbox; clear HB BK1; have HB := n0_; have BK1 := n1_; have GE2 := n2_; clear n0_ n1_ n2_ hb hbox hg; have hcz_0 : w2.cell? ⟨gb1, 0, none⟩ = some (.int .i64 c) := (blk_cell BK1.out 0).trans rfl; have hcz_1 : w2.cell? ⟨gb1, 1, none⟩ = some (.int .i64 a) := (blk_cell BK1.out 1).trans rfl; have hfz_0 := blk_frozen BK1.out 0; have hfz_1 := blk_frozen BK1.out 1) | (refine store_pair (w0 := w) (g := gb2) (p := (wrap64 (i + 1))) (q := (wrap64 (i + 1))) rfl rfl rfl rfl BK2.out HB.out GE2.out ?_; intro w3 hs hb3; have n0_ := Aside0.mk hs; clear BK2 HB; have BK2 := n0_; have HB := Aside0.mk hb3; clear hs hb3 n0_))
    refine bodyPost_ret (results_one73 rfl _ _ gb2 79 #[.int .i64 ((wrap64 (i + 1))), .int .i64 ((wrap64 (i + 1)))] (0, 0) _ rfl BK2.out Tryd.underlying79 rfl (by kernel_rfl)) rfl ?_
    exact ⟨rfl, HB.out⟩
end Go.Proofs.YtdkejcadoepnnaaDoor.X
