/-
  Two strings.Builders in one variable (an array of two): WriteString and String at either, the other stays. Conditions: the bytes of each are at most 2^47.
-/
import Derived.Test.YtlmijjekaelhcaaDoorExXBld
import Derived.RegionTactic
set_option linter.unusedVariables false
namespace Go.Proofs.YtlmijjekaelhcaaDoor.X
open Go.RowKit Go.Proofs.YtlmijjekaelhcaaDoorW.PrintWords
theorem lies0 : liesAt Tryd.prog Tryd.prog.depth 76 (4 / Tryd.prog.cellsOf 76) 0 62 1 = true := by kernel_rfl
theorem lies2 : liesAt Tryd.prog Tryd.prog.depth 76 (4 / Tryd.prog.cellsOf 76) 2 62 1 = true := by kernel_rfl
/-- A builder's two cells at place o of a variable of four cells. -/
structure At2 (w : World) (b o : Nat) (p v : Value) : Prop where
 c0 : w.cell? ⟨b, o, none⟩ = some p
 c1 : w.cell? ⟨b, o + 1, none⟩ = some v
 sh : w.shape? b = some (76, 4)
 f0 : w.frozen? ⟨b, o, none⟩ = false
 f1 : w.frozen? ⟨b, o + 1, none⟩ = false
set_option maxHeartbeats 1000000 in
set_option maxRecDepth 100000 in
theorem check2_new (b o : Nat) (ho : o = 0 ∨ o = 2) (v : Value) (w : World) (h : At2 w b o (.pointer none) v) :
  Calls Tryd.prog 43 #[.pointer (some ⟨b, o, none⟩)] w fun e w' => e = .returned (.tuple #[]) ∧ w' = w.setCell ⟨b, o, none⟩ (.pointer (some ⟨b, o, none⟩)) := by
 obtain ⟨j, hj, hjs⟩ := bldSize
 have h0 := h.c0
 have hfz := h.f0
 have hsh := h.sh
 have hlies : liesAt Tryd.prog Tryd.prog.depth 76 (4 / Tryd.prog.cellsOf 76) o 62 1 = true := by
  rcases ho with rfl | rfl
  ·exact lies0
  ·exact lies2
 have hlt : o < 4 := by omega
 go_enter Tryd.func43, Tryd.ntmps43
 go_wp2
 rw [Lib.run_to_unsafe w ⟨b, o, none⟩ Tryd.underlying59 Tryd.underlying88 hj (by rw [hjs]; decide) hsh hlt]
 simp only [Result.andThen]
 rw [Oper.upon_value]
 go_wp2
 rw [run_callFunc_extern Tryd.func56 (by kernel_rfl) (by kernel_rfl) (by kernel_rfl) (e := Extern.AbiNoEscape.same) (by kernel_rfl)]
 rw [Lib.run_noEscape]
 simp only [Result.andThen]
 rw [Oper.upon_value]
 go_wp2
 rw [Lib.run_from_unsafe w ⟨b, o, none⟩ Tryd.underlying88 Tryd.underlying59 hj hsh hlies]
 simp only [Result.andThen]
 rw [Oper.upon_value]
 go_wp2
 go_end0
 exact ⟨rfl, rfl⟩
set_option maxHeartbeats 1000000 in
set_option maxRecDepth 100000 in
theorem check2_old (b o : Nat) (v : Value) (w : World) (h : At2 w b o (.pointer (some ⟨b, o, none⟩)) v) :
  Calls Tryd.prog 43 #[.pointer (some ⟨b, o, none⟩)] w fun e w' => e = .returned (.tuple #[]) ∧ w' = w := by
 obtain ⟨j, hj, hjs⟩ := bldSize
 have h0 := h.c0
 go_enter Tryd.func43, Tryd.ntmps43
 go_wp2
 rw [Lib.run_neq_ptr_same w _ Tryd.underlying59 hj]
 go_wp2
 go_end0
 exact ⟨rfl, rfl⟩
theorem at0_of {w : World} {b : Nat} {p v q u : Value} (hb : w.heap[b]? = some (.cells #[p, v, q, u] 76 (0, 0))) : At2 w b 0 p v :=
 ⟨by rw [Lib.cell_of_heap hb]; rfl, by rw [Lib.cell_of_heap hb]; rfl, by simp [World.shape?, hb], Lib.frozen_of_heap hb 0, Lib.frozen_of_heap hb 1⟩
theorem at2_of {w : World} {b : Nat} {p v q u : Value} (hb : w.heap[b]? = some (.cells #[p, v, q, u] 76 (0, 0))) : At2 w b 2 q u :=
 ⟨by rw [Lib.cell_of_heap hb]; rfl, by rw [Lib.cell_of_heap hb]; rfl, by simp [World.shape?, hb], Lib.frozen_of_heap hb 2, Lib.frozen_of_heap hb 3⟩
theorem grown_set {w : World} (b o : Nat) (x : Value) : w.grownBy (w.setCell ⟨b, o, none⟩ x) (some b) :=
 ⟨rfl, rfl, rfl, by simp [World.setCell], fun k _ hk => Below.heap_setCell _ _ _ _ (fun e => hk (by simp [e]))⟩
theorem check0 (B b : Nat) (hB : B ≤ b) (p v q u : Value) (w : World) (hb : w.heap[b]? = some (.cells #[p, v, q, u] 76 (0, 0))) (hp : p = .pointer none ∨ p = .pointer (some ⟨b, 0, none⟩)) :
  Calls Tryd.prog 43 #[.pointer (some ⟨b, 0, none⟩)] w fun e w' => e = .returned (.tuple #[]) ∧ w'.heap[b]? = some (.cells #[.pointer (some ⟨b, 0, none⟩), v, q, u] 76 (0, 0)) ∧ w.grownBy w' (some b) ∧ Below B w w' := by
 rcases hp with rfl | rfl
 ·refine (check2_new b 0 (.inl rfl) v w (at0_of hb)).mono ?_
  rintro e w' ⟨rfl, rfl⟩
  exact ⟨rfl, by simp [World.setCell, Array.getElem?_modify, hb], grown_set b 0 _, (Below.refl B w).setCell (p := ⟨b, 0, none⟩) hB _⟩
 ·refine (check2_old b 0 v w (at0_of hb)).mono ?_
  rintro e w' ⟨rfl, rfl⟩
  exact ⟨rfl, hb, ⟨rfl, rfl, rfl, Nat.le_refl _, fun _ _ _ => rfl⟩, Below.refl B _⟩
theorem check2 (B b : Nat) (hB : B ≤ b) (p v q u : Value) (w : World) (hb : w.heap[b]? = some (.cells #[p, v, q, u] 76 (0, 0))) (hq : q = .pointer none ∨ q = .pointer (some ⟨b, 2, none⟩)) :
  Calls Tryd.prog 43 #[.pointer (some ⟨b, 2, none⟩)] w fun e w' => e = .returned (.tuple #[]) ∧ w'.heap[b]? = some (.cells #[p, v, .pointer (some ⟨b, 2, none⟩), u] 76 (0, 0)) ∧ w.grownBy w' (some b) ∧ Below B w w' := by
 rcases hq with rfl | rfl
 ·refine (check2_new b 2 (.inr rfl) u w (at2_of hb)).mono ?_
  rintro e w' ⟨rfl, rfl⟩
  exact ⟨rfl, by simp [World.setCell, Array.getElem?_modify, hb], grown_set b 2 _, (Below.refl B w).setCell (p := ⟨b, 2, none⟩) hB _⟩
 ·refine (check2_old b 2 u w (at2_of hb)).mono ?_
  rintro e w' ⟨rfl, rfl⟩
  exact ⟨rfl, hb, ⟨rfl, rfl, rfl, Nat.le_refl _, fun _ _ _ => rfl⟩, Below.refl B _⟩
/-- Two Builders that hold x and y. -/
structure B2 (w : World) (B b : Nat) (x y : ByteArray) : Prop where
 hB : B ≤ b
 ex : ∃ p v q u, w.heap[b]? = some (.cells #[p, v, q, u] 76 (0, 0)) ∧ (p = .pointer none ∨ p = .pointer (some ⟨b, 0, none⟩)) ∧ (q = .pointer none ∨ q = .pointer (some ⟨b, 2, none⟩)) ∧
  w.ownsRowF B 5 1 v (Lib.byteCells x.data.toList).length (Lib.byteCells x.data.toList) ∧ w.ownsRowF B 5 1 u (Lib.byteCells y.data.toList).length (Lib.byteCells y.data.toList) ∧ (v.ownBlock = none ∨ v.ownBlock ≠ u.ownBlock) ∧
  (v = .slice none 0 0 ∨ x.size ≠ 0) ∧ (u = .slice none 0 0 ∨ y.size ≠ 0)
theorem cells_app (x s : ByteArray) : Lib.byteCells x.data.toList ++ Lib.strCells s = Lib.byteCells (x ++ s).data.toList := by simp [Lib.byteCells, Lib.strCells, ByteArray.data_append]
theorem cells_len (x s : ByteArray) : (Lib.byteCells (x ++ s).data.toList).length = (Lib.byteCells x.data.toList).length + s.size := by
 rw [← cells_app, List.length_append, Lib.strCells_length]
theorem app_size {x s : ByteArray} (h : (x ++ s).size = 0) : x.size = 0 ∧ s.size = 0 := by
 rw [ByteArray.size_append] at h
 omega
/-- The rows stay apart where one grows. -/
theorem apart_grown {w1 w2 : World} {B n m : Nat} {v v' u : Value} {xs ys : List Value} (hu : w1.ownsRowF B 5 1 u m ys) (hv' : w2.ownsRowF B 5 1 v' n xs) (hg : w1.grownBy w2 v.ownBlock) (hvu : v.ownBlock = none ∨ v.ownBlock ≠ u.ownBlock)
  (hnew : v'.ownBlock = v.ownBlock ∨ ∃ c, v'.ownBlock = some c ∧ w1.heap.size ≤ c) : v'.ownBlock = none ∨ v'.ownBlock ≠ u.ownBlock := by
 rcases hnew with h | ⟨c, h, hc⟩
 ·rw [h]
  exact hvu
 ·right
  intro e
  have := (hu.lt c (by rw [← e, h])).2
  omega
/-- An append of a text: the row that comes is the old one or a new block. -/
theorem append_block {w : World} (base : Nat) (ty : TypeId) (v : Value) (n : Nat) (xs : List Value) (hown : w.ownsRowF base 5 1 v n xs) (s : ByteArray) (hb : n + s.size ≤ 140737488355328) (hbase : base ≤ w.heap.size) :
  ∃ v' w', (Builtin.append_ #[60, 9] ty #[v, .string s]).run Tryd.prog w = .ok v' w' ∧ w'.ownsRowF base 5 1 v' (n + s.size) (xs ++ Lib.strCells s) ∧ w.grownBy w' v.ownBlock ∧
   (v' = .slice none 0 0 ↔ v = .slice none 0 0 ∧ s.size = 0) ∧ (v'.ownBlock = v.ownBlock ∨ ∃ c, v'.ownBlock = some c ∧ w.heap.size ≤ c) := by
 obtain ⟨i0, hi, hz0, hz1, hz2⟩ := info_parts (by kernel_rfl : (Tryd.prog.info? 5).map (fun i => (i.zero, i.size, i.bytes)) = some (some (.int .u8 0), 1, 1))
 have h63 : n + s.size ≤ maxLen := by unfold maxLen; omega
 obtain ⟨v', w', hr, h1, h2, h3⟩ := Lib.run_append_own_stringF (P := Tryd.prog) (w := w) base 60 9 ty 5 i0 Tryd.underlying60 Tryd.underlying9 hi hz0 hz1 hz2 v n xs hown s h63 hb hbase
 refine ⟨v', w', hr, h1, h2, h3, ?_⟩
 rcases hown.2 with ⟨rfl, rfl⟩ | ⟨g, cap, cur, fz, rfl, hbg, hg, hfz, hnc, hcm, hcs, htake⟩
 ·have hx : xs = [] := by
   have := hown.1
   simpa using this
  subst hx
  obtain ⟨v2, w2, hr2, h4, _, _⟩ := Lib.run_append_own_stringF (P := Tryd.prog) (w := w) w.heap.size 60 9 ty 5 i0 Tryd.underlying60 Tryd.underlying9 hi hz0 hz1 hz2 (.slice none 0 0) 0 [] (World.ownsRowF_nil w _ _ _) s h63 hb (Nat.le_refl _)
  rw [hr] at hr2
  injection hr2 with e1 e2
  subst e1 e2
  cases ho : v'.ownBlock with
  | none => exact .inl rfl
  | some c => exact .inr ⟨c, rfl, (h4.lt c ho).1⟩
 ·by_cases hroom : n + s.size ≤ cap
  ·have hcs' : cur.size = cap := by simpa using hcs
   have hr2 := Lib.run_append_room_stringF (P := Tryd.prog) w 60 9 ty 5 i0 Tryd.underlying60 Tryd.underlying9 hi hz1 g n cap cur fz hg (by simpa using hfz) s hroom (by omega)
   rw [hr] at hr2
   injection hr2 with e1 e2
   subst e1
   exact .inl rfl
  ·have holds : ∀ j u, xs[j]? = some u → w.cell? ((⟨g, 0, none⟩ : Addr).add j) = some u := hown.cells (g := g) rfl
   have hxl : xs.length = n := by simpa using hown.1
   have hr2 := Lib.run_append_grow_string (P := Tryd.prog) w 60 9 ty 5 i0 (.int .u8 0) Tryd.underlying60 Tryd.underlying9 hi hz0 ⟨g, 0, none⟩ n cap xs (by rw [hz1]; simpa using hxl) holds s (by omega) (by unfold maxLen at hcm; omega) (by rw [hz2]; exact growslice_fits (by omega) (by omega))
   rw [hr] at hr2
   injection hr2 with e1 e2
   subst e1
   exact .inr ⟨w.heap.size, rfl, Nat.le_refl _⟩
section
variable {ops : Array Oper} {rest : List Oper} {o : Oper} {a : Act} {Q : Exit → Act → World → Prop}
theorem append_event {w : World} (hgd : o.guard = none) (sl x : Operand) (ho : o.op = .call { callee := .builtin .append, args := #[sl, x], argTypes := #[60, 9] })
  (base : Nat) (v : Value) (n : Nat) (xs : List Value) (hs : a.eval sl = v) (hown : w.ownsRowF base 5 1 v n xs) (s : ByteArray) (hx : a.eval x = .string s) (hb : n + s.size ≤ 140737488355328) (hbase : base ≤ w.heap.size)
  (h : ∀ v' w', w'.ownsRowF base 5 1 v' (n + s.size) (xs ++ Lib.strCells s) → w.grownBy w' v.ownBlock → (v' = .slice none 0 0 ↔ v = .slice none 0 0 ∧ s.size = 0) → (v'.ownBlock = v.ownBlock ∨ ∃ c, v'.ownBlock = some c ∧ w.heap.size ≤ c) →
   wpList Tryd.prog ops Q rest (a.put o.dst v') w') : wpList Tryd.prog ops Q (o :: rest) a w := by
 obtain ⟨v', w', hr, h2, h3, h4, h5⟩ := append_block base o.type v n xs hown s hb hbase
 refine wpList_plain hgd fun K hK => ?_
 unfold Oper.wp execOp
 simp only [ho, resolve, invoke, builtin, Sem.run_bind, Sem.run_pure, Result.andThen_ok, List.map_toArray, List.map_cons, List.map_nil, hs, hx, hr]
 exact hK _ _ (h v' w' h2 h3 h4 h5)
end
theorem ne_row {a b : Option Nat} (h : a = none ∨ a ≠ b) : b = none ∨ b ≠ a := by
 rcases h with rfl | h
 ·cases b
  ·exact .inl rfl
  ·exact .inr (by simp)
 ·exact .inr (Ne.symm h)
theorem own_block_ne {w : World} {B n b : Nat} {v : Value} {xs : List Value} {cs : Array Value} {fr : Nat × Nat} (hown : w.ownsRowF B 5 1 v n xs) (hb : w.heap[b]? = some (.cells cs 76 fr)) : v.ownBlock ≠ some b := Lib.ownBlock_neF hown hb (by decide)
/-- What is no row of bytes and no such variable stays. -/
def Kp (w w1 : World) : Prop := ∀ (k : Nat) (cs : Array Value) (q : Nat), w.heap[k]? = some (.cells cs q (0, 0)) → q ≠ 5 → q ≠ 76 → w1.heap[k]? = w.heap[k]?
theorem Kp.refl (w : World) : Kp w w := fun _ _ _ _ _ _ => rfl
theorem Kp.trans {u v x : World} (h : Kp u v) (k : Kp v x) : Kp u x := fun i cs q hi h5 h76 => (k i cs q ((h i cs q hi h5 h76).trans hi) h5 h76).trans (h i cs q hi h5 h76)
theorem Kp.grown {w w1 : World} {row : Option Nat} (hg : w.grownBy w1 row) (hrow : ∀ k, row = some k → ∃ cs q fr, w.heap[k]? = some (.cells cs q fr) ∧ (q = 5 ∨ q = 76)) : Kp w w1 := by
 intro k cs q hk h5 h76
 refine hg.block k (Array.getElem?_eq_some_iff.1 hk).1 ?_
 intro e
 obtain ⟨cs', q', fr, h1, h2⟩ := hrow k e.symm
 rw [hk] at h1
 injection h1 with h1
 injection h1 with _ h1
 subst h1
 rcases h2 with h2 | h2
 ·exact h5 h2
 ·exact h76 h2
theorem Kp.blk {w w1 : World} (h : Kp w w1) {k : Nat} {cs : Array Value} {q : Nat} (hk : w.heap[k]? = some (.cells cs q (0, 0))) (h5 : q ≠ 5) (h76 : q ≠ 76) : w1.heap[k]? = some (.cells cs q (0, 0)) := (h k cs q hk h5 h76).trans hk
theorem Kp.R {α : Type} {d : Kd α} {e : Nat} {w w1 : World} {base : Nat} {ok : Nat → Prop} {v : Value} {xs : List α} (h : d.R e w base ok v xs) (hk : Kp w w1) (he : ∀ q, q ∈ e :: d.E → q ≠ 5 ∧ q ≠ 76) : d.R e w1 base ok v xs :=
 Kd.R_mono (Kd.R_move (Kd.R_bound h) (fun k hb => by
  obtain ⟨_, _, _, q, hq, cells, hc⟩ := hb
  exact hk k cells q hc (he q hq).1 (he q hq).2)) (fun _ hb => hb.1)
theorem rowTyped {w : World} {B n : Nat} {v : Value} {xs : List Value} (h : w.ownsRowF B 5 1 v n xs) : ∀ k, v.ownBlock = some k → ∃ cs q fr, w.heap[k]? = some (.cells cs q fr) ∧ (q = 5 ∨ q = 76) := by
 intro k hk
 rcases h.2 with ⟨rfl, _⟩ | ⟨g, cap, cur, fz, rfl, hbg, hg, _⟩
 ·simp [Value.ownBlock] at hk
 ·have : g = k := by simpa [Value.ownBlock] using hk
  subst this
  exact ⟨cur, 5, _, hg, .inl rfl⟩
theorem varTyped {w : World} {b : Nat} {cs : Array Value} {fr : Nat × Nat} (h : w.heap[b]? = some (.cells cs 76 fr)) : ∀ k, some b = some k → ∃ cs q fr, w.heap[k]? = some (.cells cs q fr) ∧ (q = 5 ∨ q = 76) := by
 intro k hk
 injection hk with hk
 subst hk
 exact ⟨cs, 76, fr, h, .inr rfl⟩
set_option maxHeartbeats 2000000 in
set_option maxRecDepth 100000 in
theorem B2.write0 {B b : Nat} {x y : ByteArray} {w : World} (h : B2 w B b x y) (s : ByteArray) (hlen : x.size + s.size ≤ 140737488355328) (hBw : B ≤ w.heap.size) :
  Calls Tryd.prog 27 #[.pointer (some ⟨b, 0, none⟩), .string s] w fun e w' => e = .returned (.tuple #[.int .i64 s.size, .nilIface]) ∧ B2 w' B b (x ++ s) y ∧ Below B w w' ∧ Kp w w' := by
 obtain ⟨hB, p, v, q, u, hbk, hp, hq, hv, hu, hvu, nx, ny⟩ := h
 have hvb := own_block_ne hv hbk
 have hub := own_block_ne hu hbk
 have hl : (Lib.byteCells x.data.toList).length = x.size := by rw [Lib.byteCells_length]; simp
 go_enter Tryd.func27, Tryd.ntmps27
 go_wp2_with (first | (go_at_call 43; refine (check0 B b hB p v q u _ hbk hp).mono ?_; rintro e w1 ⟨rfl, hb1, g1, hbl1⟩; have hs1 := hbl1.size; have hv1 := hv.kept g1 (.inr hvb); have hu1 := hu.kept g1 (.inr hub); have c0 : w1.cell? ⟨b, 0, none⟩ = some (.pointer (some ⟨b, 0, none⟩)) := (by rw [Lib.cell_of_heap hb1]; rfl); have c1 : w1.cell? ⟨b, 1, none⟩ = some v := (by rw [Lib.cell_of_heap hb1]; rfl)) | (at_builtin; go_loud (refine append_event rfl _ _ rfl B _ _ _ rfl hv1 s rfl (by omega) (by omega) ?_; intro v' w2 hv2 g2 hnil hblk; have hu2 := hu1.kept g2 (ne_row hvu); have hb2 : w2.heap[b]? = some (.cells #[.pointer (some ⟨b, 0, none⟩), v, q, u] 76 (0, 0)) := ((g2.block b (Array.getElem?_eq_some_iff.1 hb1).1 (fun e => hvb e.symm)).trans hb1); have d0 : w2.cell? ⟨b, 0, none⟩ = some (.pointer (some ⟨b, 0, none⟩)) := (by rw [Lib.cell_of_heap hb2]; rfl); have d1 : w2.cell? ⟨b, 1, none⟩ = some v := (by rw [Lib.cell_of_heap hb2]; rfl); have f1 : w2.frozen? ⟨b, 1, none⟩ = false := Lib.frozen_of_heap hb2 1; obtain ⟨ao, n', cap, rfl⟩ : ∃ ao n' cap, v' = .slice ao n' cap := (by rcases hv2.2 with ⟨hv_, _⟩ | ⟨g, cap, cur, fz, hv_, _⟩; exact ⟨_, _, _, hv_⟩; exact ⟨_, _, _, hv_⟩))))
 go_ret2
 have hvb2 := own_block_ne hv2 hb2
 have hub2 := own_block_ne hu2 hb2
 refine ⟨rfl, ⟨hB, .pointer (some ⟨b, 0, none⟩), .slice ao n' cap, q, u, ?_, .inr rfl, hq, ?_, hu2.kept (grown_set b 1 _) (.inr hub2), ?_, ?_, ny⟩, (hbl1.grown g2 (by omega) (fun k hk => (hv1.lt k hk).1)).setCell (p := ⟨b, 1, none⟩) hB _, (Kp.grown g1 (varTyped hbk)).trans ((Kp.grown g2 (rowTyped hv1)).trans (Kp.grown (grown_set b 1 _) (varTyped hb2)))⟩
 ·simp [World.setCell, Array.getElem?_modify, hb2]
 ·rw [cells_len, ← cells_app]
  exact hv2.kept (grown_set b 1 _) (.inr hvb2)
 ·exact apart_grown hu1 hv2 g2 hvu hblk
 ·by_cases hz : (x ++ s).size = 0
  ·obtain ⟨z1, z2⟩ := app_size hz
   exact .inl (hnil.2 ⟨nx.resolve_right (fun h => h z1), z2⟩)
  ·exact .inr hz
set_option maxHeartbeats 2000000 in
set_option maxRecDepth 100000 in
theorem B2.write1 {B b : Nat} {x y : ByteArray} {w : World} (h : B2 w B b x y) (s : ByteArray) (hlen : y.size + s.size ≤ 140737488355328) (hBw : B ≤ w.heap.size) :
  Calls Tryd.prog 27 #[.pointer (some ⟨b, 2, none⟩), .string s] w fun e w' => e = .returned (.tuple #[.int .i64 s.size, .nilIface]) ∧ B2 w' B b x (y ++ s) ∧ Below B w w' ∧ Kp w w' := by
 obtain ⟨hB, p, v, q, u, hbk, hp, hq, hv, hu, hvu, nx, ny⟩ := h
 have hvb := own_block_ne hv hbk
 have hub := own_block_ne hu hbk
 have hl : (Lib.byteCells y.data.toList).length = y.size := by rw [Lib.byteCells_length]; simp
 go_enter Tryd.func27, Tryd.ntmps27
 go_wp2_with (first | (go_at_call 43; refine (check2 B b hB p v q u _ hbk hq).mono ?_; rintro e w1 ⟨rfl, hb1, g1, hbl1⟩; have hs1 := hbl1.size; have hv1 := hv.kept g1 (.inr hvb); have hu1 := hu.kept g1 (.inr hub); have c0 : w1.cell? ⟨b, 2, none⟩ = some (.pointer (some ⟨b, 2, none⟩)) := (by rw [Lib.cell_of_heap hb1]; rfl); have c1 : w1.cell? ⟨b, 3, none⟩ = some u := (by rw [Lib.cell_of_heap hb1]; rfl)) | (at_builtin; go_loud (refine append_event rfl _ _ rfl B _ _ _ rfl hu1 s rfl (by omega) (by omega) ?_; intro v' w2 hu2 g2 hnil hblk; have hv2 := hv1.kept g2 hvu; have hb2 : w2.heap[b]? = some (.cells #[p, v, .pointer (some ⟨b, 2, none⟩), u] 76 (0, 0)) := ((g2.block b (Array.getElem?_eq_some_iff.1 hb1).1 (fun e => hub e.symm)).trans hb1); have d0 : w2.cell? ⟨b, 2, none⟩ = some (.pointer (some ⟨b, 2, none⟩)) := (by rw [Lib.cell_of_heap hb2]; rfl); have d1 : w2.cell? ⟨b, 3, none⟩ = some u := (by rw [Lib.cell_of_heap hb2]; rfl); have f1 : w2.frozen? ⟨b, 3, none⟩ = false := Lib.frozen_of_heap hb2 3; obtain ⟨ao, n', cap, rfl⟩ : ∃ ao n' cap, v' = .slice ao n' cap := (by rcases hu2.2 with ⟨hv_, _⟩ | ⟨g, cap, cur, fz, hv_, _⟩; exact ⟨_, _, _, hv_⟩; exact ⟨_, _, _, hv_⟩))))
 go_ret2
 have hvb2 := own_block_ne hv2 hb2
 have hub2 := own_block_ne hu2 hb2
 refine ⟨rfl, ⟨hB, p, v, .pointer (some ⟨b, 2, none⟩), .slice ao n' cap, ?_, hp, .inr rfl, hv2.kept (grown_set b 3 _) (.inr hvb2), ?_, ?_, nx, ?_⟩, (hbl1.grown g2 (by omega) (fun k hk => (hu1.lt k hk).1)).setCell (p := ⟨b, 3, none⟩) hB _, (Kp.grown g1 (varTyped hbk)).trans ((Kp.grown g2 (rowTyped hu1)).trans (Kp.grown (grown_set b 3 _) (varTyped hb2)))⟩
 ·simp [World.setCell, Array.getElem?_modify, hb2]
 ·rw [cells_len, ← cells_app]
  exact hu2.kept (grown_set b 3 _) (.inr hub2)
 ·exact ne_row (apart_grown hv1 hu2 g2 (ne_row hvu) hblk)
 ·by_cases hz : (y ++ s).size = 0
  ·obtain ⟨z1, z2⟩ := app_size hz
   exact .inl (hnil.2 ⟨ny.resolve_right (fun h => h z1), z2⟩)
  ·exact .inr hz
theorem grown_drew {w : World} : w.grownBy w.drew none := ⟨rfl, rfl, rfl, Nat.le_refl _, fun _ _ _ => rfl⟩
theorem grown_freeze {w : World} (g n : Nat) : w.grownBy (w.freeze ⟨g, 0, none⟩ n) (some g) := by
 have hb : Below g w (w.freeze ⟨g, 0, none⟩ n) := Lib.below_freeze (Below.refl g w) (p := ⟨g, 0, none⟩) (Nat.le_refl g) n
 refine ⟨hb.os, hb.tape, hb.output, hb.size, fun k hk hne => ?_⟩
 unfold World.freeze
 split
 ·rfl
 ·have : g ≠ k := fun e => hne (by rw [e])
  simp [Array.getElem?_modify, this]
/-- The second Builder alone. -/
def Sec (w : World) (B b : Nat) (y : ByteArray) : Prop := ∃ p v q u, w.heap[b]? = some (.cells #[p, v, q, u] 76 (0, 0)) ∧ w.ownsRowF B 5 1 u (Lib.byteCells y.data.toList).length (Lib.byteCells y.data.toList) ∧ (u = .slice none 0 0 ∨ y.size ≠ 0)
theorem bytes_row {w : World} {B : Nat} {v : Value} {x : ByteArray} (hv : w.ownsRowF B 5 1 v (Lib.byteCells x.data.toList).length (Lib.byteCells x.data.toList)) (h0 : x.size ≠ 0) :
  ∃ g cap cur fz, v = .slice (some ⟨g, 0, none⟩) x.data.toList.length cap ∧ B ≤ g ∧ w.heap[g]? = some (.cells cur 5 fz) ∧ x.data.toList.length ≤ cap ∧ cap ≤ maxLen ∧ cur.size = cap ∧
   (∀ j c, x.data.toList[j]? = some c → w.cell? ((⟨g, 0, none⟩ : Addr).add j) = some (.int .u8 c.toNat)) := by
 have hl : x.data.toList.length = x.size := by simp
 rw [Lib.byteCells_length] at hv
 rcases hv.2 with ⟨_, hz⟩ | ⟨g, cap, cur, fz, rfl, hbg, hg, hfz, hnc, hcm, hcs, htake⟩
 ·omega
 ·refine ⟨g, cap, cur, fz, rfl, hbg, hg, hnc, hcm, by simpa using hcs, fun j c hc => ?_⟩
  exact hv.cells (g := g) rfl j (.int .u8 c.toNat) (by simp [Lib.byteCells, hc])
set_option maxHeartbeats 2000000 in
set_option maxRecDepth 100000 in
/-- String of a Builder at place o of the variable (o + 1: its bytes' slice). -/
theorem text_at {B b o : Nat} {p v : Value} {x : ByteArray} {w : World} (hAt : At2 w b o p v) (hv : w.ownsRowF B 5 1 v (Lib.byteCells x.data.toList).length (Lib.byteCells x.data.toList)) (nx : v = .slice none 0 0 ∨ x.size ≠ 0) :
  Calls Tryd.prog 28 #[.pointer (some ⟨b, o, none⟩)] w fun e w' => e = .returned (.string x) ∧ Below B w w' ∧ (w' = w.drew ∨ ∃ g n, v.ownBlock = some g ∧ w' = w.drew.freeze ⟨g, 0, none⟩ n) := by
 by_cases h0 : x.size = 0
 ·have hx : x = ⟨#[]⟩ := by
   have hl : x.data.toList.length = x.size := by simp
   have hd : x.data.toList = [] := List.length_eq_zero_iff.1 (by omega)
   have := Array.toList_eq_nil_iff.1 hd
   cases x
   simp_all
  obtain rfl := nx.resolve_right (fun h => h h0)
  subst hx
  have c1 : w.drew.cell? ⟨b, o + 1, none⟩ = some (.slice none 0 0) := hAt.c1
  have hSD : (Builtin.unsafeSliceData_ #[60] 79 #[.slice none 0 0]).run Tryd.prog w.drew = .ok (.pointer none) w.drew := rfl
  have hUS : (Builtin.unsafeString_ #[79, 3] 9 #[.pointer none, .int .i64 0]).run Tryd.prog w.drew = .ok (.string ⟨#[]⟩) w.drew := by
   exact Lib.run_unsafeString_none w.drew _ _ _ none
  go_enter Tryd.func28, Tryd.ntmps28
  go_wp2
  go_region
  all_goals (go_wp2; go_ret; exact ⟨rfl, Below.drew (Below.refl B w), .inl rfl⟩)
 ·obtain ⟨g, cap, cur, fz, rfl, hbg, hg, hnc, hcm, hcs, hcells⟩ := bytes_row hv h0
  have hl : x.data.toList.length = x.size := by simp
  have hne : x.data.toList ≠ [] := by
   intro h
   rw [h] at hl
   exact h0 hl.symm
  have c1 : w.drew.cell? ⟨b, o + 1, none⟩ = some (.slice (some ⟨g, 0, none⟩) x.data.toList.length cap) := hAt.c1
  have hSD : (Builtin.unsafeSliceData_ #[60] 79 #[.slice (some ⟨g, 0, none⟩) x.data.toList.length cap]).run Tryd.prog w.drew = .ok (.pointer (some ⟨g, 0, none⟩)) w.drew :=
   Lib.run_unsafeSliceData_row w.drew _ _ _ _ _ (by omega)
  have hUS : (Builtin.unsafeString_ #[79, 3] 9 #[.pointer (some ⟨g, 0, none⟩), .int .i64 x.data.toList.length]).run Tryd.prog w.drew = .ok (.string ⟨x.data.toList.toArray⟩) (w.drew.freeze ⟨g, 0, none⟩ x.data.toList.length) := by
   refine Lib.run_unsafeString_row (w := w.drew) 79 3 9 5 Tryd.underlying79 (by kernel_rfl) g cur.size (by have hg' : w.drew.heap[g]? = some (.cells cur 5 fz) := hg; simp [World.shape?, hg']) x.data.toList hne (by omega) (by unfold maxLen at hcm; omega) ?_
   exact hcells
  have ex : (⟨x.data.toList.toArray⟩ : ByteArray) = x := rfl
  rw [ex] at hUS
  rw [hl] at c1 hSD hUS
  go_enter Tryd.func28, Tryd.ntmps28
  go_wp2
  go_region
  all_goals (go_wp2; go_ret; exact ⟨rfl, Lib.below_freeze (Below.drew (Below.refl B w)) (p := ⟨g, 0, none⟩) hbg _, .inr ⟨g, _, rfl, rfl⟩⟩)
theorem keep_text {w w' : World} {B n : Nat} {v : Value} {xs : List Value} (hv : w.ownsRowF B 5 1 v n xs) (hw : w' = w.drew ∨ ∃ g n, v.ownBlock = some g ∧ w' = w.drew.freeze ⟨g, 0, none⟩ n) : Kp w w' := by
 rcases hw with rfl | ⟨g, m, hg, rfl⟩
 ·exact Kp.grown (row := none) grown_drew (fun k hk => by cases hk)
 ·refine (Kp.grown (row := none) (grown_drew (w := w)) (fun k hk => by cases hk)).trans (Kp.grown (grown_freeze g m) ?_)
  intro k hk
  exact rowTyped hv k (hg.trans hk)
theorem B2.text0 {B b : Nat} {x y : ByteArray} {w : World} (h : B2 w B b x y) :
  Calls Tryd.prog 28 #[.pointer (some ⟨b, 0, none⟩)] w fun e w' => e = .returned (.string x) ∧ Sec w' B b y ∧ Below B w w' ∧ Kp w w' := by
 obtain ⟨hB, p, v, q, u, hbk, hp, hq, hv, hu, hvu, nx, ny⟩ := h
 have hvb := own_block_ne hv hbk
 refine (text_at (B := B) (at0_of hbk) hv nx).mono ?_
 rintro e w' ⟨he, hbl, hw⟩
 refine ⟨he, ?_, hbl, keep_text hv hw⟩
 have hd : w.drew.heap[b]? = some (.cells #[p, v, q, u] 76 (0, 0)) := hbk
 have hud : w.drew.ownsRowF B 5 1 u (Lib.byteCells y.data.toList).length (Lib.byteCells y.data.toList) := hu.kept grown_drew (by cases u.ownBlock <;> simp)
 rcases hw with rfl | ⟨g, n, hg, rfl⟩
 ·exact ⟨p, v, q, u, hd, hud, ny⟩
 ·refine ⟨p, v, q, u, ?_, hud.kept (grown_freeze g n) ?_, ny⟩
  ·have hlt : b < w.drew.heap.size := (Array.getElem?_eq_some_iff.1 hd).1
   exact ((grown_freeze (w := w.drew) g n).block b hlt (fun e => hvb (by rw [hg, e]))).trans hd
  ·have := ne_row hvu
   rw [hg] at this
   exact this
theorem Sec.text {B b : Nat} {y : ByteArray} {w : World} (h : Sec w B b y) :
  Calls Tryd.prog 28 #[.pointer (some ⟨b, 2, none⟩)] w fun e w' => e = .returned (.string y) ∧ Below B w w' ∧ Kp w w' := by
 obtain ⟨p, v, q, u, hbk, hu, ny⟩ := h
 refine (text_at (B := B) (at2_of hbk) hu ny).mono ?_
 rintro e w' ⟨he, hbl, hw⟩
 exact ⟨he, hbl, keep_text hu hw⟩
theorem grown_below {w w1 : World} (hb : Below w.heap.size w w1) : w.grownBy w1 none := ⟨hb.os, hb.tape, hb.output, hb.size, fun k hk _ => hb.block k hk⟩
theorem Sec.below {B b : Nat} {y : ByteArray} {w w1 : World} (h : Sec w B b y) (hb : Below w.heap.size w w1) : Sec w1 B b y := by
 obtain ⟨p, v, q, u, hbk, hu, ny⟩ := h
 exact ⟨p, v, q, u, (hb.block b (Array.getElem?_eq_some_iff.1 hbk).1).trans hbk, hu.kept (grown_below hb) (by cases u.ownBlock <;> simp), ny⟩
theorem B2.below {B b : Nat} {x y : ByteArray} {w w1 : World} (h : B2 w B b x y) (hb : Below w.heap.size w w1) : B2 w1 B b x y := by
 obtain ⟨hB, p, v, q, u, hbk, hp, hq, hv, hu, hvu, nx, ny⟩ := h
 exact ⟨hB, p, v, q, u, (hb.block b (Array.getElem?_eq_some_iff.1 hbk).1).trans hbk, hp, hq, hv.kept (grown_below hb) (by cases v.ownBlock <;> simp), hu.kept (grown_below hb) (by cases u.ownBlock <;> simp), hvu, nx, ny⟩
/-- The type of a block. -/
def Ty (w : World) (g t : Nat) : Prop := ∃ cs fr, w.heap[g]? = some (.cells cs t fr)
theorem Ty.of {w : World} {g t : Nat} {cs : Array Value} {fr : Nat × Nat} (h : w.heap[g]? = some (.cells cs t fr)) : Ty w g t := ⟨cs, fr, h⟩
theorem Ty.set {w : World} {g t : Nat} (h : Ty w g t) (p : Addr) (v : Value) : Ty (w.setCell p v) g t := by
 obtain ⟨cs, fr, h⟩ := h
 by_cases e : g = p.block
 ·subst e
  exact ⟨_, _, by simp only [World.setCell, Array.getElem?_modify, h, if_true, Option.map_some]; rfl⟩
 ·exact ⟨cs, fr, (Below.heap_setCell w p v g e).trans h⟩
theorem Ty.below {w w1 : World} {g t : Nat} (h : Ty w g t) (hb : Below w.heap.size w w1) : Ty w1 g t := by
 obtain ⟨cs, fr, h⟩ := h
 exact ⟨cs, fr, (hb.block g (Array.getElem?_eq_some_iff.1 h).1).trans h⟩
theorem Ty.alloc {w : World} {g t : Nat} (h : Ty w g t) (o : Obj) : Ty (w.alloc o) g t := h.below (below_alloc (Below.refl _ _) o)
theorem Ty.drew {w : World} {g t : Nat} (h : Ty w g t) : Ty w.drew g t := h.below (below_drew (Below.refl _ _))
theorem Ty.drewN {w : World} {g t : Nat} (h : Ty w g t) (m : Nat) : Ty (w.drewN m) g t := h.below (pw_below_drewN (Below.refl _ _) m)
theorem row_not {w : World} {B n g t : Nat} {v : Value} {xs : List Value} (h : w.ownsRowF B 5 1 v n xs) (ht : Ty w g t) (h5 : t ≠ 5) : v.ownBlock ≠ some g := by
 intro e
 obtain ⟨cs, q, fr, h1, _⟩ := rowTyped h g e
 obtain ⟨cs2, fr2, h2⟩ := ht
 rcases h.2 with ⟨rfl, _⟩ | ⟨g', cap, cur, fz, rfl, hbg, hg, _⟩
 ·simp [Value.ownBlock] at e
 ·have : g' = g := by simpa [Value.ownBlock] using e
  subst this
  rw [hg] at h2
  injection h2 with h2
  injection h2 with _ h2
  exact h5 h2.symm
theorem B2.far {B b : Nat} {x y : ByteArray} {w : World} (h : B2 w B b x y) {g t : Nat} (ht : Ty w g t) (h5 : t ≠ 5) (h76 : t ≠ 76) (i : Nat) (v : Value) : B2 (w.setCell ⟨g, i, none⟩ v) B b x y := by
 obtain ⟨hB, p, v, q, u, hbk, hp, hq, hv, hu, hvu, nx, ny⟩ := h
 have hne : b ≠ g := by
  rintro rfl
  obtain ⟨cs, fr, h2⟩ := ht
  rw [hbk] at h2
  injection h2 with h2
  injection h2 with _ h2
  exact h76 h2.symm
 exact ⟨hB, p, v, q, u, (Below.heap_setCell w _ _ b hne).trans hbk, hp, hq, hv.kept (grown_set g i _) (.inr (row_not hv ht h5)), hu.kept (grown_set g i _) (.inr (row_not hu ht h5)), hvu, nx, ny⟩
theorem B2.far25 {B b : Nat} {x y : ByteArray} {w : World} (h : B2 w B b x y) {g : Nat} (ht : Ty w g 25) (i : Nat) (v : Value) : B2 (w.setCell ⟨g, i, none⟩ v) B b x y := h.far ht (by decide) (by decide) i v
theorem B2.far37 {B b : Nat} {x y : ByteArray} {w : World} (h : B2 w B b x y) {g : Nat} (ht : Ty w g 37) (i : Nat) (v : Value) : B2 (w.setCell ⟨g, i, none⟩ v) B b x y := h.far ht (by decide) (by decide) i v
/-- 'sides[seen].WriteString(s)' over the two texts. -/
def xSide.f (A B : ByteArray) (seen : Int) (s : ByteArray) : Option (ByteArray × ByteArray) :=
 if seen = 0 then (if A.size + s.size ≤ 140737488355328 then some (A ++ s, B) else none) else if seen = 1 then (if B.size + s.size ≤ 140737488355328 then some (A, B ++ s) else none) else none
theorem xSide_cases {A B s t u : ByteArray} {seen : Int} (h : xSide.f A B seen s = some (t, u)) :
  (seen = 0 ∧ t = A ++ s ∧ u = B ∧ A.size + s.size ≤ 140737488355328) ∨ (seen = 1 ∧ t = A ∧ u = B ++ s ∧ B.size + s.size ≤ 140737488355328) := by
 unfold xSide.f at h
 split at h
 ·split at h
  ·simp only [Option.some.injEq, Prod.mk.injEq] at h
   exact .inl ⟨‹_›, h.1.symm, h.2.symm, ‹_›⟩
  ·cases h
 ·split at h
  ·split at h
   ·simp only [Option.some.injEq, Prod.mk.injEq] at h
    exact .inr ⟨‹_›, h.1.symm, h.2.symm, ‹_›⟩
   ·cases h
  ·cases h
theorem B2.alloc {B b : Nat} {x y : ByteArray} {w : World} (h : B2 w B b x y) (o : Obj) : B2 (w.alloc o) B b x y := h.below (below_alloc (Below.refl _ _) o)
theorem B2.drew {B b : Nat} {x y : ByteArray} {w : World} (h : B2 w B b x y) : B2 w.drew B b x y := h.below (below_drew (Below.refl _ _))
theorem B2.drewN {B b : Nat} {x y : ByteArray} {w : World} (h : B2 w B b x y) (m : Nat) : B2 (w.drewN m) B b x y := h.below (pw_below_drewN (Below.refl _ _) m)
section
variable {ops : Array Oper} {rest : List Oper} {o : Oper} {a : Act} {Q : Exit → Act → World → Prop}
theorem B2.new {w0 W : World} (base : Nat) (hgd : o.guard = none) {N : Tmp} (_hd : o.dst = some N) (ho : o.op = .alloc 76) (HB : Below base w0 W) (hbase : base ≤ W.heap.size)
  (h : ∀ g w1, B2 w1 base g ⟨#[]⟩ ⟨#[]⟩ → Below base w0 w1 → Below W.heap.size W w1 → wpList Tryd.prog ops Q rest (a.put o.dst (.pointer (some ⟨g, 0, none⟩))) w1) : wpList Tryd.prog ops Q (o :: rest) a W := by
 have hrun : (execOp a.eval o).run Tryd.prog W = .ok (.value (.pointer (some ⟨W.heap.size, 0, none⟩))) (W.alloc (.cells #[.pointer none, .slice none 0 0, .pointer none, .slice none 0 0] 76)) := by
  simp only [execOp, ho]
  go_simp
 refine Kd.event_run hgd hrun (h _ _ ⟨hbase, .pointer none, .slice none 0 0, .pointer none, .slice none 0 0, ?_, .inl rfl, .inl rfl, World.ownsRowF_nil _ _ _ _, World.ownsRowF_nil _ _ _ _, .inl rfl, .inl rfl, .inl rfl⟩ (HB.alloc hbase _) (below_alloc (Below.refl _ _) _))
 show (W.heap.push _)[W.heap.size]? = _
 simp
end
end Go.Proofs.YtlmijjekaelhcaaDoor.X
