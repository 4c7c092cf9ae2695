/-
  Contracts of strings.Builder's methods in this program (the check of copies refuses what the shelf's body panics at, so the shelf's do not fit): WriteString and String, at a Builder whose bytes are told by Lib.IsBuilderF. Conditions: the bytes together are at most 2^47.
-/
import Derived.Test.YtlmijjekaelhcaaDoorExX
import Derived.Shelf.Strings.BuilderF
set_option linter.unusedVariables false
namespace Go.Proofs.YtlmijjekaelhcaaDoor.X
open Go.RowKit Go.Proofs.YtlmijjekaelhcaaDoorW.PrintWords
theorem bldSize : ∃ j, Tryd.prog.info? 62 = some j ∧ j.size = 2 := Option.map_eq_some_iff.1 (by kernel_rfl : (Tryd.prog.info? 62).map (·.size) = some 2)
theorem bldLies : liesAt Tryd.prog Tryd.prog.depth 62 (2 / Tryd.prog.cellsOf 62) 0 62 1 = true := by kernel_rfl
set_option maxHeartbeats 1000000 in
set_option maxRecDepth 100000 in
/-- At a Builder that holds nothing yet: it lays its own address. -/
theorem check_new (b : Nat) (w : World) (h0 : w.cell? ⟨b, 0, none⟩ = some (.pointer none)) (hsh : w.shape? b = some (62, 2)) (hfz : w.frozen? ⟨b, 0, none⟩ = false) :
  Calls Tryd.prog 43 #[.pointer (some ⟨b, 0, none⟩)] w fun e w' => e = .returned (.tuple #[]) ∧ w' = w.setCell ⟨b, 0, none⟩ (.pointer (some ⟨b, 0, none⟩)) := by
 obtain ⟨j, hj, hjs⟩ := bldSize
 go_enter Tryd.func43, Tryd.ntmps43
 go_wp2
 rw [Lib.run_to_unsafe w ⟨b, 0, none⟩ Tryd.underlying59 Tryd.underlying88 hj (by rw [hjs]; decide) hsh (Nat.zero_lt_succ 1)]
 simp only [Result.andThen]
 rw [Oper.upon_value]
 go_wp2
 rw [run_callFunc_extern Tryd.func56 (by kernel_rfl) (by kernel_rfl) (by kernel_rfl) (e := Extern.AbiNoEscape.same) (by kernel_rfl)]
 rw [Lib.run_noEscape]
 simp only [Result.andThen]
 rw [Oper.upon_value]
 go_wp2
 rw [Lib.run_from_unsafe w ⟨b, 0, none⟩ Tryd.underlying88 Tryd.underlying59 hj hsh bldLies]
 simp only [Result.andThen]
 rw [Oper.upon_value]
 go_wp2
 go_end0
 exact ⟨rfl, rfl⟩
set_option maxHeartbeats 1000000 in
set_option maxRecDepth 100000 in
/-- At a Builder that has been written: nothing changes. -/
theorem check_old (b : Nat) (w : World) (h0 : w.cell? ⟨b, 0, none⟩ = some (.pointer (some ⟨b, 0, none⟩))) :
  Calls Tryd.prog 43 #[.pointer (some ⟨b, 0, none⟩)] w fun e w' => e = .returned (.tuple #[]) ∧ w' = w := by
 obtain ⟨j, hj, hjs⟩ := bldSize
 go_enter Tryd.func43, Tryd.ntmps43
 go_wp2
 rw [Lib.run_neq_ptr_same w _ Tryd.underlying59 hj]
 go_wp2
 go_end0
 exact ⟨rfl, rfl⟩
theorem check_any (B b : Nat) (bs : List Value) (w : World) (h : Lib.IsBuilderF 62 5 B b bs w) :
  Calls Tryd.prog 43 #[.pointer (some ⟨b, 0, none⟩)] w fun e w' => e = .returned (.tuple #[]) ∧ (Lib.BuilderAtF 62 5 B b (.pointer (some ⟨b, 0, none⟩)) bs w' ∧ Below B w w') := by
 rcases h with h | h
 ·exact (check_new b w h.cell0 h.shape h.frozen0).mono fun e w' ⟨h1, h2⟩ => ⟨h1, by rw [h2]; exact h.used _, by rw [h2]; exact (Below.refl B w).setCell (p := ⟨b, 0, none⟩) h.1 _⟩
 ·exact (check_old b w h.cell0).mono fun e w' ⟨h1, h2⟩ => ⟨h1, by rw [h2]; exact h, by rw [h2]; exact Below.refl B _⟩
set_option maxHeartbeats 2000000 in
set_option maxRecDepth 100000 in
theorem write_any (B b : Nat) (bs : List Value) (s : ByteArray) (w : World) (h : Lib.IsBuilderF 62 5 B b bs w) (hlen : bs.length + s.size ≤ 140737488355328) (hBw : B ≤ w.heap.size) :
  Calls Tryd.prog 27 #[.pointer (some ⟨b, 0, none⟩), .string s] w fun e w' => e = .returned (.tuple #[.int .i64 s.size, .nilIface]) ∧ (Lib.BuilderAtF 62 5 B b (.pointer (some ⟨b, 0, none⟩)) (bs ++ Lib.strCells s) w' ∧ Below B w w') := by
 obtain ⟨i0, hi, hz0, hz1, hz2⟩ := info_parts (by kernel_rfl : (Tryd.prog.info? 5).map (fun i => (i.zero, i.size, i.bytes)) = some (some (.int .u8 0), 1, 1))
 go_enter Tryd.func27, Tryd.ntmps27
 go_wp2_with (first | (go_at_call 43; refine (check_any B b bs _ h).mono ?_; rintro e w1 ⟨rfl, ⟨hB, v, hbk, hown, hne⟩, hb1⟩; have hs1 := hb1.size; have c0 : w1.cell? ⟨b, 0, none⟩ = some (.pointer (some ⟨b, 0, none⟩)) := (by rw [Lib.cell_of_heap hbk]; rfl); have c1 : w1.cell? ⟨b, 1, none⟩ = some v := (by rw [Lib.cell_of_heap hbk]; rfl)) | (at_builtin; refine Lib.wpList_append_own_stringF _ rfl _ _ 60 9 rfl B 5 i0 Tryd.underlying60 Tryd.underlying9 hi hz0 hz1 hz2 _ _ _ rfl hown s rfl (by unfold maxLen; omega) (by omega) (by omega) ?_; intro v' w2 hown' hgrow _; have hb2 : w2.heap[b]? = some (.cells #[.pointer (some ⟨b, 0, none⟩), v] 62 (0, 0)) := ((hgrow.block b (Array.getElem?_eq_some_iff.1 hbk).1 (fun e => hne e.symm)).trans hbk); have d0 : w2.cell? ⟨b, 0, none⟩ = some (.pointer (some ⟨b, 0, none⟩)) := (by rw [Lib.cell_of_heap hb2]; rfl); have d1 : w2.cell? ⟨b, 1, none⟩ = some v := (by rw [Lib.cell_of_heap hb2]; rfl); have f1 : w2.frozen? ⟨b, 1, none⟩ = false := Lib.frozen_of_heap hb2 1; obtain ⟨ao, n', cap, rfl⟩ : ∃ ao n' cap, v' = .slice ao n' cap := (by rcases hown'.2 with ⟨hv, _⟩ | ⟨g, cap, cur, fz, hv, _⟩; exact ⟨_, _, _, hv⟩; exact ⟨_, _, _, hv⟩)))
 go_ret2
 refine ⟨rfl, ?_, (hb1.grown hgrow (by omega) (fun k hk => (hown.lt k hk).1)).setCell (p := ⟨b, 1, none⟩) hB _⟩
 exact Lib.BuilderAtF.put (T := 62) (e := 5) hB hb2 (bs' := bs ++ Lib.strCells s) (by simpa [Lib.strCells_length] using hown') (by decide)
def BF (w : World) (B b : Nat) (x : ByteArray) : Prop := Lib.IsBuilderF 62 5 B b (Lib.byteCells x.data.toList) w
theorem BF.write {B b : Nat} {x : ByteArray} {w : World} (h : BF w B b x) (s : ByteArray) (hlen : x.size + s.size ≤ 140737488355328) (hBw : B ≤ w.heap.size) :
  Calls Tryd.prog 27 #[.pointer (some ⟨b, 0, none⟩), .string s] w fun e w' => e = .returned (.tuple #[.int .i64 s.size, .nilIface]) ∧ BF w' B b (x ++ s) ∧ Below B w w' := by
 refine (write_any B b (Lib.byteCells x.data.toList) s w h (by simpa [Lib.byteCells] using hlen) hBw).mono fun e w' ⟨h1, h2, h3⟩ => ⟨h1, ?_, h3⟩
 have : Lib.byteCells x.data.toList ++ Lib.strCells s = Lib.byteCells (x ++ s).data.toList := by simp [Lib.byteCells, Lib.strCells, ByteArray.data_append]
 rw [this] at h2
 exact .inr h2
theorem BF.text {B b : Nat} {x : ByteArray} {w : World} (h : BF w B b x) (hBw : B ≤ w.heap.size) :
  Calls Tryd.prog 28 #[.pointer (some ⟨b, 0, none⟩)] w fun e w' => e = .returned (.string x) ∧ Below B w w' :=
 (Tryd.Builder_String_any_f B b x.data.toList w h hBw).mono fun e w' ⟨h1, _, h3⟩ => ⟨h1, h3⟩
theorem BF.below {B b : Nat} {x : ByteArray} {w w1 : World} (h : BF w B b x) (hb : Below w.heap.size w w1) : BF w1 B b x := by
 have go : ∀ p, Lib.BuilderAtF 62 5 B b p (Lib.byteCells x.data.toList) w → Lib.BuilderAtF 62 5 B b p (Lib.byteCells x.data.toList) w1 := by
  rintro p ⟨hB, v, hbk, hown, hne⟩
  refine ⟨hB, v, (hb.block b (Array.getElem?_eq_some_iff.1 hbk).1).trans hbk, ?_, hne⟩
  exact hown.kept (row := none) ⟨hb.os, hb.tape, hb.output, hb.size, fun k hk _ => hb.block k hk⟩ (by
   cases hv : v.ownBlock
   ·exact .inl rfl
   ·exact .inr (by simp))
 exact h.elim (fun h => .inl (go _ h)) (fun h => .inr (go _ h))
theorem BF.alloc {B b : Nat} {x : ByteArray} {w : World} (h : BF w B b x) (o : Obj) : BF (w.alloc o) B b x := h.below (below_alloc (Below.refl _ _) o)
theorem BF.drew {B b : Nat} {x : ByteArray} {w : World} (h : BF w B b x) : BF w.drew B b x := h.below (below_drew (Below.refl _ _))
theorem BF.drewN {B b : Nat} {x : ByteArray} {w : World} (h : BF w B b x) (m : Nat) : BF (w.drewN m) B b x := h.below (pw_below_drewN (Below.refl _ _) m)
section
variable {ops : Array Oper} {rest : List Oper} {o : Oper} {a : Act} {Q : Exit → Act → World → Prop}
theorem BF.new {w0 W : World} (base : Nat) (hgd : o.guard = none) {N : Tmp} (hd : o.dst = some N) (ho : o.op = .alloc 62) (HB : Below base w0 W) (hbase : base ≤ W.heap.size)
  (h : ∀ g w1, BF w1 base g ⟨#[]⟩ → Below base w0 w1 → wpList Tryd.prog ops Q rest (a.put o.dst (.pointer (some ⟨g, 0, none⟩))) w1) : wpList Tryd.prog ops Q (o :: rest) a W := by
 have hrun : (execOp a.eval o).run Tryd.prog W = .ok (.value (.pointer (some ⟨W.heap.size, 0, none⟩))) (W.alloc (.cells #[.pointer none, .slice none 0 0] 62)) := by
  simp only [execOp, ho]
  go_simp
 refine Kd.event_run hgd hrun (h _ _ ?_ (HB.alloc hbase _))
 refine .inl ⟨hbase, .slice none 0 0, ?_, World.ownsRowF_nil _ _ _ _, by simp [Value.ownBlock]⟩
 show (W.heap.push _)[W.heap.size]? = _
 simp
end
end Go.Proofs.YtlmijjekaelhcaaDoor.X
