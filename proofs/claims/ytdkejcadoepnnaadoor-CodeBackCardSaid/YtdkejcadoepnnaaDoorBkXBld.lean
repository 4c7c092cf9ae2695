/-
  Contracts of strings.Builder's methods in this program (package code) (the check of copies refuses what the shelf's body panics at, so the shelf's do not fit): WriteString and String, at a Builder whose bytes are told by Lib.IsBuilderF. Conditions: the bytes together are at most 2^47.
-/
import Derived.Test.YtdkejcadoepnnaaDoorBkX
import Derived.Shelf.Strings.BuilderF
import Derived.Lib.OthersKept
set_option linter.unusedSimpArgs false
set_option linter.unusedVariables false
namespace Go.Proofs.YtdkejcadoepnnaaDoor.X
open Go.RowKit Go.Proofs.YtdkejcadoepnnaaDoorW.PrintWords
theorem bldSize : ∃ j, Tryd.prog.info? 84 = some j ∧ j.size = 2 := Option.map_eq_some_iff.1 (by kernel_rfl : (Tryd.prog.info? 84).map (·.size) = some 2)
theorem bldLies : liesAt Tryd.prog Tryd.prog.depth 84 (2 / Tryd.prog.cellsOf 84) 0 84 1 = true := by kernel_rfl
set_option maxHeartbeats 1000000 in
set_option maxRecDepth 100000 in
/-- At a Builder that holds nothing yet: it lays its own address. -/
theorem check_new (b : Nat) (w : World) (h0 : w.cell? ⟨b, 0, none⟩ = some (.pointer none)) (hsh : w.shape? b = some (84, 2)) (hfz : w.frozen? ⟨b, 0, none⟩ = false) :
  Calls Tryd.prog 64 #[.pointer (some ⟨b, 0, none⟩)] w fun e w' => e = .returned (.tuple #[]) ∧ w' = w.setCell ⟨b, 0, none⟩ (.pointer (some ⟨b, 0, none⟩)) := by
 obtain ⟨j, hj, hjs⟩ := bldSize
 go_enter Tryd.func64, Tryd.ntmps64
 go_wp2
 rw [Lib.run_to_unsafe w ⟨b, 0, none⟩ Tryd.underlying82 Tryd.underlying121 hj (by rw [hjs]; decide) hsh (Nat.zero_lt_succ 1)]
 simp only [Result.andThen]
 rw [Oper.upon_value]
 go_wp2
 rw [run_callFunc_extern Tryd.func69 (by kernel_rfl) (by kernel_rfl) (by kernel_rfl) (e := Extern.AbiNoEscape.same) (by kernel_rfl)]
 rw [Lib.run_noEscape]
 simp only [Result.andThen]
 rw [Oper.upon_value]
 go_wp2
 rw [Lib.run_from_unsafe w ⟨b, 0, none⟩ Tryd.underlying121 Tryd.underlying82 hj hsh bldLies]
 simp only [Result.andThen]
 rw [Oper.upon_value]
 go_wp2
 go_end0
 exact ⟨rfl, rfl⟩
set_option maxHeartbeats 1000000 in
set_option maxRecDepth 100000 in
/-- At a Builder that has been written: nothing changes. -/
theorem check_old (b : Nat) (w : World) (h0 : w.cell? ⟨b, 0, none⟩ = some (.pointer (some ⟨b, 0, none⟩))) :
  Calls Tryd.prog 64 #[.pointer (some ⟨b, 0, none⟩)] w fun e w' => e = .returned (.tuple #[]) ∧ w' = w := by
 obtain ⟨j, hj, hjs⟩ := bldSize
 go_enter Tryd.func64, Tryd.ntmps64
 go_wp2
 rw [Lib.run_neq_ptr_same w _ Tryd.underlying82 hj]
 go_wp2
 go_end0
 exact ⟨rfl, rfl⟩
theorem check_any (B b : Nat) (bs : List Value) (w : World) (h : Lib.IsBuilderF 84 5 B b bs w) :
  Calls Tryd.prog 64 #[.pointer (some ⟨b, 0, none⟩)] w fun e w' => e = .returned (.tuple #[]) ∧ (Lib.BuilderAtF 84 5 B b (.pointer (some ⟨b, 0, none⟩)) bs w' ∧ Below B w w' ∧ Lib.OthersKept 5 (some b) w w') := by
 rcases h with h | h
 ·exact (check_new b w h.cell0 h.shape h.frozen0).mono fun e w' ⟨h1, h2⟩ => ⟨h1, by rw [h2]; exact h.used _, by rw [h2]; exact (Below.refl B w).setCell (p := ⟨b, 0, none⟩) h.1 _, by rw [h2]; exact (Lib.OthersKept.refl _ _ w).setCell ⟨b, 0, none⟩ rfl _⟩
 ·exact (check_old b w h.cell0).mono fun e w' ⟨h1, h2⟩ => ⟨h1, by rw [h2]; exact h, by rw [h2]; exact Below.refl B _, by rw [h2]; exact Lib.OthersKept.refl _ _ _⟩
set_option maxHeartbeats 2000000 in
set_option maxRecDepth 100000 in
theorem write_any (B b : Nat) (bs : List Value) (s : ByteArray) (w : World) (h : Lib.IsBuilderF 84 5 B b bs w) (hlen : bs.length + s.size ≤ 140737488355328) (hBw : B ≤ w.heap.size) :
  Calls Tryd.prog 43 #[.pointer (some ⟨b, 0, none⟩), .string s] w fun e w' => e = .returned (.tuple #[.int .i64 s.size, .nilIface]) ∧ (Lib.BuilderAtF 84 5 B b (.pointer (some ⟨b, 0, none⟩)) (bs ++ Lib.strCells s) w' ∧ Below B w w' ∧ Lib.OthersKept 5 (some b) w w') := by
 obtain ⟨i0, hi, hz0, hz1, hz2⟩ := info_parts (by kernel_rfl : (Tryd.prog.info? 5).map (fun i => (i.zero, i.size, i.bytes)) = some (some (.int .u8 0), 1, 1))
 go_enter Tryd.func43, Tryd.ntmps43
 go_wp2_with (first | (go_at_call 64; refine (check_any B b bs _ h).mono ?_; rintro e w1 ⟨rfl, ⟨hB, v, hbk, hown, hne⟩, hb1, hk1⟩; have hs1 := hb1.size; have c0 : w1.cell? ⟨b, 0, none⟩ = some (.pointer (some ⟨b, 0, none⟩)) := (by rw [Lib.cell_of_heap hbk]; rfl); have c1 : w1.cell? ⟨b, 1, none⟩ = some v := (by rw [Lib.cell_of_heap hbk]; rfl)) | (at_builtin; refine Lib.wpList_append_own_stringF _ rfl _ _ 34 9 rfl B 5 i0 Tryd.underlying34 Tryd.underlying9 hi hz0 hz1 hz2 _ _ _ rfl hown s rfl (by unfold maxLen; omega) (by omega) (by omega) ?_; intro v' w2 hown' hgrow _; have hb2 : w2.heap[b]? = some (.cells #[.pointer (some ⟨b, 0, none⟩), v] 84 (0, 0)) := ((hgrow.block b (Array.getElem?_eq_some_iff.1 hbk).1 (fun e => hne e.symm)).trans hbk); have d0 : w2.cell? ⟨b, 0, none⟩ = some (.pointer (some ⟨b, 0, none⟩)) := (by rw [Lib.cell_of_heap hb2]; rfl); have d1 : w2.cell? ⟨b, 1, none⟩ = some v := (by rw [Lib.cell_of_heap hb2]; rfl); have f1 : w2.frozen? ⟨b, 1, none⟩ = false := Lib.frozen_of_heap hb2 1; obtain ⟨ao, n', cap, rfl⟩ : ∃ ao n' cap, v' = .slice ao n' cap := (by rcases hown'.2 with ⟨hv, _⟩ | ⟨g, cap, cur, fz, hv, _⟩; exact ⟨_, _, _, hv⟩; exact ⟨_, _, _, hv⟩)))
 go_ret2
 refine ⟨rfl, ?_, (hb1.grown hgrow (by omega) (fun k hk => (hown.lt k hk).1)).setCell (p := ⟨b, 1, none⟩) hB _, (hk1.grown hgrow (Lib.ownsRowF_kind hown)).setCell ⟨b, 1, none⟩ rfl _⟩
 exact Lib.BuilderAtF.put (T := 84) (e := 5) hB hb2 (bs' := bs ++ Lib.strCells s) (by simpa [Lib.strCells_length] using hown') (by decide)
set_option maxHeartbeats 2000000 in
set_option maxRecDepth 100000 in
theorem byte_any (B b : Nat) (bs : List Value) (c : Int) (w : World) (h : Lib.IsBuilderF 84 5 B b bs w) (hlen : bs.length + 1 ≤ 140737488355328) (hBw : B ≤ w.heap.size) :
  Calls Tryd.prog 45 #[.pointer (some ⟨b, 0, none⟩), .int .u8 c] w fun e w' => e = .returned .nilIface ∧ (Lib.BuilderAtF 84 5 B b (.pointer (some ⟨b, 0, none⟩)) (bs ++ [.int .u8 c]) w' ∧ Below B w w' ∧ Lib.OthersKept 5 (some b) w w') := by
 obtain ⟨i0, hi, hz0, hz1, hz2⟩ := info_parts (by kernel_rfl : (Tryd.prog.info? 5).map (fun i => (i.zero, i.size, i.bytes)) = some (some (.int .u8 0), 1, 1))
 go_enter Tryd.func45, Tryd.ntmps45
 go_wp2_with (go_at_call 64; refine (check_any B b bs _ h).mono ?_)
 rintro e w1 ⟨rfl, ⟨hB, v, hbk, hown, hne⟩, hb1, hk1⟩
 have c0 : w1.cell? ⟨b, 0, none⟩ = some (.pointer (some ⟨b, 0, none⟩)) := by rw [Lib.cell_of_heap hbk]; rfl
 have c1 : w1.cell? ⟨b, 1, none⟩ = some v := by rw [Lib.cell_of_heap hbk]; rfl
 go_wp2_with (at_builtin; refine wpList_append_ownF _ rfl _ _ 34 rfl B 5 i0 (.int .u8 0) 1 1 Tryd.underlying34 hi hz0 hz1 hz2 rfl (by decide) _ _ _ rfl (hown.alloc _) ⟨w1.heap.size, 0, none⟩ 1 1 [.int .u8 c] rfl rfl ?c1 ?c2 ?c3 ?c4 ?c5 ?_)
 case c1 =>
  intro j u hj
  match j, hj with
  | 0, hj => simp at hj; subst hj; simp [Addr.add]
 case c2 => intro u hu; simp at hu; subst hu; rfl
 case c3 => unfold maxLen; omega
 case c4 => omega
 case c5 => have := hb1.size; simp; omega
 intro v' w2 hown' hgrow _
 have hlt : b < w1.heap.size := by
  rcases Nat.lt_or_ge b w1.heap.size with h' | h'
  ·exact h'
  ·simp [Array.getElem?_eq_none h'] at hbk
 have hb2 : w2.heap[b]? = some (.cells #[.pointer (some ⟨b, 0, none⟩), v] 84 (0, 0)) := by
  rw [hgrow.block b (by simp; omega) (fun e => hne e.symm), Lib.alloc_old w1 _ b hlt]
  exact hbk
 have d0 : w2.cell? ⟨b, 0, none⟩ = some (.pointer (some ⟨b, 0, none⟩)) := by rw [Lib.cell_of_heap hb2]; rfl
 have d1 : w2.cell? ⟨b, 1, none⟩ = some v := by rw [Lib.cell_of_heap hb2]; rfl
 have f1 : w2.frozen? ⟨b, 1, none⟩ = false := Lib.frozen_of_heap hb2 1
 obtain ⟨g, cap, rfl⟩ : ∃ g cap, v' = .slice (some ⟨g, 0, none⟩) (bs.length + 1) cap := by
  rcases hown'.2 with ⟨_, h0⟩ | ⟨g, cap, cur, fz, hv, _⟩
  ·omega
  ·exact ⟨g, cap, hv⟩
 go_wp2
 go_ret
 refine ⟨rfl, ?_, ?_, ((hk1.alloc _).grown hgrow (Lib.ownsRowF_kind (hown.alloc _))).setCell ⟨b, 1, none⟩ rfl _⟩
 ·exact Lib.BuilderAtF.put (T := 84) (e := 5) hB hb2 (bs' := bs ++ [.int .u8 c]) (by simpa using hown') (by decide)
 ·exact ((hb1.alloc (by have := hb1.size; omega) _).grown hgrow (by have := hb1.size; simp; omega) (fun k hk => (hown.lt k hk).1)).setCell (p := ⟨b, 1, none⟩) hB _
def BF (w : World) (B b : Nat) (x : ByteArray) : Prop := Lib.IsBuilderF 84 5 B b (Lib.byteCells x.data.toList) w
theorem BF.write {B b : Nat} {x : ByteArray} {w : World} (h : BF w B b x) (s : ByteArray) (hlen : x.size + s.size ≤ 140737488355328) (hBw : B ≤ w.heap.size) :
  Calls Tryd.prog 43 #[.pointer (some ⟨b, 0, none⟩), .string s] w fun e w' => e = .returned (.tuple #[.int .i64 s.size, .nilIface]) ∧ BF w' B b (x ++ s) ∧ Below B w w' := by
 refine (write_any B b (Lib.byteCells x.data.toList) s w h (by simpa [Lib.byteCells] using hlen) hBw).mono fun e w' ⟨h1, h2, h3, _⟩ => ⟨h1, ?_, h3⟩
 have : Lib.byteCells x.data.toList ++ Lib.strCells s = Lib.byteCells (x ++ s).data.toList := by simp [Lib.byteCells, Lib.strCells, ByteArray.data_append]
 rw [this] at h2
 exact .inr h2
theorem BF.text {B b : Nat} {x : ByteArray} {w : World} (h : BF w B b x) (hBw : B ≤ w.heap.size) :
  Calls Tryd.prog 32 #[.pointer (some ⟨b, 0, none⟩)] w fun e w' => e = .returned (.string x) ∧ Below B w w' :=
 (Tryd.Builder_String_any_f B b x.data.toList w h hBw).mono fun e w' ⟨h1, _, h3⟩ => ⟨h1, h3⟩
theorem BF.below {B b : Nat} {x : ByteArray} {w w1 : World} (h : BF w B b x) (hb : Below w.heap.size w w1) : BF w1 B b x := by
 have go : ∀ p, Lib.BuilderAtF 84 5 B b p (Lib.byteCells x.data.toList) w → Lib.BuilderAtF 84 5 B b p (Lib.byteCells x.data.toList) w1 := by
  rintro p ⟨hB, v, hbk, hown, hne⟩
  refine ⟨hB, v, (hb.block b (Array.getElem?_eq_some_iff.1 hbk).1).trans hbk, ?_, hne⟩
  exact hown.kept (row := none) ⟨hb.os, hb.tape, hb.output, hb.size, fun k hk _ => hb.block k hk⟩ (by
   cases hv : v.ownBlock
   ·exact .inl rfl
   ·exact .inr (by simp))
 exact h.elim (fun h => .inl (go _ h)) (fun h => .inr (go _ h))
theorem BF.alloc {B b : Nat} {x : ByteArray} {w : World} (h : BF w B b x) (o : Obj) : BF (w.alloc o) B b x := h.below (below_alloc (Below.refl _ _) o)
theorem BF.drew {B b : Nat} {x : ByteArray} {w : World} (h : BF w B b x) : BF w.drew B b x := h.below (below_drew (Below.refl _ _))
theorem BF.drewN {B b : Nat} {x : ByteArray} {w : World} (h : BF w B b x) (m : Nat) : BF (w.drewN m) B b x := h.below (pw_below_drewN (Below.refl _ _) m)
theorem strOfNums_data (xs : List Int) : (strOfNums xs).data.toList = xs.map (fun x => x.toNat.toUInt8) := by simp [strOfNums]
/-- The Builder's bytes are the numbers xs (each a byte). -/
def BR (w : World) (B b : Nat) (xs : List Int) : Prop := Lib.IsBuilderF 84 5 B b (nums .u8 xs) w ∧ xs.length ≤ 140737488355328
theorem BR.byte {B b : Nat} {xs : List Int} {w : World} (h : BR w B b xs) (c : Int) (hlen : xs.length + 1 ≤ 140737488355328) (hBw : B ≤ w.heap.size) :
  Calls Tryd.prog 45 #[.pointer (some ⟨b, 0, none⟩), .int .u8 c] w fun e w' => e = .returned .nilIface ∧ BR w' B b (xs ++ [c]) ∧ Below B w w' ∧ Lib.OthersKept 5 (some b) w w' := by
 refine (byte_any B b (nums .u8 xs) c w h.1 (by simpa [nums] using hlen) hBw).mono fun e w' ⟨h1, h2, h3, h4⟩ => ⟨h1, ⟨?_, by simpa using hlen⟩, h3, h4⟩
 have : nums .u8 xs ++ [.int .u8 c] = nums .u8 (xs ++ [c]) := by simp [nums]
 rw [this] at h2
 exact .inr h2
theorem BR.write {B b : Nat} {xs : List Int} {w : World} (h : BR w B b xs) (s : ByteArray) (hlen : xs.length + s.size ≤ 140737488355328) (hBw : B ≤ w.heap.size) :
  Calls Tryd.prog 43 #[.pointer (some ⟨b, 0, none⟩), .string s] w fun e w' => e = .returned (.tuple #[.int .i64 s.size, .nilIface]) ∧ BR w' B b (xs ++ bytesOf s) ∧ Below B w w' ∧ Lib.OthersKept 5 (some b) w w' := by
 refine (write_any B b (nums .u8 xs) s w h.1 (by simpa [nums] using hlen) hBw).mono fun e w' ⟨h1, h2, h3, h4⟩ => ⟨h1, ⟨?_, by simpa [bytesOf_length] using hlen⟩, h3, h4⟩
 have : nums .u8 xs ++ Lib.strCells s = nums .u8 (xs ++ bytesOf s) := by simp [nums, Lib.strCells, bytesOf]
 rw [this] at h2
 exact .inr h2
theorem BR.len {B b : Nat} {xs : List Int} {w : World} (h : BR w B b xs) : Calls Tryd.prog 31 #[.pointer (some ⟨b, 0, none⟩)] w fun e w' => e = .returned (.int .i64 xs.length) ∧ w' = w :=
 (Tryd.Builder_Len_f B b (nums .u8 xs) w h.1).mono fun e w' ⟨h1, h2⟩ => ⟨by rw [h1, nums_length], h2⟩
theorem BR.below {B b : Nat} {xs : List Int} {w w1 : World} (h : BR w B b xs) (hb : Below w.heap.size w w1) : BR w1 B b xs := by
 have go : ∀ p, Lib.BuilderAtF 84 5 B b p (nums .u8 xs) w → Lib.BuilderAtF 84 5 B b p (nums .u8 xs) w1 := by
  rintro p ⟨hB, v, hbk, hown, hne⟩
  refine ⟨hB, v, (hb.block b (Array.getElem?_eq_some_iff.1 hbk).1).trans hbk, ?_, hne⟩
  exact hown.kept (row := none) ⟨hb.os, hb.tape, hb.output, hb.size, fun k hk _ => hb.block k hk⟩ (by
   cases hv : v.ownBlock
   ·exact .inl rfl
   ·exact .inr (by simp))
 exact ⟨h.1.elim (fun h => .inl (go _ h)) (fun h => .inr (go _ h)), h.2⟩
theorem BR.ne {B b g : Nat} {xs : List Int} {w : World} {cs : Array Value} {t : TypeId} (h : BR w B b xs) (hg : w.heap[g]? = some (.cells cs t (0, 0))) (ht : t ≠ 5 ∧ t ≠ 84) : g ≠ b ∧ t ≠ 5 := by
 refine ⟨fun e => ?_, ht.1⟩
 subst e
 have go : ∀ p, Lib.BuilderAtF 84 5 B g p (nums .u8 xs) w → False := by
  rintro p ⟨hB, v, hbk, hown, hne⟩
  rw [hg] at hbk
  injection hbk with hbk
  injection hbk with _ e _
  exact ht.2 e
 exact h.1.elim (go _) (go _)
theorem blk_kept {w w1 : World} {g b : Nat} {o : Obj} {cs : Array Value} {t : TypeId} (h : w.heap[g]? = some (.cells cs t (0, 0))) (hk : Lib.OthersKept 5 (some b) w w1) (hne : g ≠ b ∧ t ≠ 5) : w1.heap[g]? = some (.cells cs t (0, 0)) :=
 hk g _ h (fun e => hne.1 (Option.some.inj e)) (fun c fz e => by injection e with _ e _; exact hne.2 e)
theorem below_trans_ {B : Nat} {u v x : World} (h : Below B u v) (k : Below B v x) : Below B u x := h.trans k
theorem OK.alloc {e : TypeId} {b : Option Nat} {a w : World} (o : Obj) (h : Lib.OthersKept e b a w) : Lib.OthersKept e b a (w.alloc o) := h.alloc o
theorem OK.drew {e : TypeId} {b : Option Nat} {a w : World} (h : Lib.OthersKept e b a w) : Lib.OthersKept e b a w.drew := h
theorem OK.drewN {e : TypeId} {b : Option Nat} {a w : World} (m : Nat) (h : Lib.OthersKept e b a w) : Lib.OthersKept e b a (w.drewN m) := h
theorem BR.alloc {B b : Nat} {xs : List Int} {w : World} (o : Obj) (h : BR w B b xs) : BR (w.alloc o) B b xs := h.below (below_alloc (Below.refl _ _) o)
theorem BR.drew {B b : Nat} {xs : List Int} {w : World} (h : BR w B b xs) : BR w.drew B b xs := h.below (below_drew (Below.refl _ _))
theorem BR.drewN {B b : Nat} {xs : List Int} {w : World} (m : Nat) (h : BR w B b xs) : BR (w.drewN m) B b xs := h.below (pw_below_drewN (Below.refl _ _) m)
def LB (w0 w : World) (b : Nat) (w' : World) : Prop := Below w0.heap.size w0 w' ∧ Lib.OthersKept 5 (some b) w w' ∧ w.heap.size ≤ w'.heap.size ∧ w0.heap.size ≤ w.heap.size
theorem lb_refl {w0 w : World} (b : Nat) (h : Below w0.heap.size w0 w) : LB w0 w b w := ⟨h, Lib.OthersKept.refl _ _ _, Nat.le_refl _, h.size⟩
theorem kept_below {e : TypeId} {b : Option Nat} {w W : World} (h : Below w.heap.size w W) : Lib.OthersKept e b w W := fun k o hk _ _ => (h.block k (Array.getElem?_eq_some_iff.1 hk).1).trans hk
theorem lb_alloc {w0 w W : World} {b : Nat} (h : LB w0 w b W) (o : Obj) : LB w0 w b (W.alloc o) := ⟨h.1.alloc (Nat.le_trans h.2.2.2 h.2.2.1) o, h.2.1.alloc o, Nat.le_trans h.2.2.1 (by simp), h.2.2.2⟩
theorem lb_drewN {w0 w W : World} {b : Nat} (h : LB w0 w b W) (m : Nat) : LB w0 w b (W.drewN m) := ⟨pw_below_drewN h.1 m, h.2.1, h.2.2.1, h.2.2.2⟩
theorem lb_drew1 {w0 w W : World} {b : Nat} (h : LB w0 w b W) : LB w0 w b W.drew := ⟨below_drew h.1, h.2.1, h.2.2.1, h.2.2.2⟩
theorem lb_step {w0 w W w1 : World} {b : Nat} (h : LB w0 w b W) (hb : Below W.heap.size W w1) : LB w0 w b w1 := ⟨below_step h.1 hb, h.2.1.trans (kept_below hb), Nat.le_trans h.2.2.1 hb.size, h.2.2.2⟩
theorem lb_set {w0 w W : World} {b : Nat} {p : Addr} {u : Value} (h : LB w0 w b W) (hp : w.heap.size ≤ p.block) : LB w0 w b (W.setCell p u) := by
 refine ⟨h.1.setCell (Nat.le_trans h.2.2.2 hp) u, ?_, ?_, h.2.2.2⟩
 ·intro k o hk hb ho
  have hlt := (Array.getElem?_eq_some_iff.1 hk).1
  exact (Below.heap_setCell _ _ _ _ (by omega)).trans (h.2.1 k o hk hb ho)
 ·have := h.2.2.1
  simpa [World.setCell] using this
theorem lb_size0 {w0 w W : World} {b : Nat} (h : LB w0 w b W) : w0.heap.size ≤ W.heap.size := Nat.le_trans h.2.2.2 h.2.2.1
theorem lb_bld {w0 w W w1 : World} {b : Nat} (h : LB w0 w b W) (hb : Below w0.heap.size W w1) (hk : Lib.OthersKept 5 (some b) W w1) : LB w0 w b w1 := ⟨h.1.trans hb, h.2.1.trans hk, Nat.le_trans h.2.2.1 hb.size, h.2.2.2⟩
theorem lb_call {w0 w W w1 : World} {b : Nat} (h : LB w0 w b W) (hb : LB w0 W b w1) : LB w0 w b w1 := ⟨hb.1, h.2.1.trans hb.2.1, Nat.le_trans h.2.2.1 hb.2.2.1, h.2.2.2⟩
theorem OK.mk {w0 w W : World} {b : Nat} (h : LB w0 w b W) : Lib.OthersKept 5 (some b) w W := h.2.1
theorem GWL {w0 w W : World} {b : Nat} (h : GW w0) (hb : LB w0 w b W) : GW W := h.below hb.1
theorem lb_below {w0 w W : World} {b : Nat} (h : LB w0 w b W) : Below w0.heap.size w0 W := h.1
theorem lb_start {w0 w W : World} (b : Nat) (h0 : Below w0.heap.size w0 w) (h : Below w.heap.size w W) : LB w0 w b W := ⟨below_step h0 h, kept_below h, h.size, h0.size⟩
section
variable {ops : Array Oper} {rest : List Oper} {o : Oper} {a : Act} {Q : Exit → Act → World → Prop}
theorem BF.new {w0 W : World} (base : Nat) (hgd : o.guard = none) {N : Tmp} (hd : o.dst = some N) (ho : o.op = .alloc 84) (HB : Below base w0 W) (hbase : base ≤ W.heap.size)
  (h : ∀ g w1, BF w1 base g ⟨#[]⟩ → Below base w0 w1 → wpList Tryd.prog ops Q rest (a.put o.dst (.pointer (some ⟨g, 0, none⟩))) w1) : wpList Tryd.prog ops Q (o :: rest) a W := by
 have hrun : (execOp a.eval o).run Tryd.prog W = .ok (.value (.pointer (some ⟨W.heap.size, 0, none⟩))) (W.alloc (.cells #[.pointer none, .slice none 0 0] 84)) := by
  simp only [execOp, ho]
  go_simp
 refine Kd.event_run hgd hrun (h _ _ ?_ (HB.alloc hbase _))
 refine .inl ⟨hbase, .slice none 0 0, ?_, World.ownsRowF_nil _ _ _ _, by simp [Value.ownBlock]⟩
 show (W.heap.push _)[W.heap.size]? = _
 simp
end
end Go.Proofs.YtdkejcadoepnnaaDoor.X
