/-
  A row of bytes that a call made out of a text ('[]byte(s)'), in the manner of the printed words' own rows: its cells, writing one, making a text of it.
-/
import Derived.Test.YtdeannaaafffbaaWMore
import Derived.Test.YtdeannaaafffbaaWLast
import Derived.Test.YtdeannaaafffbaaWWords
import Derived.Test.YtdeannaaafffbaaProg
import Derived.Laws.IdiomStrings
set_option linter.unusedVariables false
set_option linter.unusedSectionVars false
namespace Go.Proofs.Ytdeannaaafffbaa.X
open Go.RowKit Go.Proofs.YtdeannaaafffbaaW.PrintWords

/-- The slice v owns the bytes xs; the mark of a text's bytes stands behind its room. -/
def RF (w : World) (base : Nat) (ok : Nat → Prop) (v : Value) (xs : List Int) : Prop :=
  ∃ g cap cur, v = .slice (some ⟨g, 0, none⟩) xs.length cap ∧ base ≤ g ∧ w.heap[g]? = some (.cells cur 5 (cur.size, cur.size + 1)) ∧ xs.length ≤ cur.size ∧ cur.toList.take xs.length = nums .u8 xs ∧ ok g ∧ xs.length ≤ cap ∧ xs.length ≤ 9223372036854775807
section
variable {w w1 : World} {base : Nat} {ok : Nat → Prop} {v : Value} {xs : List Int}
theorem RF.lt (h : RF w base ok v xs) : ∀ k, v.ownBlock = some k → k < w.heap.size := by
  obtain ⟨g, cap, cur, rfl, hb, hg, _⟩ := h
  intro k hk
  have : g = k := by simpa [Value.ownBlock] using hk
  subst this
  exact (Array.getElem?_eq_some_iff.1 hg).1
theorem RF.below (h : RF w base ok v xs) (hb : Below w.heap.size w w1) : RF w1 base ok v xs := by
  obtain ⟨g, cap, cur, rfl, hb0, hg, r⟩ := h
  refine ⟨g, cap, cur, rfl, hb0, ?_, r⟩
  rw [hb.block g (Array.getElem?_eq_some_iff.1 hg).1]
  exact hg
theorem RF.alloc (h : RF w base ok v xs) (o : Obj) : RF (w.alloc o) base ok v xs := h.below (below_alloc (Below.refl _ _) o)
theorem RF.drew (h : RF w base ok v xs) : RF w.drew base ok v xs := h.below (below_drew (Below.refl _ _))
theorem RF.drewN (h : RF w base ok v xs) (m : Nat) : RF (w.drewN m) base ok v xs := h.below (pw_below_drewN (Below.refl _ _) m)
theorem RF.lower {base' : Nat} (h : RF w base ok v xs) (hb : base' ≤ base) : RF w base' ok v xs := by
  obtain ⟨g, cap, cur, rfl, hb0, r⟩ := h
  exact ⟨g, cap, cur, rfl, Nat.le_trans hb hb0, r⟩
theorem RF.form (h : RF w base ok v xs) (hp : 0 < xs.length) : ∃ g cap, v = .slice (some ⟨g, 0, none⟩) xs.length cap ∧ base ≤ g ∧ g < w.heap.size ∧ ∃ cells, w.heap[g]? = some (.cells cells 5 (cells.size, cells.size + 1)) := by
  obtain ⟨g, cap, cur, rfl, hb0, hg, r⟩ := h
  exact ⟨g, cap, rfl, hb0, (Array.getElem?_eq_some_iff.1 hg).1, cur, hg⟩
variable {g n cap : Nat}
theorem RF.celln (d : Int) (h : RF w base ok (.slice (some ⟨g, 0, none⟩) n cap) xs) (i : Int) (h0 : 0 ≤ i) (hi : i < n) : w.cell? ⟨g, i.toNat, none⟩ = some (.int .u8 (rdOf d xs i)) ∧ w.frozen? ⟨g, i.toNat, none⟩ = false := by
  obtain ⟨g', cap', cur, he, hb0, hg, hl, ht, _⟩ := h
  injection he with ha hn hc
  injection ha with ha
  injection ha with ha
  subst ha hn hc
  have hi' : i.toNat < xs.length := by omega
  have hc : cur.toList[i.toNat]? = some (.int .u8 (rdOf d xs i)) := by
    have h1 : (cur.toList.take xs.length)[i.toNat]? = cur.toList[i.toNat]? := by rw [List.getElem?_take, if_pos hi']
    rw [← h1, ht]
    simp [nums, rdOf, List.getD, List.getElem?_eq_getElem hi']
  refine ⟨?_, ?_⟩
  · rw [cell_of_row w g i.toNat cur 5 _ hg]
    simpa using hc
  · simp only [World.frozen?, hg, Bool.and_eq_false_iff, decide_eq_false_iff_not]
    left
    omega
theorem RF.putg (h : RF w base ok (.slice (some ⟨g, 0, none⟩) n cap) xs) (i : Int) (x : Int) : RF (w.setCell ⟨g, i.toNat, none⟩ (.int .u8 x)) base ok (.slice (some ⟨g, 0, none⟩) n cap) (xs.set i.toNat x) ∧ w.grownBy (w.setCell ⟨g, i.toNat, none⟩ (.int .u8 x)) (some g) := by
  obtain ⟨g', cap', cur, he, hb0, hg, hl, ht, hok, hnc, hnm⟩ := h
  injection he with ha hn hc
  injection ha with ha
  injection ha with ha
  subst ha hn hc
  have hgl := (Array.getElem?_eq_some_iff.1 hg).1
  rw [setCell_eq_setRow w g i.toNat cur 5 _ _ hg]
  refine ⟨⟨g, cap, cur.setIfInBounds i.toNat (.int .u8 x), by rw [List.length_set], hb0, ?_, ?_, ?_, hok, by rw [List.length_set]; exact hnc, by rw [List.length_set]; exact hnm⟩, ?_⟩
  · have := setRow_heap w g cur (cur.setIfInBounds i.toNat (.int .u8 x)) 5 _ hg
    rw [this]
    simp
  · simpa using hl
  · rw [List.length_set, Array.toList_setIfInBounds, List.take_set, ht]
    simp [nums, List.map_set]
  · rw [← setCell_eq_setRow w g i.toNat cur 5 _ _ hg]
    refine ⟨rfl, rfl, rfl, by simp [World.setCell], fun k hk hne => ?_⟩
    simp only [World.setCell, Array.getElem?_modify]
    rw [if_neg (fun e => hne (by rw [e]))]
theorem RF.slice (h : RF w base ok v xs) : ∃ A c, v = .slice A xs.length c := by
  obtain ⟨g, cap, cur, he, _⟩ := h
  exact ⟨_, _, he⟩
theorem RF.reads' {A : Option Addr} {n c : Nat} (h : RF w base ok (.slice A n c) xs) : n = xs.length ∧ n ≤ c ∧ (Kd.int .u8).C w A xs.length xs := by
  have h' := h
  obtain ⟨g, cap', cur, he, hb0, hg, hl, ht, hok, hnc, hnm⟩ := h'
  injection he with ha hn hc
  subst ha hn hc
  refine ⟨rfl, hnc, rfl, hnm, fun h0 => ⟨_, rfl, fun j p hj => ⟨[.int .u8 p], rfl, rfl, fun i u hu => ?_⟩⟩⟩
  have hjl : j < xs.length := (List.getElem?_eq_some_iff.1 hj).1
  cases i with
  | zero =>
    have hu' : u = .int .u8 p := by simpa using hu.symm
    have := (RF.celln (0 : Int) h (j : Int) (by omega) (by omega)).1
    rw [Int.toNat_natCast] at this
    have hadd : (⟨g, 0, none⟩ : Addr).add (j * Kd.sz (Kd.int .u8) + 0) = ⟨g, j, none⟩ := by
      show (⟨g, 0, none⟩ : Addr).add (j * 1 + 0) = _
      rw [Nat.mul_one]
      unfold Addr.add
      split <;> simp_all
    rw [hadd, this, hu']
    simp [rdOf, List.getD, hj]
  | succ i => simp at hu
theorem RF.text {P : Program} {src e dst : TypeId} (hs : P.underlying src = some (.slice e)) (he : P.underlying e = some (.int .u8)) (hd : P.underlying dst = some .string) (h : RF w base ok v xs) : (convert src dst v).run P w = .ok (.string (strOfNums xs)) w := by
  have h' := h
  obtain ⟨g, cap, cur, rfl, hb0, hg, hl, ht, hok⟩ := h'
  refine run_convert_bytes_arg w src e hs he g 0 xs.length cap xs rfl (fun i hi => ?_) dst hd
  have := (RF.celln (0 : Int) h (i : Int) (by omega) (by omega)).1
  rw [Int.toNat_natCast] at this
  rw [Nat.zero_add, this]
  simp [rdOf]
end
section
variable {P : Program} {ops : Array Oper} {rest : List Oper} {o : Oper} {a : Act} {Q : Exit → Act → World → Prop}
theorem RF.conv {w0 W : World} (base : Nat) (hgd : o.guard = none) {N : Tmp} (hd : o.dst = some N) (src t : TypeId) (x : Operand) (ho : o.op = .convert src t x) (s : ByteArray) (hx : a.eval x = .string s)
    (hs : P.underlying src = some .string) (ht : P.underlying t = some (.slice 5)) (he : P.underlying 5 = some (.int .u8)) (hsz : s.size ≤ 281474976710656) (HB : Below base w0 W) (hbase : base ≤ W.heap.size)
    (h : ∀ v1 w1, RF w1 base (fun _ => True) v1 (bytesOf s) → Below base w0 w1 → W.grownBy w1 none → (∃ b, v1.ownBlock = some b ∧ W.heap.size ≤ b) → wpList P ops Q rest (a.put o.dst v1) w1) : wpList P ops Q (o :: rest) a W := by
  have hr := run_bytes_of_string (P := P) W src t 5 s hs ht he
  have hrun : (execOp a.eval o).run P W = .ok (.value (.slice (some ⟨W.heap.size, 0, none⟩) s.size (grownCap W s.size 0 5))) (W.drew.alloc (.cells (bytesRow s (grownCap W s.size 0 5)) 5 ((bytesRow s (grownCap W s.size 0 5)).size, (bytesRow s (grownCap W s.size 0 5)).size + 1))) := by
    simp [execOp, ho, hx, hr]
  refine Kd.event_run hgd hrun (h _ _ ?_ ?_ ?_ ⟨W.heap.size, by simp [Value.ownBlock], Nat.le_refl _⟩)
  · refine ⟨W.heap.size, _, bytesRow s (grownCap W s.size 0 5), by rw [bytesOf_length], hbase, ?_, ?_, ?_, trivial, by rw [bytesOf_length]; exact grownCap_ge W s.size 0 5, by rw [bytesOf_length]; omega⟩
    · show (W.heap.push _)[W.heap.size]? = _
      simp
    · rw [bytesOf_length]
      simp [bytesRow]
    · rw [bytesOf_length]
      have hl : (s.data.map (fun b => Value.int .u8 b.toNat)).toList.length = s.size := by simp
      rw [bytesRow, Array.toList_append, List.take_append_of_le_length (by omega), List.take_of_length_le (by omega)]
      simp [nums, bytesOf]
  · exact (below_drew HB).alloc hbase _
  · exact ⟨rfl, rfl, rfl, (by show W.heap.size ≤ (W.heap.push _).size; rw [Array.size_push]; omega), fun k hk _ => by
      show (W.heap.push _)[k]? = _
      rw [Array.getElem?_push_lt hk]
      exact (Array.getElem?_eq_getElem hk).symm⟩
end
end Go.Proofs.Ytdeannaaafffbaa.X
