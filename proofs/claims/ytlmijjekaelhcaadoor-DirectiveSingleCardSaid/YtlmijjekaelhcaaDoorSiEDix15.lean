/-
  A text of this session's own.
-/
import Derived.Test.YtlmijjekaelhcaaDoorSiEDix0
namespace Go.Proofs.YtlmijjekaelhcaaDoor.EDi
open Go.RowKit Go.Proofs.YtlmijjekaelhcaaDoorW.PrintWords Go.Proofs.YtlmijjekaelhcaaDoorW.PrintLast Go.Proofs.YtlmijjekaelhcaaDoorW.PrintMore
attribute [local go_sem] max2_int min2_int max_two min_two max_three min_three max_four min_four   -- for this text's walks alone
set_option linter.unusedVariables false
set_option linter.unusedSimpArgs false
/-- A state of type 70 at block g of W; what its slices lead to came in by w0. -/
def IsS70 (w0 W : World) (g : Nat) (f0 : ByteArray) (f1 : Int) (f2 : Int) (f3 : Int) (f4 : ByteArray) (f5 : Int) (f6 : Int) (f7 : Int) (f8 : Int) (f9 : Int) (f10 : Int) : Prop := W.heap[g]? = some (.cells #[.string f0, .int .i64 f1, .int .i64 f2, .int .i64 f3, .string f4, .int .u8 f5, .int .i64 f6, .int .i64 f7, .int .i64 f8, .int .i64 f9, .int .i64 f10] 70 (0, 0)) ∧ w0.heap.size ≤ g
theorem IsS70.grown {w0 W : World} {g : Nat} {f0 : ByteArray} {f1 : Int} {f2 : Int} {f3 : Int} {f4 : ByteArray} {f5 : Int} {f6 : Int} {f7 : Int} {f8 : Int} {f9 : Int} {f10 : Int} {W1 : World} {row : Option Nat} (h : IsS70 w0 W g f0 f1 f2 f3 f4 f5 f6 f7 f8 f9 f10) (hw : W.grownBy W1 row) (hne : some g ≠ row) : IsS70 w0 W1 g f0 f1 f2 f3 f4 f5 f6 f7 f8 f9 f10 := by
  obtain ⟨hb, hg⟩ := h
  exact ⟨blk_grown hb hw hne, hg⟩
theorem IsS70.kept {w0 W : World} {g : Nat} {f0 : ByteArray} {f1 : Int} {f2 : Int} {f3 : Int} {f4 : ByteArray} {f5 : Int} {f6 : Int} {f7 : Int} {f8 : Int} {f9 : Int} {f10 : Int} {W1 : World} {S : Nat → Prop} (h : IsS70 w0 W g f0 f1 f2 f3 f4 f5 f6 f7 f8 f9 f10) (hk : Kept W W1 S) (hne : ¬ S g) : IsS70 w0 W1 g f0 f1 f2 f3 f4 f5 f6 f7 f8 f9 f10 := by
  obtain ⟨hb, hg⟩ := h
  exact ⟨blk_kept hb hk hne, hg⟩
theorem IsS70.below {w0 W : World} {g : Nat} {f0 : ByteArray} {f1 : Int} {f2 : Int} {f3 : Int} {f4 : ByteArray} {f5 : Int} {f6 : Int} {f7 : Int} {f8 : Int} {f9 : Int} {f10 : Int} {W1 : World} (h : IsS70 w0 W g f0 f1 f2 f3 f4 f5 f6 f7 f8 f9 f10) (hw : Below W.heap.size W W1) : IsS70 w0 W1 g f0 f1 f2 f3 f4 f5 f6 f7 f8 f9 f10 := h.grown (grown_of_below hw none) (by simp)
theorem IsS70.alloc {w0 W : World} {g : Nat} {f0 : ByteArray} {f1 : Int} {f2 : Int} {f3 : Int} {f4 : ByteArray} {f5 : Int} {f6 : Int} {f7 : Int} {f8 : Int} {f9 : Int} {f10 : Int} (h : IsS70 w0 W g f0 f1 f2 f3 f4 f5 f6 f7 f8 f9 f10) (o : Obj) : IsS70 w0 (W.alloc o) g f0 f1 f2 f3 f4 f5 f6 f7 f8 f9 f10 := h.below (below_alloc (Below.refl _ _) o)
theorem IsS70.drewN {w0 W : World} {g : Nat} {f0 : ByteArray} {f1 : Int} {f2 : Int} {f3 : Int} {f4 : ByteArray} {f5 : Int} {f6 : Int} {f7 : Int} {f8 : Int} {f9 : Int} {f10 : Int} (h : IsS70 w0 W g f0 f1 f2 f3 f4 f5 f6 f7 f8 f9 f10) (m : Nat) : IsS70 w0 (W.drewN m) g f0 f1 f2 f3 f4 f5 f6 f7 f8 f9 f10 := h
theorem IsS70.drew {w0 W : World} {g : Nat} {f0 : ByteArray} {f1 : Int} {f2 : Int} {f3 : Int} {f4 : ByteArray} {f5 : Int} {f6 : Int} {f7 : Int} {f8 : Int} {f9 : Int} {f10 : Int} (h : IsS70 w0 W g f0 f1 f2 f3 f4 f5 f6 f7 f8 f9 f10) : IsS70 w0 W.drew g f0 f1 f2 f3 f4 f5 f6 f7 f8 f9 f10 := h
theorem IsS70.at_ {w0 W : World} {g : Nat} {f0 : ByteArray} {f1 : Int} {f2 : Int} {f3 : Int} {f4 : ByteArray} {f5 : Int} {f6 : Int} {f7 : Int} {f8 : Int} {f9 : Int} {f10 : Int} {w' : World} {m : Nat} (hq : W.drewN m = w') (h : IsS70 w0 W g f0 f1 f2 f3 f4 f5 f6 f7 f8 f9 f10) : IsS70 w0 w' g f0 f1 f2 f3 f4 f5 f6 f7 f8 f9 f10 := by subst hq; exact IsS70.drewN h m
theorem IsS70.apart {w0 W : World} {g : Nat} {f0 : ByteArray} {f1 : Int} {f2 : Int} {f3 : Int} {f4 : ByteArray} {f5 : Int} {f6 : Int} {f7 : Int} {f8 : Int} {f9 : Int} {f10 : Int} {α : Type} {d : Kd α} {e : Nat} {base : Nat} {ok : Nat → Prop} {v : Value} {xs : List α} (h : IsS70 w0 W g f0 f1 f2 f3 f4 f5 f6 f7 f8 f9 f10) (ho : d.R e W base ok v xs) (ht : ∀ q, q ∈ e :: d.E → q ≠ 70) : d.R e W base (fun k => ok k ∧ k ≠ g) v xs := by
  obtain ⟨hb, hg⟩ := h
  exact Kd.R_types ho hb ht
theorem IsS70.own_ne {w0 W : World} {g : Nat} {f0 : ByteArray} {f1 : Int} {f2 : Int} {f3 : Int} {f4 : ByteArray} {f5 : Int} {f6 : Int} {f7 : Int} {f8 : Int} {f9 : Int} {f10 : Int} {α : Type} {d : Kd α} {e : Nat} {base : Nat} {ok : Nat → Prop} {v : Value} {xs : List α} (h : IsS70 w0 W g f0 f1 f2 f3 f4 f5 f6 f7 f8 f9 f10) (ho : d.R e W base ok v xs) (ht : e ≠ 70) : some g ≠ v.ownBlock := by
  obtain ⟨hb, hg⟩ := h
  exact Kd.R_ne ho hb ht
theorem IsS70.lt {w0 W : World} {g : Nat} {f0 : ByteArray} {f1 : Int} {f2 : Int} {f3 : Int} {f4 : ByteArray} {f5 : Int} {f6 : Int} {f7 : Int} {f8 : Int} {f9 : Int} {f10 : Int} (h : IsS70 w0 W g f0 f1 f2 f3 f4 f5 f6 f7 f8 f9 f10) : g < W.heap.size := by
  obtain ⟨hb, hg⟩ := h
  exact blk_lt hb
theorem IsS70.ge {w0 W : World} {g : Nat} {f0 : ByteArray} {f1 : Int} {f2 : Int} {f3 : Int} {f4 : ByteArray} {f5 : Int} {f6 : Int} {f7 : Int} {f8 : Int} {f9 : Int} {f10 : Int} (h : IsS70 w0 W g f0 f1 f2 f3 f4 f5 f6 f7 f8 f9 f10) : w0.heap.size ≤ g := by
  obtain ⟨hb, hg⟩ := h
  exact hg
theorem IsS70.far {w0 W : World} {g : Nat} {f0 : ByteArray} {f1 : Int} {f2 : Int} {f3 : Int} {f4 : ByteArray} {f5 : Int} {f6 : Int} {f7 : Int} {f8 : Int} {f9 : Int} {f10 : Int} {p : Addr} (h : IsS70 w0 W g f0 f1 f2 f3 f4 f5 f6 f7 f8 f9 f10) (hne : g ≠ p.block) (u : Value) : IsS70 w0 (W.setCell p u) g f0 f1 f2 f3 f4 f5 f6 f7 f8 f9 f10 := by
  obtain ⟨hb, hg⟩ := h
  exact ⟨blk_far hb hne u, hg⟩
theorem cellS70_0 {W : World} {g : Nat} {f0 : ByteArray} {f1 : Int} {f2 : Int} {f3 : Int} {f4 : ByteArray} {f5 : Int} {f6 : Int} {f7 : Int} {f8 : Int} {f9 : Int} {f10 : Int} (h : W.heap[g]? = some (.cells #[.string f0, .int .i64 f1, .int .i64 f2, .int .i64 f3, .string f4, .int .u8 f5, .int .i64 f6, .int .i64 f7, .int .i64 f8, .int .i64 f9, .int .i64 f10] 70 (0, 0))) : W.cell? ⟨g, 0, none⟩ = some (.string f0) := (blk_cell h 0).trans rfl
theorem IsS70.set_0 {w0 W : World} {g : Nat} {f0 : ByteArray} {f1 : Int} {f2 : Int} {f3 : Int} {f4 : ByteArray} {f5 : Int} {f6 : Int} {f7 : Int} {f8 : Int} {f9 : Int} {f10 : Int} (h : IsS70 w0 W g f0 f1 f2 f3 f4 f5 f6 f7 f8 f9 f10) (x : ByteArray) : IsS70 w0 (W.setCell ⟨g, 0, none⟩ (.string x)) g x f1 f2 f3 f4 f5 f6 f7 f8 f9 f10 := by
  obtain ⟨hb, hg⟩ := h
  exact ⟨by simpa using blk_set hb 0 (.string x), hg⟩
theorem cellS70_1 {W : World} {g : Nat} {f0 : ByteArray} {f1 : Int} {f2 : Int} {f3 : Int} {f4 : ByteArray} {f5 : Int} {f6 : Int} {f7 : Int} {f8 : Int} {f9 : Int} {f10 : Int} (h : W.heap[g]? = some (.cells #[.string f0, .int .i64 f1, .int .i64 f2, .int .i64 f3, .string f4, .int .u8 f5, .int .i64 f6, .int .i64 f7, .int .i64 f8, .int .i64 f9, .int .i64 f10] 70 (0, 0))) : W.cell? ⟨g, 1, none⟩ = some (.int .i64 f1) := (blk_cell h 1).trans rfl
theorem IsS70.set_1 {w0 W : World} {g : Nat} {f0 : ByteArray} {f1 : Int} {f2 : Int} {f3 : Int} {f4 : ByteArray} {f5 : Int} {f6 : Int} {f7 : Int} {f8 : Int} {f9 : Int} {f10 : Int} (h : IsS70 w0 W g f0 f1 f2 f3 f4 f5 f6 f7 f8 f9 f10) (x : Int) : IsS70 w0 (W.setCell ⟨g, 1, none⟩ (.int .i64 x)) g f0 x f2 f3 f4 f5 f6 f7 f8 f9 f10 := by
  obtain ⟨hb, hg⟩ := h
  exact ⟨by simpa using blk_set hb 1 (.int .i64 x), hg⟩
theorem cellS70_2 {W : World} {g : Nat} {f0 : ByteArray} {f1 : Int} {f2 : Int} {f3 : Int} {f4 : ByteArray} {f5 : Int} {f6 : Int} {f7 : Int} {f8 : Int} {f9 : Int} {f10 : Int} (h : W.heap[g]? = some (.cells #[.string f0, .int .i64 f1, .int .i64 f2, .int .i64 f3, .string f4, .int .u8 f5, .int .i64 f6, .int .i64 f7, .int .i64 f8, .int .i64 f9, .int .i64 f10] 70 (0, 0))) : W.cell? ⟨g, 2, none⟩ = some (.int .i64 f2) := (blk_cell h 2).trans rfl
theorem IsS70.set_2 {w0 W : World} {g : Nat} {f0 : ByteArray} {f1 : Int} {f2 : Int} {f3 : Int} {f4 : ByteArray} {f5 : Int} {f6 : Int} {f7 : Int} {f8 : Int} {f9 : Int} {f10 : Int} (h : IsS70 w0 W g f0 f1 f2 f3 f4 f5 f6 f7 f8 f9 f10) (x : Int) : IsS70 w0 (W.setCell ⟨g, 2, none⟩ (.int .i64 x)) g f0 f1 x f3 f4 f5 f6 f7 f8 f9 f10 := by
  obtain ⟨hb, hg⟩ := h
  exact ⟨by simpa using blk_set hb 2 (.int .i64 x), hg⟩
theorem cellS70_3 {W : World} {g : Nat} {f0 : ByteArray} {f1 : Int} {f2 : Int} {f3 : Int} {f4 : ByteArray} {f5 : Int} {f6 : Int} {f7 : Int} {f8 : Int} {f9 : Int} {f10 : Int} (h : W.heap[g]? = some (.cells #[.string f0, .int .i64 f1, .int .i64 f2, .int .i64 f3, .string f4, .int .u8 f5, .int .i64 f6, .int .i64 f7, .int .i64 f8, .int .i64 f9, .int .i64 f10] 70 (0, 0))) : W.cell? ⟨g, 3, none⟩ = some (.int .i64 f3) := (blk_cell h 3).trans rfl
theorem IsS70.set_3 {w0 W : World} {g : Nat} {f0 : ByteArray} {f1 : Int} {f2 : Int} {f3 : Int} {f4 : ByteArray} {f5 : Int} {f6 : Int} {f7 : Int} {f8 : Int} {f9 : Int} {f10 : Int} (h : IsS70 w0 W g f0 f1 f2 f3 f4 f5 f6 f7 f8 f9 f10) (x : Int) : IsS70 w0 (W.setCell ⟨g, 3, none⟩ (.int .i64 x)) g f0 f1 f2 x f4 f5 f6 f7 f8 f9 f10 := by
  obtain ⟨hb, hg⟩ := h
  exact ⟨by simpa using blk_set hb 3 (.int .i64 x), hg⟩
theorem cellS70_4 {W : World} {g : Nat} {f0 : ByteArray} {f1 : Int} {f2 : Int} {f3 : Int} {f4 : ByteArray} {f5 : Int} {f6 : Int} {f7 : Int} {f8 : Int} {f9 : Int} {f10 : Int} (h : W.heap[g]? = some (.cells #[.string f0, .int .i64 f1, .int .i64 f2, .int .i64 f3, .string f4, .int .u8 f5, .int .i64 f6, .int .i64 f7, .int .i64 f8, .int .i64 f9, .int .i64 f10] 70 (0, 0))) : W.cell? ⟨g, 4, none⟩ = some (.string f4) := (blk_cell h 4).trans rfl
theorem IsS70.set_4 {w0 W : World} {g : Nat} {f0 : ByteArray} {f1 : Int} {f2 : Int} {f3 : Int} {f4 : ByteArray} {f5 : Int} {f6 : Int} {f7 : Int} {f8 : Int} {f9 : Int} {f10 : Int} (h : IsS70 w0 W g f0 f1 f2 f3 f4 f5 f6 f7 f8 f9 f10) (x : ByteArray) : IsS70 w0 (W.setCell ⟨g, 4, none⟩ (.string x)) g f0 f1 f2 f3 x f5 f6 f7 f8 f9 f10 := by
  obtain ⟨hb, hg⟩ := h
  exact ⟨by simpa using blk_set hb 4 (.string x), hg⟩
theorem cellS70_5 {W : World} {g : Nat} {f0 : ByteArray} {f1 : Int} {f2 : Int} {f3 : Int} {f4 : ByteArray} {f5 : Int} {f6 : Int} {f7 : Int} {f8 : Int} {f9 : Int} {f10 : Int} (h : W.heap[g]? = some (.cells #[.string f0, .int .i64 f1, .int .i64 f2, .int .i64 f3, .string f4, .int .u8 f5, .int .i64 f6, .int .i64 f7, .int .i64 f8, .int .i64 f9, .int .i64 f10] 70 (0, 0))) : W.cell? ⟨g, 5, none⟩ = some (.int .u8 f5) := (blk_cell h 5).trans rfl
theorem IsS70.set_5 {w0 W : World} {g : Nat} {f0 : ByteArray} {f1 : Int} {f2 : Int} {f3 : Int} {f4 : ByteArray} {f5 : Int} {f6 : Int} {f7 : Int} {f8 : Int} {f9 : Int} {f10 : Int} (h : IsS70 w0 W g f0 f1 f2 f3 f4 f5 f6 f7 f8 f9 f10) (x : Int) : IsS70 w0 (W.setCell ⟨g, 5, none⟩ (.int .u8 x)) g f0 f1 f2 f3 f4 x f6 f7 f8 f9 f10 := by
  obtain ⟨hb, hg⟩ := h
  exact ⟨by simpa using blk_set hb 5 (.int .u8 x), hg⟩
theorem cellS70_6 {W : World} {g : Nat} {f0 : ByteArray} {f1 : Int} {f2 : Int} {f3 : Int} {f4 : ByteArray} {f5 : Int} {f6 : Int} {f7 : Int} {f8 : Int} {f9 : Int} {f10 : Int} (h : W.heap[g]? = some (.cells #[.string f0, .int .i64 f1, .int .i64 f2, .int .i64 f3, .string f4, .int .u8 f5, .int .i64 f6, .int .i64 f7, .int .i64 f8, .int .i64 f9, .int .i64 f10] 70 (0, 0))) : W.cell? ⟨g, 6, none⟩ = some (.int .i64 f6) := (blk_cell h 6).trans rfl
theorem IsS70.set_6 {w0 W : World} {g : Nat} {f0 : ByteArray} {f1 : Int} {f2 : Int} {f3 : Int} {f4 : ByteArray} {f5 : Int} {f6 : Int} {f7 : Int} {f8 : Int} {f9 : Int} {f10 : Int} (h : IsS70 w0 W g f0 f1 f2 f3 f4 f5 f6 f7 f8 f9 f10) (x : Int) : IsS70 w0 (W.setCell ⟨g, 6, none⟩ (.int .i64 x)) g f0 f1 f2 f3 f4 f5 x f7 f8 f9 f10 := by
  obtain ⟨hb, hg⟩ := h
  exact ⟨by simpa using blk_set hb 6 (.int .i64 x), hg⟩
theorem cellS70_7 {W : World} {g : Nat} {f0 : ByteArray} {f1 : Int} {f2 : Int} {f3 : Int} {f4 : ByteArray} {f5 : Int} {f6 : Int} {f7 : Int} {f8 : Int} {f9 : Int} {f10 : Int} (h : W.heap[g]? = some (.cells #[.string f0, .int .i64 f1, .int .i64 f2, .int .i64 f3, .string f4, .int .u8 f5, .int .i64 f6, .int .i64 f7, .int .i64 f8, .int .i64 f9, .int .i64 f10] 70 (0, 0))) : W.cell? ⟨g, 7, none⟩ = some (.int .i64 f7) := (blk_cell h 7).trans rfl
theorem IsS70.set_7 {w0 W : World} {g : Nat} {f0 : ByteArray} {f1 : Int} {f2 : Int} {f3 : Int} {f4 : ByteArray} {f5 : Int} {f6 : Int} {f7 : Int} {f8 : Int} {f9 : Int} {f10 : Int} (h : IsS70 w0 W g f0 f1 f2 f3 f4 f5 f6 f7 f8 f9 f10) (x : Int) : IsS70 w0 (W.setCell ⟨g, 7, none⟩ (.int .i64 x)) g f0 f1 f2 f3 f4 f5 f6 x f8 f9 f10 := by
  obtain ⟨hb, hg⟩ := h
  exact ⟨by simpa using blk_set hb 7 (.int .i64 x), hg⟩
theorem cellS70_8 {W : World} {g : Nat} {f0 : ByteArray} {f1 : Int} {f2 : Int} {f3 : Int} {f4 : ByteArray} {f5 : Int} {f6 : Int} {f7 : Int} {f8 : Int} {f9 : Int} {f10 : Int} (h : W.heap[g]? = some (.cells #[.string f0, .int .i64 f1, .int .i64 f2, .int .i64 f3, .string f4, .int .u8 f5, .int .i64 f6, .int .i64 f7, .int .i64 f8, .int .i64 f9, .int .i64 f10] 70 (0, 0))) : W.cell? ⟨g, 8, none⟩ = some (.int .i64 f8) := (blk_cell h 8).trans rfl
theorem IsS70.set_8 {w0 W : World} {g : Nat} {f0 : ByteArray} {f1 : Int} {f2 : Int} {f3 : Int} {f4 : ByteArray} {f5 : Int} {f6 : Int} {f7 : Int} {f8 : Int} {f9 : Int} {f10 : Int} (h : IsS70 w0 W g f0 f1 f2 f3 f4 f5 f6 f7 f8 f9 f10) (x : Int) : IsS70 w0 (W.setCell ⟨g, 8, none⟩ (.int .i64 x)) g f0 f1 f2 f3 f4 f5 f6 f7 x f9 f10 := by
  obtain ⟨hb, hg⟩ := h
  exact ⟨by simpa using blk_set hb 8 (.int .i64 x), hg⟩
theorem cellS70_9 {W : World} {g : Nat} {f0 : ByteArray} {f1 : Int} {f2 : Int} {f3 : Int} {f4 : ByteArray} {f5 : Int} {f6 : Int} {f7 : Int} {f8 : Int} {f9 : Int} {f10 : Int} (h : W.heap[g]? = some (.cells #[.string f0, .int .i64 f1, .int .i64 f2, .int .i64 f3, .string f4, .int .u8 f5, .int .i64 f6, .int .i64 f7, .int .i64 f8, .int .i64 f9, .int .i64 f10] 70 (0, 0))) : W.cell? ⟨g, 9, none⟩ = some (.int .i64 f9) := (blk_cell h 9).trans rfl
theorem IsS70.set_9 {w0 W : World} {g : Nat} {f0 : ByteArray} {f1 : Int} {f2 : Int} {f3 : Int} {f4 : ByteArray} {f5 : Int} {f6 : Int} {f7 : Int} {f8 : Int} {f9 : Int} {f10 : Int} (h : IsS70 w0 W g f0 f1 f2 f3 f4 f5 f6 f7 f8 f9 f10) (x : Int) : IsS70 w0 (W.setCell ⟨g, 9, none⟩ (.int .i64 x)) g f0 f1 f2 f3 f4 f5 f6 f7 f8 x f10 := by
  obtain ⟨hb, hg⟩ := h
  exact ⟨by simpa using blk_set hb 9 (.int .i64 x), hg⟩
theorem cellS70_10 {W : World} {g : Nat} {f0 : ByteArray} {f1 : Int} {f2 : Int} {f3 : Int} {f4 : ByteArray} {f5 : Int} {f6 : Int} {f7 : Int} {f8 : Int} {f9 : Int} {f10 : Int} (h : W.heap[g]? = some (.cells #[.string f0, .int .i64 f1, .int .i64 f2, .int .i64 f3, .string f4, .int .u8 f5, .int .i64 f6, .int .i64 f7, .int .i64 f8, .int .i64 f9, .int .i64 f10] 70 (0, 0))) : W.cell? ⟨g, 10, none⟩ = some (.int .i64 f10) := (blk_cell h 10).trans rfl
theorem IsS70.set_10 {w0 W : World} {g : Nat} {f0 : ByteArray} {f1 : Int} {f2 : Int} {f3 : Int} {f4 : ByteArray} {f5 : Int} {f6 : Int} {f7 : Int} {f8 : Int} {f9 : Int} {f10 : Int} (h : IsS70 w0 W g f0 f1 f2 f3 f4 f5 f6 f7 f8 f9 f10) (x : Int) : IsS70 w0 (W.setCell ⟨g, 10, none⟩ (.int .i64 x)) g f0 f1 f2 f3 f4 f5 f6 f7 f8 f9 x := by
  obtain ⟨hb, hg⟩ := h
  exact ⟨by simpa using blk_set hb 10 (.int .i64 x), hg⟩
theorem IsS70.new (w0 W : World) (f0 : ByteArray) (f1 : Int) (f2 : Int) (f3 : Int) (f4 : ByteArray) (f5 : Int) (f6 : Int) (f7 : Int) (f8 : Int) (f9 : Int) (f10 : Int) (hB : Below w0.heap.size w0 W) : IsS70 w0 (W.alloc (.cells #[.string f0, .int .i64 f1, .int .i64 f2, .int .i64 f3, .string f4, .int .u8 f5, .int .i64 f6, .int .i64 f7, .int .i64 f8, .int .i64 f9, .int .i64 f10] 70)) W.heap.size f0 f1 f2 f3 f4 f5 f6 f7 f8 f9 f10 := ⟨by simpa using heap_alloc_new W _, hB.size⟩
def directive_reader_now.f (s0_0 : ByteArray) (s0_1 : Int) (s0_2 : Int) (s0_3 : Int) (s0_4 : ByteArray) (s0_5 : Int) (s0_6 : Int) (s0_7 : Int) (s0_8 : Int) (s0_9 : Int) (s0_10 : Int) : Option (Int × ByteArray × Int × Int × Int × ByteArray × Int × Int × Int × Int × Int × Int) := if s0_1 < (s0_0.size : Int) then (if 0 ≤ s0_1 then (some (bt s0_0 s0_1, s0_0, s0_1, s0_2, s0_3, s0_4, s0_5, s0_6, s0_7, s0_8, s0_9, s0_10)) else (none)) else (some (0, s0_0, s0_1, s0_2, s0_3, s0_4, s0_5, s0_6, s0_7, s0_8, s0_9, s0_10))
set_option maxHeartbeats 8000000 in
set_option maxRecDepth 100000 in
theorem directive_reader_now.calls (g : Nat) (s0_0 : ByteArray) (s0_1 : Int) (s0_2 : Int) (s0_3 : Int) (s0_4 : ByteArray) (s0_5 : Int) (s0_6 : Int) (s0_7 : Int) (s0_8 : Int) (s0_9 : Int) (s0_10 : Int) (r1 : Int) (r2 : ByteArray) (r3 : Int) (r4 : Int) (r5 : Int) (r6 : ByteArray) (r7 : Int) (r8 : Int) (r9 : Int) (r10 : Int) (r11 : Int) (r12 : Int) (w0 w : World) (hI : IsS70 w0 w g s0_0 s0_1 s0_2 s0_3 s0_4 s0_5 s0_6 s0_7 s0_8 s0_9 s0_10) (hB : Below w0.heap.size w0 w) (h : directive_reader_now.f s0_0 s0_1 s0_2 s0_3 s0_4 s0_5 s0_6 s0_7 s0_8 s0_9 s0_10 = some (r1, r2, r3, r4, r5, r6, r7, r8, r9, r10, r11, r12)) :
    Calls Tryd.prog 46 #[.pointer (some ⟨g, 0, none⟩)] w fun e w' => e = .returned (.int .u8 r1) ∧ IsS70 w0 w' g r2 r3 r4 r5 r6 r7 r8 r9 r10 r11 r12 ∧ Below w0.heap.size w0 w' ∧ KeepBut w w' g none := by
  have HI0 := Aside0.mk hI
  have HK := Aside0.mk (KeepBut.refl w g none)
  have HL := Aside0.mk hB.size
  clear hI
  have HW0 := Aside0.mk hB.size
  have HB := Aside0.mk hB
  clear hB
  have H : (if s0_1 < (s0_0.size : Int) then (if 0 ≤ s0_1 then (some (bt s0_0 s0_1, s0_0, s0_1, s0_2, s0_3, s0_4, s0_5, s0_6, s0_7, s0_8, s0_9, s0_10)) else (none)) else (some (0, s0_0, s0_1, s0_2, s0_3, s0_4, s0_5, s0_6, s0_7, s0_8, s0_9, s0_10))) = some (r1, r2, r3, r4, r5, r6, r7, r8, r9, r10, r11, r12) := h
  clear h
  by_cases c2 : s0_1 < (s0_0.size : Int)
  · rw [if_pos c2] at H
    have c2b0 : decide (s0_1 < (s0_0.size : Int)) = true := decide_eq_true c2
    clear c2
    by_cases c3 : 0 ≤ s0_1
    · rw [if_pos c3] at H
      have c3b0 : decide (0 ≤ s0_1) = true := decide_eq_true c3
      clear c3
      simp only [Option.some.injEq, Prod.mk.injEq] at H
      obtain ⟨rfl, rfl, rfl, rfl, rfl, rfl, rfl, rfl, rfl, rfl, rfl, rfl⟩ := H
      obtain ⟨HGz5, hgz5⟩ := HI0.out
      have hcz5_0 := cellS70_0 HGz5
      have hcz5_1 := cellS70_1 HGz5
      have hcz5_2 := cellS70_2 HGz5
      have hcz5_3 := cellS70_3 HGz5
      have hcz5_4 := cellS70_4 HGz5
      have hcz5_5 := cellS70_5 HGz5
      have hcz5_6 := cellS70_6 HGz5
      have hcz5_7 := cellS70_7 HGz5
      have hcz5_8 := cellS70_8 HGz5
      have hcz5_9 := cellS70_9 HGz5
      have hcz5_10 := cellS70_10 HGz5
      have hfz5_0 := blk_frozen HGz5 0
      have hfz5_1 := blk_frozen HGz5 1
      have hfz5_2 := blk_frozen HGz5 2
      have hfz5_3 := blk_frozen HGz5 3
      have hfz5_4 := blk_frozen HGz5 4
      have hfz5_5 := blk_frozen HGz5 5
      have hfz5_6 := blk_frozen HGz5 6
      have hfz5_7 := blk_frozen HGz5 7
      have hfz5_8 := blk_frozen HGz5 8
      have hfz5_9 := blk_frozen HGz5 9
      have hfz5_10 := blk_frozen HGz5 10
      clear HGz5 hgz5
      have p4 : 0 ≤ (s0_1 : Int) := of_decide_eq_true (by first | (with_reducible assumption) | assumption)
      have q4 : s0_1 < (s0_0.size : Int) := of_decide_eq_true (by first | (with_reducible assumption) | assumption)
      have hx4 := bt_at s0_0 s0_1
      replace p4 := eq_true p4
      replace q4 := eq_true q4
      go_enter Tryd.func46, Tryd.ntmps46
      go_wp2
      repeat (go_quiet (fail); try go_wp2)
      go_ret
      exact ⟨by first | rfl | (simp [errW_none, errW_some] <;> rfl) | (simp [*, errW_none, errW_some] <;> rfl), by repeat (first | (with_reducible first | exact HI0.out | apply IsS70.alloc | apply IsS70.drewN | apply IsS70.drew | apply IsS70.set_0 | apply IsS70.set_1 | apply IsS70.set_2 | apply IsS70.set_3 | apply IsS70.set_4 | apply IsS70.set_5 | apply IsS70.set_6 | apply IsS70.set_7 | apply IsS70.set_8 | apply IsS70.set_9 | apply IsS70.set_10) | exact HI0.out), by repeat (first | (with_reducible first | exact HB.out | apply below_alloc | apply pw_below_drewN | apply below_drew1 | refine below_set ?_ (IsS70.ge HI0.out)) | exact HB.out), by repeat (first | (with_reducible first | exact HK.out | apply KeepBut.set_ | apply keep_drewN | apply keep_drew | apply keep_alloc) | exact HK.out)⟩
    · rw [if_neg c3] at H
      exact absurd H (by simp)
  · rw [if_neg c2] at H
    have c2b0 : decide (s0_1 < (s0_0.size : Int)) = false := decide_eq_false c2
    clear c2
    simp only [Option.some.injEq, Prod.mk.injEq] at H
    obtain ⟨rfl, rfl, rfl, rfl, rfl, rfl, rfl, rfl, rfl, rfl, rfl, rfl⟩ := H
    obtain ⟨HGz6, hgz6⟩ := HI0.out
    have hcz6_0 := cellS70_0 HGz6
    have hcz6_1 := cellS70_1 HGz6
    have hcz6_2 := cellS70_2 HGz6
    have hcz6_3 := cellS70_3 HGz6
    have hcz6_4 := cellS70_4 HGz6
    have hcz6_5 := cellS70_5 HGz6
    have hcz6_6 := cellS70_6 HGz6
    have hcz6_7 := cellS70_7 HGz6
    have hcz6_8 := cellS70_8 HGz6
    have hcz6_9 := cellS70_9 HGz6
    have hcz6_10 := cellS70_10 HGz6
    have hfz6_0 := blk_frozen HGz6 0
    have hfz6_1 := blk_frozen HGz6 1
    have hfz6_2 := blk_frozen HGz6 2
    have hfz6_3 := blk_frozen HGz6 3
    have hfz6_4 := blk_frozen HGz6 4
    have hfz6_5 := blk_frozen HGz6 5
    have hfz6_6 := blk_frozen HGz6 6
    have hfz6_7 := blk_frozen HGz6 7
    have hfz6_8 := blk_frozen HGz6 8
    have hfz6_9 := blk_frozen HGz6 9
    have hfz6_10 := blk_frozen HGz6 10
    clear HGz6 hgz6
    go_enter Tryd.func46, Tryd.ntmps46
    go_wp2
    repeat (go_quiet (fail); try go_wp2)
    go_ret
    exact ⟨by first | rfl | (simp [errW_none, errW_some] <;> rfl) | (simp [*, errW_none, errW_some] <;> rfl), by repeat (first | (with_reducible first | exact HI0.out | apply IsS70.alloc | apply IsS70.drewN | apply IsS70.drew | apply IsS70.set_0 | apply IsS70.set_1 | apply IsS70.set_2 | apply IsS70.set_3 | apply IsS70.set_4 | apply IsS70.set_5 | apply IsS70.set_6 | apply IsS70.set_7 | apply IsS70.set_8 | apply IsS70.set_9 | apply IsS70.set_10) | exact HI0.out), by repeat (first | (with_reducible first | exact HB.out | apply below_alloc | apply pw_below_drewN | apply below_drew1 | refine below_set ?_ (IsS70.ge HI0.out)) | exact HB.out), by repeat (first | (with_reducible first | exact HK.out | apply KeepBut.set_ | apply keep_drewN | apply keep_drew | apply keep_alloc) | exact HK.out)⟩
end Go.Proofs.YtlmijjekaelhcaaDoor.EDi
