/-
  Several texts of this session's own in one: EDix15 EDix16 EDix17 EDix18.
-/
import Derived.Test.YtlmijjekaelhcaaDoorExA0
import Derived.Test.YtlmijjekaelhcaaDoorExEDpx0
import Derived.Test.YtlmijjekaelhcaaDoorExX
section
namespace Go.Proofs.YtlmijjekaelhcaaDoor.EDi
open Go.RowKit Go.Proofs.YtlmijjekaelhcaaDoorW.PrintWords Go.Proofs.YtlmijjekaelhcaaDoorW.PrintLast Go.Proofs.YtlmijjekaelhcaaDoorW.PrintMore
attribute [local go_sem] max2_int min2_int max_two min_two max_three min_three max_four min_four
set_option linter.unusedVariables false
/-- A state of type 70 at block g of W; what its slices lead to came in by w0. -/
def IsS70 (w0 W : World) (g : Nat) (f0 : ByteArray) (f1 : Int) (f2 : Int) (f3 : Int) (f4 : ByteArray) (f5 : Int) (f6 : Int) (f7 : Int) (f8 : Int) (f9 : Int) (f10 : Int) : Prop := W.heap[g]? = some (.cells #[.string f0, .int .i64 f1, .int .i64 f2, .int .i64 f3, .string f4, .int .u8 f5, .int .i64 f6, .int .i64 f7, .int .i64 f8, .int .i64 f9, .int .i64 f10] 70 (0, 0)) ∧ w0.heap.size ≤ g
theorem IsS70.grown {w0 W : World} {g : Nat} {f0 : ByteArray} {f1 : Int} {f2 : Int} {f3 : Int} {f4 : ByteArray} {f5 : Int} {f6 : Int} {f7 : Int} {f8 : Int} {f9 : Int} {f10 : Int} {W1 : World} {row : Option Nat} (h : IsS70 w0 W g f0 f1 f2 f3 f4 f5 f6 f7 f8 f9 f10) (hw : W.grownBy W1 row) (hne : some g ≠ row) : IsS70 w0 W1 g f0 f1 f2 f3 f4 f5 f6 f7 f8 f9 f10 := by
 obtain ⟨hb, hg⟩ := h
 exact ⟨blk_grown hb hw hne, hg⟩
theorem IsS70.kept {w0 W : World} {g : Nat} {f0 : ByteArray} {f1 : Int} {f2 : Int} {f3 : Int} {f4 : ByteArray} {f5 : Int} {f6 : Int} {f7 : Int} {f8 : Int} {f9 : Int} {f10 : Int} {W1 : World} {S : Nat → Prop} (h : IsS70 w0 W g f0 f1 f2 f3 f4 f5 f6 f7 f8 f9 f10) (hk : Kept W W1 S) (hne : ¬ S g) : IsS70 w0 W1 g f0 f1 f2 f3 f4 f5 f6 f7 f8 f9 f10 := by
 obtain ⟨hb, hg⟩ := h
 exact ⟨blk_kept hb hk hne, hg⟩
theorem IsS70.below {w0 W : World} {g : Nat} {f0 : ByteArray} {f1 : Int} {f2 : Int} {f3 : Int} {f4 : ByteArray} {f5 : Int} {f6 : Int} {f7 : Int} {f8 : Int} {f9 : Int} {f10 : Int} {W1 : World} (h : IsS70 w0 W g f0 f1 f2 f3 f4 f5 f6 f7 f8 f9 f10) (hw : Below W.heap.size W W1) : IsS70 w0 W1 g f0 f1 f2 f3 f4 f5 f6 f7 f8 f9 f10 := h.grown (grown_of_below hw none) (by simp)
theorem IsS70.alloc {w0 W : World} {g : Nat} {f0 : ByteArray} {f1 : Int} {f2 : Int} {f3 : Int} {f4 : ByteArray} {f5 : Int} {f6 : Int} {f7 : Int} {f8 : Int} {f9 : Int} {f10 : Int} (h : IsS70 w0 W g f0 f1 f2 f3 f4 f5 f6 f7 f8 f9 f10) (o : Obj) : IsS70 w0 (W.alloc o) g f0 f1 f2 f3 f4 f5 f6 f7 f8 f9 f10 := h.below (below_alloc (Below.refl _ _) o)
theorem IsS70.drewN {w0 W : World} {g : Nat} {f0 : ByteArray} {f1 : Int} {f2 : Int} {f3 : Int} {f4 : ByteArray} {f5 : Int} {f6 : Int} {f7 : Int} {f8 : Int} {f9 : Int} {f10 : Int} (h : IsS70 w0 W g f0 f1 f2 f3 f4 f5 f6 f7 f8 f9 f10) (m : Nat) : IsS70 w0 (W.drewN m) g f0 f1 f2 f3 f4 f5 f6 f7 f8 f9 f10 := h
theorem IsS70.drew {w0 W : World} {g : Nat} {f0 : ByteArray} {f1 : Int} {f2 : Int} {f3 : Int} {f4 : ByteArray} {f5 : Int} {f6 : Int} {f7 : Int} {f8 : Int} {f9 : Int} {f10 : Int} (h : IsS70 w0 W g f0 f1 f2 f3 f4 f5 f6 f7 f8 f9 f10) : IsS70 w0 W.drew g f0 f1 f2 f3 f4 f5 f6 f7 f8 f9 f10 := h
theorem IsS70.at_ {w0 W : World} {g : Nat} {f0 : ByteArray} {f1 : Int} {f2 : Int} {f3 : Int} {f4 : ByteArray} {f5 : Int} {f6 : Int} {f7 : Int} {f8 : Int} {f9 : Int} {f10 : Int} {w' : World} {m : Nat} (hq : W.drewN m = w') (h : IsS70 w0 W g f0 f1 f2 f3 f4 f5 f6 f7 f8 f9 f10) : IsS70 w0 w' g f0 f1 f2 f3 f4 f5 f6 f7 f8 f9 f10 := by subst hq; exact IsS70.drewN h m
theorem IsS70.apart {w0 W : World} {g : Nat} {f0 : ByteArray} {f1 : Int} {f2 : Int} {f3 : Int} {f4 : ByteArray} {f5 : Int} {f6 : Int} {f7 : Int} {f8 : Int} {f9 : Int} {f10 : Int} {α : Type} {d : Kd α} {e : Nat} {base : Nat} {ok : Nat → Prop} {v : Value} {xs : List α} (h : IsS70 w0 W g f0 f1 f2 f3 f4 f5 f6 f7 f8 f9 f10) (ho : d.R e W base ok v xs) (ht : ∀ q, q ∈ e :: d.E → q ≠ 70) : d.R e W base (fun k => ok k ∧ k ≠ g) v xs := by
 obtain ⟨hb, hg⟩ := h
 exact Kd.R_types ho hb ht
theorem IsS70.own_ne {w0 W : World} {g : Nat} {f0 : ByteArray} {f1 : Int} {f2 : Int} {f3 : Int} {f4 : ByteArray} {f5 : Int} {f6 : Int} {f7 : Int} {f8 : Int} {f9 : Int} {f10 : Int} {α : Type} {d : Kd α} {e : Nat} {base : Nat} {ok : Nat → Prop} {v : Value} {xs : List α} (h : IsS70 w0 W g f0 f1 f2 f3 f4 f5 f6 f7 f8 f9 f10) (ho : d.R e W base ok v xs) (ht : e ≠ 70) : some g ≠ v.ownBlock := by
 obtain ⟨hb, hg⟩ := h
 exact Kd.R_ne ho hb ht
theorem IsS70.lt {w0 W : World} {g : Nat} {f0 : ByteArray} {f1 : Int} {f2 : Int} {f3 : Int} {f4 : ByteArray} {f5 : Int} {f6 : Int} {f7 : Int} {f8 : Int} {f9 : Int} {f10 : Int} (h : IsS70 w0 W g f0 f1 f2 f3 f4 f5 f6 f7 f8 f9 f10) : g < W.heap.size := by
 obtain ⟨hb, hg⟩ := h
 exact blk_lt hb
theorem IsS70.ge {w0 W : World} {g : Nat} {f0 : ByteArray} {f1 : Int} {f2 : Int} {f3 : Int} {f4 : ByteArray} {f5 : Int} {f6 : Int} {f7 : Int} {f8 : Int} {f9 : Int} {f10 : Int} (h : IsS70 w0 W g f0 f1 f2 f3 f4 f5 f6 f7 f8 f9 f10) : w0.heap.size ≤ g := by
 obtain ⟨hb, hg⟩ := h
 exact hg
theorem IsS70.far {w0 W : World} {g : Nat} {f0 : ByteArray} {f1 : Int} {f2 : Int} {f3 : Int} {f4 : ByteArray} {f5 : Int} {f6 : Int} {f7 : Int} {f8 : Int} {f9 : Int} {f10 : Int} {p : Addr} (h : IsS70 w0 W g f0 f1 f2 f3 f4 f5 f6 f7 f8 f9 f10) (hne : g ≠ p.block) (u : Value) : IsS70 w0 (W.setCell p u) g f0 f1 f2 f3 f4 f5 f6 f7 f8 f9 f10 := by
 obtain ⟨hb, hg⟩ := h
 exact ⟨blk_far hb hne u, hg⟩
theorem cellS70_0 {W : World} {g : Nat} {f0 : ByteArray} {f1 : Int} {f2 : Int} {f3 : Int} {f4 : ByteArray} {f5 : Int} {f6 : Int} {f7 : Int} {f8 : Int} {f9 : Int} {f10 : Int} (h : W.heap[g]? = some (.cells #[.string f0, .int .i64 f1, .int .i64 f2, .int .i64 f3, .string f4, .int .u8 f5, .int .i64 f6, .int .i64 f7, .int .i64 f8, .int .i64 f9, .int .i64 f10] 70 (0, 0))) : W.cell? ⟨g, 0, none⟩ = some (.string f0) := (blk_cell h 0).trans rfl
theorem IsS70.set_0 {w0 W : World} {g : Nat} {f0 : ByteArray} {f1 : Int} {f2 : Int} {f3 : Int} {f4 : ByteArray} {f5 : Int} {f6 : Int} {f7 : Int} {f8 : Int} {f9 : Int} {f10 : Int} (h : IsS70 w0 W g f0 f1 f2 f3 f4 f5 f6 f7 f8 f9 f10) (x : ByteArray) : IsS70 w0 (W.setCell ⟨g, 0, none⟩ (.string x)) g x f1 f2 f3 f4 f5 f6 f7 f8 f9 f10 := by
 obtain ⟨hb, hg⟩ := h
 exact ⟨by simpa using blk_set hb 0 (.string x), hg⟩
theorem cellS70_1 {W : World} {g : Nat} {f0 : ByteArray} {f1 : Int} {f2 : Int} {f3 : Int} {f4 : ByteArray} {f5 : Int} {f6 : Int} {f7 : Int} {f8 : Int} {f9 : Int} {f10 : Int} (h : W.heap[g]? = some (.cells #[.string f0, .int .i64 f1, .int .i64 f2, .int .i64 f3, .string f4, .int .u8 f5, .int .i64 f6, .int .i64 f7, .int .i64 f8, .int .i64 f9, .int .i64 f10] 70 (0, 0))) : W.cell? ⟨g, 1, none⟩ = some (.int .i64 f1) := (blk_cell h 1).trans rfl
theorem IsS70.set_1 {w0 W : World} {g : Nat} {f0 : ByteArray} {f1 : Int} {f2 : Int} {f3 : Int} {f4 : ByteArray} {f5 : Int} {f6 : Int} {f7 : Int} {f8 : Int} {f9 : Int} {f10 : Int} (h : IsS70 w0 W g f0 f1 f2 f3 f4 f5 f6 f7 f8 f9 f10) (x : Int) : IsS70 w0 (W.setCell ⟨g, 1, none⟩ (.int .i64 x)) g f0 x f2 f3 f4 f5 f6 f7 f8 f9 f10 := by
 obtain ⟨hb, hg⟩ := h
 exact ⟨by simpa using blk_set hb 1 (.int .i64 x), hg⟩
theorem cellS70_2 {W : World} {g : Nat} {f0 : ByteArray} {f1 : Int} {f2 : Int} {f3 : Int} {f4 : ByteArray} {f5 : Int} {f6 : Int} {f7 : Int} {f8 : Int} {f9 : Int} {f10 : Int} (h : W.heap[g]? = some (.cells #[.string f0, .int .i64 f1, .int .i64 f2, .int .i64 f3, .string f4, .int .u8 f5, .int .i64 f6, .int .i64 f7, .int .i64 f8, .int .i64 f9, .int .i64 f10] 70 (0, 0))) : W.cell? ⟨g, 2, none⟩ = some (.int .i64 f2) := (blk_cell h 2).trans rfl
theorem IsS70.set_2 {w0 W : World} {g : Nat} {f0 : ByteArray} {f1 : Int} {f2 : Int} {f3 : Int} {f4 : ByteArray} {f5 : Int} {f6 : Int} {f7 : Int} {f8 : Int} {f9 : Int} {f10 : Int} (h : IsS70 w0 W g f0 f1 f2 f3 f4 f5 f6 f7 f8 f9 f10) (x : Int) : IsS70 w0 (W.setCell ⟨g, 2, none⟩ (.int .i64 x)) g f0 f1 x f3 f4 f5 f6 f7 f8 f9 f10 := by
 obtain ⟨hb, hg⟩ := h
 exact ⟨by simpa using blk_set hb 2 (.int .i64 x), hg⟩
theorem cellS70_3 {W : World} {g : Nat} {f0 : ByteArray} {f1 : Int} {f2 : Int} {f3 : Int} {f4 : ByteArray} {f5 : Int} {f6 : Int} {f7 : Int} {f8 : Int} {f9 : Int} {f10 : Int} (h : W.heap[g]? = some (.cells #[.string f0, .int .i64 f1, .int .i64 f2, .int .i64 f3, .string f4, .int .u8 f5, .int .i64 f6, .int .i64 f7, .int .i64 f8, .int .i64 f9, .int .i64 f10] 70 (0, 0))) : W.cell? ⟨g, 3, none⟩ = some (.int .i64 f3) := (blk_cell h 3).trans rfl
theorem IsS70.set_3 {w0 W : World} {g : Nat} {f0 : ByteArray} {f1 : Int} {f2 : Int} {f3 : Int} {f4 : ByteArray} {f5 : Int} {f6 : Int} {f7 : Int} {f8 : Int} {f9 : Int} {f10 : Int} (h : IsS70 w0 W g f0 f1 f2 f3 f4 f5 f6 f7 f8 f9 f10) (x : Int) : IsS70 w0 (W.setCell ⟨g, 3, none⟩ (.int .i64 x)) g f0 f1 f2 x f4 f5 f6 f7 f8 f9 f10 := by
 obtain ⟨hb, hg⟩ := h
 exact ⟨by simpa using blk_set hb 3 (.int .i64 x), hg⟩
theorem cellS70_4 {W : World} {g : Nat} {f0 : ByteArray} {f1 : Int} {f2 : Int} {f3 : Int} {f4 : ByteArray} {f5 : Int} {f6 : Int} {f7 : Int} {f8 : Int} {f9 : Int} {f10 : Int} (h : W.heap[g]? = some (.cells #[.string f0, .int .i64 f1, .int .i64 f2, .int .i64 f3, .string f4, .int .u8 f5, .int .i64 f6, .int .i64 f7, .int .i64 f8, .int .i64 f9, .int .i64 f10] 70 (0, 0))) : W.cell? ⟨g, 4, none⟩ = some (.string f4) := (blk_cell h 4).trans rfl
theorem IsS70.set_4 {w0 W : World} {g : Nat} {f0 : ByteArray} {f1 : Int} {f2 : Int} {f3 : Int} {f4 : ByteArray} {f5 : Int} {f6 : Int} {f7 : Int} {f8 : Int} {f9 : Int} {f10 : Int} (h : IsS70 w0 W g f0 f1 f2 f3 f4 f5 f6 f7 f8 f9 f10) (x : ByteArray) : IsS70 w0 (W.setCell ⟨g, 4, none⟩ (.string x)) g f0 f1 f2 f3 x f5 f6 f7 f8 f9 f10 := by
 obtain ⟨hb, hg⟩ := h
 exact ⟨by simpa using blk_set hb 4 (.string x), hg⟩
theorem cellS70_5 {W : World} {g : Nat} {f0 : ByteArray} {f1 : Int} {f2 : Int} {f3 : Int} {f4 : ByteArray} {f5 : Int} {f6 : Int} {f7 : Int} {f8 : Int} {f9 : Int} {f10 : Int} (h : W.heap[g]? = some (.cells #[.string f0, .int .i64 f1, .int .i64 f2, .int .i64 f3, .string f4, .int .u8 f5, .int .i64 f6, .int .i64 f7, .int .i64 f8, .int .i64 f9, .int .i64 f10] 70 (0, 0))) : W.cell? ⟨g, 5, none⟩ = some (.int .u8 f5) := (blk_cell h 5).trans rfl
theorem IsS70.set_5 {w0 W : World} {g : Nat} {f0 : ByteArray} {f1 : Int} {f2 : Int} {f3 : Int} {f4 : ByteArray} {f5 : Int} {f6 : Int} {f7 : Int} {f8 : Int} {f9 : Int} {f10 : Int} (h : IsS70 w0 W g f0 f1 f2 f3 f4 f5 f6 f7 f8 f9 f10) (x : Int) : IsS70 w0 (W.setCell ⟨g, 5, none⟩ (.int .u8 x)) g f0 f1 f2 f3 f4 x f6 f7 f8 f9 f10 := by
 obtain ⟨hb, hg⟩ := h
 exact ⟨by simpa using blk_set hb 5 (.int .u8 x), hg⟩
theorem cellS70_6 {W : World} {g : Nat} {f0 : ByteArray} {f1 : Int} {f2 : Int} {f3 : Int} {f4 : ByteArray} {f5 : Int} {f6 : Int} {f7 : Int} {f8 : Int} {f9 : Int} {f10 : Int} (h : W.heap[g]? = some (.cells #[.string f0, .int .i64 f1, .int .i64 f2, .int .i64 f3, .string f4, .int .u8 f5, .int .i64 f6, .int .i64 f7, .int .i64 f8, .int .i64 f9, .int .i64 f10] 70 (0, 0))) : W.cell? ⟨g, 6, none⟩ = some (.int .i64 f6) := (blk_cell h 6).trans rfl
theorem IsS70.set_6 {w0 W : World} {g : Nat} {f0 : ByteArray} {f1 : Int} {f2 : Int} {f3 : Int} {f4 : ByteArray} {f5 : Int} {f6 : Int} {f7 : Int} {f8 : Int} {f9 : Int} {f10 : Int} (h : IsS70 w0 W g f0 f1 f2 f3 f4 f5 f6 f7 f8 f9 f10) (x : Int) : IsS70 w0 (W.setCell ⟨g, 6, none⟩ (.int .i64 x)) g f0 f1 f2 f3 f4 f5 x f7 f8 f9 f10 := by
 obtain ⟨hb, hg⟩ := h
 exact ⟨by simpa using blk_set hb 6 (.int .i64 x), hg⟩
theorem cellS70_7 {W : World} {g : Nat} {f0 : ByteArray} {f1 : Int} {f2 : Int} {f3 : Int} {f4 : ByteArray} {f5 : Int} {f6 : Int} {f7 : Int} {f8 : Int} {f9 : Int} {f10 : Int} (h : W.heap[g]? = some (.cells #[.string f0, .int .i64 f1, .int .i64 f2, .int .i64 f3, .string f4, .int .u8 f5, .int .i64 f6, .int .i64 f7, .int .i64 f8, .int .i64 f9, .int .i64 f10] 70 (0, 0))) : W.cell? ⟨g, 7, none⟩ = some (.int .i64 f7) := (blk_cell h 7).trans rfl
theorem IsS70.set_7 {w0 W : World} {g : Nat} {f0 : ByteArray} {f1 : Int} {f2 : Int} {f3 : Int} {f4 : ByteArray} {f5 : Int} {f6 : Int} {f7 : Int} {f8 : Int} {f9 : Int} {f10 : Int} (h : IsS70 w0 W g f0 f1 f2 f3 f4 f5 f6 f7 f8 f9 f10) (x : Int) : IsS70 w0 (W.setCell ⟨g, 7, none⟩ (.int .i64 x)) g f0 f1 f2 f3 f4 f5 f6 x f8 f9 f10 := by
 obtain ⟨hb, hg⟩ := h
 exact ⟨by simpa using blk_set hb 7 (.int .i64 x), hg⟩
theorem cellS70_8 {W : World} {g : Nat} {f0 : ByteArray} {f1 : Int} {f2 : Int} {f3 : Int} {f4 : ByteArray} {f5 : Int} {f6 : Int} {f7 : Int} {f8 : Int} {f9 : Int} {f10 : Int} (h : W.heap[g]? = some (.cells #[.string f0, .int .i64 f1, .int .i64 f2, .int .i64 f3, .string f4, .int .u8 f5, .int .i64 f6, .int .i64 f7, .int .i64 f8, .int .i64 f9, .int .i64 f10] 70 (0, 0))) : W.cell? ⟨g, 8, none⟩ = some (.int .i64 f8) := (blk_cell h 8).trans rfl
theorem IsS70.set_8 {w0 W : World} {g : Nat} {f0 : ByteArray} {f1 : Int} {f2 : Int} {f3 : Int} {f4 : ByteArray} {f5 : Int} {f6 : Int} {f7 : Int} {f8 : Int} {f9 : Int} {f10 : Int} (h : IsS70 w0 W g f0 f1 f2 f3 f4 f5 f6 f7 f8 f9 f10) (x : Int) : IsS70 w0 (W.setCell ⟨g, 8, none⟩ (.int .i64 x)) g f0 f1 f2 f3 f4 f5 f6 f7 x f9 f10 := by
 obtain ⟨hb, hg⟩ := h
 exact ⟨by simpa using blk_set hb 8 (.int .i64 x), hg⟩
theorem cellS70_9 {W : World} {g : Nat} {f0 : ByteArray} {f1 : Int} {f2 : Int} {f3 : Int} {f4 : ByteArray} {f5 : Int} {f6 : Int} {f7 : Int} {f8 : Int} {f9 : Int} {f10 : Int} (h : W.heap[g]? = some (.cells #[.string f0, .int .i64 f1, .int .i64 f2, .int .i64 f3, .string f4, .int .u8 f5, .int .i64 f6, .int .i64 f7, .int .i64 f8, .int .i64 f9, .int .i64 f10] 70 (0, 0))) : W.cell? ⟨g, 9, none⟩ = some (.int .i64 f9) := (blk_cell h 9).trans rfl
theorem IsS70.set_9 {w0 W : World} {g : Nat} {f0 : ByteArray} {f1 : Int} {f2 : Int} {f3 : Int} {f4 : ByteArray} {f5 : Int} {f6 : Int} {f7 : Int} {f8 : Int} {f9 : Int} {f10 : Int} (h : IsS70 w0 W g f0 f1 f2 f3 f4 f5 f6 f7 f8 f9 f10) (x : Int) : IsS70 w0 (W.setCell ⟨g, 9, none⟩ (.int .i64 x)) g f0 f1 f2 f3 f4 f5 f6 f7 f8 x f10 := by
 obtain ⟨hb, hg⟩ := h
 exact ⟨by simpa using blk_set hb 9 (.int .i64 x), hg⟩
theorem cellS70_10 {W : World} {g : Nat} {f0 : ByteArray} {f1 : Int} {f2 : Int} {f3 : Int} {f4 : ByteArray} {f5 : Int} {f6 : Int} {f7 : Int} {f8 : Int} {f9 : Int} {f10 : Int} (h : W.heap[g]? = some (.cells #[.string f0, .int .i64 f1, .int .i64 f2, .int .i64 f3, .string f4, .int .u8 f5, .int .i64 f6, .int .i64 f7, .int .i64 f8, .int .i64 f9, .int .i64 f10] 70 (0, 0))) : W.cell? ⟨g, 10, none⟩ = some (.int .i64 f10) := (blk_cell h 10).trans rfl
theorem IsS70.set_10 {w0 W : World} {g : Nat} {f0 : ByteArray} {f1 : Int} {f2 : Int} {f3 : Int} {f4 : ByteArray} {f5 : Int} {f6 : Int} {f7 : Int} {f8 : Int} {f9 : Int} {f10 : Int} (h : IsS70 w0 W g f0 f1 f2 f3 f4 f5 f6 f7 f8 f9 f10) (x : Int) : IsS70 w0 (W.setCell ⟨g, 10, none⟩ (.int .i64 x)) g f0 f1 f2 f3 f4 f5 f6 f7 f8 f9 x := by
 obtain ⟨hb, hg⟩ := h
 exact ⟨by simpa using blk_set hb 10 (.int .i64 x), hg⟩
theorem IsS70.new (w0 W : World) (f0 : ByteArray) (f1 : Int) (f2 : Int) (f3 : Int) (f4 : ByteArray) (f5 : Int) (f6 : Int) (f7 : Int) (f8 : Int) (f9 : Int) (f10 : Int) (hB : Below w0.heap.size w0 W) : IsS70 w0 (W.alloc (.cells #[.string f0, .int .i64 f1, .int .i64 f2, .int .i64 f3, .string f4, .int .u8 f5, .int .i64 f6, .int .i64 f7, .int .i64 f8, .int .i64 f9, .int .i64 f10] 70)) W.heap.size f0 f1 f2 f3 f4 f5 f6 f7 f8 f9 f10 := ⟨by simpa using heap_alloc_new W _, hB.size⟩
def d_reader_now.f (s0_0 : ByteArray) (s0_1 : Int) (s0_2 : Int) (s0_3 : Int) (s0_4 : ByteArray) (s0_5 : Int) (s0_6 : Int) (s0_7 : Int) (s0_8 : Int) (s0_9 : Int) (s0_10 : Int) : Option (Int × ByteArray × Int × Int × Int × ByteArray × Int × Int × Int × Int × Int × Int) := if s0_1 < (s0_0.size : Int) then (if 0 ≤ s0_1 then (some (bt s0_0 s0_1, s0_0, s0_1, s0_2, s0_3, s0_4, s0_5, s0_6, s0_7, s0_8, s0_9, s0_10)) else (none)) else (some (0, s0_0, s0_1, s0_2, s0_3, s0_4, s0_5, s0_6, s0_7, s0_8, s0_9, s0_10))
set_option maxHeartbeats 8000000 in
set_option maxRecDepth 100000 in
theorem d_reader_now.calls (g : Nat) (s0_0 : ByteArray) (s0_1 : Int) (s0_2 : Int) (s0_3 : Int) (s0_4 : ByteArray) (s0_5 : Int) (s0_6 : Int) (s0_7 : Int) (s0_8 : Int) (s0_9 : Int) (s0_10 : Int) (r1 : Int) (r2 : ByteArray) (r3 : Int) (r4 : Int) (r5 : Int) (r6 : ByteArray) (r7 : Int) (r8 : Int) (r9 : Int) (r10 : Int) (r11 : Int) (r12 : Int) (w0 w : World) (hI : IsS70 w0 w g s0_0 s0_1 s0_2 s0_3 s0_4 s0_5 s0_6 s0_7 s0_8 s0_9 s0_10) (hB : Below w0.heap.size w0 w) (h : d_reader_now.f s0_0 s0_1 s0_2 s0_3 s0_4 s0_5 s0_6 s0_7 s0_8 s0_9 s0_10 = some (r1, r2, r3, r4, r5, r6, r7, r8, r9, r10, r11, r12)) :
  Calls Tryd.prog 46 #[.pointer (some ⟨g, 0, none⟩)] w fun e w' => e = .returned (.int .u8 r1) ∧ IsS70 w0 w' g r2 r3 r4 r5 r6 r7 r8 r9 r10 r11 r12 ∧ Below w0.heap.size w0 w' ∧ KeepBut w w' g none := by
 have HI0 := am hI
 have HK := am (KeepBut.refl w g none)
 have HL := am hB.size
 clear hI
 have HW0 := am hB.size
 have HB := am hB
 clear hB
 have H : (if s0_1 < (s0_0.size : Int) then (if 0 ≤ s0_1 then (some (bt s0_0 s0_1, s0_0, s0_1, s0_2, s0_3, s0_4, s0_5, s0_6, s0_7, s0_8, s0_9, s0_10)) else (none)) else (some (0, s0_0, s0_1, s0_2, s0_3, s0_4, s0_5, s0_6, s0_7, s0_8, s0_9, s0_10))) = some (r1, r2, r3, r4, r5, r6, r7, r8, r9, r10, r11, r12) := h
 clear h
 by_cases c2 : s0_1 < (s0_0.size : Int)
 rotate_left
 ·rw [if_neg c2] at H
  have c2b0 := decide_eq_false c2
  clear c2
  simp only [Option.some.injEq, Prod.mk.injEq] at H
  obtain ⟨rfl, rfl, rfl, rfl, rfl, rfl, rfl, rfl, rfl, rfl, rfl, rfl⟩ := H
  obtain ⟨HGz6, hgz6⟩ := HI0.out
  have hcz6_0 := cellS70_0 HGz6
  have hcz6_1 := cellS70_1 HGz6
  have hcz6_2 := cellS70_2 HGz6
  have hcz6_3 := cellS70_3 HGz6
  have hcz6_4 := cellS70_4 HGz6
  have hcz6_5 := cellS70_5 HGz6
  have hcz6_6 := cellS70_6 HGz6
  have hcz6_7 := cellS70_7 HGz6
  have hcz6_8 := cellS70_8 HGz6
  have hcz6_9 := cellS70_9 HGz6
  have hcz6_10 := cellS70_10 HGz6
  have hfz6_0 := blk_frozen HGz6 0
  have hfz6_1 := blk_frozen HGz6 1
  have hfz6_2 := blk_frozen HGz6 2
  have hfz6_3 := blk_frozen HGz6 3
  have hfz6_4 := blk_frozen HGz6 4
  have hfz6_5 := blk_frozen HGz6 5
  have hfz6_6 := blk_frozen HGz6 6
  have hfz6_7 := blk_frozen HGz6 7
  have hfz6_8 := blk_frozen HGz6 8
  have hfz6_9 := blk_frozen HGz6 9
  have hfz6_10 := blk_frozen HGz6 10
  clear HGz6 hgz6
  go_enter Tryd.func46, Tryd.ntmps46
  go_wp2
  repeat (go_quiet (fail); try go_wp2)
  go_ret
  exact ⟨er, i7, bi, by repeat (first | (with_reducible first | exact HK.out | apply KeepBut.set_ | apply keep_drewN | apply keep_drew | apply keep_alloc) | exact HK.out)⟩
 rw [if_pos c2] at H
 have c2b0 := decide_eq_true c2
 clear c2
 by_cases c3 : 0 ≤ s0_1
 rotate_left
 ·rw [if_neg c3] at H
  exact absurd H (by simp)
 rw [if_pos c3] at H
 have c3b0 := decide_eq_true c3
 clear c3
 simp only [Option.some.injEq, Prod.mk.injEq] at H
 obtain ⟨rfl, rfl, rfl, rfl, rfl, rfl, rfl, rfl, rfl, rfl, rfl, rfl⟩ := H
 obtain ⟨HGz5, hgz5⟩ := HI0.out
 have hcz5_0 := cellS70_0 HGz5
 have hcz5_1 := cellS70_1 HGz5
 have hcz5_2 := cellS70_2 HGz5
 have hcz5_3 := cellS70_3 HGz5
 have hcz5_4 := cellS70_4 HGz5
 have hcz5_5 := cellS70_5 HGz5
 have hcz5_6 := cellS70_6 HGz5
 have hcz5_7 := cellS70_7 HGz5
 have hcz5_8 := cellS70_8 HGz5
 have hcz5_9 := cellS70_9 HGz5
 have hcz5_10 := cellS70_10 HGz5
 have hfz5_0 := blk_frozen HGz5 0
 have hfz5_1 := blk_frozen HGz5 1
 have hfz5_2 := blk_frozen HGz5 2
 have hfz5_3 := blk_frozen HGz5 3
 have hfz5_4 := blk_frozen HGz5 4
 have hfz5_5 := blk_frozen HGz5 5
 have hfz5_6 := blk_frozen HGz5 6
 have hfz5_7 := blk_frozen HGz5 7
 have hfz5_8 := blk_frozen HGz5 8
 have hfz5_9 := blk_frozen HGz5 9
 have hfz5_10 := blk_frozen HGz5 10
 clear HGz5 hgz5
 have p4 : 0 ≤ (s0_1 : Int) := of_decide_eq_true od
 have q4 : s0_1 < (s0_0.size : Int) := of_decide_eq_true od
 have hx4 := bt_at s0_0 s0_1
 replace p4 := eq_true p4
 replace q4 := eq_true q4
 go_enter Tryd.func46, Tryd.ntmps46
 go_wp2
 repeat (go_quiet (fail); try go_wp2)
 go_ret
 exact ⟨er, i7, bi, by repeat (first | (with_reducible first | exact HK.out | apply KeepBut.set_ | apply keep_drewN | apply keep_drew | apply keep_alloc) | exact HK.out)⟩
end Go.Proofs.YtlmijjekaelhcaaDoor.EDi
end
section
namespace Go.Proofs.YtlmijjekaelhcaaDoor.EDi
open Go.RowKit Go.Proofs.YtlmijjekaelhcaaDoorW.PrintWords Go.Proofs.YtlmijjekaelhcaaDoorW.PrintLast Go.Proofs.YtlmijjekaelhcaaDoorW.PrintMore
attribute [local go_sem] max2_int min2_int max_two min_two max_three min_three max_four min_four
set_option linter.unusedVariables false
def d_digit.f (a0 : Int) : Option (Bool) := if 48 ≤ a0 then (some (decide (a0 ≤ 57))) else (some false)
set_option maxHeartbeats 8000000 in
set_option maxRecDepth 100000 in
theorem d_digit.calls (a0 : Int) (r : Bool) (w : World) (h : d_digit.f a0 = some r) :
  Calls Tryd.prog 57 #[.int .u8 a0] w fun e w' => e = .returned (.bool r) ∧ Drawn0 w w' := by
 have H : (if 48 ≤ a0 then (some (decide (a0 ≤ 57))) else (some false)) = some r := h
 clear h
 by_cases c2 : 48 ≤ a0
 ·rw [if_pos c2] at H
  have c2b0 := decide_eq_true c2
  clear c2
  obtain rfl := Option.some.inj H
  go_enter Tryd.func57, Tryd.ntmps57
  go_wp2
  go_ret
  exact ⟨by first | rfl | (simp; done) | (simp [*]; done), by repeat (first | exact Drawn0.refl _ | apply Drawn0.step)⟩
 rw [if_neg c2] at H
 have c2b0 := decide_eq_false c2
 clear c2
 obtain rfl := Option.some.inj H
 go_enter Tryd.func57, Tryd.ntmps57
 go_wp2
 go_ret
 exact ⟨by first | rfl | (simp; done) | (simp [*]; done), by repeat (first | exact Drawn0.refl _ | apply Drawn0.step)⟩
end Go.Proofs.YtlmijjekaelhcaaDoor.EDi
end
section
namespace Go.Proofs.YtlmijjekaelhcaaDoor.EDi
open Go.RowKit Go.Proofs.YtlmijjekaelhcaaDoorW.PrintWords Go.Proofs.YtlmijjekaelhcaaDoorW.PrintLast Go.Proofs.YtlmijjekaelhcaaDoorW.PrintMore
attribute [local go_sem] max2_int min2_int max_two min_two max_three min_three max_four min_four
set_option linter.unusedVariables false
open Go.Proofs.YtlmijjekaelhcaaDoor.X
mutual
def d_reader_begins.j0 : Nat → Int → Bool → ByteArray → Int → Int → Int → ByteArray → Int → Int → Int → Int → Int → Int → Option (Int × ByteArray × Int × Int × Int × ByteArray × Int × Int × Int × Int × Int × Int)
 | 0, _, _, _, _, _, _, _, _, _, _, _, _, _ => none
 | k + 1, x3, x6, x1000, x1001, x1002, x1003, x1004, x1005, x1006, x1007, x1008, x1009, x1010 => if x6 = true then (some (0, x1000, x1001, x1002, x1003, x1004, x1005, x1006, x1007, x1008, x1009, x1010)) else ((d_digit.f x3).bind fun t139 => (if t139 = true then (d_reader_begins.j1 k x3 true x1000 x1001 x1002 x1003 x1004 x1005 x1006 x1007 x1008 x1009 x1010) else (d_reader_begins.j1 k x3 (x3 == 42) x1000 x1001 x1002 x1003 x1004 x1005 x1006 x1007 x1008 x1009 x1010)))
def d_reader_begins.j1 : Nat → Int → Bool → ByteArray → Int → Int → Int → ByteArray → Int → Int → Int → Int → Int → Int → Option (Int × ByteArray × Int × Int × Int × ByteArray × Int × Int × Int × Int × Int × Int)
 | 0, _, _, _, _, _, _, _, _, _, _, _, _, _ => none
 | k + 1, x3, x14, x1000, x1001, x1002, x1003, x1004, x1005, x1006, x1007, x1008, x1009, x1010 => if x14 = true then (some (1, x1000, x1001, x1002, x1003, x1004, x1005, x1006, x1007, x1008, x1009, x1010)) else (if x3 = 46 then (some (2, x1000, x1001, x1002, x1003, x1004, x1005, x1006, x1007, x1008, x1009, x1010)) else (some (3, x1000, x1001, x1002, x1003, x1004, x1005, x1006, x1007, x1008, x1009, x1010)))
end
def d_reader_begins.f (k : Nat) (s0_0 : ByteArray) (s0_1 : Int) (s0_2 : Int) (s0_3 : Int) (s0_4 : ByteArray) (s0_5 : Int) (s0_6 : Int) (s0_7 : Int) (s0_8 : Int) (s0_9 : Int) (s0_10 : Int) : Option (Int × ByteArray × Int × Int × Int × ByteArray × Int × Int × Int × Int × Int × Int) := (d_reader_now.f s0_0 s0_1 s0_2 s0_3 s0_4 s0_5 s0_6 s0_7 s0_8 s0_9 s0_10).bind fun bt126 => (if bt126.1 = 0 then (d_reader_begins.j0 k bt126.1 false bt126.2.1 bt126.2.2.1 bt126.2.2.2.1 bt126.2.2.2.2.1 bt126.2.2.2.2.2.1 bt126.2.2.2.2.2.2.1 bt126.2.2.2.2.2.2.2.1 bt126.2.2.2.2.2.2.2.2.1 bt126.2.2.2.2.2.2.2.2.2.1 bt126.2.2.2.2.2.2.2.2.2.2.1 bt126.2.2.2.2.2.2.2.2.2.2.2) else ((xIndexByte.f (⟨#[45, 43, 32, 35, 48]⟩ : ByteArray) bt126.1).bind fun t138 => (d_reader_begins.j0 k bt126.1 (decide (t138 ≥ 0)) bt126.2.1 bt126.2.2.1 bt126.2.2.2.1 bt126.2.2.2.2.1 bt126.2.2.2.2.2.1 bt126.2.2.2.2.2.2.1 bt126.2.2.2.2.2.2.2.1 bt126.2.2.2.2.2.2.2.2.1 bt126.2.2.2.2.2.2.2.2.2.1 bt126.2.2.2.2.2.2.2.2.2.2.1 bt126.2.2.2.2.2.2.2.2.2.2.2)))
theorem d_reader_begins.mono_l : ∀ k, (∀ y0 y1 y2 y3 y4 y5 y6 y7 y8 y9 y10 y11 y12, LeO (d_reader_begins.j0 k y0 y1 y2 y3 y4 y5 y6 y7 y8 y9 y10 y11 y12) (d_reader_begins.j0 (k + 1) y0 y1 y2 y3 y4 y5 y6 y7 y8 y9 y10 y11 y12)) ∧ (∀ y0 y1 y2 y3 y4 y5 y6 y7 y8 y9 y10 y11 y12, LeO (d_reader_begins.j1 k y0 y1 y2 y3 y4 y5 y6 y7 y8 y9 y10 y11 y12) (d_reader_begins.j1 (k + 1) y0 y1 y2 y3 y4 y5 y6 y7 y8 y9 y10 y11 y12))
 | 0 => ⟨fun _ _ _ _ _ _ _ _ _ _ _ _ _ r h => by simp [d_reader_begins.j0] at h, fun _ _ _ _ _ _ _ _ _ _ _ _ _ r h => by simp [d_reader_begins.j1] at h⟩
 | k + 1 => by
  obtain ⟨ih0, ih1⟩ := d_reader_begins.mono_l k
  refine ⟨?_, ?_⟩ <;> intros
  all_goals first | unfold d_reader_begins.j0 | unfold d_reader_begins.j1
  all_goals repeat' first
  | (with_reducible exact ih0 _ _ _ _ _ _ _ _ _ _ _ _ _)
  | (with_reducible exact ih1 _ _ _ _ _ _ _ _ _ _ _ _ _)
  | (with_reducible exact LeO.refl _)
  | (with_reducible exact LeO.none _)
  | (with_reducible refine LeO.ite ?_ ?_)
  | (with_reducible refine LeO.bind ?_ (fun _ => ?_))
  | exact ih0 _ _ _ _ _ _ _ _ _ _ _ _ _
  | exact ih1 _ _ _ _ _ _ _ _ _ _ _ _ _
  | exact LeO.none _
  | refine LeO.ite ?_ ?_
  | refine LeO.bind ?_ (fun _ => ?_)
theorem d_reader_begins.mono : ∀ a0 a1 a2 a3 a4 a5 a6 a7 a8 a9 a10 k, LeO (d_reader_begins.f k a0 a1 a2 a3 a4 a5 a6 a7 a8 a9 a10) (d_reader_begins.f (k + 1) a0 a1 a2 a3 a4 a5 a6 a7 a8 a9 a10) := by
 intro a0 a1 a2 a3 a4 a5 a6 a7 a8 a9 a10 k
 obtain ⟨ih0, ih1⟩ := d_reader_begins.mono_l k
 unfold d_reader_begins.f
 repeat' first
   | (with_reducible exact ih0 _ _ _ _ _ _ _ _ _ _ _ _ _)
   | (with_reducible exact ih1 _ _ _ _ _ _ _ _ _ _ _ _ _)
   | (with_reducible exact LeO.refl _)
   | (with_reducible exact LeO.none _)
   | (with_reducible refine LeO.ite ?_ ?_)
   | (with_reducible refine LeO.bind ?_ (fun _ => ?_))
   | exact ih0 _ _ _ _ _ _ _ _ _ _ _ _ _
   | exact ih1 _ _ _ _ _ _ _ _ _ _ _ _ _
   | exact LeO.none _
   | refine LeO.ite ?_ ?_
   | refine LeO.bind ?_ (fun _ => ?_)
set_option maxHeartbeats 8000000 in
set_option maxRecDepth 100000 in
theorem d_reader_begins.calls (k : Nat) (g : Nat) (s0_0 : ByteArray) (s0_1 : Int) (s0_2 : Int) (s0_3 : Int) (s0_4 : ByteArray) (s0_5 : Int) (s0_6 : Int) (s0_7 : Int) (s0_8 : Int) (s0_9 : Int) (s0_10 : Int) (r1 : Int) (r2 : ByteArray) (r3 : Int) (r4 : Int) (r5 : Int) (r6 : ByteArray) (r7 : Int) (r8 : Int) (r9 : Int) (r10 : Int) (r11 : Int) (r12 : Int) (w0 w : World) (hI : IsS70 w0 w g s0_0 s0_1 s0_2 s0_3 s0_4 s0_5 s0_6 s0_7 s0_8 s0_9 s0_10) (hB : Below w0.heap.size w0 w) (h : d_reader_begins.f k s0_0 s0_1 s0_2 s0_3 s0_4 s0_5 s0_6 s0_7 s0_8 s0_9 s0_10 = some (r1, r2, r3, r4, r5, r6, r7, r8, r9, r10, r11, r12)) :
  Calls Tryd.prog 45 #[.pointer (some ⟨g, 0, none⟩)] w fun e w' => e = .returned (.int .i64 r1) ∧ IsS70 w0 w' g r2 r3 r4 r5 r6 r7 r8 r9 r10 r11 r12 ∧ Below w0.heap.size w0 w' ∧ KeepBut w w' g none := by
 have HI0 := am hI
 have HK := am (KeepBut.refl w g none)
 have HL := am hB.size
 clear hI
 have HW0 := am hB.size
 have HB := am hB
 clear hB
 have H : ((d_reader_now.f s0_0 s0_1 s0_2 s0_3 s0_4 s0_5 s0_6 s0_7 s0_8 s0_9 s0_10).bind fun bt126 => (if bt126.1 = 0 then (d_reader_begins.j0 k bt126.1 false bt126.2.1 bt126.2.2.1 bt126.2.2.2.1 bt126.2.2.2.2.1 bt126.2.2.2.2.2.1 bt126.2.2.2.2.2.2.1 bt126.2.2.2.2.2.2.2.1 bt126.2.2.2.2.2.2.2.2.1 bt126.2.2.2.2.2.2.2.2.2.1 bt126.2.2.2.2.2.2.2.2.2.2.1 bt126.2.2.2.2.2.2.2.2.2.2.2) else ((xIndexByte.f (⟨#[45, 43, 32, 35, 48]⟩ : ByteArray) bt126.1).bind fun t138 => (d_reader_begins.j0 k bt126.1 (decide (t138 ≥ 0)) bt126.2.1 bt126.2.2.1 bt126.2.2.2.1 bt126.2.2.2.2.1 bt126.2.2.2.2.2.1 bt126.2.2.2.2.2.2.1 bt126.2.2.2.2.2.2.2.1 bt126.2.2.2.2.2.2.2.2.1 bt126.2.2.2.2.2.2.2.2.2.1 bt126.2.2.2.2.2.2.2.2.2.2.1 bt126.2.2.2.2.2.2.2.2.2.2.2)))) = some (r1, r2, r3, r4, r5, r6, r7, r8, r9, r10, r11, r12) := h
 clear h
 replace H := Option.bind_eq_some_iff.mp H
 obtain ⟨⟨t126, t127, t128, t129, t130, t131, t132, t133, t134, t135, t136, t137⟩, A20, H⟩ := H
 replace H : (if t126 = 0 then (d_reader_begins.j0 k t126 false t127 t128 t129 t130 t131 t132 t133 t134 t135 t136 t137) else ((xIndexByte.f (⟨#[45, 43, 32, 35, 48]⟩ : ByteArray) t126).bind fun t138 => (d_reader_begins.j0 k t126 (decide (t138 ≥ 0)) t127 t128 t129 t130 t131 t132 t133 t134 t135 t136 t137))) = some (r1, r2, r3, r4, r5, r6, r7, r8, r9, r10, r11, r12) := H
 have A2 := am A20
 clear A20
 have HC3 := am H
 clear H
 go_enter Tryd.func45, Tryd.ntmps45
 go_upto_region 2 with (first | ((with_reducible refine gate_callee (f := 46) rfl ?_); refine goesL_ (some 5) rfl rfl Tryd.func46 (by kernel_rfl) rfl #[.pointer (some ⟨g, 0, none⟩)] rfl ls ?_; (with_reducible refine (d_reader_now.calls g s0_0 s0_1 s0_2 s0_3 s0_4 s0_5 s0_6 s0_7 s0_8 s0_9 s0_10 t126 t127 t128 t129 t130 t131 t132 t133 t134 t135 t136 t137 w0 _ ?side1 ?side2 A2.out).mono ?_); (case side1 => exact i7); (case side2 => exact bi); rintro e w4 ⟨rfl, hi, hb, hk⟩; refine ⟨_, rfl, ?_⟩; have n0_ := am (KeepBut.trans kb hk (.inl rfl)); have n1_ := am (hb); have n2_ := am (hi); clear HK; clear HB; clear HI0; have HK := n0_; have HB := n1_; have HI0 := n2_; clear n0_ n1_ n2_; (try clear hb); (try clear hb2); (try clear hk); (try clear hi)))
 (try simp only [Act.put, List.setIfInBounds_toArray, List.set_cons_zero, List.set_cons_succ])
 go_cut [6] (fun v6 wc => ∃ (kq : Nat) (x6_2 : Bool), v6 = .bool x6_2 ∧ Aside0 (d_reader_begins.j0 kq t126 x6_2 t127 t128 t129 t130 t131 t132 t133 t134 t135 t136 t137 = some (r1, r2, r3, r4, r5, r6, r7, r8, r9, r10, r11, r12)) ∧ Aside0 (kq ≤ k) ∧ Aside0 (IsS70 w0 wc g t127 t128 t129 t130 t131 t132 t133 t134 t135 t136 t137) ∧ Aside0 (KeepBut w wc g none) ∧ Aside0 (Below w0.heap.size w0 wc))
 case first =>
  have H := HC3.out
  clear HC3
  by_cases c5 : t126 = 0
  ·rw [if_pos c5] at H
   have c5b0 : (t126 == 0) = true := beq_iff_eq.mpr c5
   have c5b1 : (t126 != 0) = false := bne_eq_false_iff_eq.mpr c5
   clear c5
   (first | rw [c5b0] | (simp only [i64_w, i32_w]; rw [c5b0]) | skip)
   have H' := am H
   clear H
   go_wp2
   go_meet
   case rel => exact ⟨_, (false), tv, H', ⟨by first | omega | exact Nat.le_refl _⟩, ⟨i7⟩, ⟨by repeat (first | (with_reducible first | exact HK.out | apply KeepBut.set_ | apply keep_drewN | apply keep_drew | apply keep_alloc) | exact HK.out)⟩, ⟨bi⟩⟩
  rw [if_neg c5] at H
  have c5b0 : (t126 == 0) = false := beq_eq_false_iff_ne.mpr c5
  have c5b1 : (t126 != 0) = true := bne_iff_ne.mpr c5
  (first | rw [c5b0] | (simp only [i64_w, i32_w]; rw [c5b0]) | skip)
  replace H := Option.bind_eq_some_iff.mp H
  obtain ⟨t138, A60, H⟩ := H
  replace H : (d_reader_begins.j0 k t126 (decide (t138 ≥ 0)) t127 t128 t129 t130 t131 t132 t133 t134 t135 t136 t137) = some (r1, r2, r3, r4, r5, r6, r7, r8, r9, r10, r11, r12) := H
  have A6 := am A60
  clear A60
  have H' := am H
  clear H
  go_wp2_with (first | (go_at_call 25; (with_reducible refine (xIndexByte.calls (⟨#[45, 43, 32, 35, 48]⟩ : ByteArray) t126 t138 _ A6.out).mono ?_); rintro e w7 ⟨rfl, hb⟩; have n0_ := am (IsS70.below i7 hb); have n1_ := am (KeepBut.trans kb (KeepBut.of_below hb g none) (.inl rfl)); have n2_ := am (below_step bi hb); clear HI0; clear HK; clear HB; have HI0 := n0_; have HK := n1_; have HB := n2_; clear n0_ n1_ n2_; (try clear hb); (try clear hb2); (try clear hk); (try clear hi)))
  go_meet
  case rel => exact ⟨_, (decide (t138 ≥ 0)), tv, H', ⟨by first | omega | exact Nat.le_refl _⟩, ⟨i7⟩, ⟨by repeat (first | (with_reducible first | exact HK.out | apply KeepBut.set_ | apply keep_drewN | apply keep_drew | apply keep_alloc) | exact HK.out)⟩, ⟨bi⟩⟩
 case rest =>
  clear HC3
  try clear p2
  try clear c4
  try clear c5
  try clear c5b0
  try clear c5b1
  obtain ⟨kq, x6_2, rfl, HA, HJ2, HI0, HK, HB⟩ := hcut
  cases kq with
  | zero => exact absurd HA.out (by simp [d_reader_begins.j0])
  | succ kj2 =>
   have H := HA.out
   clear HA
   simp only [d_reader_begins.j0] at H
   by_cases c8 : x6_2 = true
   ·subst c8
    have H1 : (some (0, t127, t128, t129, t130, t131, t132, t133, t134, t135, t136, t137)) = some (r1, r2, r3, r4, r5, r6, r7, r8, r9, r10, r11, r12) := by rw [if_pos rfl] at H; exact H
    clear H
    have H := H1
    clear H1
    simp only [Option.some.injEq, Prod.mk.injEq] at H
    obtain ⟨rfl, rfl, rfl, rfl, rfl, rfl, rfl, rfl, rfl, rfl, rfl, rfl⟩ := H
    go_wp2
    go_ret
    exact ⟨er, i7, bi, by repeat (first | (with_reducible first | exact HK.out | apply KeepBut.set_ | apply keep_drewN | apply keep_drew | apply keep_alloc) | exact HK.out)⟩
   replace c8 := Bool.eq_false_iff.mpr c8
   subst c8
   have H1 : ((d_digit.f t126).bind fun t139 => (if t139 = true then (d_reader_begins.j1 kj2 t126 true t127 t128 t129 t130 t131 t132 t133 t134 t135 t136 t137) else (d_reader_begins.j1 kj2 t126 (t126 == 42) t127 t128 t129 t130 t131 t132 t133 t134 t135 t136 t137))) = some (r1, r2, r3, r4, r5, r6, r7, r8, r9, r10, r11, r12) := by rw [if_neg (show ¬ (false = true) by decide)] at H; exact H
   clear H
   have H := H1
   clear H1
   have HC9 := am H
   clear H
   go_upto_region 4 with (fail)
   go_cut [14] (fun v14 wc => ∃ (kq : Nat) (x14_8 : Bool), v14 = .bool x14_8 ∧ Aside0 (d_reader_begins.j1 kq t126 x14_8 t127 t128 t129 t130 t131 t132 t133 t134 t135 t136 t137 = some (r1, r2, r3, r4, r5, r6, r7, r8, r9, r10, r11, r12)) ∧ Aside0 (kq ≤ kj2) ∧ Aside0 (IsS70 w0 wc g t127 t128 t129 t130 t131 t132 t133 t134 t135 t136 t137) ∧ Aside0 (KeepBut w wc g none) ∧ Aside0 (Below w0.heap.size w0 wc))
   case first =>
    have H := HC9.out
    clear HC9
    replace H := Option.bind_eq_some_iff.mp H
    obtain ⟨t139, A100, H⟩ := H
    replace H : (if t139 = true then (d_reader_begins.j1 kj2 t126 true t127 t128 t129 t130 t131 t132 t133 t134 t135 t136 t137) else (d_reader_begins.j1 kj2 t126 (t126 == 42) t127 t128 t129 t130 t131 t132 t133 t134 t135 t136 t137)) = some (r1, r2, r3, r4, r5, r6, r7, r8, r9, r10, r11, r12) := H
    have A10 := am A100
    clear A100
    by_cases c11 : t139 = true
    ·subst c11
     have H1 : (d_reader_begins.j1 kj2 t126 true t127 t128 t129 t130 t131 t132 t133 t134 t135 t136 t137) = some (r1, r2, r3, r4, r5, r6, r7, r8, r9, r10, r11, r12) := by rw [if_pos rfl] at H; exact H
     clear H
     have H := H1
     clear H1
     have H' := am H
     clear H
     go_wp2_with (first | ((with_reducible refine gate_callee (f := 57) rfl ?_); refine goesL_ (some 16) rfl rfl Tryd.func57 (by kernel_rfl) rfl #[.int .u8 t126] rfl ls ?_; (with_reducible refine (d_digit.calls t126 true _ A10.out).mono ?_); rintro e w' ⟨rfl, ⟨nd, rfl⟩⟩; refine ⟨_, rfl, ?_⟩))
     go_meet
     case rel => exact ⟨_, (true), tv, H', ⟨by have := HJ2.out; first | omega | exact Nat.le_refl _⟩, ⟨i7⟩, ⟨by repeat (first | (with_reducible first | exact HK.out | apply KeepBut.set_ | apply keep_drewN | apply keep_drew | apply keep_alloc) | exact HK.out)⟩, ⟨bi⟩⟩
    replace c11 := Bool.eq_false_iff.mpr c11
    subst c11
    have H1 : (d_reader_begins.j1 kj2 t126 (t126 == 42) t127 t128 t129 t130 t131 t132 t133 t134 t135 t136 t137) = some (r1, r2, r3, r4, r5, r6, r7, r8, r9, r10, r11, r12) := by rw [if_neg (show ¬ (false = true) by decide)] at H; exact H
    clear H
    have H := H1
    clear H1
    have H' := am H
    clear H
    go_wp2_with (first | ((with_reducible refine gate_callee (f := 57) rfl ?_); refine goesL_ (some 16) rfl rfl Tryd.func57 (by kernel_rfl) rfl #[.int .u8 t126] rfl ls ?_; (with_reducible refine (d_digit.calls t126 false _ A10.out).mono ?_); rintro e w' ⟨rfl, ⟨nd, rfl⟩⟩; refine ⟨_, rfl, ?_⟩))
    go_meet
    case rel => exact ⟨_, ((t126 == 42)), tv, H', ⟨by have := HJ2.out; first | omega | exact Nat.le_refl _⟩, ⟨i7⟩, ⟨by repeat (first | (with_reducible first | exact HK.out | apply KeepBut.set_ | apply keep_drewN | apply keep_drew | apply keep_alloc) | exact HK.out)⟩, ⟨bi⟩⟩
   case rest =>
    clear HC9
    try clear c1
    try clear p2
    try clear c4
    try clear c5
    try clear c5b0
    try clear c5b1
    try clear c8
    try clear c11
    try clear p2
    obtain ⟨kq, x14_8, rfl, HA, HJ8, HI0, HK, HB⟩ := hcut
    cases kq with
    | zero => exact absurd HA.out (by simp [d_reader_begins.j1])
    | succ kj8 =>
     have H := HA.out
     clear HA
     simp only [d_reader_begins.j1] at H
     by_cases c12 : x14_8 = true
     ·subst c12
      have H1 : (some (1, t127, t128, t129, t130, t131, t132, t133, t134, t135, t136, t137)) = some (r1, r2, r3, r4, r5, r6, r7, r8, r9, r10, r11, r12) := by rw [if_pos rfl] at H; exact H
      clear H
      have H := H1
      clear H1
      simp only [Option.some.injEq, Prod.mk.injEq] at H
      obtain ⟨rfl, rfl, rfl, rfl, rfl, rfl, rfl, rfl, rfl, rfl, rfl, rfl⟩ := H
      go_wp2
      go_ret
      exact ⟨er, i7, bi, by repeat (first | (with_reducible first | exact HK.out | apply KeepBut.set_ | apply keep_drewN | apply keep_drew | apply keep_alloc) | exact HK.out)⟩
     replace c12 := Bool.eq_false_iff.mpr c12
     subst c12
     have H1 : (if t126 = 46 then (some (2, t127, t128, t129, t130, t131, t132, t133, t134, t135, t136, t137)) else (some (3, t127, t128, t129, t130, t131, t132, t133, t134, t135, t136, t137))) = some (r1, r2, r3, r4, r5, r6, r7, r8, r9, r10, r11, r12) := by rw [if_neg (show ¬ (false = true) by decide)] at H; exact H
     clear H
     have H := H1
     clear H1
     by_cases c13 : t126 = 46
     rotate_left
     ·rw [if_neg c13] at H
      have c13b0 : (t126 == 46) = false := beq_eq_false_iff_ne.mpr c13
      have c13b1 : (t126 != 46) = true := bne_iff_ne.mpr c13
      simp only [Option.some.injEq, Prod.mk.injEq] at H
      obtain ⟨rfl, rfl, rfl, rfl, rfl, rfl, rfl, rfl, rfl, rfl, rfl, rfl⟩ := H
      go_wp2
      go_ret
      exact ⟨er, i7, bi, by repeat (first | (with_reducible first | exact HK.out | apply KeepBut.set_ | apply keep_drewN | apply keep_drew | apply keep_alloc) | exact HK.out)⟩
     rw [if_pos c13] at H
     have c13b0 : (t126 == 46) = true := beq_iff_eq.mpr c13
     have c13b1 : (t126 != 46) = false := bne_eq_false_iff_eq.mpr c13
     clear c13
     simp only [Option.some.injEq, Prod.mk.injEq] at H
     obtain ⟨rfl, rfl, rfl, rfl, rfl, rfl, rfl, rfl, rfl, rfl, rfl, rfl⟩ := H
     go_wp2
     go_ret
     exact ⟨er, i7, bi, by repeat (first | (with_reducible first | exact HK.out | apply KeepBut.set_ | apply keep_drewN | apply keep_drew | apply keep_alloc) | exact HK.out)⟩
end Go.Proofs.YtlmijjekaelhcaaDoor.EDi
end
section
namespace Go.Proofs.YtlmijjekaelhcaaDoor.EDi
open Go.RowKit Go.Proofs.YtlmijjekaelhcaaDoorW.PrintWords Go.Proofs.YtlmijjekaelhcaaDoorW.PrintLast Go.Proofs.YtlmijjekaelhcaaDoorW.PrintMore
attribute [local go_sem] max2_int min2_int max_two min_two max_three min_three max_four min_four
set_option linter.unusedVariables false
def d_reader_stop.f (s0_0 : ByteArray) (s0_1 : Int) (s0_2 : Int) (s0_3 : Int) (s0_4 : ByteArray) (s0_5 : Int) (s0_6 : Int) (s0_7 : Int) (s0_8 : Int) (s0_9 : Int) (s0_10 : Int) (a1 : Int) (a2 : Int) : Option (ByteArray × Int × Int × Int × ByteArray × Int × Int × Int × Int × Int × Int) := if s0_3 = 0 then (some (s0_0, s0_1, a1, a2, s0_4, s0_5, s0_6, s0_7, s0_8, s0_9, s0_10)) else (some (s0_0, s0_1, s0_2, s0_3, s0_4, s0_5, s0_6, s0_7, s0_8, s0_9, s0_10))
set_option maxHeartbeats 8000000 in
set_option maxRecDepth 100000 in
theorem d_reader_stop.calls (g : Nat) (s0_0 : ByteArray) (s0_1 : Int) (s0_2 : Int) (s0_3 : Int) (s0_4 : ByteArray) (s0_5 : Int) (s0_6 : Int) (s0_7 : Int) (s0_8 : Int) (s0_9 : Int) (s0_10 : Int) (a1 : Int) (a2 : Int) (r1 : ByteArray) (r2 : Int) (r3 : Int) (r4 : Int) (r5 : ByteArray) (r6 : Int) (r7 : Int) (r8 : Int) (r9 : Int) (r10 : Int) (r11 : Int) (w0 w : World) (hI : IsS70 w0 w g s0_0 s0_1 s0_2 s0_3 s0_4 s0_5 s0_6 s0_7 s0_8 s0_9 s0_10) (hB : Below w0.heap.size w0 w) (h : d_reader_stop.f s0_0 s0_1 s0_2 s0_3 s0_4 s0_5 s0_6 s0_7 s0_8 s0_9 s0_10 a1 a2 = some (r1, r2, r3, r4, r5, r6, r7, r8, r9, r10, r11)) :
  Calls Tryd.prog 58 #[.pointer (some ⟨g, 0, none⟩), .int .i64 a1, .int .i64 a2] w fun e w' => e = .returned (.tuple #[]) ∧ IsS70 w0 w' g r1 r2 r3 r4 r5 r6 r7 r8 r9 r10 r11 ∧ Below w0.heap.size w0 w' ∧ KeepBut w w' g none := by
 have HI0 := am hI
 have HK := am (KeepBut.refl w g none)
 have HL := am hB.size
 clear hI
 have HW0 := am hB.size
 have HB := am hB
 clear hB
 have H : (if s0_3 = 0 then (some (s0_0, s0_1, a1, a2, s0_4, s0_5, s0_6, s0_7, s0_8, s0_9, s0_10)) else (some (s0_0, s0_1, s0_2, s0_3, s0_4, s0_5, s0_6, s0_7, s0_8, s0_9, s0_10))) = some (r1, r2, r3, r4, r5, r6, r7, r8, r9, r10, r11) := h
 clear h
 by_cases c4 : s0_3 = 0
 rotate_left
 ·rw [if_neg c4] at H
  have c4b0 : (s0_3 == 0) = false := beq_eq_false_iff_ne.mpr c4
  have c4b1 : (s0_3 != 0) = true := bne_iff_ne.mpr c4
  simp only [Option.some.injEq, Prod.mk.injEq] at H
  obtain ⟨rfl, rfl, rfl, rfl, rfl, rfl, rfl, rfl, rfl, rfl, rfl⟩ := H
  obtain ⟨HGz6, hgz6⟩ := HI0.out
  have hcz6_0 := cellS70_0 HGz6
  have hcz6_1 := cellS70_1 HGz6
  have hcz6_2 := cellS70_2 HGz6
  have hcz6_3 := cellS70_3 HGz6
  have hcz6_4 := cellS70_4 HGz6
  have hcz6_5 := cellS70_5 HGz6
  have hcz6_6 := cellS70_6 HGz6
  have hcz6_7 := cellS70_7 HGz6
  have hcz6_8 := cellS70_8 HGz6
  have hcz6_9 := cellS70_9 HGz6
  have hcz6_10 := cellS70_10 HGz6
  have hfz6_0 := blk_frozen HGz6 0
  have hfz6_1 := blk_frozen HGz6 1
  have hfz6_2 := blk_frozen HGz6 2
  have hfz6_3 := blk_frozen HGz6 3
  have hfz6_4 := blk_frozen HGz6 4
  have hfz6_5 := blk_frozen HGz6 5
  have hfz6_6 := blk_frozen HGz6 6
  have hfz6_7 := blk_frozen HGz6 7
  have hfz6_8 := blk_frozen HGz6 8
  have hfz6_9 := blk_frozen HGz6 9
  have hfz6_10 := blk_frozen HGz6 10
  clear HGz6 hgz6
  go_enter Tryd.func58, Tryd.ntmps58
  go_wp2
  first | go_end0 | ((try simp only [Exit.inBlock, Exit.then]); refine bodyPost_ret (results_none rfl _ _ _) rfl ?_)
  exact ⟨er, i7, bi, by repeat (first | (with_reducible first | exact HK.out | apply KeepBut.set_ | apply keep_drewN | apply keep_drew | apply keep_alloc) | exact HK.out)⟩
 rw [if_pos c4] at H
 have c4b0 : (s0_3 == 0) = true := beq_iff_eq.mpr c4
 have c4b1 : (s0_3 != 0) = false := bne_eq_false_iff_eq.mpr c4
 clear c4
 simp only [Option.some.injEq, Prod.mk.injEq] at H
 obtain ⟨rfl, rfl, rfl, rfl, rfl, rfl, rfl, rfl, rfl, rfl, rfl⟩ := H
 obtain ⟨HGz5, hgz5⟩ := HI0.out
 have hcz5_0 := cellS70_0 HGz5
 have hcz5_1 := cellS70_1 HGz5
 have hcz5_2 := cellS70_2 HGz5
 have hcz5_3 := cellS70_3 HGz5
 have hcz5_4 := cellS70_4 HGz5
 have hcz5_5 := cellS70_5 HGz5
 have hcz5_6 := cellS70_6 HGz5
 have hcz5_7 := cellS70_7 HGz5
 have hcz5_8 := cellS70_8 HGz5
 have hcz5_9 := cellS70_9 HGz5
 have hcz5_10 := cellS70_10 HGz5
 have hfz5_0 := blk_frozen HGz5 0
 have hfz5_1 := blk_frozen HGz5 1
 have hfz5_2 := blk_frozen HGz5 2
 have hfz5_3 := blk_frozen HGz5 3
 have hfz5_4 := blk_frozen HGz5 4
 have hfz5_5 := blk_frozen HGz5 5
 have hfz5_6 := blk_frozen HGz5 6
 have hfz5_7 := blk_frozen HGz5 7
 have hfz5_8 := blk_frozen HGz5 8
 have hfz5_9 := blk_frozen HGz5 9
 have hfz5_10 := blk_frozen HGz5 10
 clear HGz5 hgz5
 go_enter Tryd.func58, Tryd.ntmps58
 go_wp2
 first | go_end0 | ((try simp only [Exit.inBlock, Exit.then]); refine bodyPost_ret (results_none rfl _ _ _) rfl ?_)
 exact ⟨er, i7, bi, by repeat (first | (with_reducible first | exact HK.out | apply KeepBut.set_ | apply keep_drewN | apply keep_drew | apply keep_alloc) | exact HK.out)⟩
end Go.Proofs.YtlmijjekaelhcaaDoor.EDi
end
