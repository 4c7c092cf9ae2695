/-
  Short words for steps that the printed texts take often: theorems whose proof, where it is not given, is the step itself.
-/
import Derived.Test.YtdkejcadoepnnaaDoorBkWWords
set_option linter.unusedSimpArgs false
set_option linter.unusedVariables false
namespace Go.Proofs.YtdkejcadoepnnaaDoorW.PrintWords
theorem am {p : Prop} (h : p) : Aside0 p := ⟨h⟩
theorem bl {p : Prop} (h : p := by repeat (first | (with_reducible first | exact HB.out | apply below_alloc | apply pw_below_drewN | apply below_drew1) | exact HB.out)) : p := h
theorem bs {p : Prop} (h : p := by repeat (first | (with_reducible first | exact HB.out | apply below_alloc | apply pw_below_drewN | apply below_drew1 | refine below_set ?_ (Aside0.out (by assumption))) | exact HB.out)) : p := h
theorem od {p : Prop} (h : p := by first | (with_reducible assumption) | assumption) : p := h
theorem tv {p : Prop} (h : p := by first | rfl | (simp; done) | (simp [*]; done)) : p := h
theorem ls {p : Prop} (h : p := by (try simp only [List.map_toArray, List.map_cons, List.map_nil]); first | done | rfl | (simp only [List.length_drop, List.length_take]; rfl)) : p := h
theorem kb {p : Prop} (h : p := by repeat (first | (with_reducible first | exact HK.out | apply KeepBut.set_ | apply keep_drewN | apply keep_drew | apply keep_alloc) | exact HK.out)) : p := h
theorem i7 {p : Prop} (h : p := by repeat (first | (with_reducible first | exact HI0.out | apply IsS70.alloc | apply IsS70.drewN | apply IsS70.drew | apply IsS70.set_0 | apply IsS70.set_1 | apply IsS70.set_2 | apply IsS70.set_3 | apply IsS70.set_4 | apply IsS70.set_5 | apply IsS70.set_6 | apply IsS70.set_7 | apply IsS70.set_8 | apply IsS70.set_9 | apply IsS70.set_10) | exact HI0.out)) : p := h
theorem bi {p : Prop} (h : p := by repeat (first | (with_reducible first | exact HB.out | apply below_alloc | apply pw_below_drewN | apply below_drew1 | refine below_set ?_ (IsS70.ge HI0.out)) | exact HB.out)) : p := h
theorem er {p : Prop} (h : p := by first | rfl | (simp [errW_none, errW_some] <;> rfl) | (simp [*, errW_none, errW_some] <;> rfl)) : p := h
class UpW (w2 : World) (w1 : outParam World) : Prop where
  up : ∀ (g : Nat) (o : Obj), w1.heap[g]? = some o → w2.heap[g]? = some o
instance (priority := low) upw_self (w : World) : UpW w w := ⟨fun _ _ h => h⟩
instance upw_drewN (w w1 : World) (n : Nat) [h : UpW w w1] : UpW (w.drewN n) w1 := ⟨fun g o x => blk_drewN (h.up g o x) n⟩
instance upw_drew (w w1 : World) [h : UpW w w1] : UpW w.drew w1 := ⟨fun g o x => blk_drew (h.up g o x)⟩
instance upw_alloc (w w1 : World) (o' : Obj) [h : UpW w w1] : UpW (w.alloc o') w1 := ⟨fun g o x => blk_alloc (h.up g o x) o'⟩
theorem bu {w1 w2 : World} {g : Nat} {o : Obj} [h : UpW w2 w1] (x : w1.heap[g]? = some o) : w2.heap[g]? = some o := h.up g o x
theorem blkAll3 {w : World} {g : Nat} {t : TypeId} {v0 v1 v2 : Value} (h : Aside0 (w.heap[g]? = some (.cells #[v0, v1, v2] t (0, 0)))) : (w.cell? ⟨g, 0, none⟩ = some v0 ∧ w.cell? ⟨g, 1, none⟩ = some v1 ∧ w.cell? ⟨g, 2, none⟩ = some v2) ∧ (w.frozen? ⟨g, 0, none⟩ = false ∧ w.frozen? ⟨g, 1, none⟩ = false ∧ w.frozen? ⟨g, 2, none⟩ = false) := ⟨⟨(blk_cell h.out 0).trans rfl, (blk_cell h.out 1).trans rfl, (blk_cell h.out 2).trans rfl⟩, ⟨blk_frozen h.out 0, blk_frozen h.out 1, blk_frozen h.out 2⟩⟩
theorem blkAll5 {w : World} {g : Nat} {t : TypeId} {v0 v1 v2 v3 v4 : Value} (h : Aside0 (w.heap[g]? = some (.cells #[v0, v1, v2, v3, v4] t (0, 0)))) : (w.cell? ⟨g, 0, none⟩ = some v0 ∧ w.cell? ⟨g, 1, none⟩ = some v1 ∧ w.cell? ⟨g, 2, none⟩ = some v2 ∧ w.cell? ⟨g, 3, none⟩ = some v3 ∧ w.cell? ⟨g, 4, none⟩ = some v4) ∧ (w.frozen? ⟨g, 0, none⟩ = false ∧ w.frozen? ⟨g, 1, none⟩ = false ∧ w.frozen? ⟨g, 2, none⟩ = false ∧ w.frozen? ⟨g, 3, none⟩ = false ∧ w.frozen? ⟨g, 4, none⟩ = false) := ⟨⟨(blk_cell h.out 0).trans rfl, (blk_cell h.out 1).trans rfl, (blk_cell h.out 2).trans rfl, (blk_cell h.out 3).trans rfl, (blk_cell h.out 4).trans rfl⟩, ⟨blk_frozen h.out 0, blk_frozen h.out 1, blk_frozen h.out 2, blk_frozen h.out 3, blk_frozen h.out 4⟩⟩
end Go.Proofs.YtdkejcadoepnnaaDoorW.PrintWords
