/-
  Contracts of library functions that the chars statements call, in the shape of the printed ones: out of the shelf's contracts. What a call of strings.Index asks of the world: the variable internal/bytealg.MaxLen holds some number.
-/
import Derived.Test.YtdeannaaafffbaaDoorKeShelf
import Derived.Test.YtdeannaaafffbaaDoorKeWWords
set_option linter.unusedSimpArgs false
set_option linter.unusedVariables false
namespace Go.Proofs.YtdeannaaafffbaaDoor.X
open Go.RowKit Go.Proofs.YtdeannaaafffbaaDoorW.PrintWords
def GW (w : World) : Prop := ∃ m, w.cell? ⟨0, 0, none⟩ = some (.int .i64 m)
theorem GW.below {w w' : World} (h : GW w) (hb : Below w.heap.size w w') : GW w' := by
  obtain ⟨m, hm⟩ := h
  refine ⟨m, ?_⟩
  have hlt : 0 < w.heap.size := by
    rcases Nat.eq_zero_or_pos w.heap.size with h0 | h0
    · have : w.heap[0]? = none := by simp [h0]
      simp [World.cell?, this] at hm
    · exact h0
  rw [World.cell?_of_block (hb.block 0 hlt)]
  exact hm
end Go.Proofs.YtdeannaaafffbaaDoor.X
