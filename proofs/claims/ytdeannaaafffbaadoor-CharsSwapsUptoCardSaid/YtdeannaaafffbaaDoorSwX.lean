/-
  Contracts of library functions that the chars statements call, in the shape of the printed ones: out of the shelf's contracts. What a call of strings.Index asks of the world: the variable internal/bytealg.MaxLen holds some number.
-/
import Derived.Test.YtdeannaaafffbaaDoorSwShelf
import Derived.Test.YtdeannaaafffbaaDoorSwWWords
set_option linter.unusedVariables false
namespace Go.Proofs.YtdeannaaafffbaaDoor.X
open Go.RowKit Go.Proofs.YtdeannaaafffbaaDoorW.PrintWords
def GW (w : World) : Prop := ∃ m, w.cell? ⟨0, 0, none⟩ = some (.int .i64 m)
theorem GW.below {w w' : World} (h : GW w) (hb : Below w.heap.size w w') : GW w' := by
  obtain ⟨m, hm⟩ := h
  refine ⟨m, ?_⟩
  have hlt : 0 < w.heap.size := by
    rcases Nat.eq_zero_or_pos w.heap.size with h0 | h0
    · have : w.heap[0]? = none := by simp [h0]
      simp [World.cell?, this] at hm
    · exact h0
  rw [World.cell?_of_block (hb.block 0 hlt)]
  exact hm
def xIndex.f (a0 a1 : ByteArray) : Option Int := if a0.size < 4294967281 then some (Lib.index a0.data.toList a1.data.toList) else none
theorem xIndex.calls (a0 a1 : ByteArray) (r : Int) (w : World) (hG : GW w) (h : xIndex.f a0 a1 = some r) :
    Calls Tryd.prog 32 #[.string a0, .string a1] w fun e w' => e = .returned (.int .i64 r) ∧ Below w.heap.size w w' := by
  unfold xIndex.f at h
  split at h
  · rename_i hs
    obtain rfl := Option.some.inj h
    obtain ⟨m, hm⟩ := hG
    exact (Tryd.strings_Index a0 a1 m w hs hm).mono fun e w' ⟨h1, h2⟩ => ⟨h1, by subst h2; exact Below.refl _ _⟩
  · cases h
def xCount.f (a0 a1 : ByteArray) : Option Int := if a0.size < 4294967281 ∧ 1 ≤ a1.size then some (Lib.countB a0 a1) else none
theorem xCount.calls (a0 a1 : ByteArray) (r : Int) (w : World) (hG : GW w) (h : xCount.f a0 a1 = some r) :
    Calls Tryd.prog 52 #[.string a0, .string a1] w fun e w' => e = .returned (.int .i64 r) ∧ Below w.heap.size w w' := by
  unfold xCount.f at h
  split at h
  · rename_i hs
    obtain rfl := Option.some.inj h
    obtain ⟨m, hm⟩ := hG
    exact (Tryd.strings_Count_any a0 a1 m w hs.1 hm hs.2).mono fun e w' ⟨h1, h2⟩ => ⟨h1, by subst h2; exact Below.refl _ _⟩
  · cases h
end Go.Proofs.YtdeannaaafffbaaDoor.X
