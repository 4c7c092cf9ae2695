/-
  Plain laws, the ground: what a function of the printed kind answers from some depth on (Ans).
-/
import Derived.WalkKit
import Derived.ProofKit
set_option linter.unusedSimpArgs false
set_option linter.unusedVariables false
namespace Go.Proofs.YtdeannaaafffbaaDoor.Pl
open Go.RowKit
def Ans {α : Type} (g : Nat → Option α) (r : α) : Prop := ∃ n, ∀ k, n ≤ k → g k = some r
theorem Ans.of {α : Type} {g : Nat → Option α} {r : α} (h : ∀ k, g k = some r) : Ans g r := ⟨0, fun k _ => h k⟩
theorem Ans.ret {α : Type} (r : α) : Ans (fun _ => some r) r := ⟨0, fun _ _ => rfl⟩
theorem Ans.bind {α β : Type} {g : Nat → Option α} {h : Nat → α → Option β} {a : α} {r : β} (hg : Ans g a) (hh : Ans (fun k => h k a) r) : Ans (fun k => (g k).bind (h k)) r := by
  obtain ⟨n, hn⟩ := hg
  obtain ⟨m, hm⟩ := hh
  refine ⟨max n m, fun k hk => ?_⟩
  show (g k).bind (h k) = some r
  rw [hn k (by omega), Option.bind_some]
  exact hm k (by omega)
theorem Ans.succ {α : Type} {g : Nat → Option α} {r : α} (h : Ans (fun k => g (k + 1)) r) : Ans g r := by
  obtain ⟨n, hn⟩ := h
  refine ⟨n + 1, fun k hk => ?_⟩
  obtain ⟨m, rfl⟩ : ∃ m, k = m + 1 := ⟨k - 1, by omega⟩
  exact hn m (by omega)
theorem Ans.congr {α : Type} {g g' : Nat → Option α} {r : α} (h : Ans g' r) (e : ∀ k, g k = g' k) : Ans g r := by
  obtain ⟨n, hn⟩ := h
  exact ⟨n, fun k hk => (e k).trans (hn k hk)⟩
theorem Ans.some {α : Type} {g : Nat → Option α} {r : α} (h : Ans g r) : ∃ k, g k = Option.some r := by
  obtain ⟨n, hn⟩ := h
  exact ⟨n, hn n (Nat.le_refl _)⟩
theorem wrap_id {x : Int} (h : -9223372036854775808 ≤ x) (h' : x ≤ 9223372036854775807) : wrap64 x = x := by
  unfold wrap64
  omega
theorem left_ind {n : Int} {P : Int → Prop} (step : ∀ i, i ≤ n → (∀ j, i < j → j ≤ n → P j) → P i) : ∀ i, i ≤ n → P i := by
  intro i hi
  generalize hd : (n - i).toNat = d
  induction d using Nat.strongRecOn generalizing i with
  | _ d ih => exact step i hi fun j hj hjn => ih (n - j).toNat (by omega) j hjn rfl
end Go.Proofs.YtdeannaaafffbaaDoor.Pl
