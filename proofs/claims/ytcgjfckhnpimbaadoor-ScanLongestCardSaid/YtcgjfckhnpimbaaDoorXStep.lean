/-
  The contract of abacusref08.step (a table of nine rows of five states, read by a byte's sort), in the shape of the printed ones. Condition: the state lies from 0 to 8 (else Go panics).
-/
import Derived.Test.YtcgjfckhnpimbaaDoorX
import Derived.Deep.QuietTactic
import Derived.BigQuiet
import Derived.WalkKit
import Derived.Deep.WholeRow
set_option linter.unusedVariables false
namespace Go.Proofs.YtcgjfckhnpimbaaDoor.X
open Go.RowKit Go.Proofs.YtcgjfckhnpimbaaDoorW.PrintWords

/-- Which kind of byte: 0 a digit, 1 a sign, 2 a point, 3 e or E, 4 another. -/
def sortOf (c : Int) : Nat := if 48 ≤ c ∧ c ≤ 57 then 0 else if c = 43 ∨ c = 45 then 1 else if c = 46 then 2 else if c = 101 ∨ c = 69 then 3 else 4
theorem sortOf_lt (c : Int) : sortOf c < 5 := by
  unfold sortOf
  repeat' split
  all_goals decide
theorem ret_i64 {a b : Int} (h : a = b) : Ending.returned (.int .i64 a) = .returned (.int .i64 b) := by rw [h]
theorem eqs (c d : Int) (h : ¬ c = d) : (c == d) = false := beq_eq_false_iff_ne.mpr h
theorem eqs' (c d : Int) (h : c = d) : (c == d) = true := beq_iff_eq.mpr h
set_option maxHeartbeats 1000000 in
theorem sort_any (c : Int) (w : World) : Calls Tryd.prog 64 #[.int .u8 c] w fun e w' => e = .returned (.int .i64 ((sortOf c : Nat) : Int)) ∧ w = w' := by
  by_cases h0 : 48 ≤ c ∧ c ≤ 57
  · have hv : sortOf c = 0 := by unfold sortOf; rw [if_pos h0]
    rw [hv]
    obtain ⟨ha, hb⟩ := h0
    have g0 : decide (48 ≤ c) = true := decide_eq_true ha
    have g1 : decide (c ≤ 57) = true := decide_eq_true hb
    clear hv ha hb
    go_enter Tryd.func64, Tryd.ntmps64
    go_wp2
    go_ret
    exact ⟨rfl, rfl⟩
  · have h0' : decide (48 ≤ c) = false ∨ (decide (48 ≤ c) = true ∧ decide (c ≤ 57) = false) := by
      by_cases a : 48 ≤ c
      · exact .inr ⟨decide_eq_true a, decide_eq_false (by omega)⟩
      · exact .inl (decide_eq_false a)
    by_cases h2 : c = 43
    · have hv : sortOf c = 1 := by unfold sortOf; rw [if_neg h0, if_pos (.inl h2)]
      rw [hv]
      have g2 := eqs' _ _ h2
      clear hv h2 h0
      rcases h0' with h0' | ⟨h0', h1'⟩
      all_goals
        go_enter Tryd.func64, Tryd.ntmps64
        go_wp2
        go_ret
        exact ⟨rfl, rfl⟩
    · have g2 := eqs _ _ h2
      by_cases h3 : c = 45
      · have hv : sortOf c = 1 := by unfold sortOf; rw [if_neg h0, if_pos (.inr h3)]
        rw [hv]
        have g3 := eqs' _ _ h3
        clear hv h2 h3 h0
        rcases h0' with h0' | ⟨h0', h1'⟩
        all_goals
          go_enter Tryd.func64, Tryd.ntmps64
          go_wp2
          go_ret
          exact ⟨rfl, rfl⟩
      · have g3 := eqs _ _ h3
        have n1 : ¬ (c = 43 ∨ c = 45) := fun h => h.elim h2 h3
        by_cases h4 : c = 46
        · have hv : sortOf c = 2 := by unfold sortOf; rw [if_neg h0, if_neg n1, if_pos h4]
          rw [hv]
          have g4 := eqs' _ _ h4
          clear hv h2 h3 h4 h0 n1
          rcases h0' with h0' | ⟨h0', h1'⟩
          all_goals
            go_enter Tryd.func64, Tryd.ntmps64
            go_wp2
            go_ret
            exact ⟨rfl, rfl⟩
        · have g4 := eqs _ _ h4
          by_cases h5 : c = 101
          · have hv : sortOf c = 3 := by unfold sortOf; rw [if_neg h0, if_neg n1, if_neg h4, if_pos (.inl h5)]
            rw [hv]
            have g5 := eqs' _ _ h5
            clear hv h2 h3 h4 h5 h0 n1
            rcases h0' with h0' | ⟨h0', h1'⟩
            all_goals
              go_enter Tryd.func64, Tryd.ntmps64
              go_wp2
              go_ret
              exact ⟨rfl, rfl⟩
          · have g5 := eqs _ _ h5
            by_cases h6 : c = 69
            · have hv : sortOf c = 3 := by unfold sortOf; rw [if_neg h0, if_neg n1, if_neg h4, if_pos (.inr h6)]
              rw [hv]
              have g6 := eqs' _ _ h6
              clear hv h2 h3 h4 h5 h6 h0 n1
              rcases h0' with h0' | ⟨h0', h1'⟩
              all_goals
                go_enter Tryd.func64, Tryd.ntmps64
                go_wp2
                go_ret
                exact ⟨rfl, rfl⟩
            · have hv : sortOf c = 4 := by unfold sortOf; rw [if_neg h0, if_neg n1, if_neg h4, if_neg (fun h => h.elim h5 h6)]
              rw [hv]
              have g6 := eqs _ _ h6
              clear hv h2 h3 h4 h5 h6 h0 n1
              rcases h0' with h0' | ⟨h0', h1'⟩
              all_goals
                go_enter Tryd.func64, Tryd.ntmps64
                go_wp2
                go_ret
                exact ⟨rfl, rfl⟩

def stepTab : List Int := [2, 1, 4, 9, 9, 2, 9, 4, 9, 9, 2, 9, 3, 6, 9, 5, 9, 9, 6, 9, 5, 9, 9, 9, 9, 5, 9, 9, 6, 9, 8, 7, 9, 9, 9, 8, 9, 9, 9, 9, 8, 9, 9, 9, 9]
def stepCells : Array Value := #[Value.int IntKind.i64 2, Value.int IntKind.i64 1, Value.int IntKind.i64 4, Value.int IntKind.i64 9, Value.int IntKind.i64 9, Value.int IntKind.i64 2, Value.int IntKind.i64 9, Value.int IntKind.i64 4, Value.int IntKind.i64 9, Value.int IntKind.i64 9, Value.int IntKind.i64 2, Value.int IntKind.i64 9, Value.int IntKind.i64 3, Value.int IntKind.i64 6, Value.int IntKind.i64 9, Value.int IntKind.i64 5, Value.int IntKind.i64 9, Value.int IntKind.i64 9, Value.int IntKind.i64 6, Value.int IntKind.i64 9, Value.int IntKind.i64 5, Value.int IntKind.i64 9, Value.int IntKind.i64 9, Value.int IntKind.i64 9, Value.int IntKind.i64 9, Value.int IntKind.i64 5, Value.int IntKind.i64 9, Value.int IntKind.i64 9, Value.int IntKind.i64 6, Value.int IntKind.i64 9, Value.int IntKind.i64 8, Value.int IntKind.i64 7, Value.int IntKind.i64 9, Value.int IntKind.i64 9, Value.int IntKind.i64 9, Value.int IntKind.i64 8, Value.int IntKind.i64 9, Value.int IntKind.i64 9, Value.int IntKind.i64 9, Value.int IntKind.i64 9, Value.int IntKind.i64 8, Value.int IntKind.i64 9, Value.int IntKind.i64 9, Value.int IntKind.i64 9, Value.int IntKind.i64 9]
def stepAt (s v : Nat) : Int := stepTab.getD (s * 5 + v) 0
def xStep.f (s c : Int) : Option Int := if 0 ≤ s ∧ s ≤ 8 then some (stepAt s.toNat (sortOf c)) else none
theorem stepCells_at : ∀ i, i < 45 → stepCells[i]? = some (.int .i64 (stepTab.getD i 0)) := by
  intro i hi
  unfold stepCells stepTab
  repeat (rcases i with _ | i; · rfl)
  all_goals omega
theorem step_cell (w : World) (s v : Nat) (hs : s < 9) (hv : v < 5) : (w.alloc (.cells stepCells 84)).cell? ⟨w.heap.size, s * 5 + v, none⟩ = some (.int .i64 (stepAt s v)) := by
  have h := stepCells_at (s * 5 + v) (by omega)
  unfold stepAt
  rw [World.cell?_alloc_new]
  exact h
set_option maxHeartbeats 2000000 in
set_option maxRecDepth 100000 in
theorem step_at (s : Nat) (hs : s < 9) (v : Nat) (hv : v < 5) (c : Int) (HC : Aside0 (∀ w, Calls Tryd.prog 64 #[.int .u8 c] w fun e w' => e = .returned (.int .i64 (v : Int)) ∧ w = w')) (w : World) :
    Calls Tryd.prog 62 #[.int .i64 s, .int .u8 c] w fun e w' => e = .returned (.int .i64 (stepAt s v)) ∧ Below w.heap.size w w' := by
  have HT := Aside0.mk (step_cell w s v hs hv)
  have HB := Aside0.mk ((Below.refl w.heap.size w).alloc (Nat.le_refl _) (.cells stepCells 84))
  obtain ⟨sv, hsv⟩ : ∃ sv, sv = stepAt s v := ⟨_, rfl⟩
  rw [← hsv] at HT ⊢
  clear hsv
  go_enter Tryd.func62, Tryd.ntmps62
  go_wp2_with (first | ((with_reducible refine wpList_store_row rfl 84 (.tmp 5) (.tmp 15) rfl w.heap.size stepCells rfl ?hy 84 _ (heap_alloc_last _ _) (by kernel_rfl) (by kernel_rfl) (by kernel_rfl) ?_); (case hy => rfl); rw [World.setRow_alloc_new]))
  revert HT HB
  generalize w.alloc (.cells stepCells 84) = w1
  intro HB HT
  have hT := HT.out
  clear HT
  have h5 : ((s : Int) : Int) < 9 := by omega
  have h6 : (v : Int) < 5 := by omega
  go_quiet ((go_at_call 64; exact Calls.quiet_of_same ((HC.out _).mono fun e w' ⟨a, b⟩ => ⟨a, b.symm⟩)))
  go_wp2
  go_ret
  exact ⟨rfl, pw_below_drewN HB.out _⟩
theorem xStep.calls (a0 a1 : Int) (r : Int) (w : World) (h : xStep.f a0 a1 = some r) :
    Calls Tryd.prog 62 #[.int .i64 a0, .int .u8 a1] w fun e w' => e = .returned (.int .i64 r) ∧ Below w.heap.size w w' := by
  unfold xStep.f at h
  split at h
  · rename_i hs
    obtain rfl := Option.some.inj h
    have := step_at a0.toNat (by omega) (sortOf a1) (sortOf_lt a1) a1 ⟨sort_any a1⟩ w
    rwa [Int.toNat_of_nonneg hs.1] at this
  · cases h
end Go.Proofs.YtcgjfckhnpimbaaDoor.X
