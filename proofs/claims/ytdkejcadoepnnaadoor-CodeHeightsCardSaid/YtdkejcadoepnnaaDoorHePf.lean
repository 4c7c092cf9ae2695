/-
  Plain laws of the code statements: what a good answer of Heights tells of the heights; CodeRuns. Conditions: none but int64 numbers.
-/
import Derived.Test.YtdkejcadoepnnaaDoorHePe
import Derived.Test.YtdkejcadoepnnaaDoorHeECcx17
set_option linter.unusedVariables false
set_option linter.unusedSimpArgs false
namespace Go.Proofs.YtdkejcadoepnnaaDoor.Pl
open Go.RowKit Go.Proofs.YtdkejcadoepnnaaDoorW.PrintWords Go.Proofs.YtdkejcadoepnnaaDoor.ECc Go.Proofs.YtdkejcadoepnnaaDoor.X
theorem put_spec {hs hs' : List Int} {tz h : Int} (t0 : 0 ≤ tz) (t1 : tz < hs.length) (e : put1 hs tz h = some hs') : rd hs' tz = h ∧ (∀ j, 0 ≤ j → j ≠ tz → rd hs' j = rd hs j) ∧ (0 ≤ rd hs tz → rd hs tz = h) := by
  unfold put1 at e
  split at e
  · cases e
  · rename_i c
    obtain rfl := Option.some.inj e
    refine ⟨by rw [rd_set t0 t1 t0, if_pos rfl], fun j h0 h1 => by rw [rd_set t0 t1 h0, if_neg h1], fun h0 => ?_⟩
    by_cases d : rd hs tz = h
    · exact d
    · exact absurd ⟨h0, d⟩ c
theorem step_spec {x : S41} {i n p q : Int} {hs hs' : List Int} (hr : rgI x i n p q = true) (h0 : 0 ≤ i) (hi : i < n) (hl : (hs.length : Int) = n + 1) (e : stepH x i hs = some hs') :
    (0 ≤ rd hs i → tkI x ≤ rd hs i ∧ nxH x (rd hs i) ≤ 32768 ∧ rd hs' (w1 x i) = nxH x (rd hs i) ∧ rd hs' (w2 x i) = nxH x (rd hs i)) ∧
    (∀ j, 0 ≤ j → 0 ≤ rd hs j → rd hs' j = rd hs j) ∧ (∀ j, 0 ≤ j → j ≤ i → rd hs' j = rd hs j) ∧
    (∀ j, 0 ≤ j → 0 ≤ rd hs' j → 0 ≤ rd hs j ∨ (0 ≤ rd hs i ∧ (j = w1 x i ∨ j = w2 x i))) := by
  obtain ⟨⟨a0, a1⟩, b0, b1⟩ := ways_in hr hi
  unfold stepH at e
  by_cases c : rd hs i < 0
  · rw [if_pos c] at e
    obtain rfl := Option.some.inj e
    exact ⟨fun h => by omega, fun _ _ _ => rfl, fun _ _ _ => rfl, fun _ _ h => .inl h⟩
  · rw [if_neg c] at e
    by_cases d : rd hs i < tkI x ∨ nxH x (rd hs i) > 32768
    · rw [if_pos d] at e
      cases e
    · rw [if_neg d] at e
      obtain ⟨hs1, e1, e2⟩ := Option.bind_eq_some_iff.mp e
      obtain ⟨p1, p2, p3⟩ := put_spec (by omega) (by omega) e1
      have l1 := put_len e1
      obtain ⟨q1, q2, q3⟩ := put_spec (by omega) (by omega) e2
      have f1 : rd hs' (w1 x i) = nxH x (rd hs i) := by
        by_cases h : w1 x i = w2 x i
        · rw [h]; exact q1
        · rw [q2 _ (by omega) h]; exact p1
      refine ⟨fun _ => ⟨by omega, by omega, f1, q1⟩, fun j h0 hj => ?_, fun j h0 hj => ?_, fun j h0 hj => ?_⟩
      · by_cases h1 : j = w1 x i
        · subst h1
          rw [f1, p3 hj]
        · by_cases h2 : j = w2 x i
          · have h3 : rd hs1 j = rd hs j := p2 j h0 h1
            subst h2
            rw [q1, ← h3]
            exact (q3 (by rw [h3]; exact hj)).symm
          · rw [q2 j h0 h2, p2 j h0 h1]
      · rw [q2 j h0 (by omega), p2 j h0 (by omega)]
      · by_cases h1 : j = w1 x i
        · exact .inr ⟨by omega, .inl h1⟩
        · by_cases h2 : j = w2 x i
          · exact .inr ⟨by omega, .inr h2⟩
          · rw [q2 j h0 h2, p2 j h0 h1] at hj
            exact .inl hj
theorem run_good (n p q : Int) (ops : List S41) (hn : (ops.length : Int) = n) : ∀ (r pre : List S41) (hs fs : List Int), ops = pre ++ r → Rt n p q r pre.length → (hs.length : Int) = n + 1 → Hb hs → runH n r pre.length hs = (fs, 0, 0) →
    (fs.length : Int) = n + 1 ∧ Hb fs ∧ rd fs n = 1 ∧ (∀ j, 0 ≤ j → 0 ≤ rd hs j → rd fs j = rd hs j) ∧ (∀ j : Int, 0 ≤ j → j ≤ pre.length → rd fs j = rd hs j) ∧
    (∀ i : Int, pre.length ≤ i → i < n → 0 ≤ rd fs i → tkI (rd_T41 ops i) ≤ rd fs i ∧ nxH (rd_T41 ops i) (rd fs i) ≤ 32768 ∧ rd fs (w1 (rd_T41 ops i) i) = nxH (rd_T41 ops i) (rd fs i) ∧ rd fs (w2 (rd_T41 ops i) i) = nxH (rd_T41 ops i) (rd fs i)) ∧
    (∀ j, 0 ≤ j → 0 ≤ rd fs j → 0 ≤ rd hs j ∨ ∃ i : Int, pre.length ≤ i ∧ i < n ∧ 0 ≤ rd fs i ∧ (j = w1 (rd_T41 ops i) i ∨ j = w2 (rd_T41 ops i) i))
  | [], pre, hs, fs, e, hr, hl, hb, h => by
    have hp : (pre.length : Int) = n := by rw [← hn, e]; simp
    unfold runH at h
    split at h
    · rename_i c
      cases h
      exact ⟨hl, hb, c, fun _ _ _ => rfl, fun _ _ _ => rfl, fun i h1 h2 => by omega, fun _ _ h => .inl h⟩
    · have h9 : (260 : Int) = 0 := congrArg (fun t : List Int × Int × Int => t.2.2) h
      omega
  | x :: r, pre, hs, fs, e, hr, hl, hb, h => by
    have hp : (pre.length : Int) + 1 + r.length = n := by rw [← hn, e]; simp; omega
    have hx : rd_T41 ops (pre.length : Int) = x := by rw [e]; exact rd41_at
    unfold runH at h
    cases e1 : stepH x (pre.length : Int) hs with
    | none =>
      rw [e1] at h
      have h9 : (260 : Int) = 0 := congrArg (fun t : List Int × Int × Int => t.2.2) h
      omega
    | some hs' =>
      rw [e1] at h
      obtain ⟨sl, sb⟩ := step_b hr.1 (by omega) (by omega) hl hb e1
      obtain ⟨s1, s2, s3, s4⟩ := step_spec hr.1 (by omega) (by omega) hl e1
      have h' : runH n r ((pre ++ [x]).length : Int) hs' = (fs, 0, 0) := by rw [List.length_append]; exact h
      have hr' : Rt n p q r ((pre ++ [x]).length : Int) := by rw [List.length_append]; exact hr.2
      obtain ⟨g1, g2, g3, g4, g5, g6, g7⟩ := run_good n p q ops hn r (pre ++ [x]) hs' fs (by rw [e]; simp) hr' (by omega) sb h'
      have hpl : ((pre ++ [x]).length : Int) = (pre.length : Int) + 1 := by rw [List.length_append]; rfl
      rw [hpl] at g5 g6 g7
      obtain ⟨⟨a0, a1⟩, b0, b1⟩ := ways_in hr.1 (by omega : (pre.length : Int) < n)
      have hat : rd fs (pre.length : Int) = rd hs (pre.length : Int) := by rw [g5 _ (by omega) (by omega), s3 _ (by omega) (by omega)]
      refine ⟨g1, g2, g3, fun j h0 hj => ?_, fun j h0 hj => ?_, fun i h0 h1 hi => ?_, fun j h0 hj => ?_⟩
      · rw [g4 j h0 (by rw [s2 j h0 hj]; exact hj), s2 j h0 hj]
      · rw [g5 j h0 (by omega), s3 j h0 hj]
      · by_cases hi2 : i = (pre.length : Int)
        · subst hi2
          rw [hat] at hi ⊢
          obtain ⟨c1, c2, c3, c4⟩ := s1 hi
          have tk := tk_range (jump_in hr.1).1
          have pt := pt_range (jump_in hr.1).1
          have n0 : 0 ≤ nxH x (rd hs (pre.length : Int)) := by unfold nxH; omega
          rw [hx]
          refine ⟨c1, c2, ?_, ?_⟩
          · rw [g4 _ (by omega) (by rw [c3]; exact n0), c3]
          · rw [g4 _ (by omega) (by rw [c4]; exact n0), c4]
        · exact g6 i (by omega) h1 hi
      · rcases g7 j h0 hj with c | ⟨i, c1, c2, c3, c4⟩
        · rcases s4 j h0 c with c | ⟨c1, c2⟩
          · exact .inl c
          · exact .inr ⟨_, Int.le_refl _, by omega, by rw [hat]; exact c1, by rw [hx]; exact c2⟩
        · exact .inr ⟨i, by omega, c2, c3, c4⟩
/-- What a good answer of Heights tells. -/
structure Good (ops : List S41) (p q : Int) (fs : List Int) : Prop where
  short : ops.length ≤ 131072
  right : ∀ i : Int, 0 ≤ i → i < ops.length → rgI (rd_T41 ops i) i ops.length p q = true
  len : (fs.length : Int) = ops.length + 1
  range : Hb fs
  first : rd fs 0 = 0
  last : rd fs ops.length = 1
  on : ∀ i : Int, 0 ≤ i → i < ops.length → 0 ≤ rd fs i → tkI (rd_T41 ops i) ≤ rd fs i ∧ nxH (rd_T41 ops i) (rd fs i) ≤ 32768 ∧ rd fs (w1 (rd_T41 ops i) i) = nxH (rd_T41 ops i) (rd fs i) ∧ rd fs (w2 (rd_T41 ops i) i) = nxH (rd_T41 ops i) (rd fs i)
  met : ∀ j : Int, 0 ≤ j → j ≤ ops.length → 0 ≤ rd fs j → j = 0 ∨ ∃ i : Int, 0 ≤ i ∧ i < ops.length ∧ 0 ≤ rd fs i ∧ (j = w1 (rd_T41 ops i) i ∨ j = w2 (rd_T41 ops i) i)
theorem rt_at {n p q : Int} (ops : List S41) : ∀ (r pre : List S41), ops = pre ++ r → Rt n p q r pre.length → ∀ i : Int, pre.length ≤ i → i < ops.length → rgI (rd_T41 ops i) i n p q = true
  | [], pre, e, h, i, h0, h1 => by
    have : pre.length = ops.length := by rw [e]; simp
    omega
  | x :: r, pre, e, h, i, h0, h1 => by
    by_cases c : i = (pre.length : Int)
    · subst c
      rw [show rd_T41 ops (pre.length : Int) = x by rw [e]; exact rd41_at]
      exact h.1
    · exact rt_at ops r (pre ++ [x]) (by rw [e]; simp) (by rw [List.length_append]; exact h.2) i (by rw [List.length_append]; show ((pre.length + 1 : Nat) : Int) ≤ i; omega) h1
theorem run_err (n : Int) : ∀ (r : List S41) (i : Int) (hs : List Int), (runH n r i hs).2.2 = 0 → runH n r i hs = ((runH n r i hs).1, 0, 0)
  | [], i, hs, h => by
    unfold runH at h ⊢
    split
    · rfl
    · rename_i c
      rw [if_neg c] at h
      cases h
  | x :: r, i, hs, h => by
    unfold runH at h ⊢
    cases e : stepH x i hs with
    | none => rw [e] at h; cases h
    | some hs' =>
      rw [e] at h
      exact run_err n r (i + 1) hs' h
theorem good_of {ops : List S41} {p q : Int} (h : (heightsV ops p q).2.2 = 0) : Good ops p q (heightsV ops p q).1 ∧ heightsV ops p q = ((heightsV ops p q).1, 0, 0) := by
  obtain ⟨hn, hr, e⟩ := hv_ok h
  have h' := h
  rw [e] at h'
  have e2 := run_err ops.length ops 0 (hs0 ops.length) h'
  obtain ⟨g1, g2, g3, g4, g5, g6, g7⟩ := run_good ops.length p q ops rfl ops [] (hs0 ops.length) _ rfl hr (by rw [hs0_len]; rfl) (hs0_b _) e2
  rw [e]
  refine ⟨⟨hn, fun i h0 h1 => rt_at ops ops [] rfl hr i h0 h1, g1, g2, ?_, g3, fun i h0 h1 hi => g6 i h0 h1 hi, fun j h0 h1 hj => ?_⟩, e2⟩
  · rw [g5 0 (by omega) (by omega), hs0_at _ 0 (by omega)]; rfl
  · rcases g7 j h0 hj with c | c
    · left
      rw [hs0_at _ j h0] at c
      by_cases d : j = 0
      · exact d
      · rw [if_neg d, if_pos h1] at c
        omega
    · exact .inr c
theorem most_ge : ∀ (l : List Int) (m : Int), m ≤ mostL m l ∧ ∀ h ∈ l, h ≤ mostL m l
  | [], m => ⟨Int.le_refl _, fun h hh => by simp at hh⟩
  | x :: l, m => by
    obtain ⟨h1, h2⟩ := most_ge l (mx m x)
    have h3 : m ≤ mx m x ∧ x ≤ mx m x := by unfold mx; split <;> omega
    refine ⟨by unfold mostL; omega, fun h hh => ?_⟩
    unfold mostL
    rcases List.mem_cons.1 hh with rfl | hh
    · omega
    · exact h2 h hh
theorem most_rd {fs : List Int} {j : Int} (h0 : 0 ≤ j) (h1 : j < fs.length) (m : Int) : rd fs j ≤ mostL m fs := (most_ge fs m).2 _ (rd_mem h0 h1)
theorem eff_ans (x : S41) : Ans (fun k => code_Effect.f k x.f0 x.f1 x.f2) (efI x) := ⟨2, fun k hk => by
  obtain ⟨m, rfl⟩ := Nat.exists_eq_add_of_le hk
  show code_Effect.f (2 + m) x.f0 x.f1 x.f2 = _
  rw [Nat.add_comm]
  exact effect_eq m x⟩
def farI (x : S41) : Bool := decide (x.f0 = 27 ∨ x.f0 = 28 ∨ x.f0 = 29)
def nearI (x : S41) : Bool := decide (x.f0 ≠ 27)
theorem jumps_eq (x : S41) : abacuslaw26_jumps.f x.f0 = some (farI x, nearI x) := by
  unfold abacuslaw26_jumps.f farI nearI
  by_cases a : x.f0 = 27
  · simp [a]
  · by_cases b : x.f0 = 29
    · simp [b]
    · by_cases c : x.f0 = 28
      · simp [c]
      · simp [a, b, c]
end Go.Proofs.YtdkejcadoepnnaaDoor.Pl
