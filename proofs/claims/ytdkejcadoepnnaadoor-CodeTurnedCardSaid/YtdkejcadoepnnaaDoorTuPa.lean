/-
  Plain laws of the code statements: what an instruction is (known, its effect, right at a place), told as plain functions. Conditions: none.
-/
import Derived.Test.YtdkejcadoepnnaaDoorTuPBase
import Derived.Test.YtdkejcadoepnnaaDoorTuECcx8
import Derived.Test.YtdkejcadoepnnaaDoorTuECcx9
set_option linter.unusedVariables false
set_option linter.unusedSimpArgs false
namespace Go.Proofs.YtdkejcadoepnnaaDoor.Pl
open Go.RowKit Go.Proofs.YtdkejcadoepnnaaDoorW.PrintWords Go.Proofs.YtdkejcadoepnnaaDoor.ECc Go.Proofs.YtdkejcadoepnnaaDoor.X
/-- The least and the greatest number of a function's arguments. -/
def arR (x : Int) : Int × Int := if x = 1 ∨ x = 6 ∨ x = 7 ∨ x = 8 ∨ x = 9 then (1, 1) else if x = 2 then (2, 3) else if x = 3 then (2, 2) else if x = 4 ∨ x = 12 then (1, 32768) else (1, 0)
theorem arity_eq (k : Nat) (x : Int) : code_arity.f (k + 1) x = some (arR x) := by
  by_cases h1 : x = 1; · subst h1; rfl
  by_cases h6 : x = 6; · subst h6; rfl
  by_cases h7 : x = 7; · subst h7; rfl
  by_cases h8 : x = 8; · subst h8; rfl
  by_cases h9 : x = 9; · subst h9; rfl
  by_cases h2 : x = 2; · subst h2; rfl
  by_cases h3 : x = 3; · subst h3; rfl
  by_cases h4 : x = 4; · subst h4; rfl
  by_cases h12 : x = 12; · subst h12; rfl
  simp [code_arity.f, code_arity.j0, arR, h1, h6, h7, h8, h9, h2, h3, h4, h12]
def opR (kind x fn : Int) : Bool :=
  if kind = 0 then x == 0 else if kind = 1 ∨ kind = 2 then decide (0 ≤ x) else if kind = 3 then decide (0 ≤ x ∧ x ≤ 255)
  else if kind = 4 then decide (0 ≤ x ∧ x ≤ 63) else if kind = 5 then decide (1 ≤ x ∧ x ≤ 6) else if kind = 6 then decide (1 ≤ x ∧ x ≤ 4)
  else if kind = 7 then decide (x = 10 ∨ x = 11) else if kind = 8 then decide (1 ≤ x ∧ x ≤ 6) else if kind = 9 then decide (1 ≤ x)
  else if kind = 10 then decide (1 ≤ x ∧ x ≤ 32768) else if kind = 11 then decide ((arR x).1 ≤ (arR x).2)
  else if kind = 12 then decide ((arR fn).1 ≤ x ∧ x ≤ (arR fn).2) else false
theorem within_eq (x a b : Int) : code_within.f x a b = some (decide (a ≤ x ∧ x ≤ b)) := by
  unfold code_within.f
  by_cases h : a ≤ x
  · rw [if_pos h]; simp [h]
  · rw [if_neg h]; simp [h]
theorem operand_eq (k : Nat) (a x fn : Int) : code_operand.f (k + 2) a x fn = some (opR a x fn) := by
  by_cases h0 : a = 0; · subst h0; rfl
  by_cases h1 : a = 1; · subst h1; rfl
  by_cases h2 : a = 2; · subst h2; rfl
  have e2 : (a == 2) = false := by simp [h2]
  by_cases h3 : a = 3; · subst h3; simp [code_operand.f, code_operand.j0, opR, within_eq]
  by_cases h4 : a = 4; · subst h4; simp [code_operand.f, code_operand.j0, opR, within_eq]
  by_cases h5 : a = 5; · subst h5; simp [code_operand.f, code_operand.j0, opR, within_eq]
  by_cases h6 : a = 6; · subst h6; simp [code_operand.f, code_operand.j0, opR, within_eq]
  by_cases h7 : a = 7
  · subst h7
    by_cases hx : x = 10
    · subst hx; rfl
    · by_cases hy : x = 11
      · subst hy; rfl
      · simp [code_operand.f, code_operand.j0, opR, hx, hy]
  by_cases h8 : a = 8; · subst h8; simp [code_operand.f, code_operand.j0, opR, within_eq]
  by_cases h9 : a = 9; · subst h9; simp [code_operand.f, code_operand.j0, opR, within_eq]
  by_cases h10 : a = 10; · subst h10; simp [code_operand.f, code_operand.j0, opR, within_eq]
  by_cases h11 : a = 11; · subst h11; simp [code_operand.f, code_operand.j0, opR, within_eq, arity_eq]
  by_cases h12 : a = 12; · subst h12; simp [code_operand.f, code_operand.j0, opR, within_eq, arity_eq]
  simp [code_operand.f, code_operand.j0, opR, h0, h1, h2, h3, h4, h5, h6, h7, h8, h9, h10, h11, h12]
/-- The word's row. -/
def rowL (w : Int) : S72 := rd_T72 tabL w
def okI (x : S41) : Bool := decide (1 ≤ x.f0 ∧ x.f0 ≤ 33) && (opR (rowL x.f0).f1 x.f1 0 && opR (rowL x.f0).f2 x.f2 x.f1)
def tkI (x : S41) : Int := if (rowL x.f0).f3 = -1 then x.f1 else if (rowL x.f0).f3 = -2 then x.f2 else (rowL x.f0).f3
def ptI (x : S41) : Int := (rowL x.f0).f4
theorem known_ok (k : Nat) (a b c : Int) (h : okI ⟨a, b, c⟩ = true) : code_known.f (k + 2) tabL a b c = some ((rowL a).f0, (rowL a).f1, (rowL a).f2, (rowL a).f3, (rowL a).f4, true) := by
  simp only [okI, Bool.and_eq_true, decide_eq_true_eq] at h
  obtain ⟨⟨h1, h2⟩, h3, h4⟩ := h
  have e0 : (0 : Int) ≤ a := by omega
  have e1 : a < (tabL.length : Int) := by rw [tabL_len]; omega
  unfold code_known.f
  simp only [within_eq, Option.bind_some, h1, h2, and_self, decide_true, if_true, e0, e1, operand_eq]
  unfold rowL at h3 h4
  rw [h3]
  simp only [if_true, Option.bind_some, operand_eq, h4]
  rfl
theorem known_no (k : Nat) (a b c : Int) (h : okI ⟨a, b, c⟩ = false) : ∃ p0 p1 p2 p3 p4, code_known.f (k + 2) tabL a b c = some (p0, p1, p2, p3, p4, false) := by
  unfold code_known.f
  simp only [within_eq, Option.bind_some]
  by_cases hw : 1 ≤ a ∧ a ≤ 33
  · have e0 : (0 : Int) ≤ a := by omega
    have e1 : a < (tabL.length : Int) := by rw [tabL_len]; omega
    simp only [hw, and_self, decide_true, if_true, e0, e1, operand_eq, Option.bind_some]
    by_cases h3 : opR (rd_T72 tabL a).f1 b 0 = true
    · rw [if_pos h3]
      have h4 : opR (rd_T72 tabL a).f2 c b = false := by
        simp only [okI, rowL, hw, and_self, decide_true, Bool.true_and, h3] at h
        exact h
      rw [h4]
      exact ⟨_, _, _, _, _, rfl⟩
    · rw [if_neg h3]
      exact ⟨_, _, _, _, _, rfl⟩
  · simp only [hw, decide_false, Bool.false_eq_true, if_false]
    exact ⟨_, _, _, _, _, rfl⟩
theorem rowEff_eq (x : S41) : code_row_effect.f (rowL x.f0).f0 (rowL x.f0).f1 (rowL x.f0).f2 (rowL x.f0).f3 (rowL x.f0).f4 x.f0 x.f1 x.f2 = some (tkI x, ptI x) := by
  unfold code_row_effect.f tkI ptI
  by_cases h1 : (rowL x.f0).f3 = -1
  · rw [if_pos h1, if_pos h1]
  · rw [if_neg h1, if_neg h1]
    by_cases h2 : (rowL x.f0).f3 = -2
    · rw [if_pos h2, if_pos h2]
    · rw [if_neg h2, if_neg h2]
/-- What Effect answers. -/
def efI (x : S41) : Int × Int × Bool := if okI x = true then (tkI x, ptI x, true) else (0, 0, false)
theorem effect_eq (k : Nat) (x : S41) : code_Effect.f (k + 2) x.f0 x.f1 x.f2 = some (efI x) := by
  unfold code_Effect.f efI
  by_cases h : okI x = true
  · rw [known_ok k x.f0 x.f1 x.f2 h, if_pos h]
    simp only [Option.bind_some, if_true, rowEff_eq]
  · obtain ⟨p0, p1, p2, p3, p4, e⟩ := known_no k x.f0 x.f1 x.f2 (by simpa using h)
    rw [e, if_neg h]
    rfl
/-- Right at place i of a code of n instructions, p numbers, q texts. -/
def rgI (x : S41) (i n p q : Int) : Bool := okI x && (if x.f0 = 1 then decide (x.f1 < p) else if x.f0 = 2 then decide (x.f1 < q) else if x.f0 = 27 ∨ x.f0 = 28 ∨ x.f0 = 29 then decide (i < x.f1 ∧ x.f1 ≤ n) else true)
def chkRow (p : S72) (j : Nat) : Bool := ((p.f1 == 1) == (j == 1)) && ((p.f1 == 2) == (j == 2)) && ((p.f1 == 9) == (j == 27 || j == 28 || j == 29)) && (p.f4 == 0 || p.f4 == 1) && ((p.f3 == -1 && p.f1 == 10 && p.f2 == 0) || (p.f3 == -2 && p.f1 == 11 && p.f2 == 12) || (decide (0 ≤ p.f3) && decide (p.f3 ≤ 3)))
def chkAll : List S72 → Nat → Bool
  | [], _ => true
  | p :: l, j => chkRow p j && chkAll l (j + 1)
set_option maxRecDepth 100000 in
theorem chk_all : chkAll tabL 0 = true := by kernel_rfl
theorem chk_at : ∀ (l : List S72) (b j : Nat), chkAll l b = true → j < l.length → chkRow (l.getD j z72) (b + j) = true
  | p :: l, b, 0, h, _ => by
    simp only [chkAll, Bool.and_eq_true] at h
    exact h.1
  | p :: l, b, j + 1, h, hj => by
    simp only [chkAll, Bool.and_eq_true] at h
    have := chk_at l (b + 1) j h.2 (by simpa using hj)
    rw [show b + (j + 1) = b + 1 + j by omega]
    exact this
  | [], b, j, h, hj => by simp at hj
theorem row_facts (j : Nat) (hj : j < 34) : ((((tabL.getD j z72).f1 = 1 ↔ j = 1) ∧ ((tabL.getD j z72).f1 = 2 ↔ j = 2) ∧ ((tabL.getD j z72).f1 = 9 ↔ (j = 27 ∨ j = 28 ∨ j = 29))) ∧ ((tabL.getD j z72).f4 = 0 ∨ (tabL.getD j z72).f4 = 1) ∧ (((tabL.getD j z72).f3 = -1 ∧ (tabL.getD j z72).f1 = 10 ∧ (tabL.getD j z72).f2 = 0) ∨ ((tabL.getD j z72).f3 = -2 ∧ (tabL.getD j z72).f1 = 11 ∧ (tabL.getD j z72).f2 = 12) ∨ (0 ≤ (tabL.getD j z72).f3 ∧ (tabL.getD j z72).f3 ≤ 3))) := by
  have h := chk_at tabL 0 j chk_all (by rw [tabL_len]; exact hj)
  rw [Nat.zero_add] at h
  revert h
  generalize tabL.getD j z72 = p
  intro h
  simp only [chkRow, Bool.and_eq_true, Bool.or_eq_true, beq_iff_eq, decide_eq_true_eq] at h
  obtain ⟨⟨⟨⟨h1, h2⟩, h3⟩, h4⟩, h5⟩ := h
  refine ⟨⟨?_, ?_, ?_⟩, h4, ?_⟩
  · rw [Bool.eq_iff_iff] at h1; simpa using h1
  · rw [Bool.eq_iff_iff] at h2; simpa using h2
  · rw [Bool.eq_iff_iff] at h3; simpa [or_assoc] using h3
  · rcases h5 with (h5 | h5) | h5
    · exact .inl ⟨h5.1.1, h5.1.2, h5.2⟩
    · exact .inr (.inl ⟨h5.1.1, h5.1.2, h5.2⟩)
    · exact .inr (.inr h5)
theorem row_at (w : Int) (h0 : 0 ≤ w) (h1 : w < 34) : (((rowL w).f1 = 1 ↔ w = 1) ∧ ((rowL w).f1 = 2 ↔ w = 2) ∧ ((rowL w).f1 = 9 ↔ (w = 27 ∨ w = 28 ∨ w = 29))) ∧ ((rowL w).f4 = 0 ∨ (rowL w).f4 = 1) ∧ (((rowL w).f3 = -1 ∧ (rowL w).f1 = 10 ∧ (rowL w).f2 = 0) ∨ ((rowL w).f3 = -2 ∧ (rowL w).f1 = 11 ∧ (rowL w).f2 = 12) ∨ (0 ≤ (rowL w).f3 ∧ (rowL w).f3 ≤ 3)) := by
  obtain ⟨⟨a, b, c⟩, d, e⟩ := row_facts w.toNat (by omega)
  refine ⟨⟨a.trans (by omega), b.trans (by omega), c.trans (by omega)⟩, d, e⟩
theorem ok_word {x : S41} (h : okI x = true) : 1 ≤ x.f0 ∧ x.f0 ≤ 33 := by
  simp only [okI, Bool.and_eq_true, decide_eq_true_eq] at h
  exact h.1
theorem arR_le (x : Int) : 1 ≤ (arR x).1 ∧ (arR x).2 ≤ 32768 := by
  unfold arR
  repeat' split
  all_goals decide
theorem tk_range {x : S41} (h : okI x = true) : 0 ≤ tkI x ∧ tkI x ≤ 32768 := by
  have hw := ok_word h
  obtain ⟨-, -, hr⟩ := row_at x.f0 (by omega) (by omega)
  simp only [okI, Bool.and_eq_true, decide_eq_true_eq] at h
  obtain ⟨-, h3, h4⟩ := h
  unfold tkI
  rcases hr with ⟨e1, e2, e3⟩ | ⟨e1, e2, e3⟩ | ⟨e1, e2⟩
  · rw [if_pos e1]
    rw [e2] at h3
    simp [opR] at h3
    omega
  · rw [if_neg (by omega), if_pos e1]
    rw [e3] at h4
    simp [opR] at h4
    have := arR_le x.f1
    omega
  · rw [if_neg (by omega), if_neg (by omega)]
    omega
theorem pt_range {x : S41} (h : okI x = true) : ptI x = 0 ∨ ptI x = 1 := by
  have hw := ok_word h
  exact (row_at x.f0 (by omega) (by omega)).2.1
theorem num_pos {x : S41} (h : okI x = true) (hj : x.f0 = 1 ∨ x.f0 = 2) : 0 ≤ x.f1 := by
  have hw := ok_word h
  obtain ⟨⟨ha, hb, -⟩, -, -⟩ := row_at x.f0 (by omega) (by omega)
  simp only [okI, Bool.and_eq_true, decide_eq_true_eq] at h
  obtain ⟨-, h3, -⟩ := h
  rcases hj with hj | hj
  · rw [ha.mpr hj] at h3
    simp [opR] at h3
    exact h3
  · rw [hb.mpr hj] at h3
    simp [opR] at h3
    exact h3
theorem right_eq (k : Nat) (ops : List S41) (nums : List Int) (strs : List ByteArray) (i : Int) (h0 : 0 ≤ i) (h1 : i < (ops.length : Int)) :
    code_right.f (k + 2) tabL ops nums strs i = some (rgI (rd_T41 ops i) i ops.length nums.length strs.length) := by
  unfold code_right.f
  rw [if_pos h0, if_pos h1]
  generalize rd_T41 ops i = x
  unfold rgI
  by_cases h : okI x = true
  · rw [known_ok k x.f0 x.f1 x.f2 h, h]
    have hw := ok_word h
    obtain ⟨⟨ha, hb, hc⟩, -, -⟩ := row_at x.f0 (by omega) (by omega)
    simp only [Option.bind_some, if_true, ha, hb, hc, Bool.true_and]
    by_cases e1 : x.f0 = 1
    · rw [if_pos e1, if_pos e1]
    · rw [if_neg e1, if_neg e1]
      by_cases e2 : x.f0 = 2
      · rw [if_pos e2, if_pos e2]
      · rw [if_neg e2, if_neg e2]
        by_cases e3 : x.f0 = 27 ∨ x.f0 = 28 ∨ x.f0 = 29
        · rw [if_pos e3, if_pos e3]
          by_cases e4 : i < x.f1
          · rw [if_pos e4]; simp [e4]
          · rw [if_neg e4]; simp [e4]
        · rw [if_neg e3, if_neg e3]
  · obtain ⟨p0, p1, p2, p3, p4, e⟩ := known_no k x.f0 x.f1 x.f2 (by simpa using h)
    have h' : okI x = false := by simpa using h
    rw [e, h']
    rfl
end Go.Proofs.YtdkejcadoepnnaaDoor.Pl
