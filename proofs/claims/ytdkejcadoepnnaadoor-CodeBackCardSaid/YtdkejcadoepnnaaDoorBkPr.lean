/-
  Several texts of this session's own in one: PBase Pa Pb Pc Pd Pe Pm Pn Po Pq Pr.
-/
import Derived.WalkKit
import Derived.ProofKit
import Derived.Test.YtdkejcadoepnnaaDoorBkECcx8
import Derived.Test.YtdkejcadoepnnaaDoorBkECcx9
import Derived.Test.YtdkejcadoepnnaaDoorBkXDec
import Derived.Test.YtdkejcadoepnnaaDoorBkECcx12
import Derived.Test.YtdkejcadoepnnaaDoorBkECcx15
import Derived.Lib.ItoaLen
import Derived.Laws.BitsLemmas
import Derived.Test.YtdkejcadoepnnaaDoorBkECcx16
import Derived.Test.YtdkejcadoepnnaaDoorBkECrx4
import Derived.Test.YtdkejcadoepnnaaDoorBkECrx5
section
set_option linter.unusedVariables false
namespace Go.Proofs.YtdkejcadoepnnaaDoor.Pl
open Go.RowKit
def Ans {α : Type} (g : Nat → Option α) (r : α) : Prop := ∃ n, ∀ k, n ≤ k → g k = some r
theorem Ans.of {α : Type} {g : Nat → Option α} {r : α} (h : ∀ k, g k = some r) : Ans g r := ⟨0, fun k _ => h k⟩
theorem Ans.bind {α β : Type} {g : Nat → Option α} {h : Nat → α → Option β} {a : α} {r : β} (hg : Ans g a) (hh : Ans (fun k => h k a) r) : Ans (fun k => (g k).bind (h k)) r := by
 obtain ⟨n, hn⟩ := hg
 obtain ⟨m, hm⟩ := hh
 refine ⟨max n m, fun k hk => ?_⟩
 show (g k).bind (h k) = some r
 rw [hn k (by omega), Option.bind_some]
 exact hm k (by omega)
theorem Ans.succ {α : Type} {g : Nat → Option α} {r : α} (h : Ans (fun k => g (k + 1)) r) : Ans g r := by
 obtain ⟨n, hn⟩ := h
 refine ⟨n + 1, fun k hk => ?_⟩
 obtain ⟨m, rfl⟩ : ∃ m, k = m + 1 := ⟨k - 1, by omega⟩
 exact hn m (by omega)
theorem Ans.congr {α : Type} {g g' : Nat → Option α} {r : α} (h : Ans g' r) (e : ∀ k, g k = g' k) : Ans g r := by
 obtain ⟨n, hn⟩ := h
 exact ⟨n, fun k hk => (e k).trans (hn k hk)⟩
theorem Ans.some {α : Type} {g : Nat → Option α} {r : α} (h : Ans g r) : ∃ k, g k = Option.some r := by
 obtain ⟨n, hn⟩ := h
 exact ⟨n, hn n (Nat.le_refl _)⟩
theorem wrap_id {x : Int} (h : -9223372036854775808 ≤ x) (h' : x ≤ 9223372036854775807) : wrap64 x = x := by
 unfold wrap64
 omega
end Go.Proofs.YtdkejcadoepnnaaDoor.Pl
end
section
set_option linter.unusedVariables false
set_option linter.unusedSimpArgs false
namespace Go.Proofs.YtdkejcadoepnnaaDoor.Pl
open Go.RowKit Go.Proofs.YtdkejcadoepnnaaDoorW.PrintWords Go.Proofs.YtdkejcadoepnnaaDoor.ECc Go.Proofs.YtdkejcadoepnnaaDoor.X
/-- The least and the greatest number of a function's arguments. -/
def arR (x : Int) : Int × Int := if x = 1 ∨ x = 6 ∨ x = 7 ∨ x = 8 ∨ x = 9 then (1, 1) else if x = 2 then (2, 3) else if x = 3 then (2, 2) else if x = 4 ∨ x = 12 then (1, 32768) else (1, 0)
theorem arity_eq (k : Nat) (x : Int) : c_arity.f (k + 1) x = some (arR x) := by
 by_cases h1 : x = 1; · subst h1; rfl
 by_cases h6 : x = 6; · subst h6; rfl
 by_cases h7 : x = 7; · subst h7; rfl
 by_cases h8 : x = 8; · subst h8; rfl
 by_cases h9 : x = 9; · subst h9; rfl
 by_cases h2 : x = 2; · subst h2; rfl
 by_cases h3 : x = 3; · subst h3; rfl
 by_cases h4 : x = 4; · subst h4; rfl
 by_cases h12 : x = 12; · subst h12; rfl
 simp [c_arity.f, c_arity.j0, arR, h1, h6, h7, h8, h9, h2, h3, h4, h12]
def opR (kind x fn : Int) : Bool :=
 if kind = 0 then x == 0 else if kind = 1 ∨ kind = 2 then decide (0 ≤ x) else if kind = 3 then decide (0 ≤ x ∧ x ≤ 255)
 else if kind = 4 then decide (0 ≤ x ∧ x ≤ 63) else if kind = 5 then decide (1 ≤ x ∧ x ≤ 6) else if kind = 6 then decide (1 ≤ x ∧ x ≤ 4)
 else if kind = 7 then decide (x = 10 ∨ x = 11) else if kind = 8 then decide (1 ≤ x ∧ x ≤ 6) else if kind = 9 then decide (1 ≤ x)
 else if kind = 10 then decide (1 ≤ x ∧ x ≤ 32768) else if kind = 11 then decide ((arR x).1 ≤ (arR x).2)
 else if kind = 12 then decide ((arR fn).1 ≤ x ∧ x ≤ (arR fn).2) else false
theorem within_eq (x a b : Int) : c_within.f x a b = some (decide (a ≤ x ∧ x ≤ b)) := by
 unfold c_within.f
 by_cases h : a ≤ x
 ·rw [if_pos h]; simp [h]
 ·rw [if_neg h]; simp [h]
theorem operand_eq (k : Nat) (a x fn : Int) : c_operand.f (k + 2) a x fn = some (opR a x fn) := by
 by_cases h0 : a = 0; · subst h0; rfl
 by_cases h1 : a = 1; · subst h1; rfl
 by_cases h2 : a = 2; · subst h2; rfl
 have e2 : (a == 2) = false := by simp [h2]
 by_cases h3 : a = 3; · subst h3; simp [c_operand.f, c_operand.j0, opR, within_eq]
 by_cases h4 : a = 4; · subst h4; simp [c_operand.f, c_operand.j0, opR, within_eq]
 by_cases h5 : a = 5; · subst h5; simp [c_operand.f, c_operand.j0, opR, within_eq]
 by_cases h6 : a = 6; · subst h6; simp [c_operand.f, c_operand.j0, opR, within_eq]
 by_cases h7 : a = 7
 ·subst h7
  by_cases hx : x = 10
  ·subst hx; rfl
  ·by_cases hy : x = 11
   ·subst hy; rfl
   ·simp [c_operand.f, c_operand.j0, opR, hx, hy]
 by_cases h8 : a = 8; · subst h8; simp [c_operand.f, c_operand.j0, opR, within_eq]
 by_cases h9 : a = 9; · subst h9; simp [c_operand.f, c_operand.j0, opR, within_eq]
 by_cases h10 : a = 10; · subst h10; simp [c_operand.f, c_operand.j0, opR, within_eq]
 by_cases h11 : a = 11; · subst h11; simp [c_operand.f, c_operand.j0, opR, within_eq, arity_eq]
 by_cases h12 : a = 12; · subst h12; simp [c_operand.f, c_operand.j0, opR, within_eq, arity_eq]
 simp [c_operand.f, c_operand.j0, opR, h0, h1, h2, h3, h4, h5, h6, h7, h8, h9, h10, h11, h12]
/-- The word's row. -/
def rowL (w : Int) : S72 := rd_T72 tabL w
def okI (x : S41) : Bool := decide (1 ≤ x.f0 ∧ x.f0 ≤ 33) && (opR (rowL x.f0).f1 x.f1 0 && opR (rowL x.f0).f2 x.f2 x.f1)
def tkI (x : S41) : Int := if (rowL x.f0).f3 = -1 then x.f1 else if (rowL x.f0).f3 = -2 then x.f2 else (rowL x.f0).f3
def ptI (x : S41) : Int := (rowL x.f0).f4
theorem known_ok (k : Nat) (a b c : Int) (h : okI ⟨a, b, c⟩ = true) : c_known.f (k + 2) tabL a b c = some ((rowL a).f0, (rowL a).f1, (rowL a).f2, (rowL a).f3, (rowL a).f4, true) := by
 simp only [okI, Bool.and_eq_true, decide_eq_true_eq] at h
 obtain ⟨⟨h1, h2⟩, h3, h4⟩ := h
 have e0 : (0 : Int) ≤ a := by omega
 have e1 : a < (tabL.length : Int) := by rw [tabL_len]; omega
 unfold c_known.f
 simp only [within_eq, Option.bind_some, h1, h2, and_self, decide_true, if_true, e0, e1, operand_eq]
 unfold rowL at h3 h4
 rw [h3]
 simp only [if_true, Option.bind_some, operand_eq, h4]
 rfl
theorem known_no (k : Nat) (a b c : Int) (h : okI ⟨a, b, c⟩ = false) : ∃ p0 p1 p2 p3 p4, c_known.f (k + 2) tabL a b c = some (p0, p1, p2, p3, p4, false) := by
 unfold c_known.f
 simp only [within_eq, Option.bind_some]
 by_cases hw : 1 ≤ a ∧ a ≤ 33
 ·have e0 : (0 : Int) ≤ a := by omega
  have e1 : a < (tabL.length : Int) := by rw [tabL_len]; omega
  simp only [hw, and_self, decide_true, if_true, e0, e1, operand_eq, Option.bind_some]
  by_cases h3 : opR (rd_T72 tabL a).f1 b 0 = true
  ·rw [if_pos h3]
   have h4 : opR (rd_T72 tabL a).f2 c b = false := by
    simp only [okI, rowL, hw, and_self, decide_true, Bool.true_and, h3] at h
    exact h
   rw [h4]
   exact ⟨_, _, _, _, _, rfl⟩
  ·rw [if_neg h3]
   exact ⟨_, _, _, _, _, rfl⟩
 ·simp only [hw, decide_false, Bool.false_eq_true, if_false]
  exact ⟨_, _, _, _, _, rfl⟩
theorem rowEff_eq (x : S41) : c_row_effect.f (rowL x.f0).f0 (rowL x.f0).f1 (rowL x.f0).f2 (rowL x.f0).f3 (rowL x.f0).f4 x.f0 x.f1 x.f2 = some (tkI x, ptI x) := by
 unfold c_row_effect.f tkI ptI
 by_cases h1 : (rowL x.f0).f3 = -1
 ·rw [if_pos h1, if_pos h1]
 ·rw [if_neg h1, if_neg h1]
  by_cases h2 : (rowL x.f0).f3 = -2
  ·rw [if_pos h2, if_pos h2]
  ·rw [if_neg h2, if_neg h2]
/-- What Effect answers. -/
def efI (x : S41) : Int × Int × Bool := if okI x = true then (tkI x, ptI x, true) else (0, 0, false)
theorem effect_eq (k : Nat) (x : S41) : c_Effect.f (k + 2) x.f0 x.f1 x.f2 = some (efI x) := by
 unfold c_Effect.f efI
 by_cases h : okI x = true
 ·rw [known_ok k x.f0 x.f1 x.f2 h, if_pos h]
  simp only [Option.bind_some, if_true, rowEff_eq]
 ·obtain ⟨p0, p1, p2, p3, p4, e⟩ := known_no k x.f0 x.f1 x.f2 (by simpa using h)
  rw [e, if_neg h]
  rfl
/-- Right at place i of a code of n instructions, p numbers, q texts. -/
def rgI (x : S41) (i n p q : Int) : Bool := okI x && (if x.f0 = 1 then decide (x.f1 < p) else if x.f0 = 2 then decide (x.f1 < q) else if x.f0 = 27 ∨ x.f0 = 28 ∨ x.f0 = 29 then decide (i < x.f1 ∧ x.f1 ≤ n) else true)
def chkRow (p : S72) (j : Nat) : Bool := ((p.f1 == 1) == (j == 1)) && ((p.f1 == 2) == (j == 2)) && ((p.f1 == 9) == (j == 27 || j == 28 || j == 29)) && (p.f4 == 0 || p.f4 == 1) && ((p.f3 == -1 && p.f1 == 10 && p.f2 == 0) || (p.f3 == -2 && p.f1 == 11 && p.f2 == 12) || (decide (0 ≤ p.f3) && decide (p.f3 ≤ 3)))
def chkAll : List S72 → Nat → Bool
 | [], _ => true
 | p :: l, j => chkRow p j && chkAll l (j + 1)
set_option maxRecDepth 100000 in
theorem chk_all : chkAll tabL 0 = true := by kernel_rfl
theorem chk_at : ∀ (l : List S72) (b j : Nat), chkAll l b = true → j < l.length → chkRow (l.getD j z72) (b + j) = true
 | p :: l, b, 0, h, _ => by
  simp only [chkAll, Bool.and_eq_true] at h
  exact h.1
 | p :: l, b, j + 1, h, hj => by
  simp only [chkAll, Bool.and_eq_true] at h
  have := chk_at l (b + 1) j h.2 (by simpa using hj)
  rw [show b + (j + 1) = b + 1 + j by omega]
  exact this
 | [], b, j, h, hj => by simp at hj
theorem row_facts (j : Nat) (hj : j < 34) : ((((tabL.getD j z72).f1 = 1 ↔ j = 1) ∧ ((tabL.getD j z72).f1 = 2 ↔ j = 2) ∧ ((tabL.getD j z72).f1 = 9 ↔ (j = 27 ∨ j = 28 ∨ j = 29))) ∧ ((tabL.getD j z72).f4 = 0 ∨ (tabL.getD j z72).f4 = 1) ∧ (((tabL.getD j z72).f3 = -1 ∧ (tabL.getD j z72).f1 = 10 ∧ (tabL.getD j z72).f2 = 0) ∨ ((tabL.getD j z72).f3 = -2 ∧ (tabL.getD j z72).f1 = 11 ∧ (tabL.getD j z72).f2 = 12) ∨ (0 ≤ (tabL.getD j z72).f3 ∧ (tabL.getD j z72).f3 ≤ 3))) := by
 have h := chk_at tabL 0 j chk_all (by rw [tabL_len]; exact hj)
 rw [Nat.zero_add] at h
 revert h
 generalize tabL.getD j z72 = p
 intro h
 simp only [chkRow, Bool.and_eq_true, Bool.or_eq_true, beq_iff_eq, decide_eq_true_eq] at h
 obtain ⟨⟨⟨⟨h1, h2⟩, h3⟩, h4⟩, h5⟩ := h
 refine ⟨⟨?_, ?_, ?_⟩, h4, ?_⟩
 ·rw [Bool.eq_iff_iff] at h1; simpa using h1
 ·rw [Bool.eq_iff_iff] at h2; simpa using h2
 ·rw [Bool.eq_iff_iff] at h3; simpa [or_assoc] using h3
 ·rcases h5 with (h5 | h5) | h5
  ·exact .inl ⟨h5.1.1, h5.1.2, h5.2⟩
  ·exact .inr (.inl ⟨h5.1.1, h5.1.2, h5.2⟩)
  ·exact .inr (.inr h5)
theorem row_at (w : Int) (h0 : 0 ≤ w) (h1 : w < 34) : (((rowL w).f1 = 1 ↔ w = 1) ∧ ((rowL w).f1 = 2 ↔ w = 2) ∧ ((rowL w).f1 = 9 ↔ (w = 27 ∨ w = 28 ∨ w = 29))) ∧ ((rowL w).f4 = 0 ∨ (rowL w).f4 = 1) ∧ (((rowL w).f3 = -1 ∧ (rowL w).f1 = 10 ∧ (rowL w).f2 = 0) ∨ ((rowL w).f3 = -2 ∧ (rowL w).f1 = 11 ∧ (rowL w).f2 = 12) ∨ (0 ≤ (rowL w).f3 ∧ (rowL w).f3 ≤ 3)) := by
 obtain ⟨⟨a, b, c⟩, d, e⟩ := row_facts w.toNat (by omega)
 refine ⟨⟨a.trans (by omega), b.trans (by omega), c.trans (by omega)⟩, d, e⟩
theorem ok_word {x : S41} (h : okI x = true) : 1 ≤ x.f0 ∧ x.f0 ≤ 33 := by
 simp only [okI, Bool.and_eq_true, decide_eq_true_eq] at h
 exact h.1
theorem arR_le (x : Int) : 1 ≤ (arR x).1 ∧ (arR x).2 ≤ 32768 := by
 unfold arR
 repeat' split
 all_goals decide
theorem tk_range {x : S41} (h : okI x = true) : 0 ≤ tkI x ∧ tkI x ≤ 32768 := by
 have hw := ok_word h
 obtain ⟨-, -, hr⟩ := row_at x.f0 (by omega) (by omega)
 simp only [okI, Bool.and_eq_true, decide_eq_true_eq] at h
 obtain ⟨-, h3, h4⟩ := h
 unfold tkI
 rcases hr with ⟨e1, e2, e3⟩ | ⟨e1, e2, e3⟩ | ⟨e1, e2⟩
 ·rw [if_pos e1]
  rw [e2] at h3
  simp [opR] at h3
  omega
 ·rw [if_neg (by omega), if_pos e1]
  rw [e3] at h4
  simp [opR] at h4
  have := arR_le x.f1
  omega
 ·rw [if_neg (by omega), if_neg (by omega)]
  omega
theorem pt_range {x : S41} (h : okI x = true) : ptI x = 0 ∨ ptI x = 1 := by
 have hw := ok_word h
 exact (row_at x.f0 (by omega) (by omega)).2.1
theorem num_pos {x : S41} (h : okI x = true) (hj : x.f0 = 1 ∨ x.f0 = 2) : 0 ≤ x.f1 := by
 have hw := ok_word h
 obtain ⟨⟨ha, hb, -⟩, -, -⟩ := row_at x.f0 (by omega) (by omega)
 simp only [okI, Bool.and_eq_true, decide_eq_true_eq] at h
 obtain ⟨-, h3, -⟩ := h
 rcases hj with hj | hj
 ·rw [ha.mpr hj] at h3
  simp [opR] at h3
  exact h3
 ·rw [hb.mpr hj] at h3
  simp [opR] at h3
  exact h3
theorem right_eq (k : Nat) (ops : List S41) (nums : List Int) (strs : List ByteArray) (i : Int) (h0 : 0 ≤ i) (h1 : i < (ops.length : Int)) :
  c_right.f (k + 2) tabL ops nums strs i = some (rgI (rd_T41 ops i) i ops.length nums.length strs.length) := by
 unfold c_right.f
 rw [if_pos h0, if_pos h1]
 generalize rd_T41 ops i = x
 unfold rgI
 by_cases h : okI x = true
 ·rw [known_ok k x.f0 x.f1 x.f2 h, h]
  have hw := ok_word h
  obtain ⟨⟨ha, hb, hc⟩, -, -⟩ := row_at x.f0 (by omega) (by omega)
  simp only [Option.bind_some, if_true, ha, hb, hc, Bool.true_and]
  by_cases e1 : x.f0 = 1
  ·rw [if_pos e1, if_pos e1]
  ·rw [if_neg e1, if_neg e1]
   by_cases e2 : x.f0 = 2
   ·rw [if_pos e2, if_pos e2]
   ·rw [if_neg e2, if_neg e2]
    by_cases e3 : x.f0 = 27 ∨ x.f0 = 28 ∨ x.f0 = 29
    ·rw [if_pos e3, if_pos e3]
     by_cases e4 : i < x.f1
     ·rw [if_pos e4]; simp [e4]
     ·rw [if_neg e4]; simp [e4]
    ·rw [if_neg e3, if_neg e3]
 ·obtain ⟨p0, p1, p2, p3, p4, e⟩ := known_no k x.f0 x.f1 x.f2 (by simpa using h)
  have h' : okI x = false := by simpa using h
  rw [e, h']
  rfl
end Go.Proofs.YtdkejcadoepnnaaDoor.Pl
end
section
set_option linter.unusedVariables false
set_option linter.unusedSimpArgs false
namespace Go.Proofs.YtdkejcadoepnnaaDoor.Pl
open Go.RowKit Go.Proofs.YtdkejcadoepnnaaDoorW.PrintWords Go.Proofs.YtdkejcadoepnnaaDoor.ECc Go.Proofs.YtdkejcadoepnnaaDoor.X
theorem rd_set {xs : List Int} {i j v : Int} (h0 : 0 ≤ i) (h1 : i < xs.length) (h2 : 0 ≤ j) : rd (xs.set i.toNat v) j = if j = i then v else rd xs j := by
 unfold rd
 by_cases h : j = i
 ·subst h
  rw [if_pos rfl, List.getD_eq_getElem?_getD, List.getElem?_set_self (by omega)]
  rfl
 ·rw [if_neg h, List.getD_eq_getElem?_getD, List.getD_eq_getElem?_getD, List.getElem?_set_ne (by omega)]
def w1 (x : S41) (i : Int) : Int := if x.f0 = 27 then x.f1 else i + 1
def w2 (x : S41) (i : Int) : Int := if x.f0 = 27 ∨ x.f0 = 28 ∨ x.f0 = 29 then x.f1 else i + 1
def put1 (hs : List Int) (tz h : Int) : Option (List Int) := if 0 ≤ rd hs tz ∧ rd hs tz ≠ h then none else some (hs.set tz.toNat h)
def nxH (x : S41) (v : Int) : Int := v - tkI x + ptI x
/-- One instruction: the heights behind it, or none at a fault. -/
def stepH (x : S41) (i : Int) (hs : List Int) : Option (List Int) :=
 if rd hs i < 0 then some hs
 else if rd hs i < tkI x ∨ nxH x (rd hs i) > 32768 then none
 else (put1 hs (w1 x i) (nxH x (rd hs i))).bind fun hs1 => put1 hs1 (w2 x i) (nxH x (rd hs i))
def runH (n : Int) : List S41 → Int → List Int → List Int × Int × Int
 | [], _, hs => if rd hs n = 1 then (hs, 0, 0) else ([], n, 260)
 | x :: r, i, hs => match stepH x i hs with
  | none => ([], i, 260)
  | some hs' => runH n r (i + 1) hs'
def allR (n p q : Int) : List S41 → Int → Option Int
 | [], _ => none
 | x :: r, i => if rgI x i n p q = true then allR n p q r (i + 1) else some i
def hs0 (n : Nat) : List Int := 0 :: List.replicate n (-1)
def heightsV (ops : List S41) (p q : Int) : List Int × Int × Int :=
 if (ops.length : Int) > 131072 then ([], 131072, 260) else
 match allR ops.length p q ops 0 with
 | some i => ([], i, 260)
 | none => runH ops.length ops 0 (hs0 ops.length)
def Hb (hs : List Int) : Prop := ∀ j, 0 ≤ j → -1 ≤ rd hs j ∧ rd hs j ≤ 32768
theorem ways_eq (x : S41) (i : Int) (h0 : 0 ≤ i) (h1 : i < 131073) : xWays.f x.f0 x.f1 x.f2 i = some (w1 x i, w2 x i) := by
 unfold xWays.f w1 w2
 rw [wrap_id (x := i + 1) (by omega) (by omega)]
 by_cases a : x.f0 = 27
 ·simp [a]
 ·by_cases b : x.f0 = 29 ∨ x.f0 = 28
  ·have b' : x.f0 = 28 ∨ x.f0 = 29 := b.symm
   simp [a, b, b']
  ·have b' : ¬ (x.f0 = 28 ∨ x.f0 = 29) := fun h => b h.symm
   simp [a, b, b']
theorem put_len {hs hs' : List Int} {tz h : Int} (e : put1 hs tz h = some hs') : hs'.length = hs.length := by
 unfold put1 at e
 split at e
 ·cases e
 ·obtain rfl := Option.some.inj e
  simp
theorem put_b {hs hs' : List Int} {tz h : Int} (hb : Hb hs) (t0 : 0 ≤ tz) (t1 : tz < hs.length) (h0 : 0 ≤ h) (h1 : h ≤ 32768) (e : put1 hs tz h = some hs') : Hb hs' := by
 unfold put1 at e
 split at e
 ·cases e
 ·obtain rfl := Option.some.inj e
  intro j hj
  rw [rd_set t0 t1 hj]
  split
  ·omega
  ·exact hb j hj
/-- One write of Heights' own loop. -/
theorem l3_step (k : Nat) (n i h : Int) (hs ops' : List Int) (ops : List S41) (t1 t2 s : Int) (hw : wrap64 (s + 1) = s + 1) (hs2 : s < 2) (tz : Int) (hto : tz = if s = 0 then t1 else t2) (b0 : 0 ≤ tz) (b1 : tz < hs.length) :
  c_Heights.l3 (k + 1) n hs i h ops (ops.length : Int) i s t1 t2 = match put1 hs tz h with
   | none => some (([] : List Int), i, 260)
   | some hs' => c_Heights.l3 k n hs' i h ops (ops.length : Int) i (s + 1) t1 t2 := by
 rw [c_Heights.l3, if_pos hs2, hw]
 by_cases h0 : s = 0
 ·rw [if_pos h0] at hto
  subst hto
  rw [if_pos h0, if_pos b0, if_pos b1]
  unfold put1
  by_cases c : rd hs tz ≥ 0
  ·rw [if_pos c]
   by_cases d : rd hs tz = h
   ·rw [if_pos d, if_neg (by omega)]
   ·rw [if_neg d, if_pos ⟨c, d⟩]
  ·rw [if_neg c, if_neg (by omega)]
 ·rw [if_neg h0] at hto
  subst hto
  rw [if_neg h0, if_pos b0, if_pos b1]
  unfold put1
  by_cases c : rd hs tz ≥ 0
  ·rw [if_pos c]
   by_cases d : rd hs tz = h
   ·rw [if_pos d, if_neg (by omega)]
   ·rw [if_neg d, if_pos ⟨c, d⟩]
  ·rw [if_neg c, if_neg (by omega)]
theorem l3_all (k : Nat) (n i h : Int) (hs : List Int) (ops : List S41) (t1 t2 : Int) (a0 : 0 ≤ t1) (a1 : t1 < hs.length) (b0 : 0 ≤ t2) (b1 : t2 < hs.length) :
  c_Heights.l3 (k + 3) n hs i h ops (ops.length : Int) i 0 t1 t2 = match (put1 hs t1 h).bind fun hs1 => put1 hs1 t2 h with
   | none => some (([] : List Int), i, 260)
   | some hs' => c_Heights.l2 k n hs' ops (ops.length : Int) (wrap64 (i + 1)) := by
 rw [l3_step (k + 2) n i h hs [] ops t1 t2 0 (wrap_id (by omega) (by omega)) (by omega) t1 (by simp) a0 a1]
 cases e : put1 hs t1 h with
 | none => rfl
 | some hs1 =>
  show c_Heights.l3 (k + 2) n hs1 i h ops (ops.length : Int) i (0 + 1) t1 t2 = _
  have hl := put_len e
  rw [l3_step (k + 1) n i h hs1 [] ops t1 t2 (0 + 1) (wrap_id (by omega) (by omega)) (by omega) t2 (by simp) b0 (by omega)]
  show _ = match put1 hs1 t2 h with
   | none => some (([] : List Int), i, 260)
   | some hs' => c_Heights.l2 k n hs' ops (ops.length : Int) (wrap64 (i + 1))
  cases e2 : put1 hs1 t2 h with
  | none => rfl
  | some hs2 =>
   show c_Heights.l3 (k + 1) n hs2 i h ops (ops.length : Int) i (0 + 1 + 1) t1 t2 = _
   rw [c_Heights.l3, if_neg (by omega)]
theorem rd41_at {pre r : List S41} {x : S41} : rd_T41 (pre ++ x :: r) (pre.length : Int) = x := by
 unfold rd_T41
 rw [Int.toNat_natCast, List.getD_eq_getElem?_getD, List.getElem?_append_right (Nat.le_refl _), Nat.sub_self]
 rfl
theorem jump_in {x : S41} {i n p q : Int} (h : rgI x i n p q = true) : okI x = true ∧ ((x.f0 = 27 ∨ x.f0 = 28 ∨ x.f0 = 29) → i < x.f1 ∧ x.f1 ≤ n) := by
 unfold rgI at h
 simp only [Bool.and_eq_true] at h
 refine ⟨h.1, fun hj => ?_⟩
 have h2 := h.2
 rw [if_neg (by omega), if_neg (by omega), if_pos hj] at h2
 exact of_decide_eq_true h2
theorem ways_in {x : S41} {i n p q : Int} (h : rgI x i n p q = true) (hi : i < n) : (i < w1 x i ∧ w1 x i ≤ n) ∧ i < w2 x i ∧ w2 x i ≤ n := by
 obtain ⟨-, h⟩ := jump_in h
 unfold w1 w2
 by_cases a : x.f0 = 27
 ·have := h (.inl a)
  rw [if_pos a, if_pos (.inl a)]
  exact ⟨this, this⟩
 ·rw [if_neg a]
  by_cases b : x.f0 = 27 ∨ x.f0 = 28 ∨ x.f0 = 29
  ·have := h b
   rw [if_pos b]
   exact ⟨by omega, this⟩
  ·rw [if_neg b]
   omega
/-- Each instruction from place i on is right. -/
def Rt (n p q : Int) : List S41 → Int → Prop
 | [], _ => True
 | x :: r, i => rgI x i n p q = true ∧ Rt n p q r (i + 1)
theorem step_b {x : S41} {i n p q : Int} {hs hs' : List Int} (hr : rgI x i n p q = true) (h0 : 0 ≤ i) (hi : i < n) (hl : (hs.length : Int) = n + 1) (hb : Hb hs) (e : stepH x i hs = some hs') : hs'.length = hs.length ∧ Hb hs' := by
 obtain ⟨⟨a0, a1⟩, b0, b1⟩ := ways_in hr hi
 have ok := (jump_in hr).1
 have tk := tk_range ok
 have pt := pt_range ok
 unfold stepH at e
 split at e
 ·obtain rfl := Option.some.inj e
  exact ⟨rfl, hb⟩
 ·split at e
  ·cases e
  ·rename_i c d
   obtain ⟨hs1, e1, e2⟩ := Option.bind_eq_some_iff.mp e
   have n0 : 0 ≤ nxH x (rd hs i) := by unfold nxH; omega
   have n1 : nxH x (rd hs i) ≤ 32768 := by omega
   have l1 := put_len e1
   exact ⟨(put_len e2).trans l1, put_b (put_b hb (by omega) (by omega) n0 n1 e1) (by omega) (by omega) n0 n1 e2⟩
theorem l2_ans (n p q : Int) (ops : List S41) (hn : (ops.length : Int) = n) (hc : n ≤ 131072) : ∀ (r pre : List S41) (hs : List Int), ops = pre ++ r → Rt n p q r pre.length → (hs.length : Int) = n + 1 → Hb hs →
  Ans (fun k => c_Heights.l2 k n hs ops (ops.length : Int) (pre.length : Int)) (runH n r pre.length hs)
 | [], pre, hs, e, hr, hl, hb => by
  refine Ans.succ (Ans.of fun k => ?_)
  have hp : (pre.length : Int) = n := by rw [← hn, e]; simp
  rw [c_Heights.l2, if_neg (by omega), if_pos (by omega), if_pos (by omega)]
  unfold runH
  split <;> rfl
 | x :: r, pre, hs, e, hr, hl, hb => by
  have hp : (pre.length : Int) + 1 + r.length = n := by rw [← hn, e]; simp; omega
  have hx : rd_T41 ops (pre.length : Int) = x := by rw [e]; exact rd41_at
  have ih : ∀ hs' : List Int, hs'.length = hs.length → Hb hs' → Ans (fun k => c_Heights.l2 k n hs' ops (ops.length : Int) (wrap64 ((pre.length : Int) + 1))) (runH n r ((pre.length : Int) + 1) hs') := by
   intro hs' hl' hb'
   have := l2_ans n p q ops hn hc r (pre ++ [x]) hs' (by rw [e]; simp) (by rw [List.length_append]; exact hr.2) (by omega) hb'
   rw [List.length_append] at this
   rw [wrap_id (by omega) (by omega)]
   exact this
  have hx0 := ok_word (jump_in hr.1).1
  have tk := tk_range (jump_in hr.1).1
  have pt := pt_range (jump_in hr.1).1
  have hv := hb (pre.length : Int) (by omega)
  obtain ⟨⟨a0, a1⟩, b0, b1⟩ := ways_in hr.1 (by omega : (pre.length : Int) < n)
  refine Ans.succ ?_
  unfold runH
  by_cases c : rd hs (pre.length : Int) < 0
  ·refine Ans.congr (g' := fun k => c_Heights.l2 k n hs ops (ops.length : Int) (wrap64 ((pre.length : Int) + 1))) ?_ fun k => ?_
   ·have : stepH x (pre.length : Int) hs = some hs := by unfold stepH; rw [if_pos c]
    rw [this]
    exact ih hs rfl hb
   ·rw [c_Heights.l2, if_pos (by omega), if_pos (by omega), if_pos (by omega), if_pos (by omega), if_pos c]
  ·have ew : wrap64 ((wrap64 (rd hs (pre.length : Int) - tkI x)) + ptI x) = nxH x (rd hs (pre.length : Int)) := by
    unfold nxH
    rw [wrap_id (x := rd hs (pre.length : Int) - tkI x) (by omega) (by omega), wrap_id (by omega) (by omega)]
   have ef := rowEff_eq x
   unfold rowL at ef
   have key : ∀ k, c_Heights.l2 (k + 1) n hs ops (ops.length : Int) (pre.length : Int) = c_Heights.j3 k n hs (pre.length : Int) (nxH x (rd hs (pre.length : Int))) ops (ops.length : Int) (pre.length : Int) (decide (rd hs (pre.length : Int) < tkI x ∨ nxH x (rd hs (pre.length : Int)) > 32768)) x.f0 x.f1 x.f2 := by
    intro k
    rw [c_Heights.l2, if_pos (by omega), if_pos (by omega), if_pos (by omega), if_pos (by omega), if_neg c, hx, if_pos (by omega), if_pos (by rw [tabL_len]; omega), ef, Option.bind_some]
    show (if _ then _ else _) = _
    rw [ew]
    by_cases d : rd hs (pre.length : Int) < tkI x
    ·rw [if_pos d, decide_eq_true (Or.inl d)]
    ·rw [if_neg d]
     congr 1
     simp [d]
   refine Ans.congr ?_ key
   refine Ans.succ ?_
   unfold stepH
   rw [if_neg c]
   by_cases d : rd hs (pre.length : Int) < tkI x ∨ nxH x (rd hs (pre.length : Int)) > 32768
   ·rw [if_pos d]
    refine Ans.of fun k => ?_
    rw [c_Heights.j3, decide_eq_true d, if_pos rfl]
   ·rw [if_neg d]
    have key2 : ∀ k, c_Heights.j3 (k + 1) n hs (pre.length : Int) (nxH x (rd hs (pre.length : Int))) ops (ops.length : Int) (pre.length : Int) (decide (rd hs (pre.length : Int) < tkI x ∨ nxH x (rd hs (pre.length : Int)) > 32768)) x.f0 x.f1 x.f2 = c_Heights.l3 k n hs (pre.length : Int) (nxH x (rd hs (pre.length : Int))) ops (ops.length : Int) (pre.length : Int) 0 (w1 x (pre.length : Int)) (w2 x (pre.length : Int)) := by
     intro k
     rw [c_Heights.j3, decide_eq_false d, if_neg (by decide), ways_eq x (pre.length : Int) (by omega) (by omega), Option.bind_some]
    refine Ans.congr ?_ key2
    refine Ans.succ (Ans.succ (Ans.succ ?_))
    refine Ans.congr ?_ fun k => l3_all k n (pre.length : Int) _ hs ops _ _ (by omega) (by omega) (by omega) (by omega)
    have hst : stepH x (pre.length : Int) hs = (put1 hs (w1 x (pre.length : Int)) (nxH x (rd hs (pre.length : Int)))).bind fun hs1 => put1 hs1 (w2 x (pre.length : Int)) (nxH x (rd hs (pre.length : Int))) := by
     unfold stepH
     rw [if_neg c, if_neg d]
    cases e3 : (put1 hs (w1 x (pre.length : Int)) (nxH x (rd hs (pre.length : Int)))).bind fun hs1 => put1 hs1 (w2 x (pre.length : Int)) (nxH x (rd hs (pre.length : Int))) with
    | none => exact Ans.of fun k => rfl
    | some hs' =>
     have := step_b hr.1 (by omega) (by omega) hl hb (hst.trans e3)
     exact ih hs' this.1 this.2
theorem set_rep (m j : Nat) (hj : j < m) : (List.replicate j (-1 : Int) ++ List.replicate (m - j) 0).set j (-1) = List.replicate (j + 1) (-1) ++ List.replicate (m - (j + 1)) 0 := by
 rw [List.set_append_right _ _ (by simp), List.length_replicate, Nat.sub_self, show m - j = m - (j + 1) + 1 by omega, List.replicate_succ, List.set_cons_zero, List.replicate_succ']
 simp
theorem l1_ans (n : Nat) (ops : List S41) (nums : List Int) (strs : List ByteArray) (hc : n ≤ 131072) (hn : ops.length = n) : ∀ (d j : Nat), j + d = n + 1 → ∀ r : List Int × Int × Int, Ans (fun k => c_Heights.l2 k n (hs0 n) ops (ops.length : Int) 0) r →
  Ans (fun k => c_Heights.l1 k n (List.replicate j (-1) ++ List.replicate (n + 1 - j) 0) ((n + 1 : Nat) : Int) (j : Int) ops nums strs) r
 | 0, j, e, r, h => by
  refine Ans.succ ?_
  refine Ans.congr h fun k => ?_
  obtain rfl : j = n + 1 := by omega
  rw [c_Heights.l1, if_neg (by omega), if_pos (by simp)]
  congr 1
  rw [Nat.sub_self, List.replicate_zero, List.append_nil]
  rfl
 | d + 1, j, e, r, h => by
  refine Ans.succ ?_
  refine Ans.congr (l1_ans n ops nums strs hc hn d (j + 1) (by omega) r h) fun k => ?_
  rw [c_Heights.l1, if_pos (by omega), if_pos (by omega), if_pos (by simp; omega), wrap_id (by omega) (by omega)]
  congr 1
  rw [Int.toNat_natCast]
  exact set_rep (n + 1) j (by omega)
theorem hs0_len (n : Nat) : (hs0 n).length = n + 1 := by simp [hs0]
theorem hs0_at (n : Nat) (j : Int) (h0 : 0 ≤ j) : rd (hs0 n) j = if j = 0 then 0 else if j ≤ n then -1 else 0 := by
 unfold rd hs0
 obtain ⟨m, rfl⟩ := Int.eq_ofNat_of_zero_le h0
 rw [Int.toNat_natCast]
 cases m with
 | zero => rfl
 | succ m =>
  rw [List.getD_cons_succ, List.getD_eq_getElem?_getD, List.getElem?_replicate]
  by_cases h : m < n
  ·rw [if_pos h, if_neg (by omega), if_pos (by omega)]; rfl
  ·rw [if_neg h, if_neg (by omega), if_neg (by omega)]; rfl
theorem hs0_b (n : Nat) : Hb (hs0 n) := by
 intro j hj
 rw [hs0_at n j hj]
 split
 ·omega
 ·split <;> omega
theorem l0_ans (n : Nat) (ops : List S41) (nums : List Int) (strs : List ByteArray) (hc : n ≤ 131072) (hn : ops.length = n) : ∀ (r pre : List S41), ops = pre ++ r → ∀ v : List Int × Int × Int,
  (allR n nums.length strs.length r pre.length = none → Ans (fun k => c_Heights.l2 k n (hs0 n) ops (ops.length : Int) 0) v) →
  Ans (fun k => c_Heights.l0 k n n (pre.length : Int) ops nums strs) (match allR n nums.length strs.length r pre.length with
   | some i => ([], i, 260)
   | none => v)
 | [], pre, e, v, h => by
  refine Ans.succ ?_
  refine Ans.congr (g' := fun k => c_Heights.l1 k n (List.replicate 0 (-1) ++ List.replicate (n + 1 - 0) 0) ((n + 1 : Nat) : Int) ((0 : Nat) : Int) ops nums strs) (l1_ans n ops nums strs hc hn (n + 1) 0 (by omega) v (h rfl)) fun k => ?_
  have hp : pre.length = n := by rw [← hn, e]; simp
  have en : (wrap64 ((n : Int) + 1)).toNat = n + 1 := by rw [wrap_id (by omega) (by omega)]; omega
  rw [c_Heights.l0, if_neg (by omega), if_pos (by rw [wrap_id (by omega) (by omega)]; omega), en, if_pos (by omega), Option.bind_some]
  simp
 | x :: r, pre, e, v, h => by
  have hp : pre.length + 1 + r.length = n := by rw [← hn, e]; simp; omega
  have hx : rd_T41 ops (pre.length : Int) = x := by rw [e]; exact rd41_at
  have key : ∀ k, c_Heights.l0 (k + 1 + 2) n n (pre.length : Int) ops nums strs = if rgI x (pre.length : Int) n nums.length strs.length = true then c_Heights.l0 (k + 2) n n (wrap64 ((pre.length : Int) + 1)) ops nums strs else some ([], (pre.length : Int), 260) := by
   intro k
   rw [show k + 1 + 2 = (k + 2) + 1 from rfl, c_Heights.l0, if_pos (by omega), right_eq k ops nums strs _ (by omega) (by omega), hx, Option.bind_some, hn]
  refine Ans.succ (Ans.succ (Ans.succ (Ans.congr ?_ key)))
  unfold allR
  unfold allR at h
  by_cases c : rgI x (pre.length : Int) n nums.length strs.length = true
  ·rw [if_pos c]
   rw [if_pos c] at h
   refine Ans.congr (g' := fun k => c_Heights.l0 (k + 2) n n (wrap64 ((pre.length : Int) + 1)) ops nums strs) ?_ fun k => if_pos c
   have ih := l0_ans n ops nums strs hc hn r (pre ++ [x]) (by rw [e]; simp) v (by rw [List.length_append]; exact h)
   rw [List.length_append] at ih
   rw [wrap_id (by omega) (by omega)]
   obtain ⟨m, hm⟩ := ih
   exact ⟨m, fun k hk => hm (k + 2) (by omega)⟩
  ·rw [if_neg c]
   exact Ans.of fun k => if_neg c
theorem allR_rt (n p q : Int) : ∀ (r : List S41) (i : Int), allR n p q r i = none → Rt n p q r i
 | [], i, h => trivial
 | x :: r, i, h => by
  unfold allR at h
  split at h
  ·rename_i c
   exact ⟨c, allR_rt n p q r (i + 1) h⟩
  ·cases h
theorem heights_ans (ops : List S41) (nums : List Int) (strs : List ByteArray) : Ans (fun k => c_Heights.f k ops nums strs) (heightsV ops nums.length strs.length) := by
 unfold heightsV c_Heights.f
 by_cases c : (ops.length : Int) > 131072
 ·rw [if_pos c]
  exact Ans.of fun k => if_pos c
 ·rw [if_neg c]
  refine Ans.congr (g' := fun k => c_Heights.l0 k (ops.length : Int) (ops.length : Int) 0 ops nums strs) ?_ fun k => if_neg c
  exact l0_ans ops.length ops nums strs (by omega) rfl ops [] rfl _ fun h => l2_ans ops.length nums.length strs.length ops rfl (by omega) ops [] (hs0 ops.length) rfl (allR_rt _ _ _ _ _ h) (by rw [hs0_len]; omega) (hs0_b _)
def mostL (m : Int) : List Int → Int
 | [] => m
 | h :: l => mostL (mx m h) l
theorem check_l0 (a e : Int) (hs : List Int) (hl : hs.length < 9223372036854775807) : ∀ (r pre : List Int) (m : Int), hs = pre ++ r → Ans (fun k => c_Check.l0 k a e m hs hs.length (pre.length : Int)) (mostL m r, a, e)
 | [], pre, m, h => by
  refine Ans.succ (Ans.of fun k => ?_)
  have hp : pre.length = hs.length := by rw [h]; simp
  rw [c_Check.l0, if_neg (by omega)]
  rfl
 | x :: r, pre, m, h => by
  have hp : pre.length + 1 + r.length = hs.length := by rw [h]; simp; omega
  refine Ans.succ ?_
  have ih := check_l0 a e hs hl r (pre ++ [x]) (mx m x) (by rw [h]; simp)
  refine Ans.congr ih fun k => ?_
  have hx : rd hs (pre.length : Int) = x := by
   unfold rd
   rw [Int.toNat_natCast, h, List.getD_eq_getElem?_getD, List.getElem?_append_right (Nat.le_refl _), Nat.sub_self]
   rfl
  rw [c_Check.l0, if_pos (by omega), if_pos (by omega), if_pos (by omega), wrap_id (by omega) (by omega), hx]
  congr 1
  rw [List.length_append]
  rfl
def checkV (ops : List S41) (p q : Int) : Int × Int × Int := (mostL 0 (heightsV ops p q).1, (heightsV ops p q).2)
theorem runH_len (n : Int) : ∀ (r : List S41) (i : Int) (hs : List Int), (runH n r i hs).1.length ≤ hs.length
 | [], i, hs => by
  unfold runH
  split <;> simp
 | x :: r, i, hs => by
  unfold runH
  split
  ·simp
  ·rename_i hs' e
   have : hs'.length = hs.length := by
    unfold stepH at e
    split at e
    ·obtain rfl := Option.some.inj e; rfl
    ·split at e
     ·cases e
     ·obtain ⟨hs1, e1, e2⟩ := Option.bind_eq_some_iff.mp e
      exact (put_len e2).trans (put_len e1)
   exact this ▸ runH_len n r (i + 1) hs'
theorem heightsV_len (ops : List S41) (p q : Int) : (heightsV ops p q).1.length ≤ 131073 := by
 unfold heightsV
 split
 ·simp
 ·split
  ·simp
  ·have := runH_len ops.length ops 0 (hs0 ops.length)
   rw [hs0_len] at this
   omega
theorem check_ans (ops : List S41) (nums : List Int) (strs : List ByteArray) : Ans (fun k => c_Check.f k ops nums strs) (checkV ops nums.length strs.length) := by
 unfold c_Check.f
 have hl := heightsV_len ops nums.length strs.length
 exact Ans.bind (heights_ans ops nums strs) (check_l0 _ _ _ (by omega) _ [] 0 rfl)
end Go.Proofs.YtdkejcadoepnnaaDoor.Pl
end
section
set_option linter.unusedVariables false
set_option linter.unusedSimpArgs false
namespace Go.Proofs.YtdkejcadoepnnaaDoor.Pl
open Go.RowKit Go.Proofs.YtdkejcadoepnnaaDoorW.PrintWords Go.Proofs.YtdkejcadoepnnaaDoor.ECc Go.Proofs.YtdkejcadoepnnaaDoor.X
theorem son_size (l : List Int) : (strOfNums l).size = l.length := by
 simp [strOfNums, ByteArray.size]
theorem dig_some {x : Int} (h : x ≤ 9223372036854775807) : xDigits.f x = some (strOfNums (dgL x)) := if_pos h
theorem dig_bytes (x : Int) : bytesOf (strOfNums (dgL x)) = dgL x := bytes_nums _ (dgL_range x.toNat x (Nat.le_refl _))
theorem dgL_len : ∀ (m : Nat) (x : Int), x < 128 ^ (m + 1) → (dgL x).length ≤ m + 1
 | 0, x, h => by
  rw [dgL_small (by omega)]
  simp
 | m + 1, x, h => by
  by_cases c : x ≥ 128
  ·rw [dgL_big c, List.length_cons]
   have : x / 128 < 128 ^ (m + 1) := by
    rw [Int.pow_succ] at h
    omega
   have := dgL_len m (x / 128) this
   omega
  ·rw [dgL_small c]
   simp
theorem dgL_len10 {x : Int} (h : x ≤ 9223372036854775807) : (dgL x).length ≤ 10 := by
 refine dgL_len 9 x ?_
 have e : (128 : Int) ^ (9 + 1) = 1180591620717411303424 := by decide
 rw [e]
 omega
theorem bytesOf_len (s : ByteArray) : (bytesOf s).length = s.size := by
 show (s.data.toList.map _).length = s.data.size
 rw [List.length_map, Array.length_toList]
def opE (x : S41) : List Int := (x.f0 % 256) :: ((if (rowL x.f0).f1 = 0 then [] else dgL x.f1) ++ (if (rowL x.f0).f2 = 0 then [] else dgL x.f2))
def sE (s : ByteArray) : List Int := dgL s.size ++ bytesOf s
def n8 : Nat → Int → List Int
 | 0, _ => []
 | m + 1, d => (d % 256) :: n8 m (d / 256)
theorem n8_len : ∀ (m : Nat) (d : Int), (n8 m d).length = m
 | 0, _ => rfl
 | m + 1, d => by rw [n8, List.length_cons, n8_len m]
def bodyE (ops : List S41) : List Int := dgL ops.length ++ ops.flatMap opE
def textE (ops : List S41) (strs : List ByteArray) : List Int := dgL strs.length ++ (strs.flatMap sE ++ bodyE ops)
def wholeE (ops : List S41) (nums : List Int) (strs : List ByteArray) : List Int := [65, 66, 67, 49] ++ (dgL nums.length ++ (nums.flatMap (n8 8) ++ textE ops strs))
def finE (o : List Int) : List Int × Int := if (o.length : Int) > 16777216 then ([], 3) else (o, 0)
/-- The instruction's numbers are int64. -/
def I64 (x : S41) : Prop := x.f1 ≤ 9223372036854775807 ∧ x.f2 ≤ 9223372036854775807
theorem l4_ans (ops : List S41) (hn : ops.length ≤ 131072) : ∀ (r pre : List S41) (out : List Int), ops = pre ++ r → (∀ x ∈ r, okI x = true ∧ I64 x) → out.length + (r.flatMap opE).length ≤ 140737488355327 →
  Ans (fun k => c_Encode.l4 k out ops (ops.length : Int) (pre.length : Int)) (finE (out ++ r.flatMap opE))
 | [], pre, out, e, hr, hl => by
  refine Ans.succ (Ans.of fun k => ?_)
  have hp : pre.length = ops.length := by rw [e]; simp
  rw [c_Encode.l4, if_neg (by omega)]
  simp only [List.flatMap_nil, List.append_nil]
  unfold finE
  split <;> rfl
 | x :: r, pre, out, e, hr, hl => by
  have hp : pre.length + 1 + r.length = ops.length := by rw [e]; simp; omega
  have hx : rd_T41 ops (pre.length : Int) = x := by rw [e]; exact rd41_at
  obtain ⟨ok, i1, i2⟩ := hr x (by simp)
  have hw := ok_word ok
  refine Ans.succ ?_
  have hl2 : (opE x).length = 1 + ((if (rowL x.f0).f1 = 0 then [] else dgL x.f1).length + (if (rowL x.f0).f2 = 0 then [] else dgL x.f2).length) := by
   unfold opE
   rw [List.length_cons, List.length_append]
   omega
  rw [List.flatMap_cons, List.length_append, hl2] at hl
  have ih := l4_ans ops hn r (pre ++ [x]) (out ++ opE x) (by rw [e]; simp) (fun y hy => hr y (by simp [hy])) (by rw [List.length_append, hl2]; omega)
  rw [List.flatMap_cons, ← List.append_assoc]
  refine Ans.congr ih fun k => ?_
  rw [c_Encode.l4, if_pos (by omega), if_pos (by omega), if_pos (by omega), hx, if_pos (by omega), Option.bind_some, if_pos (by omega), if_pos (by rw [tabL_len]; omega)]
  have hpl : ((pre ++ [x]).length : Int) = wrap64 ((pre.length : Int) + 1) := by
   rw [List.length_append, wrap_id (by omega) (by omega)]; rfl
  rw [hpl]
  have e1 : (out ++ [x.f0 % 256]).length = out.length + 1 := by simp
  unfold opE
  unfold rowL at *
  by_cases c1 : (rd_T72 tabL x.f0).f1 = 0
  ·rw [if_pos c1] at hl ⊢
   rw [if_pos c1]
   by_cases c2 : (rd_T72 tabL x.f0).f2 = 0
   ·rw [if_pos c2, if_pos c2]
    simp
   ·rw [if_neg c2] at hl ⊢
    rw [if_neg c2, dig_some i2, Option.bind_some, son_size, e1, if_pos (by omega), dig_bytes]
    simp
  ·rw [if_neg c1] at hl ⊢
   rw [if_neg c1, dig_some i1, Option.bind_some, son_size, e1, if_pos (by omega), dig_bytes, Option.bind_some]
   by_cases c2 : (rd_T72 tabL x.f0).f2 = 0
   ·rw [if_pos c2, if_pos c2]
    simp
   ·rw [if_neg c2] at hl ⊢
    rw [if_neg c2, dig_some i2, Option.bind_some, son_size, List.length_append, e1, if_pos (by omega), dig_bytes]
    simp
theorem rdOf_at {α : Type} (d : α) {pre r : List α} {x : α} : rdOf d (pre ++ x :: r) (pre.length : Int) = x := by
 unfold rdOf
 rw [Int.toNat_natCast, List.getD_eq_getElem?_getD, List.getElem?_append_right (Nat.le_refl _), Nat.sub_self]
 rfl
theorem l3_ans (ops : List S41) (nums : List Int) (strs : List ByteArray) (hn : ops.length ≤ 131072) (hs : strs.length ≤ 16777216) (ho : ∀ x ∈ ops, okI x = true ∧ I64 x) : ∀ (r pre : List ByteArray) (out : List Int), strs = pre ++ r → out.length + (r.flatMap sE ++ bodyE ops).length ≤ 140737488355327 →
  Ans (fun k => c_Encode.l3 k out strs (strs.length : Int) (pre.length : Int) ops nums strs) (finE (out ++ (r.flatMap sE ++ bodyE ops)))
 | [], pre, out, e, hl => by
  refine Ans.succ ?_
  have hp : pre.length = strs.length := by rw [e]; simp
  simp only [List.flatMap_nil, List.nil_append] at hl ⊢
  unfold bodyE at hl ⊢
  rw [List.length_append] at hl
  rw [← List.append_assoc]
  refine Ans.congr (l4_ans ops hn ops [] (out ++ dgL ops.length) rfl ho (by rw [List.length_append]; omega)) fun k => ?_
  rw [c_Encode.l3, if_neg (by omega), dig_some (by omega), Option.bind_some, son_size, if_pos (by have := dgL_pos ops.length; omega), dig_bytes]
  rfl
 | x :: r, pre, out, e, hl => by
  have hp : pre.length + 1 + r.length = strs.length := by rw [e]; simp; omega
  have hx : rdOf ByteArray.empty strs (pre.length : Int) = x := by rw [e]; exact rdOf_at _
  rw [List.flatMap_cons, List.append_assoc] at hl ⊢
  have hl2 : (sE x).length = (dgL x.size).length + x.size := by unfold sE; rw [List.length_append, bytesOf_len]
  have hl3 : (bodyE ops).length ≥ 1 := by
   unfold bodyE
   have := dgL_pos ops.length
   rw [List.length_append]; omega
  rw [List.length_append, List.length_append, hl2] at hl
  refine Ans.succ ?_
  have ih := l3_ans ops nums strs hn hs ho r (pre ++ [x]) (out ++ sE x) (by rw [e]; simp) (by rw [List.length_append, List.length_append, hl2]; omega)
  rw [← List.append_assoc]
  refine Ans.congr ih fun k => ?_
  rw [c_Encode.l3, if_pos (by omega), if_pos (by omega), if_pos (by omega), hx, dig_some (by omega), Option.bind_some, son_size, if_pos (by omega), Option.bind_some, dig_bytes, List.length_append, if_pos (by omega), wrap_id (by omega) (by omega), List.length_append]
  unfold sE
  rw [List.append_assoc]
  rfl
theorem l2_all (ops : List S41) (nums : List Int) (strs : List ByteArray) (xs : List Int) (n i : Int) : ∀ (m : Nat) (j : Int) (k : Nat) (d : Int) (out : List Int), j + m = 8 → 0 ≤ j → out.length + m ≤ 140737488355327 →
  c_Encode.l2 (k + 1 + m) out d xs n i j ops nums strs = c_Encode.l1 k (out ++ n8 m d) xs n (wrap64 (i + 1)) ops nums strs
 | 0, j, k, d, out, e, h0, hl => by
  rw [show k + 1 + 0 = k + 1 from rfl, c_Encode.l2, if_neg (by omega), n8, List.append_nil]
 | m + 1, j, k, d, out, e, h0, hl => by
  rw [show k + 1 + (m + 1) = (k + 1 + m) + 1 by omega, c_Encode.l2, if_pos (by omega), if_pos (by omega), wrap_id (by omega) (by omega), l2_all ops nums strs xs n i m (j + 1) k (d / 256) (out ++ [d % 256]) (by omega) (by omega) (by rw [List.length_append, List.length_singleton]; omega), n8]
  simp
theorem l1_ansE (ops : List S41) (nums : List Int) (strs : List ByteArray) (hn : ops.length ≤ 131072) (hs : strs.length ≤ 16777216) (hm : nums.length ≤ 2097152) (ho : ∀ x ∈ ops, okI x = true ∧ I64 x) : ∀ (r pre : List Int) (out : List Int), nums = pre ++ r → out.length + (r.flatMap (n8 8) ++ textE ops strs).length ≤ 140737488355327 →
  Ans (fun k => c_Encode.l1 k out nums (nums.length : Int) (pre.length : Int) ops nums strs) (finE (out ++ (r.flatMap (n8 8) ++ textE ops strs)))
 | [], pre, out, e, hl => by
  refine Ans.succ ?_
  have hp : pre.length = nums.length := by rw [e]; simp
  simp only [List.flatMap_nil, List.nil_append] at hl ⊢
  unfold textE at hl ⊢
  rw [List.length_append] at hl
  rw [← List.append_assoc]
  refine Ans.congr (l3_ans ops nums strs hn hs ho strs [] (out ++ dgL strs.length) rfl (by rw [List.length_append]; omega)) fun k => ?_
  have hl3 : (bodyE ops).length ≥ 1 := by
   unfold bodyE
   have := dgL_pos ops.length
   rw [List.length_append]; omega
  rw [List.length_append] at hl
  rw [c_Encode.l1, if_neg (by omega), dig_some (by omega), Option.bind_some, son_size, if_pos (by omega), dig_bytes]
  rfl
 | x :: r, pre, out, e, hl => by
  have hp : pre.length + 1 + r.length = nums.length := by rw [e]; simp; omega
  have hx : rd nums (pre.length : Int) = x := by
   unfold rd
   rw [Int.toNat_natCast, e, List.getD_eq_getElem?_getD, List.getElem?_append_right (Nat.le_refl _), Nat.sub_self]
   rfl
  rw [List.flatMap_cons, List.append_assoc] at hl ⊢
  have hl2 := n8_len 8 x
  rw [List.length_append, hl2] at hl
  have ih := l1_ansE ops nums strs hn hs hm ho r (pre ++ [x]) (out ++ n8 8 x) (by rw [e]; simp) (by rw [List.length_append, hl2]; omega)
  rw [← List.append_assoc]
  refine Ans.succ (Ans.succ (Ans.succ (Ans.succ (Ans.succ (Ans.succ (Ans.succ (Ans.succ (Ans.succ (Ans.succ ?_)))))))))
  refine Ans.congr ih fun k => ?_
  rw [show k + 1 + 1 + 1 + 1 + 1 + 1 + 1 + 1 + 1 + 1 = (k + 1 + 8) + 1 by omega, c_Encode.l1, if_pos (by omega), if_pos (by omega), if_pos (by omega), hx, l2_all ops nums strs nums _ _ 8 0 k x out (by omega) (by omega) (by omega), wrap_id (by omega) (by omega), List.length_append]
  rfl
def sumS : List ByteArray → Nat
 | [] => 0
 | s :: r => s.size + sumS r
/-- Encode's look at the texts. -/
theorem l0_ansE (ops : List S41) (nums : List Int) (strs : List ByteArray) (hz : ∀ s ∈ strs, s.size < 4611686018427387904) (hsl : strs.length < 4611686018427387904) : ∀ (r pre : List ByteArray) (t : Nat), strs = pre ++ r → t ≤ 16777216 → ∀ v : List Int × Int,
  (t + sumS r ≤ 16777216 → Ans (fun k => c_Encode.j1 k (decide (nums.length > 2097152 ∨ strs.length > 16777216)) ops nums strs) v) →
  Ans (fun k => c_Encode.l0 k (t : Int) strs (strs.length : Int) (pre.length : Int) ops nums strs) (if t + sumS r ≤ 16777216 then v else ([], 3))
 | [], pre, t, e, ht, v, h => by
  have hp : pre.length = strs.length := by rw [e]; simp
  rw [if_pos (show t + sumS [] ≤ 16777216 from ht)]
  replace h := h ht
  refine Ans.succ (Ans.congr h fun k => ?_)
  rw [c_Encode.l0, if_neg (by omega)]
  by_cases c : (nums.length : Int) > 2097152
  ·rw [if_pos c]
   congr 1
   exact (decide_eq_true (.inl (by omega))).symm
  ·rw [if_neg c]
   congr 1
   by_cases d : strs.length > 16777216
   ·rw [decide_eq_true (by omega), decide_eq_true (.inr d)]
   ·rw [decide_eq_false (by omega), decide_eq_false (by omega)]
 | x :: r, pre, t, e, ht, v, h => by
  have hp : pre.length + 1 + r.length = strs.length := by rw [e]; simp; omega
  have hx : rdOf ByteArray.empty strs (pre.length : Int) = x := by rw [e]; exact rdOf_at _
  have hzx := hz x (by rw [e]; simp)
  have hsum : sumS (x :: r) = x.size + sumS r := rfl
  refine Ans.succ ?_
  have key : ∀ k, c_Encode.l0 (k + 1) (t : Int) strs (strs.length : Int) (pre.length : Int) ops nums strs = if t + x.size > 16777216 then some ([], 3) else c_Encode.l0 k ((t + x.size : Nat) : Int) strs (strs.length : Int) ((pre ++ [x]).length : Int) ops nums strs := by
   intro k
   rw [c_Encode.l0, if_pos (by omega), if_pos (by omega), if_pos (by omega), hx, wrap_id (by omega) (by omega), wrap_id (by omega) (by omega), List.length_append]
   by_cases c : t + x.size > 16777216
   ·rw [if_pos c, if_pos (by omega)]
   ·rw [if_neg c, if_neg (by omega)]
    rfl
  refine Ans.congr ?_ key
  by_cases c : t + x.size > 16777216
  ·rw [if_neg (by omega)]
   exact Ans.of fun k => if_pos c
  ·have ih := l0_ansE ops nums strs hz hsl r (pre ++ [x]) (t + x.size) (by rw [e]; simp) (by omega) v (fun hh => h (by omega))
   have e2 : (if t + sumS (x :: r) ≤ 16777216 then v else ([], 3)) = (if t + x.size + sumS r ≤ 16777216 then v else ([], 3)) := by
    by_cases d : t + x.size + sumS r ≤ 16777216
    ·rw [if_pos d, if_pos (by omega)]
    ·rw [if_neg d, if_neg (by omega)]
   rw [e2]
   exact Ans.congr ih fun k => if_neg c
def encodeV (ops : List S41) (nums : List Int) (strs : List ByteArray) : List Int × Int :=
 if (checkV ops nums.length strs.length).2.2 = 0 then
  (if sumS strs ≤ 16777216 then (if nums.length > 2097152 ∨ strs.length > 16777216 then ([], 3) else finE (wholeE ops nums strs)) else ([], 3))
 else ([], (checkV ops nums.length strs.length).2.2)
theorem flat_le {α : Type} (f : α → List Int) (c : Nat) : ∀ l : List α, (∀ x ∈ l, (f x).length ≤ c) → (l.flatMap f).length ≤ c * l.length
 | [], h => by simp
 | x :: l, h => by
  rw [List.flatMap_cons, List.length_append, List.length_cons]
  have := flat_le f c l (fun y hy => h y (by simp [hy]))
  have := h x (by simp)
  rw [Nat.mul_add]
  omega
theorem sE_le : ∀ l : List ByteArray, (∀ s ∈ l, s.size < 4611686018427387904) → (l.flatMap sE).length ≤ 10 * l.length + sumS l
 | [], h => by simp [sumS]
 | x :: l, h => by
  rw [List.flatMap_cons, List.length_append, List.length_cons, sumS]
  have := sE_le l (fun y hy => h y (by simp [hy]))
  have h1 := h x (by simp)
  have h2 : (sE x).length = (dgL x.size).length + x.size := by unfold sE; rw [List.length_append, bytesOf_len]
  have := dgL_len10 (x := x.size) (by omega)
  omega
theorem opE_le {x : S41} (h : I64 x) : (opE x).length ≤ 21 := by
 unfold opE
 rw [List.length_cons, List.length_append]
 have := dgL_len10 h.1
 have := dgL_len10 h.2
 split <;> split <;> simp <;> omega
theorem whole_len {ops : List S41} {nums : List Int} {strs : List ByteArray} (ho : ∀ x ∈ ops, I64 x) (hz : ∀ s ∈ strs, s.size < 4611686018427387904) (hn : ops.length ≤ 131072) (h1 : sumS strs ≤ 16777216) (h2 : nums.length ≤ 2097152) (h3 : strs.length ≤ 16777216) : (wholeE ops nums strs).length ≤ 1000000000 := by
 unfold wholeE textE bodyE
 simp only [List.length_append]
 have a1 := dgL_len10 (x := ops.length) (by omega)
 have a2 := dgL_len10 (x := nums.length) (by omega)
 have a3 := dgL_len10 (x := strs.length) (by omega)
 have a4 := flat_le opE 21 ops (fun x hx => opE_le (ho x hx))
 have a5 := flat_le (n8 8) 8 nums (fun x hx => by rw [n8_len]; omega)
 have a6 := sE_le strs hz
 simp only [List.length_cons, List.length_nil]
 omega
theorem hv_ok {ops : List S41} {p q : Int} (h : (heightsV ops p q).2.2 = 0) : ops.length ≤ 131072 ∧ Rt ops.length p q ops 0 ∧ heightsV ops p q = runH ops.length ops 0 (hs0 ops.length) := by
 unfold heightsV at h ⊢
 by_cases c : (ops.length : Int) > 131072
 ·rw [if_pos c] at h
  cases h
 ·rw [if_neg c] at h ⊢
  cases e : allR ops.length p q ops 0 with
  | some i =>
   rw [e] at h
   cases h
  | none => exact ⟨by omega, allR_rt _ _ _ _ _ e, rfl⟩
theorem rt_ok {n p q : Int} : ∀ (r : List S41) (i : Int), Rt n p q r i → ∀ x ∈ r, okI x = true
 | x :: r, i, h, y, hy => by
  rcases List.mem_cons.1 hy with rfl | hy
  ·exact (jump_in h.1).1
  ·exact rt_ok r (i + 1) h.2 y hy
theorem encode_ans (ops : List S41) (nums : List Int) (strs : List ByteArray) (ho : ∀ x ∈ ops, I64 x) (hz : ∀ s ∈ strs, s.size < 4611686018427387904) (hsl : strs.length < 4611686018427387904) :
  Ans (fun k => c_Encode.f k ops nums strs) (encodeV ops nums strs) := by
 unfold c_Encode.f encodeV
 refine Ans.bind (check_ans ops nums strs) ?_
 by_cases c : (checkV ops nums.length strs.length).2.2 = 0
 ·rw [if_pos c]
  refine Ans.congr (g' := fun k => c_Encode.l0 k ((0 : Nat) : Int) strs (strs.length : Int) (([] : List ByteArray).length : Int) ops nums strs) ?_ fun k => if_pos c
  obtain ⟨hn, hr, -⟩ := hv_ok c
  have := l0_ansE ops nums strs hz hsl strs [] 0 rfl (by omega) (if nums.length > 2097152 ∨ strs.length > 16777216 then ([], 3) else finE (wholeE ops nums strs)) (fun hh => ?_)
  ·rw [Nat.zero_add] at this
   exact this
  ·refine Ans.succ ?_
   by_cases d : nums.length > 2097152 ∨ strs.length > 16777216
   ·rw [if_pos d]
    refine Ans.of fun k => ?_
    rw [decide_eq_true d, c_Encode.j1, if_pos rfl]
   ·rw [if_neg d]
    have hwl := whole_len (nums := nums) (strs := strs) ho hz hn (by omega) (by omega) (by omega)
    have hwl2 := hwl
    unfold wholeE at hwl2 ⊢
    rw [← List.append_assoc, List.length_append] at hwl2
    rw [← List.append_assoc]
    refine Ans.congr (l1_ansE ops nums strs hn (by omega) (by omega) (fun x hx => ⟨rt_ok _ _ hr x hx, ho x hx⟩) nums [] ([65, 66, 67, 49] ++ dgL nums.length) rfl (by omega)) fun k => ?_
    have a2 := dgL_len10 (x := nums.length) (by omega)
    rw [decide_eq_false d, c_Encode.j1, if_neg (by decide), Option.bind_some, dig_some (by omega), Option.bind_some, son_size, if_pos (by simp only [List.length_cons, List.length_nil]; omega), dig_bytes]
    rfl
 ·rw [if_neg c]
  exact Ans.of fun k => if_neg c
end Go.Proofs.YtdkejcadoepnnaaDoor.Pl
end
section
set_option linter.unusedVariables false
set_option linter.unusedSimpArgs false
namespace Go.Proofs.YtdkejcadoepnnaaDoor.Pl
open Go.RowKit Go.Proofs.YtdkejcadoepnnaaDoorW.PrintWords Go.Proofs.YtdkejcadoepnnaaDoor.ECc Go.Proofs.YtdkejcadoepnnaaDoor.X
theorem bytes_app (a b : ByteArray) : bytesOf (a ++ b) = bytesOf a ++ bytesOf b := by
 unfold bytesOf
 rw [ByteArray.data_append, Array.toList_append, List.map_append]
theorem u64_and15 {x : Int} (h₀ : 0 ≤ x) (h₁ : x < 2 ^ 64) : Go.bits .and .u64 x 15 = x % 16 := Go.bits_mask .u64 64 (by decide) (fun n h0 h1 => by simp [IntKind.wrap, IntKind.bits, IntKind.signed]; omega) 4 (by decide) x h₀ h₁
theorem shr64 {x : Int} {m : Nat} (hm : m ≤ 64) : shr .u64 x (m : Int) = x / 2 ^ m := by
 unfold shr
 rw [Int.toNat_natCast]
 congr 2
 show min m 64 = m
 omega
theorem div_range {x : Int} (m : Nat) (h0 : 0 ≤ x) (h1 : x < 2 ^ 64) : 0 ≤ x / 2 ^ m ∧ x / 2 ^ m < 2 ^ 64 := by
 have hp : (0 : Int) < 2 ^ m := Int.pow_pos (by decide)
 refine ⟨Int.ediv_nonneg h0 (Int.le_of_lt hp), ?_⟩
 exact Int.lt_of_le_of_lt (Int.ediv_le_self _ h0) h1
def hexL : Nat → Int → List Int
 | 0, _ => []
 | m + 1, x => bt hexT (x / 2 ^ (4 * m) % 16) :: hexL m x
theorem hexL_len : ∀ (m : Nat) (x : Int), (hexL m x).length = m
 | 0, _ => rfl
 | m + 1, x => by rw [hexL, List.length_cons, hexL_len m]
theorem line_l0 (ops : List S41) (nums : List Int) (strs : List ByteArray) (f0 f1 f2 : Int) (h0 : 0 ≤ f1) (h1 : f1 < (nums.length : Int)) (hu : 0 ≤ rd nums f1 ∧ rd nums f1 < 2 ^ 64) : ∀ (m k : Nat) (out : List Int), m ≤ 16 → out.length + m < 140737488355327 →
  c_line.l0 (k + 1 + m) (4 * (m : Int) - 4) out ops nums strs f0 f1 f2 = some (out ++ hexL m (rd nums f1) ++ [10])
 | 0, k, out, hm, hl => by
  rw [show k + 1 + 0 = k + 1 from rfl, c_line.l0, if_neg (by omega), if_pos (by omega), hexL, List.append_nil]
 | m + 1, k, out, hm, hl => by
  have e1 : (4 * ((m + 1 : Nat) : Int) - 4) = ((4 * m : Nat) : Int) := by omega
  obtain ⟨d0, d1⟩ := div_range (4 * m) hu.1 hu.2
  have ea : Go.bits .and .u64 (shr .u64 (rd nums f1) ((4 * m : Nat) : Int)) 15 = rd nums f1 / 2 ^ (4 * m) % 16 := by rw [shr64 (by omega), u64_and15 d0 d1]
  have ih := line_l0 ops nums strs f0 f1 f2 h0 h1 hu m k (out ++ [bt hexT (rd nums f1 / 2 ^ (4 * m) % 16)]) (by omega) (by rw [List.length_append, List.length_singleton]; omega)
  rw [show k + 1 + (m + 1) = (k + 1 + m) + 1 by omega, c_line.l0, e1, if_pos (by omega), if_pos h0, if_pos h1, if_pos (by omega), ea, if_pos (by omega), if_pos (by omega), if_pos (by omega), wrap_id (by omega) (by omega), show ((4 * m : Nat) : Int) - 4 = 4 * (m : Int) - 4 by omega]
  rw [hexL]
  refine Eq.trans ?_ (ih.trans ?_)
  ·rfl
  ·simp
def itL (n : Int) : List Int := (Lib.itoa n).map fun b => (b.toNat : Int)
theorem it_some {n : Int} (h0 : -9223372036854775808 ≤ n) (h1 : n ≤ 9223372036854775807) : xItoa.f n = some ⟨(Lib.itoa n).toArray⟩ := if_pos ⟨h0, h1⟩
theorem it_bytes (n : Int) : bytesOf ⟨(Lib.itoa n).toArray⟩ = itL n := rfl
theorem it_size (n : Int) : (ByteArray.mk (Lib.itoa n).toArray).size = (itL n).length := by
 unfold itL
 rw [List.length_map]
 rfl
theorem itL_len {n : Int} (h0 : -9223372036854775808 ≤ n) (h1 : n ≤ 9223372036854775807) : (itL n).length ≤ 21 := by
 unfold itL
 rw [List.length_map]
 exact Lib.itoa_length_le n h0 h1
theorem app_size (a b : ByteArray) : (a ++ b).size = a.size + b.size := by rw [← bytesOf_len, bytes_app, List.length_append, bytesOf_len, bytesOf_len]
theorem qP_len (c : Int) : (qP c).length ≤ 4 := by
 unfold qP
 split <;> simp
theorem qL_len (s : ByteArray) : ∀ (m i : Nat), (qL s i m).length ≤ 4 * m
 | 0, i => by simp [qL]
 | m + 1, i => by
  rw [qL, List.length_append]
  have := qP_len (bt s (i : Int))
  have := qL_len s m (i + 1)
  omega
theorem qT_len (s : ByteArray) : (qT s).length ≤ 4 * s.size + 2 := by
 unfold qT
 rw [List.length_append, List.length_append, List.length_singleton]
 have := qL_len s s.size 0
 simp
 omega
def nmL (w : Int) : List Int := bytesOf (rowL w).f0
def chkName (p : S72) : Bool := decide (p.f0.size ≤ 9) && (bytesOf p.f0).all (fun b => decide (97 ≤ b) && decide (b ≤ 122))
set_option maxRecDepth 100000 in
theorem chk_names : tabL.all chkName = true := by kernel_rfl
theorem name_at (w : Int) : (nmL w).length ≤ 9 ∧ ∀ b ∈ nmL w, 97 ≤ b ∧ b ≤ 122 := by
 have h : chkName (rowL w) = true := by
  unfold rowL rd_T72
  rw [List.getD_eq_getElem?_getD]
  cases e : tabL[w.toNat]? with
  | none => decide
  | some p => exact List.all_eq_true.mp chk_names p (List.mem_of_getElem? e)
 unfold chkName at h
 simp only [Bool.and_eq_true, decide_eq_true_eq, List.all_eq_true] at h
 refine ⟨?_, h.2⟩
 unfold nmL
 rw [bytesOf_len]
 exact h.1
def argL (kind v : Int) : List Int := if kind = 0 then [] else 32 :: itL v
def tailL (x : S41) (nums : List Int) (strs : List ByteArray) : List Int := if x.f0 = 1 then 32 :: hexL 16 (rd nums x.f1) else if x.f0 = 2 then 32 :: qT (rdOf ByteArray.empty strs x.f1) else []
/-- The line of instruction x at place i. -/
def lineV (i : Int) (x : S41) (nums : List Int) (strs : List ByteArray) : List Int :=
 itL i ++ ([58, 32] ++ (nmL x.f0 ++ (argL (rowL x.f0).f1 x.f1 ++ (argL (rowL x.f0).f2 x.f2 ++ (tailL x nums strs ++ [10])))))
def U64 (nums : List Int) : Prop := ∀ x ∈ nums, 0 ≤ x ∧ x < 2 ^ 64
theorem rd_mem {nums : List Int} {i : Int} (h0 : 0 ≤ i) (h1 : i < nums.length) : rd nums i ∈ nums := by
 unfold rd
 rw [List.getD_eq_getElem?_getD, List.getElem?_eq_getElem (by omega)]
 exact List.getElem_mem _
theorem line_j1 (k : Nat) (ops : List S41) (nums : List Int) (strs : List ByteArray) (x : S41) (out : List Int) (i : Int) (hr : rgI x i ops.length nums.length strs.length = true) (hu : U64 nums) (hs : x.f0 = 2 → (rdOf ByteArray.empty strs x.f1).size ≤ 16777216) (hl : out.length ≤ 100000000) :
  c_line.j1 (k + 18) out ops nums strs x.f0 x.f1 x.f2 (rowL x.f0).f0 (rowL x.f0).f1 (rowL x.f0).f2 (rowL x.f0).f3 (rowL x.f0).f4 = some (out ++ (tailL x nums strs ++ [10])) := by
 have ok := (jump_in hr).1
 have hw := ok_word ok
 obtain ⟨⟨ha, hb, -⟩, -, -⟩ := row_at x.f0 (by omega) (by omega)
 unfold rgI at hr
 simp only [Bool.and_eq_true] at hr
 have hr2 := hr.2
 unfold tailL
 rw [c_line.j1]
 by_cases c1 : x.f0 = 1
 ·rw [if_pos (ha.mpr c1), if_pos c1, if_pos (by omega)]
  rw [if_pos c1] at hr2
  have hr2 := of_decide_eq_true hr2
  have h0 := num_pos ok (.inl c1)
  have := line_l0 ops nums strs x.f0 x.f1 x.f2 h0 hr2 (hu _ (rd_mem h0 hr2)) 16 k (out ++ [32]) (by omega) (by rw [List.length_append, List.length_singleton]; omega)
  rw [show k + 17 = k + 1 + 16 from rfl]
  refine this.trans ?_
  simp
 ·rw [if_neg (fun h => c1 (ha.mp h)), if_neg c1]
  rw [if_neg c1] at hr2
  by_cases c2 : x.f0 = 2
  ·rw [if_pos (hb.mpr c2), if_pos c2, if_pos (by omega), Option.bind_some]
   rw [if_pos c2] at hr2
   have hr2 := of_decide_eq_true hr2
   have h0 := num_pos ok (.inr c2)
   have hs := hs c2
   have hq := qT_len (rdOf ByteArray.empty strs x.f1)
   have hx : xQuoted.f (rdOf ByteArray.empty strs x.f1) = some (strOfNums (qT (rdOf ByteArray.empty strs x.f1))) := if_pos (by omega)
   rw [if_pos h0, if_pos hr2, hx, Option.bind_some, son_size, List.length_append, List.length_singleton, if_pos (by omega), Option.bind_some, numsBytes _ (qT_range _), List.length_append, List.length_append, List.length_singleton, if_pos (by omega)]
   simp
  ·rw [if_neg (fun h => c2 (hb.mp h)), if_neg c2, if_pos (by omega)]
   rfl
theorem line_j0 (k : Nat) (ops : List S41) (nums : List Int) (strs : List ByteArray) (x : S41) (out : List Int) (i : Int) (hr : rgI x i ops.length nums.length strs.length = true) (hu : U64 nums) (hs : x.f0 = 2 → (rdOf ByteArray.empty strs x.f1).size ≤ 16777216) (hl : out.length ≤ 50000000) (hi : -9223372036854775808 ≤ x.f2 ∧ x.f2 ≤ 9223372036854775807) :
  c_line.j0 (k + 19) out ops nums strs x.f0 x.f1 x.f2 (rowL x.f0).f0 (rowL x.f0).f1 (rowL x.f0).f2 (rowL x.f0).f3 (rowL x.f0).f4 = some (out ++ (argL (rowL x.f0).f2 x.f2 ++ (tailL x nums strs ++ [10]))) := by
 rw [c_line.j0]
 unfold argL
 by_cases c : (rowL x.f0).f2 = 0
 ·rw [if_pos c, if_pos c, line_j1 k ops nums strs x out i hr hu hs (by omega)]
  rfl
 ·have hlen := itL_len hi.1 hi.2
  have e1 : (⟨#[32]⟩ : ByteArray).size = 1 := rfl
  rw [if_neg c, if_neg c, it_some hi.1 hi.2, Option.bind_some, it_size, if_pos (by omega), app_size, it_size, e1, if_pos (by omega), bytes_app, it_bytes, line_j1 k ops nums strs x _ i hr hu hs (by rw [List.length_append, List.length_append]; show _ + (1 + _) ≤ _; omega)]
  simp [bytesOf]
theorem line_eq (k : Nat) (ops : List S41) (nums : List Int) (strs : List ByteArray) (out : List Int) (i : Int) (h0 : 0 ≤ i) (h1 : i < (ops.length : Int)) (h2 : (ops.length : Int) < 9223372036854775807) (hr : rgI (rd_T41 ops i) i ops.length nums.length strs.length = true) (hu : U64 nums) (hs : (rd_T41 ops i).f0 = 2 → (rdOf ByteArray.empty strs (rd_T41 ops i).f1).size ≤ 16777216) (hl : out.length ≤ 20000000)
  (hi1 : -9223372036854775808 ≤ (rd_T41 ops i).f1 ∧ (rd_T41 ops i).f1 ≤ 9223372036854775807) (hi2 : -9223372036854775808 ≤ (rd_T41 ops i).f2 ∧ (rd_T41 ops i).f2 ≤ 9223372036854775807) :
  c_line.f (k + 19) out tabL ops nums strs i = some (out ++ lineV i (rd_T41 ops i) nums strs) := by
 revert hr hs hi1 hi2
 unfold c_line.f
 generalize rd_T41 ops i = x
 intro hr hs hi1 hi2
 have ok := (jump_in hr).1
 have hw := ok_word ok
 have hlen := itL_len (n := i) (by omega) (by omega)
 have hlen1 := itL_len hi1.1 hi1.2
 obtain ⟨hn, -⟩ := name_at x.f0
 have hn' : (rowL x.f0).f0.size ≤ 9 := by
  unfold nmL at hn
  rw [bytesOf_len] at hn
  exact hn
 have e2 : (⟨#[58, 32]⟩ : ByteArray).size = 2 := rfl
 have e1 : (⟨#[32]⟩ : ByteArray).size = 1 := rfl
 have b2 : bytesOf (⟨#[58, 32]⟩ : ByteArray) = [58, 32] := rfl
 have b1 : bytesOf (⟨#[32]⟩ : ByteArray) = [32] := rfl
 have er : rd_T72 tabL x.f0 = rowL x.f0 := rfl
 have hsz : ((ByteArray.mk (Lib.itoa i).toArray ++ (⟨#[58, 32]⟩ : ByteArray)) ++ (rowL x.f0).f0).size = (itL i).length + 2 + (rowL x.f0).f0.size := by rw [app_size, app_size, it_size, e2]
 rw [if_pos h0, if_pos h1, if_pos (by omega), if_pos (by rw [tabL_len]; omega), it_some (by omega) (by omega), Option.bind_some, it_size, if_pos (by omega), app_size, it_size, e2, er, if_pos (by omega), hsz, if_pos (by omega), Option.bind_some, bytes_app, bytes_app, it_bytes, b2]
 have hnm : bytesOf (rowL x.f0).f0 = nmL x.f0 := rfl
 rw [hnm]
 by_cases c : (rowL x.f0).f1 = 0
 ·have ea : argL (rowL x.f0).f1 x.f1 = [] := by unfold argL; rw [if_pos c]
  unfold lineV
  rw [ea, if_pos c, line_j0 k ops nums strs x _ i hr hu hs (by simp only [List.length_append, List.length_cons, List.length_nil]; omega) hi2]
  simp only [List.append_assoc, List.nil_append]
 ·have ea : argL (rowL x.f0).f1 x.f1 = 32 :: itL x.f1 := by unfold argL; rw [if_neg c]
  unfold lineV
  rw [ea, if_neg c, it_some hi1.1 hi1.2, Option.bind_some, it_size, if_pos (by omega), app_size, it_size, e1, if_pos (by simp only [List.length_append, List.length_cons, List.length_nil]; omega), bytes_app, it_bytes, b1, line_j0 k ops nums strs x _ i hr hu hs (by simp only [List.length_append, List.length_cons, List.length_nil]; omega) hi2]
  simp only [List.append_assoc, List.cons_append, List.nil_append]
theorem xLine_eq (ops : List S41) (nums : List Int) (strs : List ByteArray) (i : Int) (h0 : 0 ≤ i) (h1 : i < (ops.length : Int)) (h2 : (ops.length : Int) < 9223372036854775807) (hr : rgI (rd_T41 ops i) i ops.length nums.length strs.length = true) (hu : U64 nums) (hs : (rd_T41 ops i).f0 = 2 → (rdOf ByteArray.empty strs (rd_T41 ops i).f1).size ≤ 16777216)
  (hi1 : -9223372036854775808 ≤ (rd_T41 ops i).f1 ∧ (rd_T41 ops i).f1 ≤ 9223372036854775807) (hi2 : -9223372036854775808 ≤ (rd_T41 ops i).f2 ∧ (rd_T41 ops i).f2 ≤ 9223372036854775807) :
  xLine.f tabL ops nums strs i = some (strOfNums (lineV i (rd_T41 ops i) nums strs)) := by
 unfold xLine.f
 rw [show (40 : Nat) = 21 + 19 from rfl, line_eq 21 ops nums strs [] i h0 h1 h2 hr hu hs (by simp) hi1 hi2]
 rfl
end Go.Proofs.YtdkejcadoepnnaaDoor.Pl
end
section
set_option linter.unusedVariables false
set_option linter.unusedSimpArgs false
namespace Go.Proofs.YtdkejcadoepnnaaDoor.Pl
open Go.RowKit Go.Proofs.YtdkejcadoepnnaaDoorW.PrintWords Go.Proofs.YtdkejcadoepnnaaDoor.ECc Go.Proofs.YtdkejcadoepnnaaDoor.X
/-- The instruction's numbers are int64. -/
def J64 (x : S41) : Prop := (-9223372036854775808 ≤ x.f1 ∧ x.f1 ≤ 9223372036854775807) ∧ (-9223372036854775808 ≤ x.f2 ∧ x.f2 ≤ 9223372036854775807)
theorem J64.i {x : S41} (h : J64 x) : I64 x := ⟨h.1.2, h.2.2⟩
/-- The lines from place i on, behind out; none: too long. -/
def listR (nums : List Int) (strs : List ByteArray) : List S41 → Int → List Int → Option (List Int)
 | [], _, out => some out
 | x :: r, i, out => if x.f0 = 2 ∧ (rdOf ByteArray.empty strs x.f1).size > 16777216 then none
  else if (out ++ lineV i x nums strs).length > 16777216 then none else listR nums strs r (i + 1) (out ++ lineV i x nums strs)
theorem lineV_range (i : Int) (x : S41) (nums : List Int) (strs : List ByteArray) : ∀ d ∈ lineV i x nums strs, 0 ≤ d ∧ d < 256 := by
 have hit : ∀ n : Int, ∀ d ∈ itL n, 0 ≤ d ∧ d < 256 := by
  intro n d hd
  unfold itL at hd
  obtain ⟨b, -, rfl⟩ := List.mem_map.1 hd
  have := b.toNat_lt
  omega
 have harg : ∀ k n : Int, ∀ d ∈ argL k n, 0 ≤ d ∧ d < 256 := by
  intro k n d hd
  unfold argL at hd
  split at hd
  ·simp at hd
  ·rcases List.mem_cons.1 hd with rfl | hd
   ·omega
   ·exact hit n d hd
 have hhex : ∀ (m : Nat) (v : Int), ∀ d ∈ hexL m v, 0 ≤ d ∧ d < 256 := by
  intro m
  induction m with
  | zero => intro v d hd; simp [hexL] at hd
  | succ m ih =>
   intro v d hd
   rw [hexL] at hd
   rcases List.mem_cons.1 hd with rfl | hd
   ·have := bt_range hexT (v / 2 ^ (4 * m) % 16)
    omega
   ·exact ih v d hd
 have htail : ∀ d ∈ tailL x nums strs, 0 ≤ d ∧ d < 256 := by
  intro d hd
  unfold tailL at hd
  split at hd
  ·rcases List.mem_cons.1 hd with rfl | hd
   ·omega
   ·exact hhex _ _ d hd
  ·split at hd
   ·rcases List.mem_cons.1 hd with rfl | hd
    ·omega
    ·exact qT_range _ d hd
   ·simp at hd
 intro d hd
 unfold lineV at hd
 simp only [List.mem_append, List.mem_cons, List.not_mem_nil, or_false] at hd
 rcases hd with hd | (rfl | rfl) | hd | hd | hd | hd | rfl
 ·exact hit _ d hd
 ·omega
 ·omega
 ·have := (name_at x.f0).2 d hd
  omega
 ·exact harg _ _ d hd
 ·exact harg _ _ d hd
 ·exact htail d hd
 ·omega
theorem argL_len (k : Int) {n : Int} (h0 : -9223372036854775808 ≤ n) (h1 : n ≤ 9223372036854775807) : (argL k n).length ≤ 22 := by
 unfold argL
 split
 ·simp
 ·have := itL_len h0 h1
  rw [List.length_cons]
  omega
theorem lineV_len (i : Int) (x : S41) (nums : List Int) (strs : List ByteArray) (h0 : -9223372036854775808 ≤ i) (h1 : i ≤ 9223372036854775807) (hj : J64 x) (hs : x.f0 = 2 → (rdOf ByteArray.empty strs x.f1).size ≤ 16777216) : (lineV i x nums strs).length ≤ 100000000 := by
 have a0 := itL_len h0 h1
 have a1 := argL_len (rowL x.f0).f1 hj.1.1 hj.1.2
 have a2 := argL_len (rowL x.f0).f2 hj.2.1 hj.2.2
 have a3 := (name_at x.f0).1
 have a4 : (tailL x nums strs).length ≤ 70000000 := by
  unfold tailL
  split
  ·rw [List.length_cons, hexL_len]; omega
  ·split
   ·rename_i c
    have := hs c
    have := qT_len (rdOf ByteArray.empty strs x.f1)
    rw [List.length_cons]; omega
   ·simp
 unfold lineV
 simp only [List.length_append, List.length_cons, List.length_nil]
 omega
def outL (o : Option (List Int)) : ByteArray × Int := match o with
 | some l => (strOfNums l, 0)
 | none => (⟨#[]⟩, 3)
theorem listR_ans (ops : List S41) (nums : List Int) (strs : List ByteArray) (hn : ops.length ≤ 131072) (hu : U64 nums) (hj : ∀ x ∈ ops, J64 x) : ∀ (r pre : List S41) (out : List Int), ops = pre ++ r → Rt ops.length nums.length strs.length r pre.length → out.length ≤ 16777216 →
  Ans (fun k => c_List.l0 k (ops.length : Int) (pre.length : Int) out ops nums strs) (outL (listR nums strs r pre.length out))
 | [], pre, out, e, hr, hl => by
  refine Ans.succ (Ans.of fun k => ?_)
  have hp : pre.length = ops.length := by rw [e]; simp
  rw [c_List.l0, if_neg (by omega)]
  rfl
 | x :: r, pre, out, e, hr, hl => by
  have hp : pre.length + 1 + r.length = ops.length := by rw [e]; simp; omega
  have hx : rd_T41 ops (pre.length : Int) = x := by rw [e]; exact rd41_at
  have hjx := hj x (by rw [e]; simp)
  have ok := (jump_in hr.1).1
  have key : ∀ k, c_List.l0 (k + 1) (ops.length : Int) (pre.length : Int) out ops nums strs = c_List.j1 k tabL (pre.length : Int) (ops.length : Int) (pre.length : Int) (decide (x.f0 = 2 ∧ (rdOf ByteArray.empty strs x.f1).size > 16777216)) out ops nums strs := by
   intro k
   rw [c_List.l0, if_pos (by omega), if_pos (by omega), if_pos (by omega), hx]
   by_cases c : x.f0 = 2
   ·have hr1 := hr.1
    unfold rgI at hr1
    simp only [Bool.and_eq_true] at hr1
    have hr2 := hr1.2
    rw [if_neg (by omega), if_pos c] at hr2
    have hr2 := of_decide_eq_true hr2
    rw [if_pos c, if_pos (num_pos ok (.inr c)), if_pos hr2]
    congr 1
    by_cases d : (rdOf ByteArray.empty strs x.f1).size > 16777216
    ·rw [decide_eq_true (by omega), decide_eq_true ⟨c, d⟩]
    ·rw [decide_eq_false (by omega), decide_eq_false (fun h => d h.2)]
   ·rw [if_neg c, decide_eq_false (fun h => c h.1)]
  refine Ans.succ (Ans.congr ?_ key)
  refine Ans.succ ?_
  unfold listR
  by_cases c : x.f0 = 2 ∧ (rdOf ByteArray.empty strs x.f1).size > 16777216
  ·rw [if_pos c]
   refine Ans.of fun k => ?_
   rw [c_List.j1, decide_eq_true c, if_pos rfl]
   rfl
  ·rw [if_neg c]
   have hs : x.f0 = 2 → (rdOf ByteArray.empty strs x.f1).size ≤ 16777216 := fun h2 => by
    apply Nat.le_of_not_lt
    exact fun h => c ⟨h2, h⟩
   have hsz : xLine.f tabL ops nums strs (pre.length : Int) = some (strOfNums (lineV pre.length x nums strs)) ∧ (lineV pre.length x nums strs).length ≤ 100000000 := by
    have hx' : x = rd_T41 ops (pre.length : Int) := hx.symm
    refine ⟨?_, lineV_len _ _ _ _ (by omega) (by omega) hjx hs⟩
    have := xLine_eq ops nums strs (pre.length : Int) (by omega) (by omega) (by omega) (by rw [hx]; exact hr.1) hu (by rw [hx]; exact hs) (by rw [hx]; exact hjx.1) (by rw [hx]; exact hjx.2)
    rw [hx] at this
    exact this
   have hb : bytesOf (strOfNums (lineV pre.length x nums strs)) = lineV pre.length x nums strs := numsBytes _ (lineV_range _ _ _ _)
   have key2 : ∀ k, c_List.j1 (k + 1) tabL (pre.length : Int) (ops.length : Int) (pre.length : Int) (decide (x.f0 = 2 ∧ (rdOf ByteArray.empty strs x.f1).size > 16777216)) out ops nums strs = if (out ++ lineV pre.length x nums strs).length > 16777216 then some (⟨#[]⟩, 3) else c_List.l0 k (ops.length : Int) ((pre ++ [x]).length : Int) (out ++ lineV pre.length x nums strs) ops nums strs := by
    intro k
    rw [c_List.j1, decide_eq_false c, if_neg (by decide), hsz.1, Option.bind_some, son_size, if_pos (by omega), Option.bind_some, hb, wrap_id (by omega) (by omega), show ((pre ++ [x]).length : Int) = (pre.length : Int) + 1 by rw [List.length_append]; rfl]
    by_cases d : (out ++ lineV pre.length x nums strs).length > 16777216
    ·rw [if_pos d, if_pos (by omega)]
    ·rw [if_neg d, if_neg (by omega)]
   refine Ans.congr ?_ key2
   by_cases d : (out ++ lineV pre.length x nums strs).length > 16777216
   ·rw [if_pos d]
    exact Ans.of fun k => if_pos d
   ·rw [if_neg d]
    have ih := listR_ans ops nums strs hn hu hj r (pre ++ [x]) (out ++ lineV pre.length x nums strs) (by rw [e]; simp) (by rw [List.length_append]; exact hr.2) (by omega)
    rw [List.length_append] at ih
    refine Ans.congr ih fun k => ?_
    rw [if_neg d, List.length_append]
def listV (ops : List S41) (nums : List Int) (strs : List ByteArray) : ByteArray × Int :=
 if (checkV ops nums.length strs.length).2.2 = 0 then outL (listR nums strs ops 0 []) else (⟨#[]⟩, (checkV ops nums.length strs.length).2.2)
theorem list_ans (ops : List S41) (nums : List Int) (strs : List ByteArray) (hu : U64 nums) (hj : ∀ x ∈ ops, J64 x) : Ans (fun k => c_List.f k ops nums strs) (listV ops nums strs) := by
 unfold c_List.f listV
 refine Ans.bind (check_ans ops nums strs) ?_
 by_cases c : (checkV ops nums.length strs.length).2.2 = 0
 ·rw [if_pos c]
  obtain ⟨hn, hr, -⟩ := hv_ok c
  exact Ans.congr (listR_ans ops nums strs hn hu hj ops [] [] rfl hr (by simp)) fun k => if_pos c
 ·rw [if_neg c]
  exact Ans.of fun k => if_neg c
def aOps : List S41 := [⟨3, 9, 0⟩, ⟨1, 0, 0⟩, ⟨24, 1, 0⟩]
set_option maxRecDepth 100000 in
theorem a_check : checkV aOps 1 0 = (2, 0, 0) := by kernel_rfl
theorem dg1 (x : Int) (h0 : 0 ≤ x) (h1 : x < 128) : dgL x = [x] := by
 rw [dgL_small (by omega)]
 congr 1
 omega
def aNums : List Int := [4607182418800017408]
theorem r3 : (rowL 3).f1 = 3 ∧ (rowL 3).f2 = 0 := ⟨rfl, rfl⟩
theorem r1 : (rowL 1).f1 = 1 ∧ (rowL 1).f2 = 0 := ⟨rfl, rfl⟩
theorem r24 : (rowL 24).f1 = 5 ∧ (rowL 24).f2 = 0 := ⟨rfl, rfl⟩
def aBytes : List Int := [65, 66, 67, 49, 1, 0, 0, 0, 0, 0, 0, 240, 63, 0, 3, 3, 9, 1, 0, 24, 1]
theorem a_n8 : n8 8 4607182418800017408 = [0, 0, 0, 0, 0, 0, 240, 63] := by kernel_rfl
theorem a_whole : wholeE aOps aNums [] = aBytes := by
 have o1 : opE ⟨3, 9, 0⟩ = [3, 9] := by
  unfold opE
  show (3 % 256 : Int) :: ((if (rowL 3).f1 = 0 then [] else dgL 9) ++ (if (rowL 3).f2 = 0 then [] else dgL 0)) = _
  rw [r3.1, r3.2, if_neg (by decide), if_pos rfl, dg1 9 (by decide) (by decide)]
  rfl
 have o2 : opE ⟨1, 0, 0⟩ = [1, 0] := by
  unfold opE
  show (1 % 256 : Int) :: ((if (rowL 1).f1 = 0 then [] else dgL 0) ++ (if (rowL 1).f2 = 0 then [] else dgL 0)) = _
  rw [r1.1, r1.2, if_neg (by decide), if_pos rfl, dg1 0 (by decide) (by decide)]
  rfl
 have o3 : opE ⟨24, 1, 0⟩ = [24, 1] := by
  unfold opE
  show (24 % 256 : Int) :: ((if (rowL 24).f1 = 0 then [] else dgL 1) ++ (if (rowL 24).f2 = 0 then [] else dgL 0)) = _
  rw [r24.1, r24.2, if_neg (by decide), if_pos rfl, dg1 1 (by decide) (by decide)]
  rfl
 unfold wholeE textE bodyE aOps aNums
 simp only [List.flatMap_cons, List.flatMap_nil, o1, o2, o3, a_n8, List.length_cons, List.length_nil]
 rw [show ((0 + 1 : Nat) : Int) = 1 from rfl, show ((0 : Nat) : Int) = 0 from rfl, show ((0 + 1 + 1 + 1 : Nat) : Int) = 3 from rfl, dg1 1 (by decide) (by decide), dg1 0 (by decide) (by decide), dg1 3 (by decide) (by decide)]
 rfl
theorem a_encode : encodeV aOps aNums [] = (aBytes, 0) := by
 unfold encodeV
 have hc : checkV aOps aNums.length ([] : List ByteArray).length = (2, 0, 0) := a_check
 rw [hc, if_pos rfl, if_pos (by decide), if_neg (by decide), a_whole]
 rfl
theorem it1 (m : Nat) (h : m < 10) : itL (m : Int) = [((UInt8.ofNat (48 + m)).toNat : Int)] := by
 unfold itL Lib.itoa
 rw [if_neg (by omega), Int.toNat_natCast, Lib.decDigits_one h]
 rfl
def aText : List Int := [48, 58, 32, 118, 97, 114, 32, 57, 10, 49, 58, 32, 110, 117, 109, 32, 48, 32, 51, 102, 102, 48, 48, 48, 48, 48, 48, 48, 48, 48, 48, 48, 48, 48, 10, 50, 58, 32, 98, 105, 110, 32, 49, 10]
theorem a_l1 : lineV 0 ⟨3, 9, 0⟩ aNums [] = [48, 58, 32, 118, 97, 114, 32, 57, 10] := by
 unfold lineV tailL argL
 show itL ((0 : Nat) : Int) ++ ([58, 32] ++ (nmL 3 ++ ((if (rowL 3).f1 = 0 then [] else 32 :: itL ((9 : Nat) : Int)) ++ ((if (rowL 3).f2 = 0 then [] else 32 :: itL ((0 : Nat) : Int)) ++ (_ ++ [10]))))) = _
 rw [r3.1, r3.2, it1 0 (by decide), it1 9 (by decide), show nmL 3 = [118, 97, 114] from rfl, if_neg (by decide), if_pos rfl, if_neg (by decide), if_neg (by decide)]
 rfl
theorem a_hex : hexL 16 4607182418800017408 = [51, 102, 102, 48, 48, 48, 48, 48, 48, 48, 48, 48, 48, 48, 48, 48] := by kernel_rfl
theorem a_l2 : lineV 1 ⟨1, 0, 0⟩ aNums [] = [49, 58, 32, 110, 117, 109, 32, 48, 32, 51, 102, 102, 48, 48, 48, 48, 48, 48, 48, 48, 48, 48, 48, 48, 48, 10] := by
 unfold lineV tailL argL
 show itL ((1 : Nat) : Int) ++ ([58, 32] ++ (nmL 1 ++ ((if (rowL 1).f1 = 0 then [] else 32 :: itL ((0 : Nat) : Int)) ++ ((if (rowL 1).f2 = 0 then [] else 32 :: itL ((0 : Nat) : Int)) ++ ((32 :: hexL 16 4607182418800017408) ++ [10]))))) = _
 rw [r1.1, r1.2, it1 0 (by decide), it1 1 (by decide), show nmL 1 = [110, 117, 109] from rfl, if_neg (by decide), if_pos rfl, a_hex]
 rfl
theorem a_l3 : lineV 2 ⟨24, 1, 0⟩ aNums [] = [50, 58, 32, 98, 105, 110, 32, 49, 10] := by
 unfold lineV tailL argL
 show itL ((2 : Nat) : Int) ++ ([58, 32] ++ (nmL 24 ++ ((if (rowL 24).f1 = 0 then [] else 32 :: itL ((1 : Nat) : Int)) ++ ((if (rowL 24).f2 = 0 then [] else 32 :: itL ((0 : Nat) : Int)) ++ (_ ++ [10]))))) = _
 rw [r24.1, r24.2, it1 1 (by decide), it1 2 (by decide), show nmL 24 = [98, 105, 110] from rfl, if_neg (by decide), if_pos rfl, if_neg (by decide), if_neg (by decide)]
 rfl
theorem a_list : listV aOps aNums [] = (strOfNums aText, 0) := by
 unfold listV
 have hc : checkV aOps aNums.length ([] : List ByteArray).length = (2, 0, 0) := a_check
 rw [hc, if_pos rfl]
 unfold aOps
 rw [listR, if_neg (by decide), a_l1, if_neg (by decide), listR, show (0 + 1 : Int) = 1 from rfl, if_neg (by decide), a_l2, if_neg (by decide), listR, show (1 + 1 : Int) = 2 from rfl, if_neg (by decide), a_l3, if_neg (by decide), listR]
 rfl
set_option maxRecDepth 100000 in
theorem awake_ans : Ans (fun k => w_awake.f k) true := by
 unfold w_awake.f
 have hJ : ∀ x ∈ aOps, J64 x := by
  intro x hx
  unfold aOps at hx
  simp only [List.mem_cons, List.not_mem_nil, or_false] at hx
  rcases hx with rfl | rfl | rfl <;> (unfold J64; decide)
 have hU : U64 aNums := by
  intro x hx
  unfold aNums at hx
  rw [List.mem_singleton] at hx
  subst hx
  decide
 refine Ans.congr (g' := fun k => (c_Effect.f k 24 1 0).bind fun bt249 => (if bt249.1 = 2 then (if bt249.2.1 = 1 then (w_awake.j0 k (!bt249.2.2) aOps aNums) else (w_awake.j0 k true aOps aNums)) else (w_awake.j0 k true aOps aNums))) ?_ fun k => rfl
 refine Ans.bind (a := (2, 1, true)) ⟨2, fun k hk => ?_⟩ ?_
 ·obtain ⟨m, rfl⟩ := Nat.exists_eq_add_of_le hk
  rw [Nat.add_comm]
  exact (effect_eq m ⟨24, 1, 0⟩).trans rfl
 refine Ans.congr (g' := fun k => w_awake.j0 k false aOps aNums) ?_ fun k => rfl
 refine Ans.succ ?_
 refine Ans.congr (g' := fun k => (c_Check.f k aOps aNums ([] : List ByteArray)).bind fun bt252 => (if bt252.1 = 2 then (w_awake.j1 k (bt252.2.2 != 0) aOps aNums) else (w_awake.j1 k true aOps aNums))) ?_ fun k => by rw [w_awake.j0, if_neg (by decide)]
 refine Ans.bind (check_ans aOps aNums []) ?_
 have hc : checkV aOps aNums.length ([] : List ByteArray).length = (2, 0, 0) := a_check
 rw [hc]
 refine Ans.congr (g' := fun k => w_awake.j1 k false aOps aNums) ?_ fun k => rfl
 refine Ans.succ ?_
 have hB : (strOfNums aBytes).toList = ([65, 66, 67, 49, 1, 0, 0, 0, 0, 0, 0, 240, 63, 0, 3, 3, 9, 1, 0, 24, 1] : List UInt8) := by kernel_rfl
 have hT : ((strOfNums aText).toList == ([48, 58, 32, 118, 97, 114, 32, 57, 10, 49, 58, 32, 110, 117, 109, 32, 48, 32, 51, 102, 102, 48, 48, 48, 48, 48, 48, 48, 48, 48, 48, 48, 48, 48, 10, 50, 58, 32, 98, 105, 110, 32, 49, 10] : List UInt8)) = true := by kernel_rfl
 refine Ans.congr (g' := fun k => (c_Encode.f k aOps aNums ([] : List ByteArray)).bind fun bt255 => (if bt255.2 = 0 then (if (strOfNums bt255.1).toList = ([65, 66, 67, 49, 1, 0, 0, 0, 0, 0, 0, 240, 63, 0, 3, 3, 9, 1, 0, 24, 1] : List UInt8) then ((c_List.f k aOps aNums ([] : List ByteArray)).bind fun bt259 => (if bt259.2 = 0 then (some (bt259.1.toList == ([48, 58, 32, 118, 97, 114, 32, 57, 10, 49, 58, 32, 110, 117, 109, 32, 48, 32, 51, 102, 102, 48, 48, 48, 48, 48, 48, 48, 48, 48, 48, 48, 48, 48, 10, 50, 58, 32, 98, 105, 110, 32, 49, 10] : List UInt8))) else (some false))) else (some false)) else (some false))) ?_ fun k => by rw [w_awake.j1, if_neg (by decide)]
 refine Ans.bind (encode_ans aOps aNums [] (fun x hx => (hJ x hx).i) (by simp) (by decide)) ?_
 rw [a_encode]
 refine Ans.congr (g' := fun k => (c_List.f k aOps aNums ([] : List ByteArray)).bind fun bt259 => (if bt259.2 = 0 then (some (bt259.1.toList == ([48, 58, 32, 118, 97, 114, 32, 57, 10, 49, 58, 32, 110, 117, 109, 32, 48, 32, 51, 102, 102, 48, 48, 48, 48, 48, 48, 48, 48, 48, 48, 48, 48, 48, 10, 50, 58, 32, 98, 105, 110, 32, 49, 10] : List UInt8))) else (some false))) ?_ fun k => by rw [if_pos rfl, if_pos hB]
 refine Ans.bind (list_ans aOps aNums [] hU hJ) ?_
 rw [a_list]
 exact Ans.of fun k => by rw [if_pos rfl, hT]
end Go.Proofs.YtdkejcadoepnnaaDoor.Pl
end
section
set_option linter.unusedVariables false
set_option linter.unusedSimpArgs false
namespace Go.Proofs.YtdkejcadoepnnaaDoor.Pl
open Go.RowKit Go.Proofs.YtdkejcadoepnnaaDoorW.PrintWords Go.Proofs.YtdkejcadoepnnaaDoorW.PrintMore Go.Proofs.YtdkejcadoepnnaaDoor.ECc Go.Proofs.YtdkejcadoepnnaaDoor.X
def By (l : List Int) : Prop := ∀ d ∈ l, 0 ≤ d ∧ d < 256
theorem byte_end {l : List Int} {p : Nat} (h : l.length ≤ p) : r_byte.f l (p : Int) = some (0, 1, (l.length : Int), (p : Int)) := by
 unfold r_byte.f
 rw [if_pos (by omega)]
theorem w62 (n : Int) (h0 : 0 ≤ n) (h1 : n < 2 ^ 62) : IntKind.i64.wrap n = n := by rw [IntKind.wrap_i64]; omega
theorem or_comm64 (k : IntKind) (x y : Int) : Go.bits .or k x y = Go.bits .or k y x := by simp only [Go.bits, BitVec.or_comm]
theorem and127 {d : Int} (h0 : 0 ≤ d) (h1 : d < 256) : Go.bits .and .u8 d 127 = d % 128 := bits_mask .u8 8 (by decide) wraps_u8 7 (by decide) d h0 h1
theorem dig_or (i : Nat) (hi : i < 5) (n d : Int) (h0 : 0 ≤ n) (h1 : n < 128 ^ i) (d0 : 0 ≤ d) (d1 : d < 256) :
  Go.bits .or .i64 n (shl .i64 (wrap64 (Go.bits .and .u8 d 127)) (wrap64 (7 * (i : Int)))) = n + d % 128 * 128 ^ i := by
 rw [and127 d0 d1, wrap_id (x := d % 128) (by omega) (by omega), wrap_id (x := 7 * (i : Int)) (by omega) (by omega), or_comm64]
 have hs : shl .i64 (d % 128) (7 * (i : Int)) = d % 128 * 128 ^ i := by
  unfold shl
  rcases i with _ | _ | _ | _ | _ | i
  ·show IntKind.i64.wrap (d % 128 * 1) = d % 128 * 1
   exact w62 _ (by omega) (by omega)
  ·show IntKind.i64.wrap (d % 128 * 128) = d % 128 * 128
   exact w62 _ (by omega) (by omega)
  ·show IntKind.i64.wrap (d % 128 * 16384) = d % 128 * 16384
   exact w62 _ (by omega) (by omega)
  ·show IntKind.i64.wrap (d % 128 * 2097152) = d % 128 * 2097152
   exact w62 _ (by omega) (by omega)
  ·show IntKind.i64.wrap (d % 128 * 268435456) = d % 128 * 268435456
   exact w62 _ (by omega) (by omega)
  ·omega
 rw [hs]
 have hj : ∀ (j : Nat) (P : Int), (2 : Int) ^ j = P → n < P → (d % 128 * P) % P = 0 → d % 128 * P < 2 ^ 62 → 0 ≤ d % 128 * P → P ≤ 2 ^ 62 → Go.bits .or .i64 (d % 128 * P) n = n + d % 128 * P := by
  intro j P e a1 a2 a3 a4 a5
  rw [bits_join .i64 62 (by decide) w62 j _ _ a4 (by rw [e]; exact a2) a3 h0 (by rw [e]; exact a1) (by omega)]
  omega
 rcases i with _ | _ | _ | _ | _ | i
 ·exact hj 0 1 (by decide) h1 (by omega) (by omega) (by omega) (by decide)
 ·exact hj 7 128 (by decide) h1 (by omega) (by omega) (by omega) (by decide)
 ·exact hj 14 16384 (by decide) h1 (by omega) (by omega) (by omega) (by decide)
 ·exact hj 21 2097152 (by decide) h1 (by omega) (by omega) (by omega) (by decide)
 ·exact hj 28 268435456 (by decide) h1 (by omega) (by omega) (by omega) (by decide)
 ·omega
theorem n01 : ¬ (0 : Int) = 1 := by decide
theorem p128 : ∀ i : Nat, i < 5 → (128 : Int) ^ (i + 1) = 128 * 128 ^ i ∧ (1 : Int) ≤ 128 ^ i
 | 0, _ => ⟨by decide, by decide⟩
 | 1, _ => ⟨by decide, by decide⟩
 | 2, _ => ⟨by decide, by decide⟩
 | 3, _ => ⟨by decide, by decide⟩
 | 4, _ => ⟨by decide, by decide⟩
 | i + 5, h => absurd h (by omega)
end Go.Proofs.YtdkejcadoepnnaaDoor.Pl
end
section
set_option linter.unusedVariables false
set_option linter.unusedSimpArgs false
namespace Go.Proofs.YtdkejcadoepnnaaDoor.Pl
open Go.RowKit Go.Proofs.YtdkejcadoepnnaaDoorW.PrintWords Go.Proofs.YtdkejcadoepnnaaDoorW.PrintMore Go.Proofs.YtdkejcadoepnnaaDoor.ECc Go.Proofs.YtdkejcadoepnnaaDoor.X
theorem Ans.via {α β : Type} {a : Nat → Option α} {x : α} {g : Nat → Option β} {r : β} (ha : Ans a x) (h : ∀ k, a k = Option.some x → g (k + 1) = Option.some r) : Ans g r := by
 obtain ⟨n, hn⟩ := ha
 exact Ans.succ ⟨n, fun k hk => h k (hn k hk)⟩
theorem Ans.via2 {α β : Type} {a : Nat → Option α} {x : α} {g b : Nat → Option β} {r : β} (ha : Ans a x) (hb : Ans b r) (h : ∀ k, a k = Option.some x → g (k + 1) = b k) : Ans g r := by
 obtain ⟨n, hn⟩ := ha
 obtain ⟨m, hm⟩ := hb
 exact Ans.succ ⟨max n m, fun k hk => (h k (hn k (by omega))).trans (hm k (by omega))⟩
theorem Ans.to {β : Type} {g b : Nat → Option β} {r : β} (hb : Ans b r) (h : ∀ k, g (k + 1) = b k) : Ans g r := Ans.succ (hb.congr h)
theorem Ans.at1 {β : Type} {g : Nat → Option β} {r : β} (h : ∀ k, g (k + 1) = Option.some r) : Ans g r := Ans.succ (Ans.of h)
abbrev R6 := List S41 × List Int × List ByteArray × Int × Int × Int
def Jn (x : S41) : Prop := 0 ≤ x.f1 ∧ x.f1 ≤ 2147483647 ∧ 0 ≤ x.f2 ∧ x.f2 ≤ 2147483647
def aE (k v : Int) : List Int := if k = 0 then [] else dgL v
theorem opE_eq (w a b : Int) (h0 : 1 ≤ w) (h1 : w ≤ 33) : opE ⟨w, a, b⟩ = w :: (aE (rowL w).f1 a ++ aE (rowL w).f2 b) := by
 have : w % 256 = w := by omega
 simp only [opE, aE, this]
theorem n11 : (1 : Int) = 1 := rfl
end Go.Proofs.YtdkejcadoepnnaaDoor.Pl
end
section
set_option linter.unusedVariables false
set_option linter.unusedSimpArgs false
namespace Go.Proofs.YtdkejcadoepnnaaDoor.Pl
open Go.RowKit Go.Proofs.YtdkejcadoepnnaaDoorW.PrintWords Go.Proofs.YtdkejcadoepnnaaDoorW.PrintMore Go.Proofs.YtdkejcadoepnnaaDoor.ECc Go.Proofs.YtdkejcadoepnnaaDoor.X
theorem By.cut {l : List Int} (hb : By l) (a b : Nat) : By ((l.take a).drop b) := fun d hd => hb d (List.mem_of_mem_take (List.mem_of_mem_drop hd))
theorem rd3_step (k : Nat) (l : List Int) (n j : Int) (nums : List Int) (strs : List ByteArray) (u t s e j' : Int) (hk : r_number.f k l s = some (u, 0, 0, t)) (c1 : j < n) (c2 : ¬ u > wrap64 ((l.length : Int) - t)) (c3 : 0 ≤ t) (he : wrap64 (t + u) = e) (c4 : t ≤ e) (c5 : e ≤ (l.length : Int)) (c6 : strs.length < 8796093022208) (hj : wrap64 (j + 1) = j') :
  r_code.l3 (k + 1) l n j l s nums strs = r_code.l3 k l n j' l e nums (strs ++ [strOfNums ((l.take e.toNat).drop t.toNat)]) := by
 subst he hj
 rw [r_code.l3, if_pos c1, hk, Option.bind_some, if_neg n01, if_neg c2, if_pos c3, if_pos c4, if_pos c5, if_pos c6]
theorem rd2_step (k : Nat) (l : List Int) (acc n j i : Int) (nums : List Int) (s d s' i' acc' : Int) (hby : r_byte.f l s = some (d, 0, 0, s')) (c1 : i < 8) (c2 : 0 ≤ wrap64 (8 * i)) (hor : Go.bits .or .u64 acc (shl .u64 (IntKind.u64.wrap d) (wrap64 (8 * i))) = acc') (hi : wrap64 (i + 1) = i') :
  r_code.l2 (k + 1) l acc n j i l s nums = r_code.l2 k l acc' n j i' l s' nums := by
 subst hor hi
 rw [r_code.l2, if_pos c1, hby, Option.bind_some, if_neg n01, if_pos c2]
/-- A number of eight bytes. -/
theorem w64u (n : Int) (h0 : 0 ≤ n) (h1 : n < 2 ^ 64) : IntKind.u64.wrap n = n := by rw [IntKind.wrap_u64]; omega
theorem byte_or (i : Nat) (hi : i < 8) (n d : Int) (h0 : 0 ≤ n) (h1 : n < 256 ^ i) (d0 : 0 ≤ d) (d1 : d < 256) :
  Go.bits .or .u64 n (shl .u64 (IntKind.u64.wrap d) (wrap64 (8 * (i : Int)))) = n + d * 256 ^ i := by
 rw [w64u d d0 (by omega), wrap_id (x := 8 * (i : Int)) (by omega) (by omega), or_comm64]
 have hs : shl .u64 d (8 * (i : Int)) = d * 256 ^ i := by
  unfold shl
  rcases i with _ | _ | _ | _ | _ | _ | _ | _ | i
  ·exact w64u (d * 1) (by omega) (by omega)
  ·exact w64u (d * 256) (by omega) (by omega)
  ·exact w64u (d * 65536) (by omega) (by omega)
  ·exact w64u (d * 16777216) (by omega) (by omega)
  ·exact w64u (d * 4294967296) (by omega) (by omega)
  ·exact w64u (d * 1099511627776) (by omega) (by omega)
  ·exact w64u (d * 281474976710656) (by omega) (by omega)
  ·exact w64u (d * 72057594037927936) (by omega) (by omega)
  ·omega
 rw [hs]
 have hj : ∀ (j : Nat) (P : Int), (2 : Int) ^ j = P → n < P → (d * P) % P = 0 → d * P < 2 ^ 64 → 0 ≤ d * P → P ≤ 2 ^ 64 → Go.bits .or .u64 (d * P) n = n + d * P := by
  intro j P e a1 a2 a3 a4 a5
  rw [bits_join .u64 64 (by decide) w64u j _ _ a4 (by rw [e]; exact a2) a3 h0 (by rw [e]; exact a1) (by omega)]
  omega
 rcases i with _ | _ | _ | _ | _ | _ | _ | _ | i
 ·exact hj 0 1 (by decide) h1 (by omega) (by omega) (by omega) (by decide)
 ·exact hj 8 256 (by decide) h1 (by omega) (by omega) (by omega) (by decide)
 ·exact hj 16 65536 (by decide) h1 (by omega) (by omega) (by omega) (by decide)
 ·exact hj 24 16777216 (by decide) h1 (by omega) (by omega) (by omega) (by decide)
 ·exact hj 32 4294967296 (by decide) h1 (by omega) (by omega) (by omega) (by decide)
 ·exact hj 40 1099511627776 (by decide) h1 (by omega) (by omega) (by omega) (by decide)
 ·exact hj 48 281474976710656 (by decide) h1 (by omega) (by omega) (by omega) (by decide)
 ·exact hj 56 72057594037927936 (by decide) h1 (by omega) (by omega) (by omega) (by decide)
 ·omega
theorem p256 : ∀ i : Nat, i < 8 → (256 : Int) ^ (i + 1) = 256 * 256 ^ i ∧ (1 : Int) ≤ 256 ^ i
 | 0, _ => ⟨by decide, by decide⟩
 | 1, _ => ⟨by decide, by decide⟩
 | 2, _ => ⟨by decide, by decide⟩
 | 3, _ => ⟨by decide, by decide⟩
 | 4, _ => ⟨by decide, by decide⟩
 | 5, _ => ⟨by decide, by decide⟩
 | 6, _ => ⟨by decide, by decide⟩
 | 7, _ => ⟨by decide, by decide⟩
 | i + 8, h => absurd h (by omega)
def Un (l : List Int) : Prop := ∀ v ∈ l, 0 ≤ v ∧ v < 256 ^ 8
def magic : List Int := [65, 66, 67, 49]
theorem bt_magic : ∀ i : Nat, i < 4 → bt (⟨#[65, 66, 67, 49]⟩ : ByteArray) (i : Int) :: magic.drop (i + 1) = magic.drop i
 | 0, _ => rfl
 | 1, _ => rfl
 | 2, _ => rfl
 | 3, _ => rfl
 | i + 4, h => absurd h (by omega)
end Go.Proofs.YtdkejcadoepnnaaDoor.Pl
end
section
set_option linter.unusedVariables false
set_option linter.unusedSimpArgs false
namespace Go.Proofs.YtdkejcadoepnnaaDoor.Pl
open Go.RowKit Go.Proofs.YtdkejcadoepnnaaDoorW.PrintWords Go.Proofs.YtdkejcadoepnnaaDoorW.PrintMore Go.Proofs.YtdkejcadoepnnaaDoor.ECc Go.Proofs.YtdkejcadoepnnaaDoor.X
/-- T is a beginning of F. -/
structure Fw (F T : List Int) : Prop where
 le : T.length ≤ F.length
 eq : T = F.take T.length
 by_ : By F
 small : F.length ≤ 16777217
theorem fw_rd {F T : List Int} (h : Fw F T) {s : Nat} {x : Int} {R : List Int} (hd : F.drop s = x :: R) (hs : s < T.length) :
  rd T (s : Int) = x ∧ F.drop (s + 1) = R ∧ 0 ≤ x ∧ x < 256 := by
 have hF : s < F.length := Nat.lt_of_lt_of_le hs h.le
 have h1 := List.drop_eq_getElem_cons hF
 rw [hd] at h1
 obtain ⟨e1, e2⟩ := List.cons.inj h1
 have h2 : T[s]? = F[s]? := by
  have e := congrArg (fun l : List Int => l[s]?) h.eq
  simpa [List.getElem?_take, hs] using e
 have h3 : rd T (s : Int) = x := by
  unfold rd
  rw [Int.toNat_natCast, List.getD_eq_getElem?_getD, h2, List.getElem?_eq_getElem hF, e1]
  rfl
 refine ⟨h3, e2.symm, ?_⟩
 rw [e1]
 exact h.by_ _ (List.getElem_mem hF)
theorem fw_len {F : List Int} {s : Nat} {E : List Int} (hd : F.drop s = E) (hs : s ≤ F.length) : s + E.length = F.length := by
 have := congrArg List.length hd
 rw [List.length_drop] at this
 omega
theorem fw_next {F : List Int} {s : Nat} {E R : List Int} (hd : F.drop s = E ++ R) : F.drop (s + E.length) = R := by
 rw [← List.drop_drop, hd, List.drop_left]
theorem byte_two {l : List Int} {p : Nat} (h : p < l.length) (hl : l.length ≤ 16777217) : r_byte.f l (p : Int) = some (rd l (p : Int), 0, 0, ((p + 1 : Nat) : Int)) := by
 unfold r_byte.f
 rw [if_neg (by omega), wrap_id (x := (p : Int) + 1) (by omega) (by omega), wrap_id (x := (p : Int) + 1 - 1) (by omega) (by omega), if_pos (by omega), if_pos (by omega)]
 have e : (p : Int) + 1 - 1 = p := by omega
 rw [e]
 rfl
theorem fw_byte {F T : List Int} (h : Fw F T) {s : Nat} {x : Int} {R : List Int} (hd : F.drop s = x :: R) (hs : s < T.length) :
  r_byte.f T (s : Int) = some (x, 0, 0, ((s + 1 : Nat) : Int)) := by
 rw [byte_two hs (Nat.le_trans h.le h.small), (fw_rd h hd hs).1]
/-- What the reader of a number answers over a beginning of its digits, or over all of them. -/
def NumF (T : List Int) (s len : Nat) (v : Int) (r : Int × Int × Int × Int) : Prop :=
 (s + len ≤ T.length ∧ r = (v, 0, 0, ((s + len : Nat) : Int))) ∨ (T.length < s + len ∧ ∃ q t, r = (q, 1, (T.length : Int), t))
theorem fnum_loop {F T : List Int} (h : Fw F T) (p0 : Int) (m : Nat) : ∀ (i : Nat) (n u : Int) (s : Nat) (R : List Int), i + m = 5 → 0 ≤ n → n < 128 ^ i → s ≤ T.length → 0 ≤ u → (0 < i → 0 < u) → n + u * 128 ^ i ≤ 2147483647 → F.drop s = dgL u ++ R →
  ∃ r, Ans (fun k => r_number.l0 k 0 p0 n (i : Int) T (s : Int)) r ∧ NumF T s (dgL u).length (n + u * 128 ^ i) r := by
 induction m with
 | zero =>
  intro i n u s R e h0 h1 hs u0 u1 hb hd
  obtain rfl : i = 5 := by omega
  have := u1 (by decide)
  have h5 : (128 : Int) ^ 5 = 34359738368 := by decide
  rw [h5] at hb
  omega
 | succ m ih =>
  intro i n u s R e h0 h1 hs u0 u1 hb hd
  obtain ⟨hp, hp1⟩ := p128 i (by omega)
  by_cases hin : s < T.length
  ·by_cases hbig : u < 128
   ·have hdg : dgL u = [u] := by
     rw [dgL_small (by omega)]
     have : u % 256 = u := by omega
     rw [this]
    rw [hdg] at hd ⊢
    have hby := fw_byte h (show F.drop s = u :: R from hd) hin
    have hor := dig_or i (by omega) n u h0 h1 u0 (by omega)
    have hmod : u % 128 = u := by omega
    refine ⟨(n + u * 128 ^ i, 0, 0, ((s + 1 : Nat) : Int)), Ans.succ (Ans.of fun k => ?_), .inl ⟨hin, rfl⟩⟩
    rw [r_number.l0, if_pos (by omega), hby, Option.bind_some]
    rw [if_neg n01, if_pos (by rw [wrap_id (by omega) (by omega)]; omega), if_pos hbig]
    by_cases hz0 : u = 0
    ·rw [if_pos hz0, if_neg (by omega), hor, hmod, if_neg (by omega)]
    ·rw [if_neg hz0, hor, hmod, if_neg (by omega)]
   ·have hdg := dgL_big (x := u) (by omega)
    rw [hdg] at hd ⊢
    have hd' : F.drop s = (u % 128 + 128) :: (dgL (u / 128) ++ R) := hd
    have hby := fw_byte h hd' hin
    have hnx := (fw_rd h hd' hin).2.1
    have hor := dig_or i (by omega) n (u % 128 + 128) h0 h1 (by omega) (by omega)
    have hmod : (u % 128 + 128) % 128 = u % 128 := by omega
    have hn : n + u % 128 * 128 ^ i < 128 ^ (i + 1) := by
     rw [hp]
     have : u % 128 * 128 ^ i ≤ 127 * 128 ^ i := Int.mul_le_mul_of_nonneg_right (by omega) (by omega)
     omega
    have hn0 : 0 ≤ u % 128 * 128 ^ i := Int.mul_nonneg (by omega) (by omega)
    have ex : n + u % 128 * 128 ^ i + u / 128 * 128 ^ (i + 1) = n + u * 128 ^ i := by
     have hu : u = u % 128 + 128 * (u / 128) := by omega
     conv => rhs; rw [hu]
     rw [hp, Int.add_mul, ← Int.add_assoc, ← Int.mul_assoc, Int.mul_comm (u / 128) 128]
    obtain ⟨r, hr, hok⟩ := ih (i + 1) (n + u % 128 * 128 ^ i) (u / 128) (s + 1) R (by omega) (by omega) hn (by omega) (by omega) (fun _ => by omega) (by rw [ex]; exact hb) hnx
    refine ⟨r, Ans.succ (hr.congr fun k => ?_), ?_⟩
    ·show r_number.l0 (k + 1) 0 p0 n (i : Int) T (s : Int) = _
     rw [r_number.l0, if_pos (by omega), hby, Option.bind_some]
     rw [if_neg n01, if_pos (by rw [wrap_id (by omega) (by omega)]; omega), if_neg (by omega), hor, hmod, wrap_id (x := (i : Int) + 1) (by omega) (by omega)]
     rfl
    ·rw [ex] at hok
     unfold NumF at hok ⊢
     rw [List.length_cons]
     have e1 : s + ((dgL (u / 128)).length + 1) = s + 1 + (dgL (u / 128)).length := by omega
     rw [e1]
     exact hok
  ·refine ⟨(0, 1, (T.length : Int), (s : Int)), Ans.succ (Ans.of fun k => ?_), .inr ⟨?_, _, _, rfl⟩⟩
   ·rw [r_number.l0, if_pos (by omega), byte_end (by omega)]
    simp only [Option.bind_some]
    rw [if_pos trivial]
   ·have := dgL_pos u
    omega
theorem fnum {F T : List Int} (h : Fw F T) {s : Nat} {u : Int} {R : List Int} (hs : s ≤ T.length) (u0 : 0 ≤ u) (u1 : u ≤ 2147483647) (hd : F.drop s = dgL u ++ R) :
  ∃ r, Ans (fun k => r_number.f k T (s : Int)) r ∧ NumF T s (dgL u).length u r := by
 have e : (0 : Int) + u * 128 ^ 0 = u := by
  show 0 + u * 1 = u
  omega
 obtain ⟨r, hr, hok⟩ := fnum_loop h (s : Int) 5 0 0 u s R rfl (by decide) (by decide) hs u0 (fun h => by omega) (by rw [e]; exact u1) hd
 rw [e] at hok
 exact ⟨r, hr, hok⟩
/-- What the reader of a code answers over a beginning of its bytes (it gives up at the beginning's end), over all, over one byte more (it gives up at that). -/
def Out (T : List Int) (e : Nat) (ops : List S41) (nums : List Int) (strs : List ByteArray) (r : R6) : Prop :=
 (T.length = e ∧ ∃ t, r = (ops, nums, strs, 0, 0, t)) ∨ (T.length ≠ e ∧ ∃ t, r = ([], [], [], 1, ((min T.length e : Nat) : Int), t))
theorem Out.short {T : List Int} {e : Nat} {ops : List S41} {nums : List Int} {strs : List ByteArray} (h : T.length < e) (t : Int) : Out T e ops nums strs ([], [], [], 1, (T.length : Int), t) :=
 .inr ⟨by omega, t, by rw [Nat.min_eq_left (by omega)]⟩
/-- An instruction that the reader gives back: empty fields are 0. -/
def Jx (x : S41) : Prop := (1 ≤ x.f0 ∧ x.f0 ≤ 33) ∧ Jn x ∧ ((rowL x.f0).f1 = 0 → x.f1 = 0) ∧ ((rowL x.f0).f2 = 0 → x.f2 = 0)
theorem fj5 {F T : List Int} (h : Fw F T) {e : Nat} (he : F.length = e + 1) (nums : List Int) (strs : List ByteArray) (n : Int) (j : Nat) (hj1 : j < 2147483648) (ops more : List S41) (hj : ops.length = j) (x : S41) (hx : Jx x) (mm : Int) (s : Nat) (hs : s ≤ T.length)
  (hd : F.drop s = aE (rowL x.f0).f2 x.f2 ++ (more.flatMap opE ++ [mm]))
  (ih : ∀ s' : Nat, s' ≤ T.length → F.drop s' = more.flatMap opE ++ [mm] → ∃ r, Ans (fun k => r_code.l4 k n ((j + 1 : Nat) : Int) T (s' : Int) (ops ++ [x]) nums strs) r ∧ Out T e (ops ++ [x] ++ more) nums strs r) :
  ∃ r, Ans (fun k => r_code.j5 k tabL n (j : Int) T (s : Int) ops nums strs x.f0 x.f1 0) r ∧ Out T e (ops ++ [x] ++ more) nums strs r := by
 obtain ⟨⟨hw0, hw1⟩, hjn, hz1, hz2⟩ := hx
 have hlen : x.f0 < (tabL.length : Int) := by rw [tabL_len]; omega
 have hwr : wrap64 ((j : Int) + 1) = ((j + 1 : Nat) : Int) := by rw [wrap_id (by omega) (by omega)]; rfl
 have hle := h.le
 by_cases hf : (rd_T72 tabL x.f0).f2 = 0
 ·have hx2 := hz2 hf
  have ha : aE (rowL x.f0).f2 x.f2 = [] := by rw [aE, if_pos (show (rowL x.f0).f2 = 0 from hf)]
  rw [ha] at hd
  obtain ⟨r, hr, hok⟩ := ih s hs hd
  refine ⟨r, hr.to fun k => ?_, hok⟩
  have hxe : (⟨x.f0, x.f1, 0⟩ : S41) = x := by rw [← hx2]
  rw [r_code.j5, if_pos (by omega), if_pos hlen, if_pos hf, if_pos (by omega), hwr, hxe]
 ·have ha : aE (rowL x.f0).f2 x.f2 = dgL x.f2 := by rw [aE, if_neg (show ¬ (rowL x.f0).f2 = 0 from hf)]
  rw [ha] at hd
  obtain ⟨q, hq, hn⟩ := fnum h hs hjn.2.2.1 hjn.2.2.2 hd
  rcases hn with ⟨hin, rfl⟩ | ⟨hout, v, t, rfl⟩
  ·obtain ⟨r, hr, hok⟩ := ih _ hin (fw_next hd)
   refine ⟨r, hq.via2 hr fun k hk => ?_, hok⟩
   rw [r_code.j5, if_pos (by omega), if_pos hlen, if_neg hf, hk, Option.bind_some, if_neg n01, if_pos (by omega), hwr]
  ·refine ⟨([], [], [], 1, (T.length : Int), t), hq.via fun k hk => ?_, Out.short ?_ t⟩
   ·rw [r_code.j5, if_pos (by omega), if_pos hlen, if_neg hf, hk, Option.bind_some, if_pos n11]
   ·have := fw_len hd (by omega)
    simp only [List.length_append, List.length_singleton] at this
    omega
theorem fl4 {F T : List Int} (h : Fw F T) {e : Nat} (he : F.length = e + 1) (nums : List Int) (strs : List ByteArray) (n : Nat) (hn : n ≤ 2147483647) (mm : Int) : ∀ (more ops : List S41) (s : Nat), ops.length + more.length = n → (∀ x ∈ more, Jx x) → s ≤ T.length →
  F.drop s = more.flatMap opE ++ [mm] → ∃ r, Ans (fun k => r_code.l4 k (n : Int) (ops.length : Int) T (s : Int) ops nums strs) r ∧ Out T e (ops ++ more) nums strs r
 | [], ops, s, hl, hx, hs, hd => by
  have hle := h.le
  have h1 := fw_len hd (by omega)
  simp only [List.flatMap_nil, List.nil_append, List.length_singleton] at h1
  rw [List.length_nil] at hl
  by_cases hin : s < T.length
  ·refine ⟨([], [], [], 1, (s : Int), (s : Int)), Ans.at1 fun k => ?_, .inr ⟨by omega, _, by rw [show min T.length e = s by omega]⟩⟩
   rw [r_code.l4, if_neg (by omega), if_pos (by omega)]
  ·refine ⟨(ops, nums, strs, 0, 0, (s : Int)), Ans.at1 fun k => ?_, .inl ⟨by omega, _, by rw [List.append_nil]⟩⟩
   rw [r_code.l4, if_neg (by omega), if_neg (by omega)]
 | x :: more, ops, s, hl, hx, hs, hd => by
  have hle := h.le
  rw [List.length_cons] at hl
  have hxx := hx x (by simp)
  have h1 := fw_len hd (by omega)
  rw [List.flatMap_cons, List.append_assoc] at hd
  rw [List.flatMap_cons] at h1
  simp only [List.length_append, List.length_singleton] at h1
  have hop : opE x = x.f0 :: (aE (rowL x.f0).f1 x.f1 ++ aE (rowL x.f0).f2 x.f2) := opE_eq x.f0 x.f1 x.f2 hxx.1.1 hxx.1.2
  rw [hop, List.cons_append, List.append_assoc] at hd
  rw [hop, List.length_cons, List.length_append] at h1
  by_cases hin : s < T.length
  ·have hby := fw_byte h hd hin
   have hnx := (fw_rd h hd hin).2.1
   have hww : wrap64 x.f0 = x.f0 := wrap_id (by have := hxx.1.1; omega) (by have := hxx.1.2; omega)
   have hlen : x.f0 < (tabL.length : Int) := by rw [tabL_len]; have := hxx.1.2; omega
   have h00 : 0 ≤ x.f0 := by have := hxx.1.1; omega
   have hwi : c_within.f (wrap64 x.f0) 1 33 = some true := by rw [hww, within_eq, decide_eq_true hxx.1]
   have J5 := fun (s' : Nat) (hs' : s' ≤ T.length) (hd' : F.drop s' = aE (rowL x.f0).f2 x.f2 ++ (more.flatMap opE ++ [mm])) =>
    fj5 h he nums strs (n : Int) ops.length (by omega) ops more rfl x hxx mm s' hs' hd' (fun s'' h'' e'' => by
     obtain ⟨r, hr, hok⟩ := fl4 h he nums strs n hn mm more (ops ++ [x]) s'' (by rw [List.length_append, List.length_singleton]; omega) (fun y hy => hx y (by simp [hy])) h'' e''
     rw [List.length_append, List.length_singleton] at hr
     exact ⟨r, hr, hok⟩)
   rw [show ops ++ x :: more = ops ++ [x] ++ more by rw [List.append_assoc]; rfl]
   by_cases hf : (rd_T72 tabL x.f0).f1 = 0
   ·have ha : aE (rowL x.f0).f1 x.f1 = [] := by rw [aE, if_pos (show (rowL x.f0).f1 = 0 from hf)]
    rw [ha] at hnx
    have hx1 := hxx.2.2.1 hf
    obtain ⟨r, hr, hok⟩ := J5 (s + 1) (by omega) hnx
    refine ⟨r, hr.to fun k => ?_, hok⟩
    rw [r_code.l4, if_pos (by omega), hby, Option.bind_some, if_neg n01]
    rw [hwi, Option.bind_some, if_pos rfl, hww, if_pos h00, if_pos hlen, if_pos hf, hx1]
   ·have ha : aE (rowL x.f0).f1 x.f1 = dgL x.f1 := by rw [aE, if_neg (show ¬ (rowL x.f0).f1 = 0 from hf)]
    rw [ha] at hnx h1
    obtain ⟨q, hq, hnum⟩ := fnum h (show s + 1 ≤ T.length by omega) hxx.2.1.1 hxx.2.1.2.1 hnx
    rcases hnum with ⟨hin2, rfl⟩ | ⟨hout, v, t, rfl⟩
    ·obtain ⟨r, hr, hok⟩ := J5 _ hin2 (fw_next hnx)
     refine ⟨r, hq.via2 hr fun k hk => ?_, hok⟩
     rw [r_code.l4, if_pos (by omega), hby, Option.bind_some, if_neg n01]
     rw [hwi, Option.bind_some, if_pos rfl, hww, if_pos h00, if_pos hlen, if_neg hf, hk, Option.bind_some, if_neg n01]
    ·refine ⟨([], [], [], 1, (T.length : Int), t), hq.via fun k hk => ?_, Out.short (by omega) t⟩
     rw [r_code.l4, if_pos (by omega), hby, Option.bind_some, if_neg n01]
     rw [hwi, Option.bind_some, if_pos rfl, hww, if_pos h00, if_pos hlen, if_neg hf, hk, Option.bind_some, if_pos n11]
  ·refine ⟨([], [], [], 1, (T.length : Int), (s : Int)), Ans.at1 fun k => ?_, Out.short (by omega) _⟩
   rw [r_code.l4, if_pos (by omega), byte_end (by omega), Option.bind_some, if_pos n11]
end Go.Proofs.YtdkejcadoepnnaaDoor.Pl
end
section
set_option linter.unusedVariables false
set_option linter.unusedSimpArgs false
namespace Go.Proofs.YtdkejcadoepnnaaDoor.Pl
open Go.RowKit Go.Proofs.YtdkejcadoepnnaaDoorW.PrintWords Go.Proofs.YtdkejcadoepnnaaDoorW.PrintMore Go.Proofs.YtdkejcadoepnnaaDoor.ECc Go.Proofs.YtdkejcadoepnnaaDoor.X
theorem nums_bytes (t : ByteArray) : strOfNums (bytesOf t) = t := by
 refine ByteArray.ext (Array.ext' ?_)
 rw [strOfNums_data, bytesOf, List.map_map]
 conv => rhs; rw [← List.map_id t.data.toList]
 refine List.map_congr_left fun b _ => ?_
 simp
theorem fw_cut {F T : List Int} (h : Fw F T) {s : Nat} {E R : List Int} (hd : F.drop s = E ++ R) (hs : s + E.length ≤ T.length) : (T.take (s + E.length)).drop s = E := by
 have e : T.take (s + E.length) = F.take (s + E.length) := by
  have := congrArg (fun l : List Int => l.take (s + E.length)) h.eq
  rw [this]
  show (F.take T.length).take (s + E.length) = F.take (s + E.length)
  rw [List.take_take, Nat.min_eq_left hs]
 rw [e, List.drop_take, hd, Nat.add_sub_cancel_left, List.take_left]
theorem fl3 {F T : List Int} (h : Fw F T) {e : Nat} (he : F.length = e + 1) (nums : List Int) (n : Nat) (hn : n ≤ 2147483647) (ops : List S41) (hops : ops.length ≤ 2147483647) (hx : ∀ x ∈ ops, Jx x) (mm : Int) : ∀ (more strs : List ByteArray) (s : Nat), strs.length + more.length = n → (∀ x ∈ more, x.size ≤ 2147483647) → s ≤ T.length →
  F.drop s = more.flatMap sE ++ (bodyE ops ++ [mm]) → ∃ r, Ans (fun k => r_code.l3 k T (n : Int) (strs.length : Int) T (s : Int) nums strs) r ∧ Out T e ops nums (strs ++ more) r
 | [], strs, s, hl, hz, hs, hd => by
  have hle := h.le
  have h1 := fw_len hd (by omega)
  rw [List.length_nil] at hl
  have hd2 : F.drop s = dgL (ops.length : Int) ++ (ops.flatMap opE ++ [mm]) := by
   rw [hd, bodyE, List.flatMap_nil, List.nil_append, List.append_assoc]
  have h2 := fw_len hd2 (by omega)
  simp only [List.length_append, List.length_singleton] at h2
  obtain ⟨q, hq, hnum⟩ := fnum h hs (Int.natCast_nonneg _) (by omega) hd2
  rcases hnum with ⟨hin, rfl⟩ | ⟨hout, v, t, rfl⟩
  ·obtain ⟨r, hr, hok⟩ := fl4 h he nums strs ops.length hops mm ops [] _ (by rw [List.length_nil]; omega) hx hin (fw_next hd2)
   refine ⟨r, hq.via2 hr fun k hk => ?_, by rw [List.append_nil]; exact hok⟩
   rw [r_code.l3, if_neg (by omega), hk, Option.bind_some, if_neg n01]
   rfl
  ·refine ⟨([], [], [], 1, (T.length : Int), t), hq.via fun k hk => ?_, Out.short (by omega) t⟩
   rw [r_code.l3, if_neg (by omega), hk, Option.bind_some, if_pos n11]
 | x :: more, strs, s, hl, hz, hs, hd => by
  have hle := h.le
  have hsm := h.small
  rw [List.length_cons] at hl
  have hxz := hz x (by simp)
  have hd2 : F.drop s = dgL (x.size : Int) ++ (bytesOf x ++ (more.flatMap sE ++ (bodyE ops ++ [mm]))) := by
   rw [hd, List.flatMap_cons, sE]
   simp only [List.append_assoc]
  have h2 := fw_len hd2 (by omega)
  simp only [List.length_append, List.length_singleton, bytesOf_len] at h2
  obtain ⟨q, hq, hnum⟩ := fnum h hs (Int.natCast_nonneg _) (by omega) hd2
  have c6 : strs.length < 8796093022208 := by omega
  rcases hnum with ⟨hin, rfl⟩ | ⟨hout, v, t, rfl⟩
  ·have hd3 := fw_next hd2
   generalize ht : s + (dgL (x.size : Int)).length = t at hin hq hd3
   have hw1 := Aside0.mk (show wrap64 ((T.length : Int) - (t : Int)) = (T.length : Int) - (t : Int) from wrap_id (by omega) (by omega))
   by_cases hbig : (x.size : Int) > (T.length : Int) - (t : Int)
   ·refine ⟨([], [], [], 1, (T.length : Int), (t : Int)), hq.via fun k hk => ?_, Out.short (by omega) _⟩
    rw [r_code.l3, if_pos (by omega), hk, Option.bind_some, if_neg n01, if_pos (by rw [hw1.out]; exact hbig)]
   ·have hw2 := Aside0.mk (show wrap64 ((t : Int) + (x.size : Int)) = ((t + x.size : Nat) : Int) from by rw [wrap_id (by omega) (by omega)]; rfl)
    have hw3 := Aside0.mk (show wrap64 ((strs.length : Int) + 1) = ((strs.length + 1 : Nat) : Int) from by rw [wrap_id (by omega) (by omega)]; rfl)
    have c1 : (strs.length : Int) < (n : Int) := by omega
    have c4 : (t : Int) ≤ ((t + x.size : Nat) : Int) := by omega
    have c5 : ((t + x.size : Nat) : Int) ≤ (T.length : Int) := by omega
    have hcut := fw_cut h hd3 (by rw [bytesOf_len]; omega)
    rw [bytesOf_len] at hcut
    have hd4 := fw_next hd3
    rw [bytesOf_len] at hd4
    have hxe : strOfNums ((T.take (t + x.size)).drop t) = x := by rw [hcut, nums_bytes]
    obtain ⟨r, hr, hok⟩ := fl3 h he nums n hn ops hops hx mm more (strs ++ [x]) (t + x.size) (by rw [List.length_append, List.length_singleton]; omega) (fun y hy => hz y (by simp [hy])) (by omega) hd4
    rw [List.append_assoc] at hok
    rw [List.length_append, List.length_singleton] at hr
    refine ⟨r, hq.via2 hr fun k hk => ?_, hok⟩
    have hst := rd3_step k T (n : Int) (strs.length : Int) nums strs (x.size : Int) (t : Int) (s : Int) _ _ hk c1 (by rw [hw1.out]; exact hbig) (Int.natCast_nonneg t) hw2.out c4 c5 c6 hw3.out
    rw [Int.toNat_natCast, Int.toNat_natCast, hxe] at hst
    exact hst
  ·refine ⟨([], [], [], 1, (T.length : Int), t), hq.via fun k hk => ?_, Out.short (by omega) t⟩
   rw [r_code.l3, if_pos (by omega), hk, Option.bind_some, if_pos n11]
theorem fl2 {F T : List Int} (h : Fw F T) (n : Int) (nums : List Int) (j : Nat) (hj : nums.length = j) (hj1 : j < 2147483648) (Q : R6 → Prop) (R : List Int) (v : Int) (v1 : v < 256 ^ 8)
  (ih : ∀ (s' : Nat), s' ≤ T.length → F.drop s' = R → ∃ r, Ans (fun k => r_code.l1 k T n ((j + 1 : Nat) : Int) T (s' : Int) (nums ++ [v])) r ∧ Q r)
  (hsh : ∀ t, T.length + R.length < F.length → Q ([], [], [], 1, (T.length : Int), t)) (m : Nat) :
  ∀ (i : Nat) (acc u : Int) (s : Nat), i + m = 8 → 0 ≤ acc → acc < 256 ^ i → s ≤ T.length → 0 ≤ u → v = acc + u * 256 ^ i → F.drop s = n8 m u ++ R →
  ∃ r, Ans (fun k => r_code.l2 k T acc n (j : Int) (i : Int) T (s : Int) nums) r ∧ Q r := by
 have hle := h.le
 have hsm := h.small
 induction m with
 | zero =>
  intro i acc u s e h0 h1 hs u0 hv hd
  obtain rfl : i = 8 := by omega
  have hw3 : wrap64 ((j : Int) + 1) = ((j + 1 : Nat) : Int) := by rw [wrap_id (by omega) (by omega)]; rfl
  have hu : u = 0 := by
   by_cases hu : u = 0
   ·exact hu
   ·exfalso
    have h8 : (256 : Int) ^ 8 = 18446744073709551616 := by decide
    rw [h8] at hv v1
    omega
  subst hu
  rw [Int.zero_mul, Int.add_zero] at hv
  subst hv
  obtain ⟨r, hr, hok⟩ := ih s hs hd
  refine ⟨r, hr.to fun k => ?_, hok⟩
  rw [r_code.l2, if_neg (by omega), if_pos (by omega), hw3]
 | succ m ihm =>
  intro i acc u s e h0 h1 hs u0 hv hd
  obtain ⟨hp, hp1⟩ := p256 i (by omega)
  rw [n8, List.cons_append] at hd
  by_cases hin : s < T.length
  ·have hby := fw_byte h hd hin
   have hnx := (fw_rd h hd hin).2.1
   have d0 : 0 ≤ u % 256 := by omega
   have d1 : u % 256 < 256 := by omega
   have hor := Aside0.mk (byte_or i (by omega) acc (u % 256) h0 h1 d0 d1)
   have hw3 := Aside0.mk (show wrap64 ((i : Int) + 1) = ((i + 1 : Nat) : Int) from by rw [wrap_id (by omega) (by omega)]; rfl)
   have hn : acc + u % 256 * 256 ^ i < 256 ^ (i + 1) := by
    rw [hp]
    have : u % 256 * 256 ^ i ≤ 255 * 256 ^ i := Int.mul_le_mul_of_nonneg_right (by omega) (by omega)
    omega
   have hn0 : 0 ≤ u % 256 * 256 ^ i := Int.mul_nonneg d0 (by omega)
   have ex : v = acc + u % 256 * 256 ^ i + u / 256 * 256 ^ (i + 1) := by
    have hu : u = u % 256 + 256 * (u / 256) := by omega
    rw [hv]
    conv => lhs; rw [hu]
    rw [hp, Int.add_mul, ← Int.add_assoc, ← Int.mul_assoc, Int.mul_comm (u / 256) 256]
   have c1 : (i : Int) < 8 := by omega
   have c2 := Aside0.mk (show 0 ≤ wrap64 (8 * (i : Int)) from by rw [wrap_id (by omega) (by omega)]; omega)
   obtain ⟨r, hr, hok⟩ := ihm (i + 1) (acc + u % 256 * 256 ^ i) (u / 256) (s + 1) (by omega) (by omega) hn (by omega) (by omega) ex hnx
   exact ⟨r, hr.to fun k => rd2_step k T acc n (j : Int) (i : Int) nums (s : Int) (u % 256) _ _ _ hby c1 c2.out hor.out hw3.out, hok⟩
  ·refine ⟨([], [], [], 1, (T.length : Int), (s : Int)), Ans.at1 fun k => ?_, hsh _ ?_⟩
   ·rw [r_code.l2, if_pos (by omega), byte_end (by omega), Option.bind_some, if_pos n11]
   ·have := fw_len hd (by omega)
    rw [List.length_cons, List.length_append] at this
    omega
theorem fl1 {F T : List Int} (h : Fw F T) {e : Nat} (he : F.length = e + 1) (n : Nat) (hn : n ≤ 2147483647) (ops : List S41) (hops : ops.length ≤ 2147483647) (hx : ∀ x ∈ ops, Jx x) (strs : List ByteArray) (hst : strs.length ≤ 2147483647) (hz : ∀ x ∈ strs, x.size ≤ 2147483647) (mm : Int) :
  ∀ (more nums : List Int) (s : Nat), nums.length + more.length = n → Un more → s ≤ T.length →
  F.drop s = more.flatMap (n8 8) ++ (textE ops strs ++ [mm]) → ∃ r, Ans (fun k => r_code.l1 k T (n : Int) (nums.length : Int) T (s : Int) nums) r ∧ Out T e ops (nums ++ more) strs r
 | [], nums, s, hl, hu, hs, hd => by
  have hle := h.le
  rw [List.length_nil] at hl
  have hd2 : F.drop s = dgL (strs.length : Int) ++ (strs.flatMap sE ++ (bodyE ops ++ [mm])) := by
   rw [hd, textE, List.flatMap_nil, List.nil_append]
   simp only [List.append_assoc]
  have h2 := fw_len hd2 (by omega)
  simp only [List.length_append, List.length_singleton] at h2
  obtain ⟨q, hq, hnum⟩ := fnum h hs (Int.natCast_nonneg _) (by omega) hd2
  rcases hnum with ⟨hin, rfl⟩ | ⟨hout, v, t, rfl⟩
  ·obtain ⟨r, hr, hok⟩ := fl3 h he nums strs.length hst ops hops hx mm strs [] _ (by rw [List.length_nil]; omega) hz hin (fw_next hd2)
   refine ⟨r, hq.via2 hr fun k hk => ?_, by rw [List.append_nil]; exact hok⟩
   rw [r_code.l1, if_neg (by omega), hk, Option.bind_some, if_neg n01]
   rfl
  ·refine ⟨([], [], [], 1, (T.length : Int), t), hq.via fun k hk => ?_, Out.short (by omega) t⟩
   rw [r_code.l1, if_neg (by omega), hk, Option.bind_some, if_pos n11]
 | v :: more, nums, s, hl, hu, hs, hd => by
  have hle := h.le
  rw [List.length_cons] at hl
  have hv := hu v (by simp)
  rw [List.flatMap_cons, List.append_assoc] at hd
  obtain ⟨r, hr, hok⟩ := fl2 h (n : Int) nums nums.length rfl (by omega) (Out T e ops (nums ++ v :: more) strs) _ v hv.2
   (fun s' hs' hd' => by
    obtain ⟨r, hr, hok⟩ := fl1 h he n hn ops hops hx strs hst hz mm more (nums ++ [v]) s' (by rw [List.length_append, List.length_singleton]; omega) (fun y hy => hu y (by simp [hy])) hs' hd'
    rw [List.append_assoc] at hok
    rw [List.length_append, List.length_singleton] at hr
    exact ⟨r, hr, hok⟩)
   (fun t ht => Out.short (by simp only [List.length_append, List.length_singleton] at ht; omega) t) 8 0 0 v s rfl (Int.le_refl 0) (by decide) hs hv.1 (by rw [show v * 256 ^ 0 = v from Int.mul_one v, Int.zero_add]) hd
  refine ⟨r, hr.to fun k => ?_, hok⟩
  rw [r_code.l1, if_pos (by omega)]
  rfl
theorem magic_at : ∀ i : Nat, i < 4 → magic.drop i = bt (⟨#[65, 66, 67, 49]⟩ : ByteArray) (i : Int) :: magic.drop (i + 1) := fun i hi => (bt_magic i hi).symm
theorem fl0 {F T : List Int} (h : Fw F T) {e : Nat} (he : F.length = e + 1) (ops : List S41) (hops : ops.length ≤ 2147483647) (hx : ∀ x ∈ ops, Jx x) (nums : List Int) (hnl : nums.length ≤ 2147483647) (hu : Un nums) (strs : List ByteArray) (hst : strs.length ≤ 2147483647) (hz : ∀ x ∈ strs, x.size ≤ 2147483647) (mm : Int) (m : Nat) :
  ∀ (i : Nat), i + m = 4 → i ≤ T.length → F.drop i = magic.drop i ++ (dgL nums.length ++ (nums.flatMap (n8 8) ++ (textE ops strs ++ [mm]))) →
  ∃ r, Ans (fun k => r_code.l0 k T (i : Int) T (i : Int)) r ∧ Out T e ops nums strs r := by
 have hle := h.le
 induction m with
 | zero =>
  intro i e' hs hd
  obtain rfl : i = 4 := by omega
  have hd2 : F.drop 4 = dgL (nums.length : Int) ++ (nums.flatMap (n8 8) ++ (textE ops strs ++ [mm])) := hd
  have h2 := fw_len hd2 (by omega)
  simp only [List.length_append, List.length_singleton] at h2
  obtain ⟨q, hq, hnum⟩ := fnum h hs (Int.natCast_nonneg _) (by omega) hd2
  rcases hnum with ⟨hin, rfl⟩ | ⟨hout, v, t, rfl⟩
  ·obtain ⟨r, hr, hok⟩ := fl1 h he nums.length hnl ops hops hx strs hst hz mm nums [] _ (by rw [List.length_nil]; omega) hu hin (fw_next hd2)
   refine ⟨r, hq.via2 hr fun k hk => ?_, hok⟩
   rw [r_code.l0, if_neg (by omega), hk, Option.bind_some, if_neg n01]
   rfl
  ·refine ⟨([], [], [], 1, (T.length : Int), t), hq.via fun k hk => ?_, Out.short (by omega) t⟩
   rw [r_code.l0, if_neg (by omega), hk, Option.bind_some, if_pos n11]
 | succ m ih =>
  intro i e' hs hd
  have hd2 := hd
  rw [magic_at i (by omega), List.cons_append] at hd2
  by_cases hin : i < T.length
  ·have hby := fw_byte h hd2 hin
   have hnx := (fw_rd h hd2 hin).2.1
   have hw3 : wrap64 ((i : Int) + 1) = ((i + 1 : Nat) : Int) := by rw [wrap_id (by omega) (by omega)]; rfl
   obtain ⟨r, hr, hok⟩ := ih (i + 1) (by omega) (by omega) hnx
   refine ⟨r, hr.to fun k => ?_, hok⟩
   rw [r_code.l0, if_pos (by omega), hby, Option.bind_some, if_neg n01, if_pos (by omega), if_pos rfl, hw3]
  ·refine ⟨([], [], [], 1, (T.length : Int), (i : Int)), Ans.at1 fun k => ?_, Out.short ?_ _⟩
   ·rw [r_code.l0, if_pos (by omega), byte_end (by omega), Option.bind_some, if_pos n11]
   ·have := fw_len hd2 (by omega)
    simp only [List.length_cons, List.length_append, List.length_singleton] at this
    omega
/-- The reader over a beginning of a code's bytes and one byte more. -/
theorem c_fw (ops : List S41) (nums : List Int) (strs : List ByteArray) (mm : Int) (hops : ops.length ≤ 2147483647) (hx : ∀ x ∈ ops, Jx x) (hnl : nums.length ≤ 2147483647) (hu : Un nums) (hst : strs.length ≤ 2147483647) (hz : ∀ x ∈ strs, x.size ≤ 2147483647)
  (hb : By (wholeE ops nums strs ++ [mm])) (hl : (wholeE ops nums strs).length ≤ 16777216) (k : Nat) (hk : k ≤ (wholeE ops nums strs).length + 1) :
  ∃ r, Ans (fun j => r_code.f j ((wholeE ops nums strs ++ [mm]).take k) 0 ((wholeE ops nums strs ++ [mm]).take k)) r ∧ Out ((wholeE ops nums strs ++ [mm]).take k) (wholeE ops nums strs).length ops nums strs r := by
 have hF : (wholeE ops nums strs ++ [mm]).length = (wholeE ops nums strs).length + 1 := by rw [List.length_append, List.length_singleton]
 have hT : ((wholeE ops nums strs ++ [mm]).take k).length = k := by rw [List.length_take, hF]; omega
 have h : Fw (wholeE ops nums strs ++ [mm]) ((wholeE ops nums strs ++ [mm]).take k) := ⟨by rw [hT, hF]; exact hk, by rw [hT], hb, by rw [hF]; omega⟩
 refine fl0 h hF ops hops hx nums hnl hu strs hst hz mm 4 0 rfl (Nat.zero_le _) ?_
 show wholeE ops nums strs ++ [mm] = magic ++ _
 rw [wholeE, magic]
 simp only [List.append_assoc]
end Go.Proofs.YtdkejcadoepnnaaDoor.Pl
end
