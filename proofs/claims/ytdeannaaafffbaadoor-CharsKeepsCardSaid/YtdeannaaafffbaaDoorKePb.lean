/-
  Plain laws of the chars statements, second seat: Split of the program and of the document agree; CharsSplits answers true.
-/
import Derived.Test.YtdeannaaafffbaaDoorKePa
set_option linter.unusedSimpArgs false
set_option linter.unusedVariables false
set_option linter.unusedSimpArgs false
set_option linter.unusedSectionVars false
namespace Go.Proofs.YtdeannaaafffbaaDoor.Pl
open Go.RowKit Go.Proofs.YtdeannaaafffbaaDoorW.PrintWords Go.Proofs.YtdeannaaafffbaaDoor.X Go.Proofs.YtdeannaaafffbaaDoor.ECd
theorem alike_l0 (l : List ByteArray) (hl : l.length ≤ 4611686018427387904) : ∀ i : Int, i ≤ (l.length : Int) → 0 ≤ i → Ans (fun k => abacuslaw20_alike.l0 k l l i) true := by
  refine left_ind fun i hi ih h0 => Ans.succ ?_
  simp only [abacuslaw20_alike.l0]
  by_cases hlt : i < (l.length : Int)
  · simp only [if_pos hlt, if_pos h0, if_true]
    rw [wrap_id (by omega) (by omega)]
    exact ih (i + 1) (by omega) (by omega) (by omega)
  · simp only [if_neg hlt]
    exact Ans.ret _
theorem alike_t (l : List ByteArray) (hl : l.length ≤ 4611686018427387904) : Ans (fun k => abacuslaw20_alike.f k l l) true := by
  unfold abacuslaw20_alike.f
  simp only [if_true]
  exact alike_l0 l hl 0 (by omega) (by omega)
def blk (b : Int) : Bool := decide (b = 32) || (decide (9 ≤ b) && decide (b ≤ 13))
theorem blank1 (b : Int) : scan_Blank.f b = some (blk b) := by
  unfold scan_Blank.f blk
  by_cases h : b = 32
  · simp [h]
  · by_cases h1 : b ≥ 9
    · simp [h, h1]
    · simp [h, h1]
/-- The runs from i on; b: where one has begun (-1: none has). -/
def runL (s : ByteArray) (b i : Int) : List ByteArray :=
  if h : i < (s.size : Int) then
    if blk (bt s i) = true then (if b < 0 then runL s (-1) (i + 1) else s.extract b.toNat i.toNat :: runL s (-1) (i + 1))
    else (if b < 0 then runL s i (i + 1) else runL s b (i + 1))
  else (if b < 0 then [] else [s.extract b.toNat i.toNat])
termination_by ((s.size : Int) - i).toNat
decreasing_by all_goals omega
section
variable (s : ByteArray) (hs : s.size ≤ 1048576)
include hs
theorem words_l (i : Int) (hi : i ≤ (s.size : Int)) (h0 : 0 ≤ i) : (∀ (x3 : List ByteArray), (x3.length : Int) ≤ i → Ans (fun k => chars_words.l0 k s x3 i) (x3 ++ runL s (-1) i)) ∧
    (∀ (x3 : List ByteArray) (b : Int), 0 ≤ b → b < i → (x3.length : Int) ≤ b → Ans (fun k => chars_words.l1 k s x3 i b) (x3 ++ runL s b i)) := by
  revert h0
  revert i
  refine left_ind fun i hi ih h0 => ?_
  have first : (∀ (x3 : List ByteArray), (x3.length : Int) ≤ i → Ans (fun k => chars_words.l0 k s x3 i) (x3 ++ runL s (-1) i)) := by
    intro x3 hx
    refine Ans.succ ?_
    simp only [chars_words.l0]
    rw [runL]
    by_cases hlt : i < (s.size : Int)
    · obtain ⟨n0, n1⟩ := ih (i + 1) (by omega) (by omega) (by omega)
      simp only [if_pos hlt, if_pos h0, blank1, Option.bind_some, dif_pos hlt]
      cases hb : blk (bt s i)
      · simp only [Bool.false_eq_true, if_false, if_pos (show (-1 : Int) < 0 by decide)]
        refine Ans.succ ?_
        simp only [chars_words.l1, if_pos hlt, if_pos h0, blank1, Option.bind_some, hb, Bool.false_eq_true, if_false]
        rw [wrap_id (by omega) (by omega)]
        exact n1 x3 i h0 (by omega) hx
      · simp only [if_true, if_pos (show (-1 : Int) < 0 by decide)]
        rw [wrap_id (by omega) (by omega)]
        exact n0 x3 (by omega)
    · simp only [if_neg hlt, dif_neg hlt, if_pos (show (-1 : Int) < 0 by decide), List.append_nil]
      exact Ans.ret _
  refine ⟨first, ?_⟩
  intro x3 b hb0 hbi hx
  refine Ans.succ ?_
  simp only [chars_words.l1]
  rw [runL]
  have hl : (x3 ++ [s.extract b.toNat i.toNat]).length = x3.length + 1 := by simp
  by_cases hlt : i < (s.size : Int)
  · obtain ⟨n0, n1⟩ := ih (i + 1) (by omega) (by omega) (by omega)
    simp only [if_pos hlt, if_pos h0, blank1, Option.bind_some, dif_pos hlt, if_neg (show ¬ b < 0 by omega)]
    cases hb : blk (bt s i)
    · simp only [Bool.false_eq_true, if_false]
      rw [wrap_id (by omega) (by omega)]
      exact n1 x3 b hb0 (by omega) hx
    · simp only [if_true, if_pos hb0, if_pos (show b ≤ i by omega), if_pos (show i ≤ (s.size : Int) by omega), if_pos (show x3.length < 8796093022208 by omega)]
      have := first (x3 ++ [s.extract b.toNat i.toNat]) (by rw [hl]; omega)
      have hr : runL s (-1) i = runL s (-1) (i + 1) := by
        rw [runL, dif_pos hlt, if_pos hb, if_pos (by decide)]
      rw [hr, List.append_assoc] at this
      exact this
  · simp only [if_neg hlt, dif_neg hlt, if_neg (show ¬ b < 0 by omega), if_pos hb0, if_pos (show b ≤ i by omega), if_pos (show i ≤ (s.size : Int) by omega), if_pos (show x3.length < 8796093022208 by omega)]
    have := first (x3 ++ [s.extract b.toNat i.toNat]) (by rw [hl]; omega)
    have hr : runL s (-1) i = [] := by rw [runL, dif_neg hlt, if_pos (by decide)]
    rw [hr, List.append_nil] at this
    exact this
theorem words_t : Ans (fun k => chars_words.f k s) (runL s (-1) 0) := by
  have := (words_l s hs 0 (by omega) (by omega)).1 [] (by simp)
  rw [List.nil_append] at this
  exact this
def sing (n : Nat) : List ByteArray := (List.range n).map fun j => s.extract j (j + 1)
omit hs in
theorem sing_len (n : Nat) : (sing s n).length = n := by simp [sing]
theorem bytes1 : ∀ i : Int, i ≤ (s.size : Int) → 0 ≤ i → ∀ x5 : List ByteArray, x5.length = s.size → (∀ j : Nat, (j : Int) < i → x5[j]? = some (s.extract j (j + 1))) → Ans (fun k => chars_Split.l0 k s x5 (s.size : Int) i) (sing s s.size) := by
  refine left_ind fun i hi ih h0 x5 hl hx => Ans.succ ?_
  obtain ⟨m, rfl⟩ : ∃ m : Nat, i = m := ⟨i.toNat, by omega⟩
  simp only [chars_Split.l0]
  by_cases hlt : (m : Int) < (s.size : Int)
  · rw [wrap_id (x := (m : Int) + 1) (by omega) (by omega)]
    simp only [if_pos hlt, if_pos h0, if_pos (show (m : Int) ≤ (m : Int) + 1 by omega), if_pos (show (m : Int) + 1 ≤ (s.size : Int) by omega), if_pos (show (m : Int) < (x5.length : Int) by omega), Int.toNat_natCast]
    rw [show ((m : Int) + 1).toNat = m + 1 by omega]
    refine ih (m + 1) (by omega) (by omega) (by omega) _ (by rw [List.length_set]; exact hl) fun j hj => ?_
    by_cases e : j = m
    · subst e
      rw [List.getElem?_set_self (by omega)]
    · rw [List.getElem?_set_ne (by omega)]
      exact hx j (by omega)
  · simp only [if_neg hlt]
    have : x5 = sing s s.size := by
      apply List.ext_getElem?
      intro j
      by_cases hj : j < s.size
      · rw [hx j (by omega)]
        simp [sing, hj]
      · rw [List.getElem?_eq_none (by omega), List.getElem?_eq_none (by rw [sing_len]; omega)]
    rw [this]
    exact Ans.ret _
end
end Go.Proofs.YtdeannaaafffbaaDoor.Pl
