/-
  Plain laws of the scan statements: ScanNumbers answers true.
-/
import Derived.Test.YtcgjfckhnpimbaaDoorP
import Derived.Test.YtcgjfckhnpimbaaDoorEScanx27
set_option linter.unusedVariables false
set_option linter.unusedSimpArgs false
namespace Go.Proofs.YtcgjfckhnpimbaaDoor.Pl
open Go.RowKit Go.Proofs.YtcgjfckhnpimbaaDoorW.PrintWords Go.Proofs.YtcgjfckhnpimbaaDoor.X Go.Proofs.YtcgjfckhnpimbaaDoor.EScan

theorem blanks_law : Ans (fun k => abacuslaw08_blanks.f k) true := by
  have key : ∀ i, i ≤ (256 : Int) → 0 ≤ i → Ans (fun k => abacuslaw08_blanks.l0 k i) true := by
    refine left_ind fun i hi ih h0 => Ans.succ ?_
    simp only [abacuslaw08_blanks.l0]
    by_cases hlt : i < 256
    · have next := ih (i + 1) (by omega) (by omega) (by omega)
      simp only [if_pos hlt, show i % 256 = i by omega, blank_f, Option.bind_some, wrap_id (x := i + 1) (by omega) (by omega)]
      by_cases h9 : i = 9
      · simpa [h9] using next
      · by_cases h10 : i = 10
        · simpa [h10] using next
        · by_cases h11 : i = 11
          · simpa [h11] using next
          · by_cases h12 : i = 12
            · simpa [h12] using next
            · by_cases h13 : i = 13
              · simpa [h13] using next
              · simp only [if_neg h9, if_neg h10, if_neg h11, if_neg h12, if_neg h13]
                have hr : (decide (9 ≤ i) && decide (i ≤ 13)) = false := by
                  simp only [Bool.and_eq_false_iff, decide_eq_false_iff_not]
                  omega
                rw [hr, Bool.or_false]
                simpa using next
    · simp only [if_neg hlt]
      exact Ans.ret _
  exact key 0 (by omega) (by omega)
theorem rdOf_get {l : List ByteArray} {i : Int} (h0 : 0 ≤ i) (h : i < l.length) : rdOf ByteArray.empty l i ∈ l := by
  unfold rdOf
  have : i.toNat < l.length := by omega
  rw [List.getD_eq_getElem?_getD, List.getElem?_eq_getElem this]
  exact List.getElem_mem this
theorem scanNumbers_true (l : List ByteArray) (hl : l.length ≤ 4611686018427387904) (hb : ∀ s ∈ l, s.size ≤ 140737488351232) : Ans (fun k => abacuslaw08_ScanNumbers.f k l) true := by
  have key : ∀ i, i ≤ (l.length : Int) → 0 ≤ i → Ans (fun k => abacuslaw08_ScanNumbers.l0 k l i) true := by
    refine left_ind fun i hi ih h0 => Ans.succ ?_
    simp only [abacuslaw08_ScanNumbers.l0]
    by_cases hlt : i < (l.length : Int)
    · simp only [if_pos hlt, if_pos h0]
      have hs := hb _ (rdOf_get h0 hlt)
      refine Ans.bind (numbers_t _ hs) ?_
      simp only [if_true]
      refine Ans.bind (wholes_t _ hs) ?_
      simp only [if_true]
      rw [wrap_id (by omega) (by omega)]
      exact ih (i + 1) (by omega) (by omega) (by omega)
    · simp only [if_neg hlt]
      exact Ans.ret _
  unfold abacuslaw08_ScanNumbers.f
  refine Ans.bind blanks_law ?_
  simp only [if_true]
  refine Ans.bind (numbers_t _ (by decide)) ?_
  simp only [if_true]
  refine Ans.bind (numbers_t _ (by decide)) ?_
  simp only [if_true]
  refine Ans.bind (wholes_t _ (by decide)) ?_
  simp only [if_true]
  refine Ans.bind (wholes_t _ (by decide)) ?_
  refine Ans.succ ?_
  simp only [abacuslaw08_ScanNumbers.j0, Bool.not_true, Bool.false_eq_true, if_false]
  exact key 0 (by omega) (by omega)
end Go.Proofs.YtcgjfckhnpimbaaDoor.Pl
