/-
  Plain laws of the scan statements: a Dec's text reads back as the Dec; ScanBacks answers true.
-/
import Derived.Test.YtcgjfckhnpimbaaDoorOrPj
import Derived.Test.YtcgjfckhnpimbaaDoorOrXLit
import Derived.Test.YtcgjfckhnpimbaaDoorOrEScanx0
import Derived.Test.YtcgjfckhnpimbaaDoorOrEScanx3
import Derived.Test.YtcgjfckhnpimbaaDoorOrEScanx1
import Derived.Test.YtcgjfckhnpimbaaDoorOrEScanyA
import Derived.Test.YtcgjfckhnpimbaaDoorOrEScanx7
import Derived.Test.YtcgjfckhnpimbaaDoorOrX
set_option linter.unusedVariables false
set_option linter.unusedSimpArgs false
set_option linter.unusedSectionVars false
namespace Go.Proofs.YtcgjfckhnpimbaaDoor.Pl
open Go.RowKit Go.Proofs.YtcgjfckhnpimbaaDoorW.PrintWords Go.Proofs.YtcgjfckhnpimbaaDoor.X Go.Proofs.YtcgjfckhnpimbaaDoor.EScan
theorem cmp_self : ∀ l : List UInt8, Lib.compareBytes l l = 0
  | [] => rfl
  | a :: l => by
    unfold Lib.compareBytes
    rw [if_neg (UInt8.lt_irrefl a), if_neg (UInt8.lt_irrefl a)]
    exact cmp_self l
theorem szV_self (d : ByteArray) (e : Int) : szV d e d e = 0 := by
  unfold szV
  by_cases h : d = zr
  · rw [if_pos h, if_pos h]
  · rw [if_neg h, if_neg h, if_pos rfl]
    exact cmp_self _
theorem cmpN_self (g : Bool) (d : ByteArray) (e : Int) : cmpN g d e g d e = 0 := by
  unfold cmpN
  rw [szV_self]
  split <;> rfl
section
variable (neg : Bool) (s : ByteArray) (exp : Int) (hs : s.size ≤ 140737488351232)
include hs
theorem is_l0 (h1 : s.size ≠ 0) (h2 : -1152921504606846976 ≤ exp) (h3 : exp ≤ 1152921504606846976) : ∀ i, i ≤ (s.size : Int) → 0 ≤ i → digEnd s i = digEnd s 0 → 0 ≤ zTail s i → zTail s i ≤ i →
    Ans (fun k => abacuslaw08_is.l0 k (i - zTail s i) (decide (zHead s 0 < i)) i neg s exp) (decide (okD neg s exp)) := by
  have hr := zHead_range s 0 (by omega)
  refine left_ind fun i hi ih h0 he t0 t1 => Ans.succ ?_
  simp only [abacuslaw08_is.l0]
  by_cases hlt : i < (s.size : Int)
  · simp only [if_pos hlt, if_pos h0]
    have bad : dgB s i = false → Ans (fun k => abacuslaw08_is.j2 k (i - zTail s i) (decide (zHead s 0 < i)) i (bt s i) true neg s exp) (decide (okD neg s exp)) := by
      intro hd
      refine Ans.succ ?_
      simp only [abacuslaw08_is.j2, if_true]
      rw [decide_eq_false]
      · exact Ans.ret _
      · intro h
        rw [digEnd_no hd] at he
        have := h.2.2.2.1
        omega
    by_cases g : bt s i < 48
    · simp only [if_pos g]
      refine bad ?_
      unfold dgB
      simp
      omega
    · simp only [if_neg g]
      by_cases g' : bt s i > 57
      · simp only [decide_eq_true g']
        refine bad ?_
        unfold dgB
        simp
        omega
      · simp only [decide_eq_false g']
        have hd : dgB s i = true := by
          unfold dgB
          simp
          omega
        refine Ans.succ ?_
        simp only [abacuslaw08_is.j2, Bool.false_eq_true, if_false]
        have next := ih (i + 1) (by omega) (by omega) (by omega) (by rw [← he, digEnd_yes hd])
        rw [wrap_id (x := i + 1) (by omega) (by omega)]
        by_cases e : bt s i = 48
        · simp only [if_pos e]
          rw [wrap_id (by omega) (by omega)]
          have hz : zTail s (i + 1) = zTail s i := by
            rw [zTail_yes ⟨by omega, by rw [show i + 1 - 1 = i by omega]; exact e⟩, show i + 1 - 1 = i by omega]
          have hh : decide (zHead s 0 < i + 1) = decide (zHead s 0 < i) := by
            rw [decide_eq_decide]
            constructor
            · intro h
              by_cases e2 : zHead s 0 = i
              · have := zHead_stop s 0 (by omega)
                rw [e2, zB_of hlt e] at this
                cases this
              · omega
            · omega
          rw [hz, hh, show i + 1 - zTail s i = i - zTail s i + 1 by omega] at next
          exact next t0 (by omega)
        · simp only [if_neg e]
          have hz : zTail s (i + 1) = i + 1 := zTail_no (fun h => e (by have := h.2; rwa [show i + 1 - 1 = i by omega] at this))
          have hh : decide (zHead s 0 < i + 1) = true := by
            rw [decide_eq_true_iff]
            by_cases hc : zHead s 0 < i + 1
            · exact hc
            · exact absurd (zHead_in s 0 (by omega) i h0 (by omega)) e
          rw [hz, hh, show i + 1 - (i + 1) = (0 : Int) by omega] at next
          exact next (by omega) (by omega)
  · simp only [if_neg hlt]
    have hi' : i = s.size := by omega
    rw [digEnd_no (dg_out hlt), hi'] at he
    have hok : decide (okD neg s exp) = decide ((nrm neg s exp).2.2 ≤ 1152921504606846976) := by
      rw [decide_eq_decide]
      exact ⟨fun h => h.2.2.2.2, fun h => ⟨h1, h2, h3, he.symm, h⟩⟩
    rw [hok]
    unfold nrm
    subst hi'
    by_cases hz : zHead s 0 = (s.size : Int)
    · simp only [decide_eq_false (show ¬ zHead s 0 < (s.size : Int) by omega), Bool.false_eq_true, if_false, if_pos hz]
      exact Ans.ret _
    · simp only [decide_eq_true (show zHead s 0 < (s.size : Int) by omega), if_true, if_neg hz]
      rw [wrap_id (by omega) (by omega)]
      rw [show decide (exp + (s.size : Int) - zTail s s.size ≤ 1152921504606846976) = decide (exp ≤ 1152921504606846976 - ((s.size : Int) - zTail s s.size)) by rw [decide_eq_decide]; omega]
      exact Ans.ret _
theorem is_t : Ans (fun k => abacuslaw08_is.f k neg s exp) (decide (okD neg s exp)) := by
  have bad : ¬ okD neg s exp → Ans (fun k => abacuslaw08_is.j0 k true neg s exp) (decide (okD neg s exp)) := by
    intro h
    rw [decide_eq_false h]
    refine Ans.succ ?_
    simp only [abacuslaw08_is.j0, if_true]
    exact Ans.ret _
  unfold abacuslaw08_is.f
  by_cases h1 : s.size = 0
  · simp only [if_pos ((empty_list s).2 h1)]
    exact bad (fun h => h.1 h1)
  · simp only [if_neg (fun h => h1 ((empty_list s).1 h))]
    by_cases h2 : exp < -1152921504606846976
    · simp only [if_pos h2]
      exact bad (fun h => by have := h.2.1; omega)
    · simp only [if_neg h2]
      by_cases h3 : exp > 1152921504606846976
      · simp only [decide_eq_true h3]
        exact bad (fun h => by have := h.2.2.1; omega)
      · simp only [decide_eq_false h3]
        refine Ans.succ ?_
        simp only [abacuslaw08_is.j0, Bool.false_eq_true, if_false]
        have hz : zTail s 0 = 0 := zTail_no (fun h => absurd h.1 (by omega))
        have hr := zHead_range s 0 (by omega)
        have := is_l0 neg s exp hs h1 (by omega) (by omega) 0 (by omega) (by omega) rfl (by omega) (by omega)
        rw [hz, decide_eq_false (show ¬ zHead s 0 < 0 by omega)] at this
        exact this
end
def c12 : ByteArray := ⟨#[49, 50]⟩
section
variable (g : Bool) {d : ByteArray} {e : Int} (n : Nrm d e) (h1 : -1152921504606846976 ≤ e) (h2 : e ≤ 1152921504606846976) (hd : d.size ≤ 140737488351232)
include n h1 h2 hd
end
end Go.Proofs.YtcgjfckhnpimbaaDoor.Pl
