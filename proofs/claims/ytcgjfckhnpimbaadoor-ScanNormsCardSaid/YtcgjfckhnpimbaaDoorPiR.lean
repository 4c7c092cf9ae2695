/-
  Plain laws of the scan statements: Norm and Text of the reference answer as the program's.
-/
import Derived.Test.YtcgjfckhnpimbaaDoorPi
import Derived.Test.YtcgjfckhnpimbaaDoorEScanyB
set_option linter.unusedVariables false
set_option linter.unusedSimpArgs false
set_option linter.unusedSectionVars false
namespace Go.Proofs.YtcgjfckhnpimbaaDoor.Pl
open Go.RowKit Go.Proofs.YtcgjfckhnpimbaaDoorW.PrintWords Go.Proofs.YtcgjfckhnpimbaaDoor.X Go.Proofs.YtcgjfckhnpimbaaDoor.EScan
section
variable (neg : Bool) (s : ByteArray) (exp : Int) (hs : s.size ≤ 140737488351232)
include hs
theorem isdec_l0 (h1 : s.size ≠ 0) (h2 : -1152921504606846976 ≤ exp) (h3 : exp ≤ 1152921504606846976) : ∀ i, i ≤ (s.size : Int) → 0 ≤ i → digEnd s i = digEnd s 0 → Ans (fun k => abacusref08_IsDec.l0 k i neg s exp) (decide (okD neg s exp)) := by
  refine left_ind fun i hi ih h0 he => Ans.succ ?_
  simp only [abacusref08_IsDec.l0]
  by_cases hlt : i < (s.size : Int)
  · simp only [if_pos hlt, if_pos h0]
    have bad : dgB s i = false → Ans (fun _ => some false) (decide (okD neg s exp)) := by
      intro hd
      rw [decide_eq_false]
      · exact Ans.ret _
      · intro h
        rw [digEnd_no hd] at he
        have := h.2.2.2.1
        omega
    by_cases g : bt s i < 48
    · simp only [if_pos g]
      refine bad ?_
      unfold dgB
      simp
      omega
    · by_cases g' : bt s i > 57
      · simp only [if_neg g, if_pos g']
        refine bad ?_
        unfold dgB
        simp
        omega
      · simp only [if_neg g, if_neg g']
        rw [wrap_id (by omega) (by omega)]
        refine ih (i + 1) (by omega) (by omega) (by omega) ?_
        have hd : dgB s i = true := by
          unfold dgB
          simp
          omega
        rw [← he, digEnd_yes hd]
  · simp only [if_neg hlt]
    rw [digEnd_no (dg_out hlt)] at he
    refine Ans.bind (ref_normal neg s exp (by omega) (by omega) (by omega)) ?_
    have : decide ((nrm neg s exp).2.2 ≤ 1152921504606846976) = decide (okD neg s exp) := by
      rw [decide_eq_decide]
      exact ⟨fun h => ⟨h1, h2, h3, by omega, h⟩, fun h => h.2.2.2.2⟩
    rw [← this]
    exact Ans.ret _
theorem isdec_r : Ans (fun k => abacusref08_IsDec.f k neg s exp) (decide (okD neg s exp)) := by
  have bad : ¬ okD neg s exp → Ans (fun k => abacusref08_IsDec.j0 k true neg s exp) (decide (okD neg s exp)) := by
    intro h
    rw [decide_eq_false h]
    refine Ans.succ ?_
    simp only [abacusref08_IsDec.j0, if_true]
    exact Ans.ret _
  unfold abacusref08_IsDec.f
  by_cases h1 : s.size = 0
  · simp only [if_pos (show (s.size : Int) = 0 by omega)]
    exact bad (fun h => h.1 h1)
  · simp only [if_neg (show ¬ (s.size : Int) = 0 by omega)]
    by_cases h2 : exp < -1152921504606846976
    · simp only [if_pos h2]
      exact bad (fun h => by have := h.2.1; omega)
    · simp only [if_neg h2]
      by_cases h3 : exp > 1152921504606846976
      · simp only [decide_eq_true h3]
        exact bad (fun h => by have := h.2.2.1; omega)
      · simp only [decide_eq_false h3]
        refine Ans.succ ?_
        simp only [abacusref08_IsDec.j0, Bool.false_eq_true, if_false]
        exact isdec_l0 neg s exp hs h1 (by omega) (by omega) 0 (by omega) (by omega) rfl
theorem norm_r : Ans (fun k => abacusref08_Norm.f k neg s exp) (nrmV neg s exp) := by
  unfold abacusref08_Norm.f
  refine Ans.bind (isdec_r neg s exp hs) ?_
  by_cases h : okD neg s exp
  · simp only [decide_eq_true h, if_true]
    rw [nrmV_y h]
    exact Ans.bind (ref_normal neg s exp (by omega) (by have := h.2.1; omega) (by have := h.2.2.1; omega)) (Ans.ret _)
  · simp only [decide_eq_false h, Bool.false_eq_true, if_false]
    rw [nrmV_n h]
    exact Ans.ret _
theorem text_r : Ans (fun k => abacusref08_Text.f k neg s exp) (txtV (nrmV neg s exp)) := by
  obtain ⟨b1, b2, b3⟩ := nrmV_le neg s exp hs
  have b4 := itoa_size (nrmV neg s exp).2.2.1 (by omega) (by omega)
  unfold abacusref08_Text.f
  refine Ans.bind (norm_r neg s exp hs) ?_
  generalize nrmV neg s exp = r at *
  obtain ⟨g, d, e, er⟩ := r
  simp only at b1 b2 b3 b4
  have hI : xItoa.f e = some ⟨(Lib.itoa e).toArray⟩ := by
    unfold xItoa.f
    rw [if_pos ⟨by omega, by omega⟩]
  have h1 : (⟨#[45]⟩ : ByteArray).size = 1 := rfl
  have h2 : (⟨#[101]⟩ : ByteArray).size = 1 := rfl
  unfold txtV txt
  by_cases h : er = 0
  · simp only [if_pos h]
    cases g
    · simp only [Bool.false_eq_true, if_false]
      by_cases h0 : e = 0
      · simp only [if_pos h0]
        exact Ans.ret _
      · simp only [if_neg h0, hI, Option.bind_some]
        rw [if_pos (by omega), if_pos (by rw [ByteArray.size_append]; omega), ByteArray.append_assoc]
        exact Ans.ret _
    · simp only [if_true]
      rw [if_pos (by omega)]
      by_cases h0 : e = 0
      · simp only [if_pos h0]
        exact Ans.ret _
      · simp only [if_neg h0, hI, Option.bind_some]
        rw [if_pos (by rw [ByteArray.size_append]; omega), if_pos (by rw [ByteArray.size_append, ByteArray.size_append]; omega), ByteArray.append_assoc (b := ⟨#[101]⟩)]
        exact Ans.ret _
  · simp only [if_neg h]
    exact Ans.ret _
theorem norms_t : Ans (fun k => abacuslaw08_norms.f k neg s exp) true := by
  unfold abacuslaw08_norms.f
  refine Ans.bind (norm_r neg s exp hs) ?_
  refine Ans.bind (norm_s neg s exp hs) ?_
  simp only [beq_self_eq_true, Bool.not_true, Bool.or_self, Bool.false_eq_true, if_false, bne_self_eq_false]
  refine Ans.succ ?_
  simp only [abacuslaw08_norms.j0, Bool.false_eq_true, if_false]
  refine Ans.bind (text_r neg s exp hs) ?_
  refine Ans.bind (text_s neg s exp hs) ?_
  simp only [if_true, beq_self_eq_true]
  exact Ans.ret _
end
end Go.Proofs.YtcgjfckhnpimbaaDoor.Pl
