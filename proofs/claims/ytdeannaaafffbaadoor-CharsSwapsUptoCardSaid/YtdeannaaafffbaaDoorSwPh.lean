/-
  Plain laws of the chars statements, second seat: CharsSwaps answers true.
-/
import Derived.Test.YtdeannaaafffbaaDoorSwPg
import Derived.Test.YtdeannaaafffbaaDoorSwECdx27
set_option linter.unusedVariables false
set_option linter.unusedSimpArgs false
set_option linter.unusedSectionVars false
namespace Go.Proofs.YtdeannaaafffbaaDoor.Pl
open Go.RowKit Go.Proofs.YtdeannaaafffbaaDoorW.PrintWords Go.Proofs.YtdeannaaafffbaaDoor.X Go.Proofs.YtdeannaaafffbaaDoor.ECd
section
variable (s o : ByteArray) (hs : s.size ≤ 1048576) (ho : o.size ≤ 1048576) (hol : 0 < o.size)
include hs ho hol
theorem cnt_le : Lib.count s.data.toList o.data.toList ≤ s.size := by
  have h2 := size_l s
  have h3 := size_l o
  have hO : o.data.toList ≠ [] := fun e => by
    rw [e] at h3
    have : ([] : List UInt8).length = 0 := rfl
    omega
  have hch := plc_chain s.data.toList o.data.toList hO (Lib.count s.data.toList o.data.toList) 0 (by omega) (by rw [List.drop_zero]; exact Nat.le_refl _) true
  have he := chain_end s.data.toList o.data.toList hch (by omega)
  rw [plc_len, h3, h2] at he
  have := Nat.mul_le_mul_left (Lib.count s.data.toList o.data.toList) hol
  omega
theorem rep_val (w : ByteArray) (hw : w.size ≤ 1048576) (hm : s.size * w.size ≤ 1048576 ∨ w = o) (most : Int) (n : Nat) (hnc : n ≤ Lib.count s.data.toList o.data.toList)
    (hn : (most < 0 ∧ n = Lib.count s.data.toList o.data.toList) ∨ (0 ≤ most ∧ (n : Int) = most)) :
    Ans (fun k => chars_Replace.f k s o w most) (⟨(asm s.data.toList o.data.toList w.data.toList 0 (plc s.data.toList o.data.toList n 0)).toArray⟩, (n : Int), 0) := by
  have h2 := size_l s
  have h3 := size_l o
  have hO : o.data.toList ≠ [] := fun e => by
    rw [e] at h3
    have : ([] : List UInt8).length = 0 := rfl
    omega
  have hc := cnt_le s o hs ho hol
  have hp := prog_t s o w (by omega) (by omega) (by omega) hO most n (by
    rcases hn with h | ⟨h, h'⟩
    · exact .inl h
    · refine .inr ⟨h, ?_⟩
      split
      · exact h'
      · omega)
  unfold ansR at hp
  rw [plc_len] at hp
  have c1 : ((n * w.size : Nat) : Int) = (n : Int) * (w.size : Int) := Int.natCast_mul _ _
  have c2 : ((n * o.size : Nat) : Int) = (n : Int) * (o.size : Int) := Int.natCast_mul _ _
  rw [if_neg ?_] at hp
  · exact hp
  · rcases hm with h | h
    · have := Nat.mul_le_mul_right w.size (Nat.le_trans hnc hc)
      omega
    · rw [h] at c1 ⊢
      omega
theorem swap_join (w : ByteArray) : asm s.data.toList o.data.toList w.data.toList 0 (plc s.data.toList o.data.toList (Lib.count s.data.toList o.data.toList) 0) = jb w true (parts s o (Lib.count s.data.toList o.data.toList) 0) := by
  have h := asm_parts s o w hol (Lib.count s.data.toList o.data.toList) (Lib.count s.data.toList o.data.toList) 0 (Nat.le_refl _) (by omega) rfl
  have hl := parts_len s o (Lib.count s.data.toList o.data.toList) 0
  rw [h, List.take_of_length_le (by omega)]
  have hd : (parts s o (Lib.count s.data.toList o.data.toList) 0).drop (Lib.count s.data.toList o.data.toList) = [(parts s o (Lib.count s.data.toList o.data.toList) 0)[Lib.count s.data.toList o.data.toList]'(parts_get s o (Nat.le_refl _))] := by
    rw [List.drop_eq_getElem_cons (by omega), List.drop_eq_nil_of_le (by omega)]
  rw [hd, jb, jb]
  simp only [if_true, List.nil_append, List.append_nil]
  rw [List.drop_eq_nil_of_le (by rw [size_l]; exact Nat.le_refl _), List.append_nil]
omit hs ho hol in
theorem jb_drop_len : ∀ (l : List ByteArray) (n : Nat), (jb o true (l.drop n)).length ≤ (jb o true l).length
  | [], n => by simp
  | x :: l, 0 => Nat.le_refl _
  | x :: l, n + 1 => by
    have ih := jb_drop_len l n
    rw [List.drop_succ_cons]
    have : (jb o true l).length ≤ (jb o true (x :: l)).length := by
      cases l with
      | nil => exact Nat.zero_le _
      | cons y r =>
        rw [jb_cons o x (by simp), List.length_append, List.length_append]
        omega
    omega
omit hs ho hol in
theorem mem_jb (x : ByteArray) : ∀ (l : List ByteArray) (f : Bool), x ∈ l → x.size ≤ (jb o f l).length
  | [], f, h => by cases h
  | y :: l, f, h => by
    rw [jb, List.length_append, List.length_append, size_l]
    rcases List.mem_cons.1 h with rfl | h
    · omega
    · have := mem_jb x l false h
      omega
theorem joinV_ok (l : List ByteArray) (w : ByteArray) (h : (jb w true l).length ≤ 16777216) : joinV l w = (⟨(jb w true l).toArray⟩, 0) := by
  unfold joinV
  rw [← jb_len, if_neg (by omega), join_jb]
theorem swaps_j3 (w : ByteArray) (hw : w.size ≤ 1048576) (hm : s.size * w.size ≤ 1048576) (h1 : o.data.toList ≠ [32]) (kk : Int) : Ans (fun k => abacuslaw20_CharsSwaps.j3 k s o w kk (parts s o (Lib.count s.data.toList o.data.toList) 0) false) true := by
  have hc := cnt_le s o hs ho hol
  have hl := parts_len s o (Lib.count s.data.toList o.data.toList) 0
  have fin : Ans (fun k => abacuslaw20_CharsSwaps.j4 k s o w kk (parts s o (Lib.count s.data.toList o.data.toList) 0) true) true := by
    refine Ans.succ ?_
    simp only [abacuslaw20_CharsSwaps.j4, if_true]
    exact Ans.ret _
  refine Ans.succ ?_
  simp only [abacuslaw20_CharsSwaps.j3, Bool.false_eq_true, if_false]
  by_cases g1 : kk < 0
  · simp only [if_pos g1]
    exact fin
  · simp only [if_neg g1]
    by_cases g2 : kk ≥ ((parts s o (Lib.count s.data.toList o.data.toList) 0).length : Int)
    · simp only [decide_eq_true g2]
      exact fin
    · simp only [decide_eq_false g2]
      obtain ⟨n, rfl⟩ : ∃ n : Nat, kk = n := ⟨kk.toNat, by omega⟩
      have hn : n ≤ Lib.count s.data.toList o.data.toList := by omega
      have h2 := size_l s
      have h3 := size_l o
      have h4 := size_l w
      have hO : o.data.toList ≠ [] := fun e => by
        rw [e] at h3
        have : ([] : List UInt8).length = 0 := rfl
        omega
      have hA := asm_parts s o w hol n (Lib.count s.data.toList o.data.toList) 0 hn (by omega) rfl
      have hch := plc_chain s.data.toList o.data.toList hO n 0 (by omega) (by rw [List.drop_zero]; exact hn) true
      have hlen := asm_len s.data.toList o.data.toList w.data.toList hch (by omega)
      rw [plc_len, h4] at hlen
      have hmul := Nat.mul_le_mul_right w.size (Nat.le_trans hn hc)
      have hR := rep_val s o hs ho hol w hw (.inl hm) (n : Int) n hn (.inr ⟨by omega, rfl⟩)
      have hJ := parts_join s o hol (Lib.count s.data.toList o.data.toList) 0 (by omega) rfl
      have hD := jb_drop_len o (parts s o (Lib.count s.data.toList o.data.toList) 0) n
      have hmem : ∀ x ∈ parts s o (Lib.count s.data.toList o.data.toList) 0, x.size ≤ 1152921504606846976 := by
        intro x hx
        have := mem_jb o x _ true hx
        rw [hJ, List.drop_zero, h2] at this
        omega
      have hnl : n < (parts s o (Lib.count s.data.toList o.data.toList) 0).length := parts_get s o hn
      have hrd : rdOf ByteArray.empty (parts s o (Lib.count s.data.toList o.data.toList) 0) (n : Int) = (parts s o (Lib.count s.data.toList o.data.toList) 0)[n] := by
        unfold rdOf
        rw [Int.toNat_natCast, List.getD, List.getElem?_eq_getElem hnl]
        rfl
      have hin : (parts s o (Lib.count s.data.toList o.data.toList) 0)[n] ∈ (parts s o (Lib.count s.data.toList o.data.toList) 0).drop n := by
        rw [List.drop_eq_getElem_cons hnl]
        exact List.mem_cons_self
      have hps := mem_jb o (parts s o (Lib.count s.data.toList o.data.toList) 0)[n] ((parts s o (Lib.count s.data.toList o.data.toList) 0).drop n) true hin
      rw [hJ, List.drop_zero, h2] at hD
      have hAl := congrArg List.length hA
      rw [List.length_append] at hAl
      have hT : (⟨(jb o true ((parts s o (Lib.count s.data.toList o.data.toList) 0).drop n)).toArray⟩ : ByteArray).size = (jb o true ((parts s o (Lib.count s.data.toList o.data.toList) 0).drop n)).length := by rw [← size_l]
      refine Ans.succ ?_
      simp only [abacuslaw20_CharsSwaps.j4, Bool.false_eq_true, if_false]
      rw [wrap_id (x := (n : Int) + 1) (by omega) (by omega)]
      simp only [if_pos (show (0 : Int) ≤ (n : Int) + 1 by omega), if_pos (show (n : Int) + 1 ≤ ((parts s o (Lib.count s.data.toList o.data.toList) 0).length : Int) by omega), show ((n : Int) + 1).toNat = n + 1 by omega]
      refine Ans.bind (join_t _ _ (by rw [List.length_take]; omega) (fun x hx => hmem x (List.mem_of_mem_take hx)) (by omega)) ?_
      rw [joinV_ok s o hs ho hol _ w (by omega)]
      simp only [if_pos (show (0 : Int) ≤ (n : Int) by omega), if_pos (show (n : Int) ≤ ((parts s o (Lib.count s.data.toList o.data.toList) 0).length : Int) by omega), Int.toNat_natCast]
      refine Ans.bind (join_t _ _ (by rw [List.length_drop]; omega) (fun x hx => hmem x (List.mem_of_mem_drop hx)) (by omega)) ?_
      rw [joinV_ok s o hs ho hol _ o (by omega)]
      simp only [if_true, if_pos (show (n : Int) < ((parts s o (Lib.count s.data.toList o.data.toList) 0).length : Int) by omega), hrd, hT, if_neg (show ¬ ((jb o true ((parts s o (Lib.count s.data.toList o.data.toList) 0).drop n)).length : Int) < (((parts s o (Lib.count s.data.toList o.data.toList) 0)[n]).size : Int) by omega)]
      refine Ans.bind hR ?_
      have hE : (⟨(jb o true ((parts s o (Lib.count s.data.toList o.data.toList) 0).drop n)).toArray⟩ : ByteArray).extract ((parts s o (Lib.count s.data.toList o.data.toList) 0)[n]).size (jb o true ((parts s o (Lib.count s.data.toList o.data.toList) 0).drop n)).length = ⟨((jb o true ((parts s o (Lib.count s.data.toList o.data.toList) 0).drop n)).drop ((parts s o (Lib.count s.data.toList o.data.toList) 0)[n]).size).toArray⟩ := by
        apply ba_ext
        rw [ext_l]
        show ((jb o true ((parts s o (Lib.count s.data.toList o.data.toList) 0).drop n)).drop ((parts s o (Lib.count s.data.toList o.data.toList) 0)[n]).size).take _ = (jb o true ((parts s o (Lib.count s.data.toList o.data.toList) 0).drop n)).drop ((parts s o (Lib.count s.data.toList o.data.toList) 0)[n]).size
        rw [List.take_of_length_le (by rw [List.length_drop]; exact Nat.le_refl _)]
      have hE2 : (⟨((jb o true ((parts s o (Lib.count s.data.toList o.data.toList) 0).drop n)).drop ((parts s o (Lib.count s.data.toList o.data.toList) 0)[n]).size).toArray⟩ : ByteArray).size = (jb o true ((parts s o (Lib.count s.data.toList o.data.toList) 0).drop n)).length - ((parts s o (Lib.count s.data.toList o.data.toList) 0)[n]).size := by
        rw [← size_l]
        show ((jb o true ((parts s o (Lib.count s.data.toList o.data.toList) 0).drop n)).drop ((parts s o (Lib.count s.data.toList o.data.toList) 0)[n]).size).length = _
        rw [List.length_drop]
      have hH : (⟨(jb w true ((parts s o (Lib.count s.data.toList o.data.toList) 0).take (n + 1))).toArray⟩ : ByteArray).size = (jb w true ((parts s o (Lib.count s.data.toList o.data.toList) 0).take (n + 1))).length := by rw [← size_l]
      simp only [if_true, if_pos (show (0 : Int) ≤ (((parts s o (Lib.count s.data.toList o.data.toList) 0)[n]).size : Int) by omega), if_pos (show (((parts s o (Lib.count s.data.toList o.data.toList) 0)[n]).size : Int) ≤ ((jb o true ((parts s o (Lib.count s.data.toList o.data.toList) 0).drop n)).length : Int) by omega), Int.toNat_natCast, hE, hE2, hH]
      rw [if_pos (by rw [List.length_drop] at hAl; omega)]
      have hF : (⟨(asm s.data.toList o.data.toList w.data.toList 0 (plc s.data.toList o.data.toList n 0)).toArray⟩ : ByteArray) = ⟨(jb w true ((parts s o (Lib.count s.data.toList o.data.toList) 0).take (n + 1))).toArray⟩ ++ ⟨((jb o true ((parts s o (Lib.count s.data.toList o.data.toList) 0).drop n)).drop ((parts s o (Lib.count s.data.toList o.data.toList) 0)[n]).size).toArray⟩ := by
        apply ba_ext
        rw [app_l]
        exact hA
      rw [hF]
      simp only [beq_self_eq_true]
      exact Ans.ret _
theorem swaps_j1 (w : ByteArray) (hw : w.size ≤ 1048576) (hm : s.size * w.size ≤ 1048576) (h0 : s.data.toList ≠ []) (h1 : o.data.toList ≠ [32]) (kk : Int) : Ans (fun k => abacuslaw20_CharsSwaps.j1 k s o w kk false) true := by
  have h2 := size_l s
  have h3 := size_l o
  have h4 := size_l w
  have hO : o.data.toList ≠ [] := fun e => by
    rw [e] at h3
    have : ([] : List UInt8).length = 0 := rfl
    omega
  have hc := cnt_le s o hs ho hol
  have hl := parts_len s o (Lib.count s.data.toList o.data.toList) 0
  have hsv : splitV s o = parts s o (Lib.count s.data.toList o.data.toList) 0 := by
    unfold splitV
    rw [if_neg h0, if_neg h1, if_neg hO]
  have hJ := parts_join s o hol (Lib.count s.data.toList o.data.toList) 0 (by omega) rfl
  have hmem : ∀ x ∈ parts s o (Lib.count s.data.toList o.data.toList) 0, x.size ≤ 1152921504606846976 := by
    intro x hx
    have := mem_jb o x _ true hx
    rw [hJ, List.drop_zero, h2] at this
    omega
  have hch := plc_chain s.data.toList o.data.toList hO (Lib.count s.data.toList o.data.toList) 0 (by omega) (by rw [List.drop_zero]; exact Nat.le_refl _) true
  have hlen := asm_len s.data.toList o.data.toList w.data.toList hch (by omega)
  have hmul := Nat.mul_le_mul_right w.size hc
  have hS := swap_join s o hs ho hol w
  have hSo := swap_join s o hs ho hol o
  rw [hJ, List.drop_zero] at hSo
  rw [plc_len, h4, hS] at hlen
  have R1 := rep_val s o hs ho hol w hw (.inl hm) (-1) _ (Nat.le_refl _) (.inl ⟨by decide, rfl⟩)
  have R2 := rep_val s o hs ho hol o ho (.inr rfl) (-1) _ (Nat.le_refl _) (.inl ⟨by decide, rfl⟩)
  rw [hS] at R1
  rw [hSo, Lib.mk_data] at R2
  have hne : ((Lib.count s.data.toList o.data.toList : Int) != (Lib.count s.data.toList o.data.toList : Int)) = false := by simp
  refine Ans.succ ?_
  simp only [abacuslaw20_CharsSwaps.j1, Bool.false_eq_true, if_false]
  refine Ans.bind (split_any s o hs) ?_
  rw [hsv]
  refine Ans.bind (join_t _ _ (by omega) hmem (by omega)) ?_
  rw [joinV_ok s o hs ho hol _ w (by omega)]
  refine Ans.bind R1 ?_
  simp only [if_true, hl]
  rw [wrap_id (x := ((Lib.count s.data.toList o.data.toList + 1 : Nat) : Int) - 1) (by omega) (by omega)]
  simp only [if_pos (show (Lib.count s.data.toList o.data.toList : Int) = ((Lib.count s.data.toList o.data.toList + 1 : Nat) : Int) - 1 by omega), decide_eq_false (show ¬ (Lib.count s.data.toList o.data.toList : Int) < 0 by omega)]
  refine Ans.succ ?_
  simp only [abacuslaw20_CharsSwaps.j2, Bool.false_eq_true, if_false, hl]
  refine Ans.bind R2 ?_
  rw [wrap_id (x := ((Lib.count s.data.toList o.data.toList + 1 : Nat) : Int) - 1) (by omega) (by omega), show ((Lib.count s.data.toList o.data.toList + 1 : Nat) : Int) - 1 = (Lib.count s.data.toList o.data.toList : Int) by omega, hne]
  simp only [if_true]
  exact swaps_j3 s o hs ho hol w hw hm h1 kk
end
theorem charsSwaps_true (s o w : ByteArray) (kk : Int) (ho : o.size ≤ 1048576) (hw : w.size ≤ 1048576) : Ans (fun k => abacuslaw20_CharsSwaps.f k s o w kk) true := by
  have K := rep_val ⟨#[98, 97, 110, 97, 110, 97]⟩ ⟨#[97, 110]⟩ (by decide) (by decide) (by decide) ⟨#[60, 62]⟩ (by decide) (.inl (by decide)) (-1) 2 (by decide) (.inl ⟨by decide, by decide⟩)
  have hk : (⟨(asm (⟨#[98, 97, 110, 97, 110, 97]⟩ : ByteArray).data.toList (⟨#[97, 110]⟩ : ByteArray).data.toList (⟨#[60, 62]⟩ : ByteArray).data.toList 0 (plc (⟨#[98, 97, 110, 97, 110, 97]⟩ : ByteArray).data.toList (⟨#[97, 110]⟩ : ByteArray).data.toList 2 0)).toArray⟩ : ByteArray).toList = ([98, 60, 62, 60, 62, 97] : List UInt8) := by
    rw [Go.ByteArray.toList_eq]
    decide
  have far : Ans (fun k => abacuslaw20_CharsSwaps.j1 k s o w kk true) true := by
    refine Ans.succ ?_
    simp only [abacuslaw20_CharsSwaps.j1, if_true]
    exact Ans.ret _
  have h3 := size_l o
  unfold abacuslaw20_CharsSwaps.f
  refine Ans.bind K ?_
  simp only [if_true, hk, bne_self_eq_false, if_pos (show ((2 : Nat) : Int) = 2 by rfl)]
  refine Ans.succ ?_
  simp only [abacuslaw20_CharsSwaps.j0, Bool.false_eq_true, if_false, Go.ByteArray.toList_eq]
  by_cases h0 : s.data.toList = []
  · simp only [if_pos h0]
    exact far
  · simp only [if_neg h0]
    by_cases hO : o.data.toList = []
    · simp only [if_pos hO]
      exact far
    · have hol : 0 < o.size := by rw [← h3]; exact List.length_pos_iff.2 hO
      simp only [if_neg hO]
      by_cases h1 : o.data.toList = [32]
      · simp only [if_pos h1]
        exact far
      · simp only [if_neg h1]
        by_cases hs : (s.size : Int) > 1048576
        · simp only [if_pos hs]
          exact far
        · simp only [if_neg hs]
          by_cases hw0 : (w.size : Int) > 0
          · simp only [if_pos hw0, if_neg (show ¬ (w.size : Int) = 0 by omega), wq_]
            by_cases hq : (s.size : Int) > 1048576 / (w.size : Int)
            · simp only [decide_eq_true hq]
              exact far
            · simp only [decide_eq_false hq]
              refine swaps_j1 s o (by omega) ho hol w hw ?_ h0 h1 kk
              have hd : ¬ (1048576 : Int) < (s.size : Int) * (w.size : Int) := fun h => hq ((Int.ediv_lt_iff_lt_mul hw0).2 h)
              rw [← Int.natCast_mul] at hd
              omega
          · simp only [if_neg hw0]
            refine swaps_j1 s o (by omega) ho hol w hw ?_ h0 h1 kk
            rw [show w.size = 0 by omega]
            omega
end Go.Proofs.YtdeannaaafffbaaDoor.Pl
