/-
  Plain laws of the chars statements, second seat: Split at a text; CharsSplits answers true.
-/
import Derived.Test.YtdeannaaafffbaaDoorPb
set_option linter.unusedVariables false
set_option linter.unusedSimpArgs false
set_option linter.unusedSectionVars false
namespace Go.Proofs.YtdeannaaafffbaaDoor.Pl
open Go.RowKit Go.Proofs.YtdeannaaafffbaaDoorW.PrintWords Go.Proofs.YtdeannaaafffbaaDoor.X Go.Proofs.YtdeannaaafffbaaDoor.ECd

/-- The parts from b on, cut at the next c places. -/
def parts (s o : ByteArray) : Nat → Nat → List ByteArray
  | 0, b => [s.extract b s.size]
  | c + 1, b => s.extract b (b + (Lib.index (s.data.toList.drop b) o.data.toList).toNat) :: parts s o c (b + (Lib.index (s.data.toList.drop b) o.data.toList).toNat + o.size)
theorem parts_len (s o : ByteArray) : ∀ c b, (parts s o c b).length = c + 1
  | 0, _ => rfl
  | c + 1, b => by rw [parts, List.length_cons, parts_len s o c]
theorem splitB_parts (s o : ByteArray) (ho : 0 < o.size) : ∀ (c b : Nat) (rest : ByteArray), b ≤ s.size → rest.data.toList = s.data.toList.drop b → c = Lib.count (s.data.toList.drop b) o.data.toList → Lib.splitB o 0 c rest = parts s o c b
  | 0, b, rest, hb, hr, hc => by
    rw [Lib.splitB_zero, parts]
    congr 1
    apply ba_ext
    rw [hr, ext_l, List.take_of_length_le (by rw [List.length_drop, size_l]; omega)]
  | c + 1, b, rest, hb, hr, hc => by
    have h2 := size_l s
    have h3 := size_l o
    have hO : o.data.toList ≠ [] := fun e => by
      rw [e] at h3
      have : ([] : List UInt8).length = 0 := rfl
      omega
    obtain ⟨i, g1, g2, g3, g4⟩ := hit_of_count o.data.toList (l := s.data.toList.drop b) (by omega)
    have hroom := (Lib.occAt_room g3).resolve_right hO
    have hcnt := Lib.count_hit hO g1
    rw [List.length_drop] at hroom
    rw [List.drop_drop] at hcnt
    have hi : Lib.indexB rest o = i := by
      show Lib.index rest.data.toList o.data.toList = i
      rw [hr]
      exact g1
    have hrl : rest.size = s.size - b := by rw [← size_l, hr, List.length_drop, h2]
    have hrest : (rest.extract (i + o.size) rest.size).data.toList = s.data.toList.drop (b + i + o.size) := by
      rw [ext_l, hr, List.drop_drop, List.take_of_length_le (by rw [List.length_drop]; omega)]
      congr 1
      omega
    have ih := splitB_parts s o ho c (b + i + o.size) (rest.extract (i + o.size) rest.size) (by omega) hrest (by
      rw [show b + i + o.size = b + (i + o.data.toList.length) by omega]
      omega)
    rw [Lib.splitB_hit o 0 c rest i hi, ih, parts, g1, Int.toNat_natCast]
    congr 1
    apply ba_ext
    rw [ext_l, ext_l, hr]
    simp
section
variable (s o : ByteArray) (hs : s.size ≤ 1048576) (ho : o.size ≤ 1048576) (hol : 0 < o.size)
include hs ho hol
theorem split_l1 : ∀ i : Int, i ≤ (s.size : Int) → 0 ≤ i → ∀ (x5 : List ByteArray) (b : Nat), (b : Int) ≤ i → x5.length ≤ b → Lib.NoOcc (s.data.toList.drop b) o.data.toList (i.toNat - b) →
    Ans (fun k => abacusref20_Split.l1 k s o x5 (b : Int) i) (x5 ++ parts s o (Lib.count (s.data.toList.drop b) o.data.toList) b) := by
  have h2 := size_l s
  have h3 := size_l o
  have hO : o.data.toList ≠ [] := fun e => by
    rw [e] at h3
    have : ([] : List UInt8).length = 0 := rfl
    omega
  refine left_ind fun i hi ih h0 x5 b hbi hx hno => Ans.succ ?_
  obtain ⟨j, rfl⟩ : ∃ j : Nat, i = j := ⟨i.toNat, by omega⟩
  rw [Int.toNat_natCast] at hno
  simp only [abacusref20_Split.l1]
  by_cases hlt : (j : Int) < (s.size : Int)
  · simp only [if_pos hlt, stands_eq s o j (by omega) (by omega) (by omega), Option.bind_some]
    cases hocc : Lib.occAt s.data.toList o.data.toList j
    · simp only [Bool.false_eq_true, if_false]
      rw [wrap_id (x := (j : Int) + 1) (by omega) (by omega)]
      refine ih (j + 1) (by omega) (by omega) (by omega) x5 b (by omega) hx ?_
      rw [show ((j : Int) + 1).toNat - b = j - b + 1 by omega]
      exact hno.succ (by rw [occ_drop s.data.toList o.data.toList b j (by omega)]; exact hocc)
    · have hroom := (Lib.occAt_room hocc).resolve_right hO
      have hidx : Lib.index (s.data.toList.drop b) o.data.toList = ((j - b : Nat) : Int) := Lib.index_hit hno (by rw [List.length_drop]; omega) (by rw [occ_drop s.data.toList o.data.toList b j (by omega)]; exact hocc)
      have hcnt := Lib.count_hit hO hidx
      rw [List.drop_drop, show b + (j - b + o.data.toList.length) = j + o.size by omega] at hcnt
      simp only [if_true, if_pos (show (0 : Int) ≤ (b : Int) by omega), if_pos (show (b : Int) ≤ (j : Int) by omega), if_pos (show (j : Int) ≤ (s.size : Int) by omega), if_pos (show x5.length < 8796093022208 by omega), Int.toNat_natCast]
      rw [wrap_id (x := (j : Int) + (o.size : Int)) (by omega) (by omega)]
      have := ih (j + o.size) (by omega) (by omega) (by omega) (x5 ++ [s.extract b j]) (j + o.size) (by omega) (by rw [List.length_append, List.length_singleton]; omega) (by
        rw [show ((j : Int) + (o.size : Int)).toNat - (j + o.size) = 0 by omega]
        exact Lib.NoOcc.zero _ _)
      rw [hcnt, show 1 + Lib.count (s.data.toList.drop (j + o.size)) o.data.toList = Lib.count (s.data.toList.drop (j + o.size)) o.data.toList + 1 by omega, parts, hidx, Int.toNat_natCast, show b + (j - b) = j by omega]
      rw [List.append_assoc] at this
      exact this
  · simp only [if_neg hlt, if_pos (show (0 : Int) ≤ (b : Int) by omega), if_pos (show (b : Int) ≤ (s.size : Int) by omega), if_pos (show x5.length < 8796093022208 by omega), Int.toNat_natCast]
    have hc0 : Lib.count (s.data.toList.drop b) o.data.toList = 0 := by
      rcases Lib.index_spec (s.data.toList.drop b) o.data.toList with ⟨g1, _⟩ | ⟨m, g1, g2, g3, g4⟩
      · exact Lib.count_miss g1
      · have hroom := (Lib.occAt_room g3).resolve_right hO
        rw [List.length_drop] at hroom
        have := hno m (by omega)
        rw [this] at g3
        cases g3
    rw [hc0, parts]
    exact Ans.ret _
end
/-- What both answer. -/
def splitV (s o : ByteArray) : List ByteArray :=
  if s.data.toList = [] then [] else if o.data.toList = [32] then runL s (-1) 0 else if o.data.toList = [] then sing s s.size else parts s o (Lib.count s.data.toList o.data.toList) 0
theorem runL_len (s : ByteArray) : ∀ i : Int, i ≤ (s.size : Int) → 0 ≤ i → ∀ b : Int, ((runL s b i).length : Int) ≤ (s.size : Int) - i + 1 := by
  refine left_ind fun i hi ih h0 b => ?_
  rw [runL]
  split
  · rename_i hlt
    have n1 := ih (i + 1) (by omega) (by omega) (by omega)
    have := n1 (-1)
    have := n1 i
    have := n1 b
    split
    · split
      · omega
      · rw [List.length_cons]
        omega
    · split
      · omega
      · omega
  · split
    · simp
      omega
    · simp
      omega
theorem splitV_len (s o : ByteArray) : (splitV s o).length ≤ s.size + 2 := by
  have h2 := size_l s
  have hc := Lib.count_le s.data.toList o.data.toList
  have hr := runL_len s 0 (by omega) (by omega) (-1)
  unfold splitV
  split
  · simp
  · split
    · omega
    · split
      · rw [sing_len]
        omega
      · rw [parts_len]
        omega
section
variable (s o : ByteArray) (hs : s.size ≤ 1048576) (ho : o.size ≤ 1048576)
include hs ho
theorem split_t : Ans (fun k => chars_Split.f k s o) (splitV s o) := by
  have h2 := size_l s
  have h3 := size_l o
  unfold chars_Split.f splitV
  simp only [Go.ByteArray.toList_eq]
  by_cases c1 : s.data.toList = []
  · simp only [if_pos c1]
    exact Ans.ret _
  · simp only [if_neg c1]
    by_cases c2 : o.data.toList = [32]
    · simp only [if_pos c2]
      refine Ans.bind (words_t s hs) ?_
      exact Ans.ret _
    · simp only [if_neg c2]
      by_cases c3 : o.data.toList = []
      · simp only [if_pos c3, if_pos (show (0 : Int) ≤ (s.size : Int) by omega), Int.toNat_natCast, if_pos (show s.size ≤ 17592186044416 by omega), Option.bind_some, List.length_replicate]
        exact bytes1 s hs 0 (by omega) (by omega) _ (by simp) (fun j hj => by omega)
      · have hol : 0 < o.size := by rw [← h3]; exact List.length_pos_iff.2 c3
        have hx : xSplit.f s o = some (parts s o (Lib.count s.data.toList o.data.toList) 0) := by
          unfold xSplit.f
          rw [if_pos ⟨by omega, by omega⟩]
          congr 1
          exact splitB_parts s o hol _ 0 s (by omega) (by simp) (by simp)
        simp only [if_neg c3, hx, Option.bind_some]
        exact Ans.ret _
theorem rsplit_t : Ans (fun k => abacusref20_Split.f k s o) (splitV s o) := by
  have h2 := size_l s
  have h3 := size_l o
  unfold abacusref20_Split.f splitV
  simp only [Go.ByteArray.toList_eq]
  by_cases c1 : s.data.toList = []
  · simp only [if_pos c1]
    exact Ans.ret _
  · simp only [if_neg c1]
    by_cases c2 : o.data.toList = [32]
    · simp only [if_pos c2]
      refine Ans.bind (runs_t s hs) ?_
      exact Ans.ret _
    · simp only [if_neg c2]
      by_cases c3 : o.data.toList = []
      · simp only [if_pos c3]
        have := bytes2 s hs 0 (by omega) (by omega)
        exact this
      · have hol : 0 < o.size := by rw [← h3]; exact List.length_pos_iff.2 c3
        simp only [if_neg c3]
        have := split_l1 s o hs ho hol 0 (by omega) (by omega) [] 0 (by omega) (by simp) (Lib.NoOcc.zero _ _)
        rw [List.drop_zero, List.nil_append] at this
        exact this
end
theorem splits_const : splitV ⟨#[97, 44, 98, 44, 44, 99, 44]⟩ ⟨#[44]⟩ = [(⟨#[97]⟩ : ByteArray), ⟨#[98]⟩, ⟨#[]⟩, ⟨#[99]⟩, ⟨#[]⟩] := by
  unfold splitV
  rw [if_neg (by decide), if_neg (by decide), if_neg (by decide)]
  decide
section
variable (l : List S29) (hl : l.length ≤ 1048576) (hs : ∀ a ∈ l, a.f0.size ≤ 1048576 ∧ a.f1.size ≤ 1048576 ∧ a.f5.length ≤ 1048576 ∧ ∀ x ∈ a.f5, x.size ≤ 1152921504606846976)
include hl hs
theorem splits_l0 : ∀ i : Int, i ≤ (l.length : Int) → 0 ≤ i → Ans (fun k => abacuslaw20_CharsSplits.l0 k l i) true := by
  refine left_ind fun i hi ih h0 => Ans.succ ?_
  simp only [abacuslaw20_CharsSplits.l0]
  by_cases hlt : i < (l.length : Int)
  · simp only [if_pos hlt, if_pos h0]
    obtain ⟨a1, a2, a3, a4⟩ := hs (rd_T29 l i) (by
      unfold rd_T29
      rw [List.getD, List.getElem?_eq_getElem (show i.toNat < l.length by omega)]
      exact List.getElem_mem _)
    have next := ih (i + 1) (by omega) (by omega) (by omega)
    generalize rd_T29 l i = a at *
    rw [wrap_id (x := i + 1) (by omega) (by omega)]
    have one : ∀ o : ByteArray, (splitV a.f0 o).length ≤ 4611686018427387904 := fun o => by have := splitV_len a.f0 o; omega
    refine Ans.bind (joins_t a.f5 a.f1 (by omega) a4 (by omega)) ?_
    simp only [if_true, if_neg (show ¬ (a.f0.size : Int) > 1048576 by omega)]
    refine Ans.bind (split_t a.f0 a.f1 a1 a2) ?_
    refine Ans.bind (rsplit_t a.f0 a.f1 a1 a2) ?_
    refine Ans.bind (alike_t _ (one _)) ?_
    simp only [if_true]
    refine Ans.bind (split_t a.f0 ⟨#[32]⟩ a1 (by decide)) ?_
    refine Ans.bind (rsplit_t a.f0 ⟨#[32]⟩ a1 (by decide)) ?_
    refine Ans.bind (alike_t _ (one _)) ?_
    simp only [if_true]
    refine Ans.bind (split_t a.f0 ⟨#[]⟩ a1 (by decide)) ?_
    refine Ans.bind (rsplit_t a.f0 ⟨#[]⟩ a1 (by decide)) ?_
    refine Ans.bind (alike_t _ (one _)) ?_
    simp only [if_true]
    exact next
  · simp only [if_neg hlt]
    exact Ans.ret _
theorem charsSplits_true : Ans (fun k => abacuslaw20_CharsSplits.f k l) true := by
  unfold abacuslaw20_CharsSplits.f
  refine Ans.bind (split_t _ _ (by decide) (by decide)) ?_
  rw [splits_const]
  refine Ans.bind (alike_t _ (by decide)) ?_
  simp only [if_true]
  refine Ans.bind (joins_t _ _ (by decide) (by decide) (by decide)) ?_
  refine Ans.succ ?_
  simp only [abacuslaw20_CharsSplits.j0, Bool.not_true, Bool.false_eq_true, if_false]
  exact splits_l0 l hl hs 0 (by omega) (by omega)
end
end Go.Proofs.YtdeannaaafffbaaDoor.Pl
