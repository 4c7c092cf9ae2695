/-
  Plain laws of the chars statements, second seat: Replace of the program, by the places where the old text stands.
-/
import Derived.Test.YtdeannaaafffbaaDoorSwPe
import Derived.Test.YtdeannaaafffbaaDoorSwECdx26
import Derived.Lib.CountLaws
set_option linter.unusedVariables false
set_option linter.unusedSimpArgs false
set_option linter.unusedSectionVars false
namespace Go.Proofs.YtdeannaaafffbaaDoor.Pl
open Go.RowKit Go.Proofs.YtdeannaaafffbaaDoorW.PrintWords Go.Proofs.YtdeannaaafffbaaDoor.X Go.Proofs.YtdeannaaafffbaaDoor.ECd
section
variable (S O W : List UInt8)
/-- The places, put together: what stands between them, and the new text at each. -/
def asm : Nat → List Nat → List UInt8
  | e, [] => S.drop e
  | e, q :: P => (S.drop e).take (q - e) ++ (W ++ asm (q + O.length) P)
/-- Each place is the one that the search gives from the end of the place ahead of it. -/
def Chain : Bool → Nat → List Nat → Prop
  | _, _, [] => True
  | f, e, q :: P => e ≤ q ∧ q + O.length ≤ S.length ∧ (if O = [] then q = e + (if f = true then 0 else 1) else Lib.index (S.drop e) O = ((q - e : Nat) : Int)) ∧ Chain false (q + O.length) P
/-- The first n places from p on, of a text that is not empty. -/
def plc : Nat → Nat → List Nat
  | 0, _ => []
  | n + 1, p => (p + (Lib.index (S.drop p) O).toNat) :: plc n (p + (Lib.index (S.drop p) O).toNat + O.length)
theorem plc_len : ∀ n p, (plc S O n p).length = n
  | 0, _ => rfl
  | n + 1, p => by rw [plc, List.length_cons, plc_len n]
theorem plc_chain (hO : O ≠ []) : ∀ n p, p ≤ S.length → n ≤ Lib.count (S.drop p) O → ∀ f, Chain S O f p (plc S O n p)
  | 0, _, _, _ => fun _ => trivial
  | n + 1, p, hp, hn => fun f => by
    obtain ⟨i, h1, h2, h3, h4⟩ := hit_of_count O (l := S.drop p) (by omega)
    have hr := (Lib.occAt_room h3).resolve_right hO
    have hc := Lib.count_hit hO h1
    rw [List.length_drop] at hr
    have ht : (Lib.index (S.drop p) O).toNat = i := by omega
    rw [plc, ht]
    refine ⟨by omega, by omega, ?_, ?_⟩
    · rw [if_neg hO, h1]
      omega
    · refine plc_chain hO n _ (by omega) ?_ false
      rw [List.drop_drop] at hc
      rw [show p + i + O.length = p + (i + O.length) by omega]
      omega
theorem chain_end : ∀ {P : List Nat} {f : Bool} {e : Nat}, Chain S O f e P → e ≤ S.length → P.length * O.length + e ≤ S.length
  | [], _, _, _, h => by simpa using h
  | q :: P, f, e, ⟨h1, h2, _, h4⟩, h => by
    have := chain_end h4 h2
    rw [List.length_cons, Nat.add_mul]
    omega
theorem asm_len : ∀ {P : List Nat} {f : Bool} {e : Nat}, Chain S O f e P → e ≤ S.length → (asm S O W e P).length + P.length * O.length + e = S.length + P.length * W.length
  | [], _, _, _, h => by
    simp [asm]
    omega
  | q :: P, f, e, ⟨h1, h2, _, h4⟩, h => by
    have := asm_len h4 h2
    rw [asm, List.length_append, List.length_append, List.length_take, List.length_drop, List.length_cons, Nat.add_mul, Nat.add_mul]
    omega
end
section
variable (s o w : ByteArray) (hs : s.size ≤ 33554432) (ho : o.size ≤ 33554432)
include hs ho
set_option maxRecDepth 100000 in
theorem prog_l0 (n' n : Int) : ∀ (P : List Nat) (e : Nat) (acc rest : ByteArray) (i : Nat), rest.data.toList = s.data.toList.drop e → Chain s.data.toList o.data.toList (decide (i = 0)) e P → (i : Int) + P.length = n → (i : Int) + P.length ≤ 33554433 → e ≤ s.size →
    acc.size + (asm s.data.toList o.data.toList w.data.toList e P).length ≤ 16777216 →
    Ans (fun k => chars_Replace.l0 k o w n' acc rest n i) (⟨(acc.data.toList ++ asm s.data.toList o.data.toList w.data.toList e P).toArray⟩, n', 0) := by
  intro P
  induction P with
  | nil =>
    intro e acc rest i hr hc hn hn' he hl
    have h1 := size_l rest
    have h2 := size_l s
    rw [hr, List.length_drop] at h1
    rw [asm, List.length_drop] at hl
    refine Ans.succ ?_
    simp only [chars_Replace.l0]
    rw [List.length_nil] at hn
    simp only [if_neg (show ¬ (i : Int) < n by omega), if_pos (show acc.size + rest.size ≤ 140737488355328 by omega)]
    rw [asm, ← hr, ← app_l]
    exact Ans.ret _
  | cons q P ih =>
    intro e acc rest i hr hc hn hn' he hl
    obtain ⟨c1, c2, c3, c4⟩ := hc
    have h1 := size_l rest
    have h2 := size_l s
    have h3 := size_l o
    have h4 := size_l w
    rw [hr, List.length_drop] at h1
    rw [h3, h2] at c2
    rw [asm, List.length_append, List.length_append, List.length_take, List.length_drop] at hl
    rw [List.length_cons] at hn hn'
    have piece : (rest.extract 0 (q - e)).data.toList = (s.data.toList.drop e).take (q - e) := by rw [ext_l, hr]; simp
    have psz : (rest.extract 0 (q - e)).size = q - e := by rw [← size_l, piece, List.length_take, List.length_drop]; omega
    have next := ih (q + o.data.toList.length) ((acc ++ rest.extract 0 (q - e)) ++ w) (rest.extract (q - e + o.size) rest.size) (i + 1) (by
      rw [ext_l, hr, List.drop_drop, List.take_of_length_le (by rw [List.length_drop]; omega), h3]
      congr 1
      omega) (by rw [decide_eq_false (by omega)]; exact c4) (by omega) (by omega) (by omega) (by rw [ByteArray.size_append, ByteArray.size_append, psz]; omega)
    have hout : ((acc ++ rest.extract 0 (q - e)) ++ w).data.toList ++ asm s.data.toList o.data.toList w.data.toList (q + o.data.toList.length) P = acc.data.toList ++ asm s.data.toList o.data.toList w.data.toList e (q :: P) := by
      rw [app_l, app_l, piece, asm]
      simp [List.append_assoc]
    rw [hout] at next
    refine Ans.succ ?_
    simp only [chars_Replace.l0]
    simp only [if_pos (show (i : Int) < n by omega)]
    by_cases h0 : o.data.toList = []
    · have o0 : o.toList = ([] : List UInt8) := by rw [Go.ByteArray.toList_eq]; exact h0
      have oz : o.size = 0 := by rw [← h3, h0]; rfl
      rw [if_pos h0] at c3
      simp only [if_pos o0]
      by_cases hi : i = 0
      · subst hi
        have hq : q = e := by simpa using c3
        subst hq
        simp only [if_neg (show ¬ ((0 : Nat) : Int) > 0 by omega)]
        rw [show q - q = 0 by omega] at next psz
        rw [wrap_id (x := 0 + (o.size : Int)) (by omega) (by omega), wrap_id (x := ((0 : Nat) : Int) + 1) (by omega) (by omega)]
        simp only [if_pos (show (0 : Int) ≤ 0 by omega), if_pos (show (0 : Int) ≤ (rest.size : Int) by omega), if_pos (show acc.size + (rest.extract 0 0).size ≤ 140737488355328 by rw [psz]; omega),
          if_pos (show (acc ++ rest.extract 0 0).size + w.size ≤ 140737488355328 by rw [ByteArray.size_append, psz]; omega), if_pos (show (0 : Int) ≤ 0 + (o.size : Int) by omega), if_pos (show 0 + (o.size : Int) ≤ (rest.size : Int) by omega)]
        rw [show (0 + (o.size : Int)).toNat = 0 + o.size by omega]
        exact next
      · have hq : q = e + 1 := by simpa [hi] using c3
        subst hq
        simp only [if_pos (show (i : Int) > 0 by omega)]
        rw [show e + 1 - e = 1 by omega] at next psz
        rw [wrap_id (x := 1 + (o.size : Int)) (by omega) (by omega), wrap_id (x := (i : Int) + 1) (by omega) (by omega)]
        simp only [if_pos (show (0 : Int) ≤ 1 by omega), if_pos (show (1 : Int) ≤ (rest.size : Int) by omega), if_pos (show acc.size + (rest.extract 0 1).size ≤ 140737488355328 by rw [psz]; omega),
          if_pos (show (acc ++ rest.extract 0 1).size + w.size ≤ 140737488355328 by rw [ByteArray.size_append, psz]; omega), if_pos (show (0 : Int) ≤ 1 + (o.size : Int) by omega), if_pos (show 1 + (o.size : Int) ≤ (rest.size : Int) by omega)]
        rw [show (1 + (o.size : Int)).toNat = 1 + o.size by omega]
        exact next
    · have o0 : ¬ o.toList = ([] : List UInt8) := by rw [Go.ByteArray.toList_eq]; exact h0
      rw [if_neg h0] at c3
      have hx : xIndex.f rest o = some ((q - e : Nat) : Int) := by
        unfold xIndex.f
        rw [if_pos (by omega), hr, c3]
      simp only [if_neg o0, hx, Option.bind_some, Int.toNat_natCast]
      rw [wrap_id (x := ((q - e : Nat) : Int) + (o.size : Int)) (by omega) (by omega), wrap_id (x := (i : Int) + 1) (by omega) (by omega)]
      simp only [if_pos (show (0 : Int) ≤ ((q - e : Nat) : Int) by omega), if_pos (show ((q - e : Nat) : Int) ≤ (rest.size : Int) by omega), if_pos (show acc.size + (rest.extract 0 (q - e)).size ≤ 140737488355328 by rw [psz]; omega),
        if_pos (show (acc ++ rest.extract 0 (q - e)).size + w.size ≤ 140737488355328 by rw [ByteArray.size_append, psz]; omega), if_pos (show (0 : Int) ≤ ((q - e : Nat) : Int) + (o.size : Int) by omega), if_pos (show ((q - e : Nat) : Int) + (o.size : Int) ≤ (rest.size : Int) by omega)]
      rw [show (((q - e : Nat) : Int) + (o.size : Int)).toNat = q - e + o.size by omega]
      exact next
/-- What both answer, with the places P. -/
def ansR (P : List Nat) : ByteArray × Int × Int :=
  if (s.size : Int) + P.length * w.size - P.length * o.size > 16777216 then ((⟨#[]⟩ : ByteArray), 0, 3) else (⟨(asm s.data.toList o.data.toList w.data.toList 0 P).toArray⟩, P.length, 0)
theorem prog_fin (hw : w.size ≤ 33554432) (P : List Nat) (hc : Chain s.data.toList o.data.toList true 0 P) (hP : P.length ≤ 33554433) : Ans (fun k => chars_Replace.j0 k s o w (P.length : Int)) (ansR s o w P) := by
  have h2 := size_l s
  have h3 := size_l o
  have h4 := size_l w
  have ha := asm_len s.data.toList o.data.toList w.data.toList hc (by omega)
  have he := chain_end s.data.toList o.data.toList hc (by omega)
  rw [h2, h3, h4] at ha
  rw [h2, h3] at he
  have hm : P.length * w.size ≤ 33554433 * 33554432 := Nat.mul_le_mul hP hw
  have c1 : ((P.length * w.size : Nat) : Int) = (P.length : Int) * (w.size : Int) := Int.natCast_mul _ _
  have c2 : ((P.length * o.size : Nat) : Int) = (P.length : Int) * (o.size : Int) := Int.natCast_mul _ _
  have c4 : (w.size : Int) * (P.length : Int) = (P.length : Int) * (w.size : Int) := Int.mul_comm _ _
  have bad : (s.size : Int) + P.length * w.size - P.length * o.size > 16777216 → Ans (fun k => chars_Replace.j1 k s o w (P.length : Int) true) (ansR s o w P) := by
    intro h
    refine Ans.succ ?_
    simp only [chars_Replace.j1, if_true]
    unfold ansR
    rw [if_pos h]
    exact Ans.ret _
  have good : ¬ (s.size : Int) + P.length * w.size - P.length * o.size > 16777216 → Ans (fun k => chars_Replace.j1 k s o w (P.length : Int) false) (ansR s o w P) := by
    intro h
    refine Ans.succ ?_
    simp only [chars_Replace.j1, Bool.false_eq_true, if_false]
    have h0 : (⟨#[]⟩ : ByteArray).size = 0 := rfl
    have := prog_l0 s o w hs ho (P.length : Int) (P.length : Int) P 0 ⟨#[]⟩ s 0 (by simp) hc (by omega) (by omega) (by omega) (by omega)
    unfold ansR
    rw [if_neg h]
    simpa using this
  refine Ans.succ ?_
  simp only [chars_Replace.j0]
  rw [wrap_id (x := (P.length : Int) * (o.size : Int)) (by omega) (by omega), wrap_id (x := (s.size : Int) - (P.length : Int) * (o.size : Int)) (by omega) (by omega)]
  by_cases hd : (s.size : Int) - (P.length : Int) * (o.size : Int) > 16777216
  · simp only [if_pos hd]
    exact bad (by omega)
  simp only [if_neg hd]
  by_cases h0 : (P.length : Int) > 0
  · simp only [if_pos h0, if_neg (show ¬ (P.length : Int) = 0 by omega)]
    rw [wrap_id (x := 16777216 - ((s.size : Int) - (P.length : Int) * (o.size : Int))) (by omega) (by omega), Int.tdiv_eq_ediv_of_nonneg (by omega)]
    have hdiv : ∀ z : Int, (16777216 - ((s.size : Int) - (P.length : Int) * (o.size : Int))) / (P.length : Int) < z ↔ (16777216 - ((s.size : Int) - (P.length : Int) * (o.size : Int))) < z * (P.length : Int) := fun z => Int.ediv_lt_iff_lt_mul h0
    have hd0 : 0 ≤ (16777216 - ((s.size : Int) - (P.length : Int) * (o.size : Int))) / (P.length : Int) := Int.ediv_nonneg (by omega) (by omega)
    have hd1 : (16777216 - ((s.size : Int) - (P.length : Int) * (o.size : Int))) / (P.length : Int) ≤ 16777216 - ((s.size : Int) - (P.length : Int) * (o.size : Int)) := Int.ediv_le_self _ (by omega)
    rw [wrap_id (by omega) (by omega)]
    by_cases h6 : (w.size : Int) > (16777216 - ((s.size : Int) - (P.length : Int) * (o.size : Int))) / (P.length : Int)
    · have h7 := (hdiv _).1 h6
      simp only [decide_eq_true h6]
      exact bad (by omega)
    · have h7 : ¬ _ := fun h => h6 ((hdiv (w.size : Int)).2 h)
      simp only [decide_eq_false h6]
      exact good (by omega)
  · simp only [if_neg h0]
    have hz : P.length = 0 := by omega
    refine good ?_
    rw [hz] at hd ⊢
    simp at hd ⊢
    omega
end
theorem prog_t (s o w : ByteArray) (hs : s.size ≤ 33554432) (ho : o.size ≤ 33554432) (hw : w.size ≤ 33554432) (hO : o.data.toList ≠ []) (most : Int) (n : Nat)
    (hn : (most < 0 ∧ n = Lib.count s.data.toList o.data.toList) ∨ (0 ≤ most ∧ (n : Int) = (if most < (Lib.count s.data.toList o.data.toList : Int) then most else (Lib.count s.data.toList o.data.toList : Int)))) :
    Ans (fun k => chars_Replace.f k s o w most) (ansR s o w (plc s.data.toList o.data.toList n 0)) := by
  have h2 := size_l s
  have h3 := size_l o
  have o0 : ¬ o.toList = ([] : List UInt8) := by rw [Go.ByteArray.toList_eq]; exact hO
  have hol : 0 < o.size := by rw [← h3]; exact List.length_pos_iff.2 hO
  have hcnt : chars_count.f s o = some ((Lib.count s.data.toList o.data.toList : Nat) : Int) := by
    unfold chars_count.f xCount.f
    rw [if_neg o0, if_pos ⟨by omega, by omega⟩]
    rfl
  have hcl := Lib.count_le s.data.toList o.data.toList
  generalize hcc : Lib.count s.data.toList o.data.toList = c at hcnt hcl hn
  have hn1 : n ≤ c := by
    rcases hn with ⟨_, h⟩ | ⟨_, h⟩
    · omega
    · split at h <;> omega
  have hch := plc_chain s.data.toList o.data.toList hO n 0 (by omega) (by rw [List.drop_zero, hcc]; exact hn1) true
  have hP := plc_len s.data.toList o.data.toList n 0
  have hp := prog_fin s o w hs ho hw _ hch (by omega)
  unfold chars_Replace.f
  simp only [hcnt, Option.bind_some]
  rcases hn with ⟨hm, rfl⟩ | ⟨hm, hn⟩
  · simp only [if_neg (show ¬ most ≥ 0 by omega)]
    rw [hP] at hp
    exact hp
  · simp only [if_pos (show most ≥ 0 by omega)]
    have : mn (c : Int) most = ((plc s.data.toList o.data.toList n 0).length : Int) := by
      rw [hP, hn]
      rfl
    rw [this]
    exact hp
end Go.Proofs.YtdeannaaafffbaaDoor.Pl
