/-
  Plain laws of the chars statements: Replace of the program and of the document agree; CharsReplaces answers true.
-/
import Derived.Test.YtdeannaaafffbaaPi
import Derived.Test.YtdeannaaafffbaaEChx19
import Derived.Lib.CountLaws
set_option linter.unusedVariables false
set_option linter.unusedSimpArgs false
set_option linter.unusedSectionVars false
namespace Go.Proofs.Ytdeannaaafffbaa.Pl
open Go.RowKit Go.Proofs.YtdeannaaafffbaaW.PrintWords Go.Proofs.Ytdeannaaafffbaa.X Go.Proofs.Ytdeannaaafffbaa.ECh

theorem ext_l (x : ByteArray) (a b : Nat) : (x.extract a b).data.toList = (x.data.toList.drop a).take (b - a) := Lib.extract_data x a b
theorem size_l (x : ByteArray) : x.data.toList.length = x.size := (Lib.size_eq x).symm
theorem app_l (x y : ByteArray) : (x ++ y).data.toList = x.data.toList ++ y.data.toList := by simp [ByteArray.data_append]
theorem ba_ext {x y : ByteArray} (h : x.data.toList = y.data.toList) : x = y := ByteArray.ext (Array.ext' h)
def bl (l : List UInt8) : List Int := l.map fun b => (b.toNat : Int)
theorem bl_app (a b : List UInt8) : bl (a ++ b) = bl a ++ bl b := by simp [bl]
theorem bytes_bl (x : ByteArray) : bytesOf x = bl x.data.toList := rfl
theorem num_bl (l : List UInt8) : strOfNums (bl l) = ⟨l.toArray⟩ := by
  apply ba_ext
  rw [strOfNums_data]
  simp [bl]
  induction l with
  | nil => rfl
  | cons b l ih =>
    rw [List.map_cons, ih]
    simp
section
variable (S O W : List UInt8)
/-- The places, put together: what stands between them, and the new text at each. -/
def asm : Nat → List Nat → List UInt8
  | e, [] => S.drop e
  | e, q :: P => (S.drop e).take (q - e) ++ (W ++ asm (q + O.length) P)
/-- Each place is the one that the search gives from the end of the place ahead of it. -/
def Chain : Bool → Nat → List Nat → Prop
  | _, _, [] => True
  | f, e, q :: P => e ≤ q ∧ q + O.length ≤ S.length ∧ (if O = [] then q = e + (if f = true then 0 else 1) else Lib.index (S.drop e) O = ((q - e : Nat) : Int)) ∧ Chain false (q + O.length) P
/-- The first n places from p on, of a text that is not empty. -/
def plc : Nat → Nat → List Nat
  | 0, _ => []
  | n + 1, p => (p + (Lib.index (S.drop p) O).toNat) :: plc n (p + (Lib.index (S.drop p) O).toNat + O.length)
theorem plc_len : ∀ n p, (plc S O n p).length = n
  | 0, _ => rfl
  | n + 1, p => by rw [plc, List.length_cons, plc_len n]
theorem hit_of_count {l : List UInt8} (h : 0 < Lib.count l O) : ∃ i : Nat, Lib.index l O = i ∧ i ≤ l.length ∧ Lib.occAt l O i = true ∧ Lib.NoOcc l O i := by
  rcases Lib.index_spec l O with ⟨h1, _⟩ | h1
  · rw [Lib.count_miss h1] at h
    omega
  · exact h1
theorem plc_chain (hO : O ≠ []) : ∀ n p, p ≤ S.length → n ≤ Lib.count (S.drop p) O → ∀ f, Chain S O f p (plc S O n p)
  | 0, _, _, _ => fun _ => trivial
  | n + 1, p, hp, hn => fun f => by
    obtain ⟨i, h1, h2, h3, h4⟩ := hit_of_count O (l := S.drop p) (by omega)
    have hr := (Lib.occAt_room h3).resolve_right hO
    have hc := Lib.count_hit hO h1
    rw [List.length_drop] at hr
    have ht : (Lib.index (S.drop p) O).toNat = i := by omega
    rw [plc, ht]
    refine ⟨by omega, by omega, ?_, ?_⟩
    · rw [if_neg hO, h1]
      omega
    · refine plc_chain hO n _ (by omega) ?_ false
      rw [List.drop_drop] at hc
      rw [show p + i + O.length = p + (i + O.length) by omega]
      omega
theorem chain_range (hO : O = []) : ∀ n p, p + n ≤ S.length + 1 → Chain S O (decide (p = 0)) (p - 1) ((List.range n).map (p + ·))
  | 0, p, _ => trivial
  | n + 1, p, h => by
    rw [List.range_succ_eq_map, List.map_cons, List.map_map]
    have hl : O.length = 0 := by rw [hO]; rfl
    refine ⟨by omega, by omega, ?_, ?_⟩
    · rw [if_pos hO]
      by_cases h0 : p = 0
      · simp [h0]
      · rw [decide_eq_false h0]
        simp
        omega
    · have := chain_range hO n (p + 1) (by omega)
      rw [decide_eq_false (show ¬ p + 1 = 0 by omega), show p + 1 - 1 = p + 0 + O.length by omega] at this
      have e : (List.range n).map ((p + ·) ∘ Nat.succ) = (List.range n).map (p + 1 + ·) := by
        apply List.map_congr_left
        intro a _
        simp
        omega
      rw [e]
      exact this
theorem chain_end : ∀ {P : List Nat} {f : Bool} {e : Nat}, Chain S O f e P → e ≤ S.length → P.length * O.length + e ≤ S.length
  | [], _, _, _, h => by simpa using h
  | q :: P, f, e, ⟨h1, h2, _, h4⟩, h => by
    have := chain_end h4 h2
    rw [List.length_cons, Nat.add_mul]
    omega
theorem asm_len : ∀ {P : List Nat} {f : Bool} {e : Nat}, Chain S O f e P → e ≤ S.length → (asm S O W e P).length + P.length * O.length + e = S.length + P.length * W.length
  | [], _, _, _, h => by
    simp [asm]
    omega
  | q :: P, f, e, ⟨h1, h2, _, h4⟩, h => by
    have := asm_len h4 h2
    rw [asm, List.length_append, List.length_append, List.length_take, List.length_drop, List.length_cons, Nat.add_mul, Nat.add_mul]
    omega
end

/-! ### The program -/
section
variable (s o w : ByteArray) (hs : s.size ≤ 33554432) (ho : o.size ≤ 33554432)
include hs ho
set_option maxRecDepth 100000 in
theorem prog_l0 (n' n : Int) : ∀ (P : List Nat) (e : Nat) (acc rest : ByteArray) (i : Nat), rest.data.toList = s.data.toList.drop e → Chain s.data.toList o.data.toList (decide (i = 0)) e P → (i : Int) + P.length = n → (i : Int) + P.length ≤ 33554433 → e ≤ s.size →
    acc.size + (asm s.data.toList o.data.toList w.data.toList e P).length ≤ 16777216 →
    Ans (fun k => chars_Replace.l0 k o w n' acc rest n i) (⟨(acc.data.toList ++ asm s.data.toList o.data.toList w.data.toList e P).toArray⟩, n', 0) := by
  intro P
  induction P with
  | nil =>
    intro e acc rest i hr hc hn hn' he hl
    have h1 := size_l rest
    have h2 := size_l s
    rw [hr, List.length_drop] at h1
    rw [asm, List.length_drop] at hl
    refine Ans.succ ?_
    simp only [chars_Replace.l0]
    rw [List.length_nil] at hn
    simp only [if_neg (show ¬ (i : Int) < n by omega), if_pos (show acc.size + rest.size ≤ 140737488355328 by omega)]
    rw [asm, ← hr, ← app_l]
    exact Ans.ret _
  | cons q P ih =>
    intro e acc rest i hr hc hn hn' he hl
    obtain ⟨c1, c2, c3, c4⟩ := hc
    have h1 := size_l rest
    have h2 := size_l s
    have h3 := size_l o
    have h4 := size_l w
    rw [hr, List.length_drop] at h1
    rw [h3, h2] at c2
    rw [asm, List.length_append, List.length_append, List.length_take, List.length_drop] at hl
    rw [List.length_cons] at hn hn'
    have piece : (rest.extract 0 (q - e)).data.toList = (s.data.toList.drop e).take (q - e) := by rw [ext_l, hr]; simp
    have psz : (rest.extract 0 (q - e)).size = q - e := by rw [← size_l, piece, List.length_take, List.length_drop]; omega
    have next := ih (q + o.data.toList.length) ((acc ++ rest.extract 0 (q - e)) ++ w) (rest.extract (q - e + o.size) rest.size) (i + 1) (by
      rw [ext_l, hr, List.drop_drop, List.take_of_length_le (by rw [List.length_drop]; omega), h3]
      congr 1
      omega) (by rw [decide_eq_false (by omega)]; exact c4) (by omega) (by omega) (by omega) (by rw [ByteArray.size_append, ByteArray.size_append, psz]; omega)
    have hout : ((acc ++ rest.extract 0 (q - e)) ++ w).data.toList ++ asm s.data.toList o.data.toList w.data.toList (q + o.data.toList.length) P = acc.data.toList ++ asm s.data.toList o.data.toList w.data.toList e (q :: P) := by
      rw [app_l, app_l, piece, asm]
      simp [List.append_assoc]
    rw [hout] at next
    refine Ans.succ ?_
    simp only [chars_Replace.l0]
    simp only [if_pos (show (i : Int) < n by omega)]
    by_cases h0 : o.data.toList = []
    · have o0 : o.toList = ([] : List UInt8) := by rw [Go.ByteArray.toList_eq]; exact h0
      have oz : o.size = 0 := by rw [← h3, h0]; rfl
      rw [if_pos h0] at c3
      simp only [if_pos o0]
      by_cases hi : i = 0
      · subst hi
        have hq : q = e := by simpa using c3
        subst hq
        simp only [if_neg (show ¬ ((0 : Nat) : Int) > 0 by omega)]
        rw [show q - q = 0 by omega] at next psz
        rw [wrap_id (x := 0 + (o.size : Int)) (by omega) (by omega), wrap_id (x := ((0 : Nat) : Int) + 1) (by omega) (by omega)]
        simp only [if_pos (show (0 : Int) ≤ 0 by omega), if_pos (show (0 : Int) ≤ (rest.size : Int) by omega), if_pos (show acc.size + (rest.extract 0 0).size ≤ 140737488355328 by rw [psz]; omega),
          if_pos (show (acc ++ rest.extract 0 0).size + w.size ≤ 140737488355328 by rw [ByteArray.size_append, psz]; omega), if_pos (show (0 : Int) ≤ 0 + (o.size : Int) by omega), if_pos (show 0 + (o.size : Int) ≤ (rest.size : Int) by omega)]
        rw [show (0 + (o.size : Int)).toNat = 0 + o.size by omega]
        exact next
      · have hq : q = e + 1 := by simpa [hi] using c3
        subst hq
        simp only [if_pos (show (i : Int) > 0 by omega)]
        rw [show e + 1 - e = 1 by omega] at next psz
        rw [wrap_id (x := 1 + (o.size : Int)) (by omega) (by omega), wrap_id (x := (i : Int) + 1) (by omega) (by omega)]
        simp only [if_pos (show (0 : Int) ≤ 1 by omega), if_pos (show (1 : Int) ≤ (rest.size : Int) by omega), if_pos (show acc.size + (rest.extract 0 1).size ≤ 140737488355328 by rw [psz]; omega),
          if_pos (show (acc ++ rest.extract 0 1).size + w.size ≤ 140737488355328 by rw [ByteArray.size_append, psz]; omega), if_pos (show (0 : Int) ≤ 1 + (o.size : Int) by omega), if_pos (show 1 + (o.size : Int) ≤ (rest.size : Int) by omega)]
        rw [show (1 + (o.size : Int)).toNat = 1 + o.size by omega]
        exact next
    · have o0 : ¬ o.toList = ([] : List UInt8) := by rw [Go.ByteArray.toList_eq]; exact h0
      rw [if_neg h0] at c3
      have hx : xIndex.f rest o = some ((q - e : Nat) : Int) := by
        unfold xIndex.f
        rw [if_pos (by omega), hr, c3]
      simp only [if_neg o0, hx, Option.bind_some, Int.toNat_natCast]
      rw [wrap_id (x := ((q - e : Nat) : Int) + (o.size : Int)) (by omega) (by omega), wrap_id (x := (i : Int) + 1) (by omega) (by omega)]
      simp only [if_pos (show (0 : Int) ≤ ((q - e : Nat) : Int) by omega), if_pos (show ((q - e : Nat) : Int) ≤ (rest.size : Int) by omega), if_pos (show acc.size + (rest.extract 0 (q - e)).size ≤ 140737488355328 by rw [psz]; omega),
        if_pos (show (acc ++ rest.extract 0 (q - e)).size + w.size ≤ 140737488355328 by rw [ByteArray.size_append, psz]; omega), if_pos (show (0 : Int) ≤ ((q - e : Nat) : Int) + (o.size : Int) by omega), if_pos (show ((q - e : Nat) : Int) + (o.size : Int) ≤ (rest.size : Int) by omega)]
      rw [show (((q - e : Nat) : Int) + (o.size : Int)).toNat = q - e + o.size by omega]
      exact next

/-! ### The document -/
theorem ref_l1 (xs : List Int) : ∀ (P : List Nat) (f : Bool) (e : Nat) (acc : List UInt8) (i : Nat), xs.drop i = P.map Int.ofNat → i + P.length = xs.length → xs.length ≤ 33554433 → Chain s.data.toList o.data.toList f e P → e ≤ s.size →
    acc.length + (asm s.data.toList o.data.toList w.data.toList e P).length ≤ 16777216 →
    Ans (fun k => abacusref20_Replace.l1 k s o w xs (xs.length : Int) (bl acc) e i) (⟨(acc ++ asm s.data.toList o.data.toList w.data.toList e P).toArray⟩, (xs.length : Int), 0) := by
  intro P
  induction P with
  | nil =>
    intro f e acc i hx hi hx1 hc he hl
    have h2 := size_l s
    have hb : (bl acc).length = acc.length := by simp [bl]
    rw [asm, List.length_drop] at hl
    rw [List.length_nil] at hi
    have psz : (s.extract e s.size).data.toList = s.data.toList.drop e := by rw [ext_l, List.take_of_length_le (by rw [List.length_drop]; omega)]
    have psz' : (s.extract e s.size).size = s.size - e := by rw [← size_l, psz, List.length_drop]; omega
    refine Ans.succ ?_
    simp only [abacusref20_Replace.l1, Int.toNat_natCast]
    simp only [if_neg (show ¬ (i : Int) < (xs.length : Int) by omega), if_pos (show (0 : Int) ≤ (e : Int) by omega), if_pos (show (e : Int) ≤ (s.size : Int) by omega), if_pos (show (bl acc).length + (s.extract e s.size).size < 140737488355328 by omega)]
    rw [bytes_bl, ← bl_app, num_bl, psz, asm]
    exact Ans.ret _
  | cons q P ih =>
    intro f e acc i hx hi hx1 hc he hl
    obtain ⟨c1, c2, c3, c4⟩ := hc
    have h2 := size_l s
    have h3 := size_l o
    have h4 := size_l w
    have hb : (bl acc).length = acc.length := by simp [bl]
    rw [h3, h2] at c2
    rw [asm, List.length_append, List.length_append, List.length_take, List.length_drop] at hl
    rw [List.length_cons] at hi
    have hil : i < xs.length := by omega
    have hq : rd xs (i : Int) = (q : Int) := by
      unfold rd
      rw [Int.toNat_natCast, List.getD, List.getElem?_eq_getElem hil]
      have := congrArg List.head? hx
      rw [List.head?_drop, List.getElem?_eq_getElem hil] at this
      simpa using this
    have hx' : xs.drop (i + 1) = P.map Int.ofNat := by
      have := congrArg List.tail hx
      rw [List.tail_drop] at this
      simpa using this
    have piece : (s.extract e q).data.toList = (s.data.toList.drop e).take (q - e) := ext_l s e q
    have psz : (s.extract e q).size = q - e := by rw [← size_l, piece, List.length_take, List.length_drop]; omega
    have next := ih false (q + o.data.toList.length) (acc ++ ((s.extract e q).data.toList ++ w.data.toList)) (i + 1) hx' (by omega) hx1 c4 (by omega) (by rw [List.length_append, List.length_append, size_l, psz]; omega)
    have hout : (acc ++ ((s.extract e q).data.toList ++ w.data.toList)) ++ asm s.data.toList o.data.toList w.data.toList (q + o.data.toList.length) P = acc ++ asm s.data.toList o.data.toList w.data.toList e (q :: P) := by
      rw [piece, asm]
      simp [List.append_assoc]
    rw [hout] at next
    refine Ans.succ ?_
    simp only [abacusref20_Replace.l1, hq, Int.toNat_natCast]
    have hy : bl acc ++ bytesOf (s.extract e q) = bl (acc ++ (s.extract e q).data.toList) := by rw [bytes_bl, bl_app]
    have hyl : (bl (acc ++ (s.extract e q).data.toList)).length = acc.length + (q - e) := by rw [bl, List.length_map, List.length_append, size_l, psz]
    simp only [if_pos (show (i : Int) < (xs.length : Int) by omega), if_pos (show (0 : Int) ≤ (i : Int) by omega), if_pos (show (0 : Int) ≤ (e : Int) by omega), if_pos (show (e : Int) ≤ (q : Int) by omega), if_pos (show (q : Int) ≤ (s.size : Int) by omega),
      if_pos (show (bl acc).length + (s.extract e q).size < 140737488355328 by omega), Option.bind_some, hy, hyl, if_pos (show acc.length + (q - e) + w.size < 140737488355328 by omega)]
    rw [wrap_id (x := (q : Int) + (o.size : Int)) (by omega) (by omega), wrap_id (x := (i : Int) + 1) (by omega) (by omega)]
    have hz : bl (acc ++ (s.extract e q).data.toList) ++ bytesOf w = bl (acc ++ ((s.extract e q).data.toList ++ w.data.toList)) := by rw [bytes_bl, ← bl_app, List.append_assoc]
    rw [hz]
    rw [h3] at next
    exact next
/-- What both answer, with the places P. -/
def ansR (P : List Nat) : ByteArray × Int × Int :=
  if (s.size : Int) + P.length * w.size - P.length * o.size > 16777216 then ((⟨#[]⟩ : ByteArray), 0, 3) else (⟨(asm s.data.toList o.data.toList w.data.toList 0 P).toArray⟩, P.length, 0)
theorem ref_fin (hw : w.size ≤ 33554432) (most : Int) (P : List Nat) (f : Bool) (hc : Chain s.data.toList o.data.toList f 0 P) (hP : P.length ≤ 33554433) (i : Int) : Ans (fun k => abacusref20_Replace.j1 k s o w most (P.map Int.ofNat) i false) (ansR s o w P) := by
  have h2 := size_l s
  have h3 := size_l o
  have h4 := size_l w
  have ha := asm_len s.data.toList o.data.toList w.data.toList hc (by omega)
  have he := chain_end s.data.toList o.data.toList hc (by omega)
  rw [h2, h3, h4] at ha
  rw [h2, h3] at he
  have hm : P.length * w.size ≤ 33554433 * 33554432 := Nat.mul_le_mul hP hw
  have hxl : (P.map Int.ofNat).length = P.length := by simp
  have c1 : ((P.length * w.size : Nat) : Int) = (P.length : Int) * (w.size : Int) := Int.natCast_mul _ _
  have c2 : ((P.length * o.size : Nat) : Int) = (P.length : Int) * (o.size : Int) := Int.natCast_mul _ _
  have c3 : (P.length : Int) * ((w.size : Int) - (o.size : Int)) = (P.length : Int) * (w.size : Int) - (P.length : Int) * (o.size : Int) := Int.mul_sub _ _ _
  have l1 : ¬ (s.size : Int) + P.length * w.size - P.length * o.size > 16777216 → Ans (fun k => abacusref20_Replace.l1 k s o w (P.map Int.ofNat) (P.length : Int) ([] : List Int) 0 0) (ansR s o w P) := by
    intro h
    have := ref_l1 s o w hs ho (P.map Int.ofNat) P f 0 [] 0 (by simp) (by simp) (by simpa using hP) hc (by omega) (by simp only [List.length_nil]; omega)
    rw [hxl, List.nil_append] at this
    unfold ansR
    rw [if_neg h]
    exact this
  have j2 : Ans (fun k => abacusref20_Replace.j2 k s o w (P.map Int.ofNat) (P.length : Int) ((w.size : Int) - (o.size : Int)) false) (ansR s o w P) := by
    refine Ans.succ ?_
    simp only [abacusref20_Replace.j2, Bool.false_eq_true, if_false]
    rw [wrap_id (x := (P.length : Int) * ((w.size : Int) - (o.size : Int))) (by omega) (by omega), wrap_id (by omega) (by omega), c3]
    by_cases h : (s.size : Int) + (P.length * w.size - P.length * o.size) > 16777216
    · simp only [if_pos h]
      unfold ansR
      rw [if_pos (by omega)]
      exact Ans.ret _
    · simp only [if_neg h]
      exact l1 (by omega)
  refine Ans.succ ?_
  simp only [abacusref20_Replace.j1, Bool.false_eq_true, if_false, hxl]
  rw [wrap_id (x := (w.size : Int) - (o.size : Int)) (by omega) (by omega)]
  by_cases h0 : (P.length : Int) > 0
  · simp only [if_pos h0]
    by_cases h5 : (w.size : Int) - (o.size : Int) > 0
    · have hdiv : ∀ z : Int, 16777216 / ((w.size : Int) - (o.size : Int)) < z ↔ 16777216 < z * ((w.size : Int) - (o.size : Int)) := fun z => Int.ediv_lt_iff_lt_mul h5
      have hd0 : 0 ≤ (16777216 : Int) / ((w.size : Int) - (o.size : Int)) := Int.ediv_nonneg (by omega) (by omega)
      have hd1 : (16777216 : Int) / ((w.size : Int) - (o.size : Int)) ≤ 16777216 := Int.ediv_le_self _ (by omega)
      simp only [if_pos h5, if_neg (show ¬ (w.size : Int) - (o.size : Int) = 0 by omega)]
      rw [wrap_id (x := 16777216 / ((w.size : Int) - (o.size : Int))) (by omega) (by omega)]
      by_cases h6 : (P.length : Int) > 16777216 / ((w.size : Int) - (o.size : Int))
      · have h7 := (hdiv _).1 h6
        rw [c3] at h7
        simp only [decide_eq_true h6]
        refine Ans.succ ?_
        simp only [abacusref20_Replace.j2, if_true]
        unfold ansR
        rw [if_pos (by omega)]
        exact Ans.ret _
      · simp only [decide_eq_false h6]
        exact j2
    · simp only [if_neg h5]
      exact j2
  · simp only [if_neg h0]
    exact j2
end
end Go.Proofs.Ytdeannaaafffbaa.Pl
