/-
  Plain laws of the chars statements: what Join answers; CharsLong answers true.
-/
import Derived.Test.YtdeannaaafffbaaPs
import Derived.Test.YtdeannaaafffbaaEChx23
import Derived.Lib.Join
set_option linter.unusedVariables false
set_option linter.unusedSimpArgs false
set_option linter.unusedSectionVars false
namespace Go.Proofs.Ytdeannaaafffbaa.Pl
open Go.RowKit Go.Proofs.YtdeannaaafffbaaW.PrintWords Go.Proofs.Ytdeannaaafffbaa.X Go.Proofs.Ytdeannaaafffbaa.ECh

/-- n bytes a. -/
def aL (n : Nat) : List UInt8 := List.replicate n 97
theorem row_l0 (n : Nat) (hn : n ≤ 33554432) : ∀ i : Int, i ≤ (n : Int) → 0 ≤ i → ∀ xs : List Int, xs.length = n → (∀ j : Nat, (j : Int) < i → xs[j]? = some 97) → Ans (fun k => abacuslaw20_row.l0 k (n : Int) xs i) (⟨(aL n).toArray⟩ : ByteArray) := by
  refine left_ind fun i hi ih h0 xs hl hx => Ans.succ ?_
  simp only [abacuslaw20_row.l0]
  by_cases hlt : i < (n : Int)
  · simp only [if_pos hlt, if_pos h0, if_pos (show i < (xs.length : Int) by omega)]
    rw [wrap_id (x := i + 1) (by omega) (by omega)]
    refine ih (i + 1) (by omega) (by omega) (by omega) _ (by rw [List.length_set]; exact hl) fun j hj => ?_
    by_cases e : j = i.toNat
    · subst e
      rw [List.getElem?_set_self (by omega)]
    · rw [List.getElem?_set_ne (by omega)]
      exact hx j (by omega)
  · simp only [if_neg hlt]
    have : xs = bl (aL n) := by
      apply List.ext_getElem?
      intro j
      by_cases hj : j < n
      · rw [hx j (by omega)]
        simp [bl, aL, hj]
      · rw [List.getElem?_eq_none (by omega), List.getElem?_eq_none (by simp [bl, aL]; omega)]
    rw [this, num_bl]
    exact Ans.ret _
theorem row_t (n : Nat) (hn : n ≤ 33554432) : Ans (fun k => abacuslaw20_row.f k (n : Int)) (⟨(aL n).toArray⟩ : ByteArray) := by
  unfold abacuslaw20_row.f
  simp only [if_pos (show (0 : Int) ≤ (n : Int) by omega), if_pos (show ((n : Int)).toNat ≤ 281474976710656 by omega)]
  exact row_l0 n hn 0 (by omega) (by omega) _ (by simp) fun j hj => by omega

/-! ### Join -/
def jlen (sep : ByteArray) : Bool → List ByteArray → Nat
  | _, [] => 0
  | f, x :: r => (if f = true then 0 else sep.size) + x.size + jlen sep false r
theorem jtail_len (sep : ByteArray) : ∀ r : List ByteArray, (Lib.joinTail sep.data.toList (r.map (·.data.toList))).length = jlen sep false r
  | [] => rfl
  | x :: r => by
    have ih := jtail_len sep r
    unfold Lib.joinTail at ih ⊢
    rw [List.map_cons, List.map_cons, List.flatten_cons, List.length_append, ih, List.length_append, size_l, size_l, jlen]
    simp
theorem join_len (sep : ByteArray) : ∀ r : List ByteArray, (Lib.join (r.map (·.data.toList)) sep.data.toList).length = jlen sep true r
  | [] => rfl
  | x :: r => by
    rw [List.map_cons, Lib.join_cons, List.length_append, jtail_len, size_l, jlen]
    simp
def joinV (l : List ByteArray) (sep : ByteArray) : ByteArray × Int :=
  if jlen sep true l > 16777216 then ((⟨#[]⟩ : ByteArray), 3) else (⟨(Lib.join (l.map (·.data.toList)) sep.data.toList).toArray⟩, 0)
theorem join_l0 (l : List ByteArray) (sep : ByteArray) (hl : l.length ≤ 140737488355328) (hs : ∀ x ∈ l, x.size ≤ 1152921504606846976) (hp : sep.size ≤ 1152921504606846976) :
    ∀ (R : List ByteArray) (i acc : Nat), l.drop i = R → i + R.length = l.length → acc ≤ 16777216 → acc + jlen sep (decide (i = 0)) R = jlen sep true l → Ans (fun k => chars_Join.l0 k l sep (acc : Int) l (l.length : Int) (i : Int)) (joinV l sep) := by
  intro R
  induction R with
  | nil =>
    intro i acc hd hi ha hj
    rw [List.length_nil] at hi
    rw [jlen] at hj
    refine Ans.succ ?_
    have hx : xJoin.f l sep = some ⟨(Lib.join (l.map (·.data.toList)) sep.data.toList).toArray⟩ := by
      unfold xJoin.f
      rw [if_pos ⟨hl, by rw [join_len]; omega⟩]
    simp only [chars_Join.l0, if_neg (show ¬ (i : Int) < (l.length : Int) by omega), hx, Option.bind_some]
    unfold joinV
    rw [if_neg (by omega)]
    exact Ans.ret _
  | cons x R ih =>
    intro i acc hd hi ha hj
    rw [List.length_cons] at hi
    have hil : i < l.length := by omega
    have hx : l[i] = x := by
      have := congrArg List.head? hd
      rw [List.head?_drop, List.getElem?_eq_getElem hil] at this
      simpa using this
    have hd' : l.drop (i + 1) = R := by
      have := congrArg List.tail hd
      rw [List.tail_drop] at this
      simpa using this
    have hrd : rdOf ByteArray.empty l (i : Int) = x := by
      unfold rdOf
      rw [Int.toNat_natCast, List.getD, List.getElem?_eq_getElem hil, hx]
      rfl
    have hxs := hs x (by rw [← hx]; exact List.getElem_mem hil)
    rw [jlen] at hj
    have bad : acc + (if decide (i = 0) = true then 0 else sep.size) + x.size > 16777216 → joinV l sep = ((⟨#[]⟩ : ByteArray), 3) := by
      intro h
      unfold joinV
      rw [if_pos (by omega)]
    have next := ih (i + 1) (acc + (if decide (i = 0) = true then 0 else sep.size) + x.size) hd' (by omega)
    rw [decide_eq_false (show ¬ i + 1 = 0 by omega)] at next
    refine Ans.succ ?_
    simp only [chars_Join.l0, hrd, if_pos (show (i : Int) < (l.length : Int) by omega), if_pos (show (0 : Int) ≤ (i : Int) by omega)]
    rw [wrap_id (x := (i : Int) + 1) (by omega) (by omega)]
    by_cases h0 : i = 0
    · rw [decide_eq_true h0, if_pos rfl] at bad next hj
      simp only [if_neg (show ¬ (i : Int) > 0 by omega)]
      rw [wrap_id (x := (acc : Int) + (x.size : Int)) (by omega) (by omega)]
      by_cases h1 : (acc : Int) + (x.size : Int) > 16777216
      · simp only [if_pos h1]
        rw [bad (by omega)]
        exact Ans.ret _
      · simp only [if_neg h1]
        have := next (by omega) (by omega)
        rw [show ((acc + 0 + x.size : Nat) : Int) = (acc : Int) + (x.size : Int) by omega] at this
        exact this
    · rw [decide_eq_false h0, if_neg (by decide)] at bad next hj
      simp only [if_pos (show (i : Int) > 0 by omega)]
      rw [wrap_id (x := (acc : Int) + (sep.size : Int)) (by omega) (by omega), wrap_id (x := (acc : Int) + (sep.size : Int) + (x.size : Int)) (by omega) (by omega)]
      by_cases h1 : (acc : Int) + (sep.size : Int) + (x.size : Int) > 16777216
      · simp only [if_pos h1]
        rw [bad (by omega)]
        exact Ans.ret _
      · simp only [if_neg h1]
        have := next (by omega) (by omega)
        rw [show ((acc + sep.size + x.size : Nat) : Int) = (acc : Int) + (sep.size : Int) + (x.size : Int) by omega] at this
        exact this
theorem join_t (l : List ByteArray) (sep : ByteArray) (hl : l.length ≤ 140737488355328) (hs : ∀ x ∈ l, x.size ≤ 1152921504606846976) (hp : sep.size ≤ 1152921504606846976) : Ans (fun k => chars_Join.f k l sep) (joinV l sep) := by
  unfold chars_Join.f
  exact join_l0 l sep hl hs hp l 0 0 rfl (by omega) (by omega) (by simp)
theorem cat_t (l : List ByteArray) (hl : l.length ≤ 140737488355328) (hs : ∀ x ∈ l, x.size ≤ 1152921504606846976) : Ans (fun k => chars_Cat.f k l) (joinV l ⟨#[]⟩) := by
  unfold chars_Cat.f
  refine Ans.bind (join_t l ⟨#[]⟩ hl hs (by decide)) ?_
  exact Ans.ret _

/-! ### Replace, by the number of places -/
theorem prog_t (s o w : ByteArray) (hs : s.size ≤ 33554432) (ho : o.size ≤ 33554432) (hw : w.size ≤ 33554432) (hO : o.data.toList ≠ []) (most : Int) (n : Nat)
    (hn : (most < 0 ∧ n = Lib.count s.data.toList o.data.toList) ∨ (0 ≤ most ∧ (n : Int) = (if most < (Lib.count s.data.toList o.data.toList : Int) then most else (Lib.count s.data.toList o.data.toList : Int)))) :
    Ans (fun k => chars_Replace.f k s o w most) (ansR s o w (plc s.data.toList o.data.toList n 0)) := by
  have h2 := size_l s
  have h3 := size_l o
  have o0 : ¬ o.toList = ([] : List UInt8) := by rw [Go.ByteArray.toList_eq]; exact hO
  have hol : 0 < o.size := by rw [← h3]; exact List.length_pos_iff.2 hO
  have hcnt : chars_count.f s o = some ((Lib.count s.data.toList o.data.toList : Nat) : Int) := by
    unfold chars_count.f xCount.f
    rw [if_neg o0, if_pos ⟨by omega, by omega⟩]
    rfl
  have hcl := Lib.count_le s.data.toList o.data.toList
  generalize hcc : Lib.count s.data.toList o.data.toList = c at hcnt hcl hn
  have hn1 : n ≤ c := by
    rcases hn with ⟨_, h⟩ | ⟨_, h⟩
    · omega
    · split at h <;> omega
  have hch := plc_chain s.data.toList o.data.toList hO n 0 (by omega) (by rw [List.drop_zero, hcc]; exact hn1) true
  have hP := plc_len s.data.toList o.data.toList n 0
  have hp := prog_fin s o w hs ho hw _ hch (by omega)
  unfold chars_Replace.f
  simp only [hcnt, Option.bind_some]
  rcases hn with ⟨hm, rfl⟩ | ⟨hm, hn⟩
  · simp only [if_neg (show ¬ most ≥ 0 by omega)]
    rw [hP] at hp
    exact hp
  · simp only [if_pos (show most ≥ 0 by omega)]
    have : mn (c : Int) most = ((plc s.data.toList o.data.toList n 0).length : Int) := by
      rw [hP, hn]
      rfl
    rw [this]
    exact hp
theorem aL_len (n : Nat) : (aL n).length = n := by simp [aL]
theorem index_aL (c : UInt8) (hc : c ≠ 97) : ∀ n, Lib.index (aL n ++ [c]) [c] = n
  | 0 => by
    show Lib.index [c] [c] = 0
    simp [Lib.index]
  | n + 1 => by
    have ih := index_aL c hc n
    show Lib.index (97 :: (aL n ++ [c])) [c] = _
    unfold Lib.index
    rw [if_neg (by simp [hc]), ih, if_neg (by simp)]
    omega
theorem index_not (c d : UInt8) (hc : d ≠ 97) (hd : d ≠ c) : ∀ n, Lib.index (aL n ++ [c]) [d] = -1
  | 0 => by
    show Lib.index [c] [d] = -1
    simp [Lib.index, hd]
  | n + 1 => by
    have ih := index_not c d hc hd n
    show Lib.index (97 :: (aL n ++ [c])) [d] = _
    unfold Lib.index
    rw [if_neg (by simp [hc]), ih, if_pos (by simp)]
theorem count_aL (c : UInt8) (hc : c ≠ 97) (n : Nat) : Lib.count (aL n ++ [c]) [c] = 1 := by
  rw [Lib.count_hit (by simp) (index_aL c hc n)]
  have : (aL n ++ [c]).drop (n + [c].length) = [] := List.drop_eq_nil_of_le (by rw [List.length_append, aL_len]; exact Nat.le_refl _)
  rw [this, Lib.count_miss (by simp [Lib.index])]
theorem plc_aL (c : UInt8) (hc : c ≠ 97) (n : Nat) : plc (aL n ++ [c]) [c] 1 0 = [n] := by
  rw [plc, plc, List.drop_zero, index_aL c hc n, Int.toNat_natCast, Nat.zero_add]
theorem asm_aL (c : UInt8) (n : Nat) (W : List UInt8) : asm (aL n ++ [c]) [c] W 0 [n] = aL n ++ W := by
  rw [asm, asm, List.drop_zero, Nat.sub_zero, List.take_append_of_le_length (by rw [aL_len]; omega), List.take_of_length_le (by rw [aL_len]; omega), List.drop_eq_nil_of_le (by rw [List.length_append, aL_len]; exact Nat.le_refl _), List.append_nil]
theorem aL_add (n m : Nat) : aL n ++ aL m = aL (n + m) := by simp [aL, List.replicate_append_replicate]

/-! ### The closed sentence -/
def aB (n : Nat) : ByteArray := ⟨(aL n).toArray⟩
theorem aB_list (n : Nat) : (aB n).data.toList = aL n := rfl
theorem aB_size (n : Nat) : (aB n).size = n := by rw [← size_l, aB_list, aL_len]
theorem list_eq {x y : ByteArray} (h : x = y) : x.toList = y.toList := by rw [h]
theorem join_two (n : Nat) : Lib.join [aL n, aL n] [] = aL (n + n) := by
  rw [Lib.join_cons]
  simp [Lib.joinTail, aL_add]
theorem joinV_two (n : Nat) (h : n + n ≤ 16777216) : joinV [aB n, aB n] ⟨#[]⟩ = (aB (n + n), 0) := by
  unfold joinV
  have : jlen ⟨#[]⟩ true [aB n, aB n] = n + n := by
    simp only [jlen, aB_size]
    show 0 + n + ((if false = true then 0 else 0) + n + 0) = n + n
    simp
  rw [this, if_neg (by omega)]
  have e : Lib.join (List.map (fun x : ByteArray => x.data.toList) [aB n, aB n]) (⟨#[]⟩ : ByteArray).data.toList = aL (n + n) := join_two n
  rw [e]
  rfl
theorem joinV_bad (l : List ByteArray) (sep : ByteArray) (h : jlen sep true l > 16777216) : joinV l sep = ((⟨#[]⟩ : ByteArray), 3) := by
  unfold joinV
  rw [if_pos h]
theorem one_size (c : UInt8) : (⟨#[c]⟩ : ByteArray).size = 1 := rfl
theorem rep_end (n : Nat) (c : UInt8) (hc : c ≠ 97) (w : ByteArray) (hn : n ≤ 16777216) (hw : w.size ≤ 33554432) (most : Int) (hm : most < 0 ∨ most = 1) :
    Ans (fun k => chars_Replace.f k (aB n ++ (⟨#[c]⟩ : ByteArray)) (⟨#[c]⟩ : ByteArray) w most) (if (n : Int) + w.size > 16777216 then ((⟨#[]⟩ : ByteArray), 0, 3) else (aB n ++ w, 1, 0)) := by
  have hl : (aB n ++ (⟨#[c]⟩ : ByteArray)).data.toList = aL n ++ [c] := by rw [app_l, aB_list]
  have hs : (aB n ++ (⟨#[c]⟩ : ByteArray)).size = n + 1 := by rw [ByteArray.size_append, aB_size, one_size]
  have hcn : Lib.count (aB n ++ (⟨#[c]⟩ : ByteArray)).data.toList (⟨#[c]⟩ : ByteArray).data.toList = 1 := by rw [hl]; exact count_aL c hc n
  have hp := prog_t (aB n ++ (⟨#[c]⟩ : ByteArray)) (⟨#[c]⟩ : ByteArray) w (by omega) (by rw [one_size]; omega) hw (by simp) most 1 (by
    rw [hcn]
    rcases hm with h | h
    · exact .inl ⟨h, rfl⟩
    · exact .inr ⟨by omega, by rw [h]; rfl⟩)
  have hpl : plc (aB n ++ (⟨#[c]⟩ : ByteArray)).data.toList (⟨#[c]⟩ : ByteArray).data.toList 1 0 = [n] := by rw [hl]; exact plc_aL c hc n
  rw [hpl] at hp
  have ha : asm (aB n ++ (⟨#[c]⟩ : ByteArray)).data.toList (⟨#[c]⟩ : ByteArray).data.toList w.data.toList 0 [n] = aL n ++ w.data.toList := by rw [hl]; exact asm_aL c n _
  have hb : (⟨(aL n ++ w.data.toList).toArray⟩ : ByteArray) = aB n ++ w := by
    apply ba_ext
    rw [app_l, aB_list]
  unfold ansR at hp
  rw [ha, hb, hs, one_size] at hp
  have hx : (((n + 1 : Nat) : Int) + (([n] : List Nat).length : Int) * (w.size : Int) - (([n] : List Nat).length : Int) * ((1 : Nat) : Int) > 16777216) ↔ ((n : Int) + w.size > 16777216) := by
    simp only [List.length_cons, List.length_nil]
    omega
  by_cases h : (n : Int) + w.size > 16777216
  · rw [if_pos (hx.2 h)] at hp
    rw [if_pos h]
    exact hp
  · rw [if_neg (fun g => h (hx.1 g))] at hp
    rw [if_neg h]
    exact hp
theorem rep_none (n : Nat) (hn : n = 16777216) : Ans (fun k => chars_Replace.f k (aB n ++ (⟨#[122]⟩ : ByteArray)) (⟨#[113]⟩ : ByteArray) (⟨#[]⟩ : ByteArray) (-1)) ((⟨#[]⟩ : ByteArray), 0, 3) := by
  have hl : (aB n ++ (⟨#[122]⟩ : ByteArray)).data.toList = aL n ++ [122] := by rw [app_l, aB_list]
  have hs : (aB n ++ (⟨#[122]⟩ : ByteArray)).size = n + 1 := by rw [ByteArray.size_append, aB_size, one_size]
  have hcn : Lib.count (aB n ++ (⟨#[122]⟩ : ByteArray)).data.toList (⟨#[113]⟩ : ByteArray).data.toList = 0 := by rw [hl]; exact Lib.count_miss (index_not 122 113 (by decide) (by decide) n)
  have hp := prog_t (aB n ++ (⟨#[122]⟩ : ByteArray)) (⟨#[113]⟩ : ByteArray) ⟨#[]⟩ (by omega) (by rw [one_size]; omega) (by decide) (by simp) (-1) 0 (.inl ⟨by decide, hcn.symm⟩)
  unfold ansR at hp
  rw [hs, plc] at hp
  rw [if_pos (by simp only [List.length_nil]; omega)] at hp
  exact hp
theorem e_size : (⟨#[]⟩ : ByteArray).size = 0 := rfl
theorem aB_two (n m : Nat) (h : n + n = m) : aB n ++ aB n = aB m := by
  subst h
  apply ba_ext
  rw [app_l, aB_list, aB_list, aL_add]
theorem app_none (x : ByteArray) : x ++ (⟨#[]⟩ : ByteArray) = x := by
  apply ba_ext
  rw [app_l]
  exact List.append_nil _
/-- The sentence, of any two texts of which this is told. -/
theorem long_core (H S : ByteArray) (hH : H.size = 8388608) (hS : S.size = 16777216) (row : Ans (fun k => abacuslaw20_row.f k 8388608) H) (j2 : joinV [H, H] ⟨#[]⟩ = (S, 0))
    (R1 : Ans (fun k => chars_Replace.f k (H ++ (⟨#[98]⟩ : ByteArray)) (⟨#[98]⟩ : ByteArray) H (-1)) (S, 1, 0))
    (R2 : Ans (fun k => chars_Replace.f k (H ++ (⟨#[98]⟩ : ByteArray)) (⟨#[98]⟩ : ByteArray) (H ++ (⟨#[99]⟩ : ByteArray)) (-1)) ((⟨#[]⟩ : ByteArray), 0, 3))
    (R3 : Ans (fun k => chars_Replace.f k (S ++ (⟨#[122]⟩ : ByteArray)) (⟨#[113]⟩ : ByteArray) (⟨#[]⟩ : ByteArray) (-1)) ((⟨#[]⟩ : ByteArray), 0, 3))
    (R4 : Ans (fun k => chars_Replace.f k (S ++ (⟨#[122]⟩ : ByteArray)) (⟨#[122]⟩ : ByteArray) (⟨#[]⟩ : ByteArray) 1) (S, 1, 0)) : Ans (fun k => abacuslaw20_CharsLong.f k) true := by
  have mem2 : ∀ x ∈ ([H, H] : List ByteArray), x.size ≤ 1152921504606846976 := by
    intro x hx
    simp at hx
    rw [hx, hH]
    omega
  have mem3 : ∀ x ∈ ([H, H, (⟨#[121]⟩ : ByteArray)] : List ByteArray), x.size ≤ 1152921504606846976 := by
    intro x hx
    simp at hx
    rcases hx with hx | hx
    · rw [hx, hH]
      omega
    · rw [hx, one_size]
      omega
  have bx : joinV [H, H] (⟨#[120]⟩ : ByteArray) = ((⟨#[]⟩ : ByteArray), 3) := joinV_bad _ _ (by
    simp only [jlen, hH, one_size]
    simp)
  have by_ : joinV [H, H, (⟨#[121]⟩ : ByteArray)] ⟨#[]⟩ = ((⟨#[]⟩ : ByteArray), 3) := joinV_bad _ _ (by
    simp only [jlen, hH, one_size, e_size]
    simp)
  have e0 : (⟨#[]⟩ : ByteArray).toList = ([] : List UInt8) := by rw [Go.ByteArray.toList_eq]
  unfold abacuslaw20_CharsLong.f
  refine Ans.bind row ?_
  refine Ans.bind (join_t _ _ (by simp) mem2 (by decide)) ?_
  rw [j2]
  simp only [if_true, hS]
  refine Ans.succ ?_
  have hne : (((16777216 : Nat) : Int) != 16777216) = false := by decide
  simp only [abacuslaw20_CharsLong.j0, hne, Bool.false_eq_true, if_false]
  refine Ans.bind (join_t _ _ (by simp) mem2 (by decide)) ?_
  refine Ans.bind (cat_t _ (by simp) mem3) ?_
  refine Ans.bind (cat_t _ (by simp) mem2) ?_
  rw [bx, by_, j2]
  simp only [if_true, e0, bne_self_eq_false]
  refine Ans.succ ?_
  simp only [abacuslaw20_CharsLong.j1, Bool.false_eq_true, if_false, hH, if_pos (show 8388608 + 1 ≤ 9223372036854775807 by omega)]
  refine Ans.bind R1 ?_
  simp only [if_true, bne_self_eq_false]
  refine Ans.succ ?_
  simp only [abacuslaw20_CharsLong.j2, Bool.false_eq_true, if_false, hH, if_pos (show 8388608 + 1 ≤ 9223372036854775807 by omega)]
  refine Ans.bind R2 ?_
  simp only [if_true, e0, bne_self_eq_false]
  refine Ans.succ ?_
  simp only [abacuslaw20_CharsLong.j3, Bool.false_eq_true, if_false, hS, if_pos (show 16777216 + 1 ≤ 9223372036854775807 by omega)]
  refine Ans.bind R3 ?_
  simp only [if_true, e0]
  refine Ans.bind R4 ?_
  simp only [if_true, beq_self_eq_true]
  exact Ans.ret _
theorem rep_end_good (n m : Nat) (c : UInt8) (hc : c ≠ 97) (w r : ByteArray) (hn : n ≤ 16777216) (hw : n + w.size ≤ 16777216) (hr : aB n ++ w = r) (most : Int) (hm : most < 0 ∨ most = 1) :
    Ans (fun k => chars_Replace.f k (aB n ++ (⟨#[c]⟩ : ByteArray)) (⟨#[c]⟩ : ByteArray) w most) (r, 1, 0) := by
  have h := rep_end n c hc w hn (by omega) most hm
  rw [if_neg (by omega), hr] at h
  exact h
theorem rep_end_bad (n : Nat) (c : UInt8) (hc : c ≠ 97) (w : ByteArray) (hn : n ≤ 16777216) (hw : n + w.size > 16777216) (hw' : w.size ≤ 33554432) (most : Int) (hm : most < 0 ∨ most = 1) :
    Ans (fun k => chars_Replace.f k (aB n ++ (⟨#[c]⟩ : ByteArray)) (⟨#[c]⟩ : ByteArray) w most) ((⟨#[]⟩ : ByteArray), 0, 3) := by
  have h := rep_end n c hc w hn hw' most hm
  rw [if_pos (by omega)] at h
  exact h
theorem long_any (n m : Nat) (hn : n = 8388608) (hm : m = 16777216) (hnm : n + n = m) : Ans (fun k => abacuslaw20_CharsLong.f k) true := by
  have hr := row_t n (by omega)
  have hi : (n : Int) = 8388608 := by omega
  rw [hi] at hr
  refine long_core (aB n) (aB m) ((aB_size n).trans hn) ((aB_size m).trans hm) hr ?_ ?_ ?_ (rep_none m hm) ?_
  · rw [← hnm]
    exact joinV_two n (by omega)
  · exact rep_end_good n m 98 (by decide) (aB n) (aB m) (by omega) (by rw [aB_size]; omega) (aB_two n m hnm) (-1) (.inl (by decide))
  · exact rep_end_bad n 98 (by decide) (aB n ++ (⟨#[99]⟩ : ByteArray)) (by omega) (by rw [ByteArray.size_append, aB_size, one_size]; omega) (by rw [ByteArray.size_append, aB_size, one_size]; omega) (-1) (.inl (by decide))
  · exact rep_end_good m m 122 (by decide) ⟨#[]⟩ (aB m) (by omega) (by rw [e_size]; omega) (app_none _) 1 (.inr rfl)
theorem charsLong_true : Ans (fun k => abacuslaw20_CharsLong.f k) true := long_any 8388608 16777216 rfl rfl rfl
end Go.Proofs.Ytdeannaaafffbaa.Pl
