/-
  Plain laws of the code statements: CodeBytes. Condition: the text's bytes are 0 to 255.
-/
import Derived.Test.YtdkejcadoepnnaaDoorByPo
import Derived.Test.YtdkejcadoepnnaaDoorByECzx18
set_option linter.unusedVariables false
set_option linter.unusedSimpArgs false
namespace Go.Proofs.YtdkejcadoepnnaaDoor.Pl
open Go.RowKit Go.Proofs.YtdkejcadoepnnaaDoorW.PrintWords Go.Proofs.YtdkejcadoepnnaaDoorW.PrintMore Go.Proofs.YtdkejcadoepnnaaDoor.ECc Go.Proofs.YtdkejcadoepnnaaDoor.X
theorem runH_at (n : Int) (hn : 0 ≤ n) : ∀ (r : List S41) (i : Int) (hs : List Int), 0 ≤ i → i + r.length = n → (runH n r i hs).2.2 = 0 ∨ ((runH n r i hs).2.2 = 260 ∧ 0 ≤ (runH n r i hs).2.1 ∧ (runH n r i hs).2.1 ≤ n)
 | [], i, hs, h0, h1 => by
  unfold runH
  split
  ·exact .inl rfl
  ·exact .inr ⟨rfl, hn, Int.le_refl n⟩
 | x :: r, i, hs, h0, h1 => by
  have h2 : i + 1 + (r.length : Int) = n := by rw [List.length_cons] at h1; omega
  unfold runH
  split
  ·exact .inr ⟨rfl, h0, (by omega : i ≤ n)⟩
  ·exact runH_at n hn r (i + 1) _ (by omega) h2
theorem allR_at (n p q : Int) : ∀ (r : List S41) (i j : Int), 0 ≤ i → i + r.length = n → allR n p q r i = some j → 0 ≤ j ∧ j ≤ n
 | [], i, j, h0, h1, e => by
  unfold allR at e
  cases e
 | x :: r, i, j, h0, h1, e => by
  have h2 : i + 1 + (r.length : Int) = n := by rw [List.length_cons] at h1; omega
  unfold allR at e
  split at e
  ·exact allR_at n p q r (i + 1) j (by omega) h2 e
  ·obtain rfl := Option.some.inj e
   exact ⟨h0, by omega⟩
theorem check_at (ops : List S41) (p q : Int) : (checkV ops p q).2.2 = 0 ∨ ((checkV ops p q).2.2 = 260 ∧ 0 ≤ (checkV ops p q).2.1 ∧ (checkV ops p q).2.1 ≤ (ops.length : Int)) := by
 unfold checkV heightsV
 by_cases hb : (ops.length : Int) > 131072
 ·rw [if_pos hb]
  exact .inr ⟨rfl, by decide, Int.le_of_lt hb⟩
 ·rw [if_neg hb]
  cases ha : allR (ops.length : Int) p q ops 0 with
  | some i =>
   have := allR_at (ops.length : Int) p q ops 0 i (Int.le_refl 0) (by omega) ha
   exact .inr ⟨rfl, this.1, this.2⟩
  | none => exact runH_at (ops.length : Int) (Int.natCast_nonneg _) ops 0 _ (Int.le_refl 0) (by omega)
theorem flat_ge {α : Type} (f : α → List Int) (c : Nat) : ∀ l : List α, (∀ x ∈ l, c ≤ (f x).length) → c * l.length ≤ (l.flatMap f).length
 | [], h => by simp
 | x :: l, h => by
  rw [List.flatMap_cons, List.length_append, List.length_cons, Nat.mul_add]
  have := flat_ge f c l (fun y hy => h y (by simp [hy]))
  have := h x (by simp)
  omega
theorem sE_ge : ∀ l : List ByteArray, l.length + sumS l ≤ (l.flatMap sE).length
 | [] => by simp [sumS]
 | s :: l => by
  rw [List.flatMap_cons, List.length_append, List.length_cons, sumS]
  have := sE_ge l
  have h1 : 1 + s.size ≤ (sE s).length := by
   unfold sE
   rw [List.length_append, bytesOf_len]
   have := dgL_pos (s.size : Int)
   omega
  omega
theorem sum_mem : ∀ (l : List ByteArray), ∀ s ∈ l, s.size ≤ sumS l
 | [], s, h => by simp at h
 | t :: l, s, h => by
  rw [sumS]
  rcases List.mem_cons.1 h with rfl | h
  ·omega
  ·have := sum_mem l s h
   omega
theorem whole_ge (ops : List S41) (nums : List Int) (strs : List ByteArray) : ops.length + 8 * nums.length + strs.length + sumS strs ≤ (wholeE ops nums strs).length := by
 have h1 := flat_ge opE 1 ops (fun x _ => by unfold opE; rw [List.length_cons]; omega)
 have h2 := flat_ge (n8 8) 8 nums (fun x _ => by rw [n8_len]; omega)
 have h3 := sE_ge strs
 unfold wholeE textE bodyE
 simp only [List.length_append]
 omega
theorem jn_i64 {x : S41} (h : Jn x) : I64 x := ⟨by have := h.2.1; omega, by have := h.2.2.2; omega⟩
/-- What Decode answers. -/
theorem decode_ans (l : List Int) (hb : By l) (hl : l.length ≤ 16777216) :
  (∃ p, xDecode.f l = some ([], [], [], p, 261) ∧ 0 ≤ p ∧ p ≤ (l.length : Int)) ∨
  ∃ ops nums strs, Un nums ∧ (∀ x ∈ ops, Jn x) ∧ l = wholeE ops nums strs ∧
   xDecode.f l = some (if (checkV ops nums.length strs.length).2.2 = 0 then (ops, nums, strs, 0, 0) else ([], [], [], (checkV ops nums.length strs.length).2.1, (checkV ops nums.length strs.length).2.2)) := by
 obtain ⟨r, ⟨n, hn⟩, hok⟩ := c_rd l hb hl
 rcases hok with ⟨p, t, rfl, p0, p1⟩ | ⟨ops, nums, strs, t, rfl, h1, h2, h3⟩
 ·refine .inl ⟨p, xDecode.f_of ⟨n, fun k hk => ?_⟩, p0, p1⟩
  unfold decK
  have h0 : r_code.f k l 0 l = _ := hn k hk
  rw [h0, Option.bind_some, if_pos n11]
 ·obtain ⟨m, hm⟩ := check_ans ops nums strs
  refine .inr ⟨ops, nums, strs, h1, h2, h3, xDecode.f_of ⟨max n m, fun k hk => ?_⟩⟩
  unfold decK
  have h0 : r_code.f k l 0 l = _ := hn k (by omega)
  rw [h0, Option.bind_some, if_neg n01]
  have hc : c_Check.f k ops nums strs = _ := hm k (by omega)
  rw [hc, Option.bind_some]
  split <;> rfl
theorem same_nil : Ans (fun k => w_same.f k [] [] [] [] [] []) true := by
 refine ⟨5, fun k hk => ?_⟩
 obtain ⟨k', rfl⟩ : ∃ k', k = k' + 5 := ⟨k - 5, by omega⟩
 rfl
theorem m1 : ¬ (0 : Int) = 261 := by decide
theorem m2 : ¬ (260 : Int) = 261 := by decide
theorem m3 : ¬ (260 : Int) = 0 := by decide
theorem codeBytes_true (l : List Int) (hb : By l) : Ans (fun k => w_CodeBytes.f k l) true := by
 unfold w_CodeBytes.f
 refine Ans.bind awake_ans ?_
 by_cases hl : (l.length : Int) > 16777216
 ·exact Ans.of fun k => by rw [if_pos rfl, if_pos hl]
 have hl' : l.length ≤ 16777216 := by omega
 rcases decode_ans l hb hl' with ⟨p, hd, p0, p1⟩ | ⟨ops, nums, strs, h1, h2, h3, hd⟩
 ·obtain ⟨n, hn⟩ := same_nil
  refine ⟨n, fun k hk => ?_⟩
  have hs : w_same.f k [] [] [] [] [] [] = some true := hn k hk
  show (if true = true then (if (l.length : Int) > 16777216 then some true else (xDecode.f l).bind _) else some false) = some true
  rw [if_pos rfl, if_neg hl, hd, Option.bind_some, if_pos rfl, if_pos p0, if_pos p1, hs]
  rfl
 ·have hge := whole_ge ops nums strs
  rw [← h3] at hge
  rcases check_at ops nums.length strs.length with hc | ⟨hc, c0, c1⟩
  ·rw [if_pos hc] at hd
   have he := encode_ans ops nums strs (fun x hx => jn_i64 (h2 x hx)) (fun s hs => by have := sum_mem strs s hs; omega) (by omega)
   have hv : encodeV ops nums strs = (l, 0) := by
    unfold encodeV
    rw [if_pos hc, if_pos (by omega), if_neg (by omega), ← h3]
    unfold finE
    rw [if_neg hl]
   rw [hv] at he
   obtain ⟨n, hn⟩ := he
   obtain ⟨m, hm⟩ := check_ans ops nums strs
   refine ⟨max n m, fun k hk => ?_⟩
   have a1 : c_Encode.f k ops nums strs = _ := hn k (by omega)
   have a2 : c_Check.f k ops nums strs = _ := hm k (by omega)
   show (if true = true then (if (l.length : Int) > 16777216 then some true else (xDecode.f l).bind _) else some false) = some true
   rw [if_pos rfl, if_neg hl, hd, Option.bind_some, if_neg m1, if_pos rfl, a2, Option.bind_some, a1, Option.bind_some, if_pos rfl, if_pos hc, if_pos rfl]
   simp
  ·rw [if_neg (by rw [hc]; decide), hc] at hd
   obtain ⟨n, hn⟩ := same_nil
   refine ⟨n, fun k hk => ?_⟩
   have hs : w_same.f k [] [] [] [] [] [] = some true := hn k hk
   show (if true = true then (if (l.length : Int) > 16777216 then some true else (xDecode.f l).bind _) else some false) = some true
   rw [if_pos rfl, if_neg hl, hd, Option.bind_some, if_neg m2, if_neg m3, if_pos rfl, hs, Option.bind_some, if_pos rfl, if_pos c0, decide_eq_true (show (checkV ops nums.length strs.length).2.1 ≤ (l.length : Int) by omega)]
end Go.Proofs.YtdkejcadoepnnaaDoor.Pl
