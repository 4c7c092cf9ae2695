/-
  Plain laws of the code statements: Encode, told as a plain function. Conditions: the instructions' numbers are int64, the texts' sizes below 2^62.
-/
import Derived.Test.YtdkejcadoepnnaaDoorTuPb
import Derived.Test.YtdkejcadoepnnaaDoorTuECcx12
set_option linter.unusedVariables false
set_option linter.unusedSimpArgs false
namespace Go.Proofs.YtdkejcadoepnnaaDoor.Pl
open Go.RowKit Go.Proofs.YtdkejcadoepnnaaDoorW.PrintWords Go.Proofs.YtdkejcadoepnnaaDoor.ECc Go.Proofs.YtdkejcadoepnnaaDoor.X
theorem son_size (l : List Int) : (strOfNums l).size = l.length := by
  simp [strOfNums, ByteArray.size]
theorem dig_some {x : Int} (h : x ≤ 9223372036854775807) : xDigits.f x = some (strOfNums (dgL x)) := if_pos h
theorem dig_bytes (x : Int) : bytesOf (strOfNums (dgL x)) = dgL x := bytes_nums _ (dgL_range x.toNat x (Nat.le_refl _))
theorem dgL_len : ∀ (m : Nat) (x : Int), x < 128 ^ (m + 1) → (dgL x).length ≤ m + 1
  | 0, x, h => by
    rw [dgL_small (by omega)]
    simp
  | m + 1, x, h => by
    by_cases c : x ≥ 128
    · rw [dgL_big c, List.length_cons]
      have : x / 128 < 128 ^ (m + 1) := by
        rw [Int.pow_succ] at h
        omega
      have := dgL_len m (x / 128) this
      omega
    · rw [dgL_small c]
      simp
theorem dgL_len10 {x : Int} (h : x ≤ 9223372036854775807) : (dgL x).length ≤ 10 := by
  refine dgL_len 9 x ?_
  have e : (128 : Int) ^ (9 + 1) = 1180591620717411303424 := by decide
  rw [e]
  omega
theorem bytesOf_len (s : ByteArray) : (bytesOf s).length = s.size := by
  show (s.data.toList.map _).length = s.data.size
  rw [List.length_map, Array.length_toList]
def opE (x : S41) : List Int := (x.f0 % 256) :: ((if (rowL x.f0).f1 = 0 then [] else dgL x.f1) ++ (if (rowL x.f0).f2 = 0 then [] else dgL x.f2))
def sE (s : ByteArray) : List Int := dgL s.size ++ bytesOf s
def n8 : Nat → Int → List Int
  | 0, _ => []
  | m + 1, d => (d % 256) :: n8 m (d / 256)
theorem n8_len : ∀ (m : Nat) (d : Int), (n8 m d).length = m
  | 0, _ => rfl
  | m + 1, d => by rw [n8, List.length_cons, n8_len m]
def bodyE (ops : List S41) : List Int := dgL ops.length ++ ops.flatMap opE
def textE (ops : List S41) (strs : List ByteArray) : List Int := dgL strs.length ++ (strs.flatMap sE ++ bodyE ops)
def wholeE (ops : List S41) (nums : List Int) (strs : List ByteArray) : List Int := [65, 66, 67, 49] ++ (dgL nums.length ++ (nums.flatMap (n8 8) ++ textE ops strs))
def finE (o : List Int) : List Int × Int := if (o.length : Int) > 16777216 then ([], 3) else (o, 0)
/-- The instruction's numbers are int64. -/
def I64 (x : S41) : Prop := x.f1 ≤ 9223372036854775807 ∧ x.f2 ≤ 9223372036854775807
theorem l4_ans (ops : List S41) (hn : ops.length ≤ 131072) : ∀ (r pre : List S41) (out : List Int), ops = pre ++ r → (∀ x ∈ r, okI x = true ∧ I64 x) → out.length + (r.flatMap opE).length ≤ 140737488355327 →
    Ans (fun k => code_Encode.l4 k out ops (ops.length : Int) (pre.length : Int)) (finE (out ++ r.flatMap opE))
  | [], pre, out, e, hr, hl => by
    refine Ans.succ (Ans.of fun k => ?_)
    have hp : pre.length = ops.length := by rw [e]; simp
    rw [code_Encode.l4, if_neg (by omega)]
    simp only [List.flatMap_nil, List.append_nil]
    unfold finE
    split <;> rfl
  | x :: r, pre, out, e, hr, hl => by
    have hp : pre.length + 1 + r.length = ops.length := by rw [e]; simp; omega
    have hx : rd_T41 ops (pre.length : Int) = x := by rw [e]; exact rd41_at
    obtain ⟨ok, i1, i2⟩ := hr x (by simp)
    have hw := ok_word ok
    refine Ans.succ ?_
    have hl2 : (opE x).length = 1 + ((if (rowL x.f0).f1 = 0 then [] else dgL x.f1).length + (if (rowL x.f0).f2 = 0 then [] else dgL x.f2).length) := by
      unfold opE
      rw [List.length_cons, List.length_append]
      omega
    rw [List.flatMap_cons, List.length_append, hl2] at hl
    have ih := l4_ans ops hn r (pre ++ [x]) (out ++ opE x) (by rw [e]; simp) (fun y hy => hr y (by simp [hy])) (by rw [List.length_append, hl2]; omega)
    rw [List.flatMap_cons, ← List.append_assoc]
    refine Ans.congr ih fun k => ?_
    rw [code_Encode.l4, if_pos (by omega), if_pos (by omega), if_pos (by omega), hx, if_pos (by omega), Option.bind_some, if_pos (by omega), if_pos (by rw [tabL_len]; omega)]
    have hpl : ((pre ++ [x]).length : Int) = wrap64 ((pre.length : Int) + 1) := by
      rw [List.length_append, wrap_id (by omega) (by omega)]; rfl
    rw [hpl]
    have e1 : (out ++ [x.f0 % 256]).length = out.length + 1 := by simp
    unfold opE
    unfold rowL at *
    by_cases c1 : (rd_T72 tabL x.f0).f1 = 0
    · rw [if_pos c1] at hl ⊢
      rw [if_pos c1]
      by_cases c2 : (rd_T72 tabL x.f0).f2 = 0
      · rw [if_pos c2, if_pos c2]
        simp
      · rw [if_neg c2] at hl ⊢
        rw [if_neg c2, dig_some i2, Option.bind_some, son_size, e1, if_pos (by omega), dig_bytes]
        simp
    · rw [if_neg c1] at hl ⊢
      rw [if_neg c1, dig_some i1, Option.bind_some, son_size, e1, if_pos (by omega), dig_bytes, Option.bind_some]
      by_cases c2 : (rd_T72 tabL x.f0).f2 = 0
      · rw [if_pos c2, if_pos c2]
        simp
      · rw [if_neg c2] at hl ⊢
        rw [if_neg c2, dig_some i2, Option.bind_some, son_size, List.length_append, e1, if_pos (by omega), dig_bytes]
        simp
theorem rdOf_at {α : Type} (d : α) {pre r : List α} {x : α} : rdOf d (pre ++ x :: r) (pre.length : Int) = x := by
  unfold rdOf
  rw [Int.toNat_natCast, List.getD_eq_getElem?_getD, List.getElem?_append_right (Nat.le_refl _), Nat.sub_self]
  rfl
theorem l3_ans (ops : List S41) (nums : List Int) (strs : List ByteArray) (hn : ops.length ≤ 131072) (hs : strs.length ≤ 16777216) (ho : ∀ x ∈ ops, okI x = true ∧ I64 x) : ∀ (r pre : List ByteArray) (out : List Int), strs = pre ++ r → out.length + (r.flatMap sE ++ bodyE ops).length ≤ 140737488355327 →
    Ans (fun k => code_Encode.l3 k out strs (strs.length : Int) (pre.length : Int) ops nums strs) (finE (out ++ (r.flatMap sE ++ bodyE ops)))
  | [], pre, out, e, hl => by
    refine Ans.succ ?_
    have hp : pre.length = strs.length := by rw [e]; simp
    simp only [List.flatMap_nil, List.nil_append] at hl ⊢
    unfold bodyE at hl ⊢
    rw [List.length_append] at hl
    rw [← List.append_assoc]
    refine Ans.congr (l4_ans ops hn ops [] (out ++ dgL ops.length) rfl ho (by rw [List.length_append]; omega)) fun k => ?_
    rw [code_Encode.l3, if_neg (by omega), dig_some (by omega), Option.bind_some, son_size, if_pos (by have := dgL_pos ops.length; omega), dig_bytes]
    rfl
  | x :: r, pre, out, e, hl => by
    have hp : pre.length + 1 + r.length = strs.length := by rw [e]; simp; omega
    have hx : rdOf ByteArray.empty strs (pre.length : Int) = x := by rw [e]; exact rdOf_at _
    rw [List.flatMap_cons, List.append_assoc] at hl ⊢
    have hl2 : (sE x).length = (dgL x.size).length + x.size := by unfold sE; rw [List.length_append, bytesOf_len]
    have hl3 : (bodyE ops).length ≥ 1 := by
      unfold bodyE
      have := dgL_pos ops.length
      rw [List.length_append]; omega
    rw [List.length_append, List.length_append, hl2] at hl
    refine Ans.succ ?_
    have ih := l3_ans ops nums strs hn hs ho r (pre ++ [x]) (out ++ sE x) (by rw [e]; simp) (by rw [List.length_append, List.length_append, hl2]; omega)
    rw [← List.append_assoc]
    refine Ans.congr ih fun k => ?_
    rw [code_Encode.l3, if_pos (by omega), if_pos (by omega), if_pos (by omega), hx, dig_some (by omega), Option.bind_some, son_size, if_pos (by omega), Option.bind_some, dig_bytes, List.length_append, if_pos (by omega), wrap_id (by omega) (by omega), List.length_append]
    unfold sE
    rw [List.append_assoc]
    rfl
theorem l2_all (ops : List S41) (nums : List Int) (strs : List ByteArray) (xs : List Int) (n i : Int) : ∀ (m : Nat) (j : Int) (k : Nat) (d : Int) (out : List Int), j + m = 8 → 0 ≤ j → out.length + m ≤ 140737488355327 →
    code_Encode.l2 (k + 1 + m) out d xs n i j ops nums strs = code_Encode.l1 k (out ++ n8 m d) xs n (wrap64 (i + 1)) ops nums strs
  | 0, j, k, d, out, e, h0, hl => by
    rw [show k + 1 + 0 = k + 1 from rfl, code_Encode.l2, if_neg (by omega), n8, List.append_nil]
  | m + 1, j, k, d, out, e, h0, hl => by
    rw [show k + 1 + (m + 1) = (k + 1 + m) + 1 by omega, code_Encode.l2, if_pos (by omega), if_pos (by omega), wrap_id (by omega) (by omega), l2_all ops nums strs xs n i m (j + 1) k (d / 256) (out ++ [d % 256]) (by omega) (by omega) (by rw [List.length_append, List.length_singleton]; omega), n8]
    simp
theorem l1_ansE (ops : List S41) (nums : List Int) (strs : List ByteArray) (hn : ops.length ≤ 131072) (hs : strs.length ≤ 16777216) (hm : nums.length ≤ 2097152) (ho : ∀ x ∈ ops, okI x = true ∧ I64 x) : ∀ (r pre : List Int) (out : List Int), nums = pre ++ r → out.length + (r.flatMap (n8 8) ++ textE ops strs).length ≤ 140737488355327 →
    Ans (fun k => code_Encode.l1 k out nums (nums.length : Int) (pre.length : Int) ops nums strs) (finE (out ++ (r.flatMap (n8 8) ++ textE ops strs)))
  | [], pre, out, e, hl => by
    refine Ans.succ ?_
    have hp : pre.length = nums.length := by rw [e]; simp
    simp only [List.flatMap_nil, List.nil_append] at hl ⊢
    unfold textE at hl ⊢
    rw [List.length_append] at hl
    rw [← List.append_assoc]
    refine Ans.congr (l3_ans ops nums strs hn hs ho strs [] (out ++ dgL strs.length) rfl (by rw [List.length_append]; omega)) fun k => ?_
    have hl3 : (bodyE ops).length ≥ 1 := by
      unfold bodyE
      have := dgL_pos ops.length
      rw [List.length_append]; omega
    rw [List.length_append] at hl
    rw [code_Encode.l1, if_neg (by omega), dig_some (by omega), Option.bind_some, son_size, if_pos (by omega), dig_bytes]
    rfl
  | x :: r, pre, out, e, hl => by
    have hp : pre.length + 1 + r.length = nums.length := by rw [e]; simp; omega
    have hx : rd nums (pre.length : Int) = x := by
      unfold rd
      rw [Int.toNat_natCast, e, List.getD_eq_getElem?_getD, List.getElem?_append_right (Nat.le_refl _), Nat.sub_self]
      rfl
    rw [List.flatMap_cons, List.append_assoc] at hl ⊢
    have hl2 := n8_len 8 x
    rw [List.length_append, hl2] at hl
    have ih := l1_ansE ops nums strs hn hs hm ho r (pre ++ [x]) (out ++ n8 8 x) (by rw [e]; simp) (by rw [List.length_append, hl2]; omega)
    rw [← List.append_assoc]
    refine Ans.succ (Ans.succ (Ans.succ (Ans.succ (Ans.succ (Ans.succ (Ans.succ (Ans.succ (Ans.succ (Ans.succ ?_)))))))))
    refine Ans.congr ih fun k => ?_
    rw [show k + 1 + 1 + 1 + 1 + 1 + 1 + 1 + 1 + 1 + 1 = (k + 1 + 8) + 1 by omega, code_Encode.l1, if_pos (by omega), if_pos (by omega), if_pos (by omega), hx, l2_all ops nums strs nums _ _ 8 0 k x out (by omega) (by omega) (by omega), wrap_id (by omega) (by omega), List.length_append]
    rfl
def sumS : List ByteArray → Nat
  | [] => 0
  | s :: r => s.size + sumS r
/-- Encode's look at the texts. -/
theorem l0_ansE (ops : List S41) (nums : List Int) (strs : List ByteArray) (hz : ∀ s ∈ strs, s.size < 4611686018427387904) (hsl : strs.length < 4611686018427387904) : ∀ (r pre : List ByteArray) (t : Nat), strs = pre ++ r → t ≤ 16777216 → ∀ v : List Int × Int,
    (t + sumS r ≤ 16777216 → Ans (fun k => code_Encode.j1 k (decide (nums.length > 2097152 ∨ strs.length > 16777216)) ops nums strs) v) →
    Ans (fun k => code_Encode.l0 k (t : Int) strs (strs.length : Int) (pre.length : Int) ops nums strs) (if t + sumS r ≤ 16777216 then v else ([], 3))
  | [], pre, t, e, ht, v, h => by
    have hp : pre.length = strs.length := by rw [e]; simp
    rw [if_pos (show t + sumS [] ≤ 16777216 from ht)]
    replace h := h ht
    refine Ans.succ (Ans.congr h fun k => ?_)
    rw [code_Encode.l0, if_neg (by omega)]
    by_cases c : (nums.length : Int) > 2097152
    · rw [if_pos c]
      congr 1
      exact (decide_eq_true (.inl (by omega))).symm
    · rw [if_neg c]
      congr 1
      by_cases d : strs.length > 16777216
      · rw [decide_eq_true (by omega), decide_eq_true (.inr d)]
      · rw [decide_eq_false (by omega), decide_eq_false (by omega)]
  | x :: r, pre, t, e, ht, v, h => by
    have hp : pre.length + 1 + r.length = strs.length := by rw [e]; simp; omega
    have hx : rdOf ByteArray.empty strs (pre.length : Int) = x := by rw [e]; exact rdOf_at _
    have hzx := hz x (by rw [e]; simp)
    have hsum : sumS (x :: r) = x.size + sumS r := rfl
    refine Ans.succ ?_
    have key : ∀ k, code_Encode.l0 (k + 1) (t : Int) strs (strs.length : Int) (pre.length : Int) ops nums strs = if t + x.size > 16777216 then some ([], 3) else code_Encode.l0 k ((t + x.size : Nat) : Int) strs (strs.length : Int) ((pre ++ [x]).length : Int) ops nums strs := by
      intro k
      rw [code_Encode.l0, if_pos (by omega), if_pos (by omega), if_pos (by omega), hx, wrap_id (by omega) (by omega), wrap_id (by omega) (by omega), List.length_append]
      by_cases c : t + x.size > 16777216
      · rw [if_pos c, if_pos (by omega)]
      · rw [if_neg c, if_neg (by omega)]
        rfl
    refine Ans.congr ?_ key
    by_cases c : t + x.size > 16777216
    · rw [if_neg (by omega)]
      exact Ans.of fun k => if_pos c
    · have ih := l0_ansE ops nums strs hz hsl r (pre ++ [x]) (t + x.size) (by rw [e]; simp) (by omega) v (fun hh => h (by omega))
      have e2 : (if t + sumS (x :: r) ≤ 16777216 then v else ([], 3)) = (if t + x.size + sumS r ≤ 16777216 then v else ([], 3)) := by
        by_cases d : t + x.size + sumS r ≤ 16777216
        · rw [if_pos d, if_pos (by omega)]
        · rw [if_neg d, if_neg (by omega)]
      rw [e2]
      exact Ans.congr ih fun k => if_neg c
def encodeV (ops : List S41) (nums : List Int) (strs : List ByteArray) : List Int × Int :=
  if (checkV ops nums.length strs.length).2.2 = 0 then
    (if sumS strs ≤ 16777216 then (if nums.length > 2097152 ∨ strs.length > 16777216 then ([], 3) else finE (wholeE ops nums strs)) else ([], 3))
  else ([], (checkV ops nums.length strs.length).2.2)
theorem flat_le {α : Type} (f : α → List Int) (c : Nat) : ∀ l : List α, (∀ x ∈ l, (f x).length ≤ c) → (l.flatMap f).length ≤ c * l.length
  | [], h => by simp
  | x :: l, h => by
    rw [List.flatMap_cons, List.length_append, List.length_cons]
    have := flat_le f c l (fun y hy => h y (by simp [hy]))
    have := h x (by simp)
    rw [Nat.mul_add]
    omega
theorem sE_le : ∀ l : List ByteArray, (∀ s ∈ l, s.size < 4611686018427387904) → (l.flatMap sE).length ≤ 10 * l.length + sumS l
  | [], h => by simp [sumS]
  | x :: l, h => by
    rw [List.flatMap_cons, List.length_append, List.length_cons, sumS]
    have := sE_le l (fun y hy => h y (by simp [hy]))
    have h1 := h x (by simp)
    have h2 : (sE x).length = (dgL x.size).length + x.size := by unfold sE; rw [List.length_append, bytesOf_len]
    have := dgL_len10 (x := x.size) (by omega)
    omega
theorem opE_le {x : S41} (h : I64 x) : (opE x).length ≤ 21 := by
  unfold opE
  rw [List.length_cons, List.length_append]
  have := dgL_len10 h.1
  have := dgL_len10 h.2
  split <;> split <;> simp <;> omega
theorem whole_len {ops : List S41} {nums : List Int} {strs : List ByteArray} (ho : ∀ x ∈ ops, I64 x) (hz : ∀ s ∈ strs, s.size < 4611686018427387904) (hn : ops.length ≤ 131072) (h1 : sumS strs ≤ 16777216) (h2 : nums.length ≤ 2097152) (h3 : strs.length ≤ 16777216) : (wholeE ops nums strs).length ≤ 1000000000 := by
  unfold wholeE textE bodyE
  simp only [List.length_append]
  have a1 := dgL_len10 (x := ops.length) (by omega)
  have a2 := dgL_len10 (x := nums.length) (by omega)
  have a3 := dgL_len10 (x := strs.length) (by omega)
  have a4 := flat_le opE 21 ops (fun x hx => opE_le (ho x hx))
  have a5 := flat_le (n8 8) 8 nums (fun x hx => by rw [n8_len]; omega)
  have a6 := sE_le strs hz
  simp only [List.length_cons, List.length_nil]
  omega
theorem hv_ok {ops : List S41} {p q : Int} (h : (heightsV ops p q).2.2 = 0) : ops.length ≤ 131072 ∧ Rt ops.length p q ops 0 ∧ heightsV ops p q = runH ops.length ops 0 (hs0 ops.length) := by
  unfold heightsV at h ⊢
  by_cases c : (ops.length : Int) > 131072
  · rw [if_pos c] at h
    cases h
  · rw [if_neg c] at h ⊢
    cases e : allR ops.length p q ops 0 with
    | some i =>
      rw [e] at h
      cases h
    | none => exact ⟨by omega, allR_rt _ _ _ _ _ e, rfl⟩
theorem rt_ok {n p q : Int} : ∀ (r : List S41) (i : Int), Rt n p q r i → ∀ x ∈ r, okI x = true
  | x :: r, i, h, y, hy => by
    rcases List.mem_cons.1 hy with rfl | hy
    · exact (jump_in h.1).1
    · exact rt_ok r (i + 1) h.2 y hy
theorem encode_ans (ops : List S41) (nums : List Int) (strs : List ByteArray) (ho : ∀ x ∈ ops, I64 x) (hz : ∀ s ∈ strs, s.size < 4611686018427387904) (hsl : strs.length < 4611686018427387904) :
    Ans (fun k => code_Encode.f k ops nums strs) (encodeV ops nums strs) := by
  unfold code_Encode.f encodeV
  refine Ans.bind (check_ans ops nums strs) ?_
  by_cases c : (checkV ops nums.length strs.length).2.2 = 0
  · rw [if_pos c]
    refine Ans.congr (g' := fun k => code_Encode.l0 k ((0 : Nat) : Int) strs (strs.length : Int) (([] : List ByteArray).length : Int) ops nums strs) ?_ fun k => if_pos c
    obtain ⟨hn, hr, -⟩ := hv_ok c
    have := l0_ansE ops nums strs hz hsl strs [] 0 rfl (by omega) (if nums.length > 2097152 ∨ strs.length > 16777216 then ([], 3) else finE (wholeE ops nums strs)) (fun hh => ?_)
    · rw [Nat.zero_add] at this
      exact this
    · refine Ans.succ ?_
      by_cases d : nums.length > 2097152 ∨ strs.length > 16777216
      · rw [if_pos d]
        refine Ans.of fun k => ?_
        rw [decide_eq_true d, code_Encode.j1, if_pos rfl]
      · rw [if_neg d]
        have hwl := whole_len (nums := nums) (strs := strs) ho hz hn (by omega) (by omega) (by omega)
        have hwl2 := hwl
        unfold wholeE at hwl2 ⊢
        rw [← List.append_assoc, List.length_append] at hwl2
        rw [← List.append_assoc]
        refine Ans.congr (l1_ansE ops nums strs hn (by omega) (by omega) (fun x hx => ⟨rt_ok _ _ hr x hx, ho x hx⟩) nums [] ([65, 66, 67, 49] ++ dgL nums.length) rfl (by omega)) fun k => ?_
        have a2 := dgL_len10 (x := nums.length) (by omega)
        rw [decide_eq_false d, code_Encode.j1, if_neg (by decide), Option.bind_some, dig_some (by omega), Option.bind_some, son_size, if_pos (by simp only [List.length_cons, List.length_nil]; omega), dig_bytes]
        rfl
  · rw [if_neg c]
    exact Ans.of fun k => if_neg c
end Go.Proofs.YtdkejcadoepnnaaDoor.Pl
