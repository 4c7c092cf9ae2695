/-
  Plain laws of the code statements: CodeBack. Conditions: the numbers and texts within the sizes named in the statement.
-/
import Derived.Test.YtdkejcadoepnnaaDoorBkPr
import Derived.Test.YtdkejcadoepnnaaDoorBkECwx18
set_option linter.unusedVariables false
set_option linter.unusedSimpArgs false
namespace Go.Proofs.YtdkejcadoepnnaaDoor.Pl
open Go.RowKit Go.Proofs.YtdkejcadoepnnaaDoorW.PrintWords Go.Proofs.YtdkejcadoepnnaaDoorW.PrintMore Go.Proofs.YtdkejcadoepnnaaDoor.ECc Go.Proofs.YtdkejcadoepnnaaDoor.X
theorem arR_fn {x : Int} (h : (arR x).1 ≤ (arR x).2) : 1 ≤ x ∧ x ≤ 12 := by
 refine Classical.byContradiction fun hn => ?_
 rw [arR, if_neg (by omega), if_neg (by omega), if_neg (by omega), if_neg (by omega)] at h
 exact absurd h (by decide)
theorem opR_rng {kd x fn : Int} (h : opR kd x fn = true) : 0 ≤ x ∧ (kd = 0 → x = 0) ∧ (kd ≠ 1 → kd ≠ 2 → kd ≠ 9 → x ≤ 2147483647) := by
 unfold opR at h
 by_cases c0 : kd = 0
 ·rw [if_pos c0] at h
  have : x = 0 := by simpa using h
  exact ⟨by omega, fun _ => this, fun _ _ _ => by omega⟩
 rw [if_neg c0] at h
 have z : kd = 0 → x = 0 := fun e => absurd e c0
 by_cases c1 : kd = 1 ∨ kd = 2
 ·rw [if_pos c1] at h
  exact ⟨of_decide_eq_true h, z, fun a b _ => by omega⟩
 rw [if_neg c1] at h
 by_cases c3 : kd = 3
 ·rw [if_pos c3] at h
  have := of_decide_eq_true h
  exact ⟨this.1, z, fun _ _ _ => by omega⟩
 rw [if_neg c3] at h
 by_cases c4 : kd = 4
 ·rw [if_pos c4] at h
  have := of_decide_eq_true h
  exact ⟨this.1, z, fun _ _ _ => by omega⟩
 rw [if_neg c4] at h
 by_cases c5 : kd = 5
 ·rw [if_pos c5] at h
  have := of_decide_eq_true h
  exact ⟨by omega, z, fun _ _ _ => by omega⟩
 rw [if_neg c5] at h
 by_cases c6 : kd = 6
 ·rw [if_pos c6] at h
  have := of_decide_eq_true h
  exact ⟨by omega, z, fun _ _ _ => by omega⟩
 rw [if_neg c6] at h
 by_cases c7 : kd = 7
 ·rw [if_pos c7] at h
  have := of_decide_eq_true h
  exact ⟨by omega, z, fun _ _ _ => by omega⟩
 rw [if_neg c7] at h
 by_cases c8 : kd = 8
 ·rw [if_pos c8] at h
  have := of_decide_eq_true h
  exact ⟨by omega, z, fun _ _ _ => by omega⟩
 rw [if_neg c8] at h
 by_cases c9 : kd = 9
 ·rw [if_pos c9] at h
  have := of_decide_eq_true h
  exact ⟨by omega, z, fun _ _ c => absurd c9 c⟩
 rw [if_neg c9] at h
 by_cases c10 : kd = 10
 ·rw [if_pos c10] at h
  have := of_decide_eq_true h
  exact ⟨by omega, z, fun _ _ _ => by omega⟩
 rw [if_neg c10] at h
 by_cases c11 : kd = 11
 ·rw [if_pos c11] at h
  have := arR_fn (of_decide_eq_true h)
  exact ⟨by omega, z, fun _ _ _ => by omega⟩
 rw [if_neg c11] at h
 by_cases c12 : kd = 12
 ·rw [if_pos c12] at h
  have h1 := of_decide_eq_true h
  have h2 := arR_le fn
  exact ⟨by omega, z, fun _ _ _ => by omega⟩
 rw [if_neg c12] at h
 cases h
theorem row_b : ∀ p ∈ tabL, p.f2 ≠ 1 ∧ p.f2 ≠ 2 ∧ p.f2 ≠ 9 := by
 have h : tabL.all (fun p => p.f2 != 1 && (p.f2 != 2 && p.f2 != 9)) = true := by kernel_rfl
 intro p hp
 have := List.all_eq_true.1 h p hp
 simpa using this
theorem jx_of {x : S41} {i n p q : Int} (h : rgI x i n p q = true) (hn : n ≤ 2147483647) (hp : p ≤ 2147483647) (hq : q ≤ 2147483647) : Jx x := by
 simp only [rgI, Bool.and_eq_true] at h
 obtain ⟨ho, hg⟩ := h
 have hw := ok_word ho
 obtain ⟨⟨k1, k2, k9⟩, -, -⟩ := row_at x.f0 (by omega) (by omega)
 simp only [okI, Bool.and_eq_true, decide_eq_true_eq] at ho
 obtain ⟨-, h1, h2⟩ := ho
 obtain ⟨a0, az, ab⟩ := opR_rng h1
 obtain ⟨b0, bz, bb⟩ := opR_rng h2
 have hrb : (rowL x.f0).f2 ≠ 1 ∧ (rowL x.f0).f2 ≠ 2 ∧ (rowL x.f0).f2 ≠ 9 := by
  refine row_b _ ?_
  unfold rowL rd_T72
  rw [List.getD, List.getElem?_eq_getElem (show x.f0.toNat < tabL.length by rw [tabL_len]; omega)]
  exact List.getElem_mem _
 refine ⟨hw, ⟨a0, ?_, b0, bb hrb.1 hrb.2.1 hrb.2.2⟩, az, bz⟩
 by_cases e1 : x.f0 = 1
 ·rw [if_pos e1] at hg
  have := of_decide_eq_true hg
  omega
 rw [if_neg e1] at hg
 by_cases e2 : x.f0 = 2
 ·rw [if_pos e2] at hg
  have := of_decide_eq_true hg
  omega
 rw [if_neg e2] at hg
 by_cases e9 : x.f0 = 27 ∨ x.f0 = 28 ∨ x.f0 = 29
 ·rw [if_pos e9] at hg
  have := of_decide_eq_true hg
  omega
 exact ab (fun e => e1 (k1.1 e)) (fun e => e2 (k2.1 e)) (fun e => e9 (k9.1 e))
theorem jx_all {n p q : Int} (hn : n ≤ 2147483647) (hp : p ≤ 2147483647) (hq : q ≤ 2147483647) : ∀ (r : List S41) (i : Int), Rt n p q r i → ∀ x ∈ r, Jx x
 | y :: r, i, h, x, hx => by
  rcases List.mem_cons.1 hx with rfl | hx
  ·exact jx_of h.1 hn hp hq
  ·exact jx_all hn hp hq r (i + 1) h.2 x hx
theorem dg_by (x : Int) : By (dgL x) := dgL_range x.toNat x (Nat.le_refl _)
theorem By.app {a b : List Int} (h : By a) (h' : By b) : By (a ++ b) := fun d hd => (List.mem_append.1 hd).elim (h d) (h' d)
theorem By.flat {α : Type} {f : α → List Int} {l : List α} (h : ∀ x ∈ l, By (f x)) : By (l.flatMap f) := fun d hd => by
 obtain ⟨x, hx, hd⟩ := List.mem_flatMap.1 hd
 exact h x hx d hd
theorem n8_by : ∀ (m : Nat) (d : Int), By (n8 m d)
 | 0, _, d, hd => by simp [n8] at hd
 | m + 1, v, d, hd => by
  rw [n8] at hd
  rcases List.mem_cons.1 hd with rfl | hd
  ·omega
  ·exact n8_by m _ d hd
theorem bytes_by (s : ByteArray) : By (bytesOf s) := fun d hd => by
 obtain ⟨b, _, rfl⟩ := List.mem_map.1 hd
 have := b.toNat_lt
 omega
theorem op_by (x : S41) : By (opE x) := fun d hd => by
 rcases List.mem_cons.1 hd with rfl | hd
 ·omega
 ·refine By.app ?_ ?_ d hd
  ·split
   ·intro d hd; simp at hd
   ·exact dg_by _
  ·split
   ·intro d hd; simp at hd
   ·exact dg_by _
theorem whole_by (ops : List S41) (nums : List Int) (strs : List ByteArray) : By (wholeE ops nums strs) := by
 unfold wholeE textE bodyE
 refine By.app (fun d hd => ?_) (By.app (dg_by _) (By.app (By.flat fun x _ => n8_by 8 x) (By.app (dg_by _) (By.app (By.flat fun x _ => By.app (dg_by _) (bytes_by x)) (By.app (dg_by _) (By.flat fun x _ => op_by x))))))
 simp only [List.mem_cons, List.not_mem_nil, or_false] at hd
 omega
theorem same_t (ops : List S41) (nums : List Int) (strs : List ByteArray) (h1 : ops.length ≤ 4611686018427387904) (h2 : nums.length ≤ 4611686018427387904) (h3 : strs.length ≤ 4611686018427387904) : Ans (fun k => w_same.f k ops nums strs ops nums strs) true := by
 have l2 : ∀ d i : Nat, i + d = strs.length → Ans (fun k => w_same.l2 k (i : Int) ops nums strs ops nums strs) true := by
  intro d
  induction d with
  | zero => intro i e; exact Ans.at1 fun k => by rw [w_same.l2, if_neg (by omega)]
  | succ d ih =>
   intro i e
   have hw : wrap64 ((i : Int) + 1) = ((i + 1 : Nat) : Int) := by rw [wrap_id (by omega) (by omega)]; rfl
   exact (ih (i + 1) (by omega)).to fun k => by rw [w_same.l2, if_pos (by omega), if_pos (by omega), if_pos (by omega), if_pos rfl, hw]
 have l1 : ∀ d i : Nat, i + d = nums.length → Ans (fun k => w_same.l1 k (i : Int) ops nums strs ops nums strs) true := by
  intro d
  induction d with
  | zero => intro i e; exact (l2 strs.length 0 (by omega)).to fun k => by rw [w_same.l1, if_neg (by omega)]; rfl
  | succ d ih =>
   intro i e
   have hw : wrap64 ((i : Int) + 1) = ((i + 1 : Nat) : Int) := by rw [wrap_id (by omega) (by omega)]; rfl
   exact (ih (i + 1) (by omega)).to fun k => by rw [w_same.l1, if_pos (by omega), if_pos (by omega), if_pos (by omega), if_pos rfl, hw]
 have l0 : ∀ d i : Nat, i + d = ops.length → Ans (fun k => w_same.l0 k (i : Int) ops nums strs ops nums strs) true := by
  intro d
  induction d with
  | zero => intro i e; exact (l1 nums.length 0 (by omega)).to fun k => by rw [w_same.l0, if_neg (by omega)]; rfl
  | succ d ih =>
   intro i e
   have hw : wrap64 ((i : Int) + 1) = ((i + 1 : Nat) : Int) := by rw [wrap_id (by omega) (by omega)]; rfl
   exact (ih (i + 1) (by omega)).to fun k => by rw [w_same.l0, if_pos (by omega), if_pos (by omega), if_pos (by omega), if_neg (by simp), hw]
 have h0 : Ans (fun k => w_same.j0 k false ops nums strs ops nums strs) true := (l0 ops.length 0 (by omega)).to fun k => by rw [w_same.j0, if_neg (by decide)]; rfl
 exact h0.congr fun k => by rw [w_same.f, if_pos rfl, if_pos rfl, bne_self_eq_false]
theorem runH_err (n : Int) : ∀ (r : List S41) (i : Int) (hs : List Int), (runH n r i hs).2.2 = 0 ∨ (runH n r i hs).2.2 = 260
 | [], i, hs => by
  unfold runH
  split
  ·exact .inl rfl
  ·exact .inr rfl
 | x :: r, i, hs => by
  unfold runH
  split
  ·exact .inr rfl
  ·exact runH_err n r (i + 1) _
theorem check_err (ops : List S41) (p q : Int) : (checkV ops p q).2.2 = 0 ∨ (checkV ops p q).2.2 = 260 := by
 unfold checkV heightsV
 by_cases hb : (ops.length : Int) > 131072
 ·rw [if_pos hb]
  exact .inr rfl
 ·rw [if_neg hb]
  cases ha : allR (ops.length : Int) p q ops 0 with
  | some i => exact .inr rfl
  | none => exact runH_err (ops.length : Int) ops 0 _
theorem sum_mem2 : ∀ (l : List ByteArray), ∀ s ∈ l, s.size ≤ sumS l
 | [], s, h => by simp at h
 | t :: l, s, h => by
  rw [sumS]
  rcases List.mem_cons.1 h with rfl | h
  ·omega
  ·have := sum_mem2 l s h
   omega
theorem b11 : ¬ (0 : Int) = 1 := by decide
theorem dec_fw (ops : List S41) (nums : List Int) (strs : List ByteArray) (mm : Int) (hc : (checkV ops nums.length strs.length).2.2 = 0) (hs : sumS strs ≤ 16777216) (h1 : nums.length ≤ 2097152) (h2 : strs.length ≤ 16777216) (hu : Un nums) (hm : 0 ≤ mm ∧ mm < 256)
  (hl : (wholeE ops nums strs).length ≤ 16777216) (k : Nat) (hk : k ≤ (wholeE ops nums strs).length + 1) :
  xDecode.f ((wholeE ops nums strs ++ [mm]).take k) = some (if k = (wholeE ops nums strs).length then (ops, nums, strs, 0, 0) else ([], [], [], ((min k (wholeE ops nums strs).length : Nat) : Int), 261)) := by
 obtain ⟨hn, hr, -⟩ := hv_ok hc
 have hx := jx_all (n := (ops.length : Int)) (p := (nums.length : Int)) (q := (strs.length : Int)) (by omega) (by omega) (by omega) ops 0 hr
 have hF : (wholeE ops nums strs ++ [mm]).length = (wholeE ops nums strs).length + 1 := by rw [List.length_append, List.length_singleton]
 have hT : ((wholeE ops nums strs ++ [mm]).take k).length = k := by rw [List.length_take, hF]; omega
 obtain ⟨r, ⟨a, ha⟩, hok⟩ := c_fw ops nums strs mm (by omega) hx (by omega) hu (by omega) (fun x hx => by have := sum_mem2 strs x hx; omega) (By.app (whole_by ops nums strs) (fun d hd => by rw [List.mem_singleton.1 hd]; exact hm)) hl k hk
 unfold Out at hok
 rw [hT] at hok
 generalize ((wholeE ops nums strs ++ [mm]).take k) = T at ha hT
 rcases hok with ⟨e, t, rfl⟩ | ⟨e, t, rfl⟩
 ·rw [if_pos e]
  obtain ⟨b, hb⟩ := check_ans ops nums strs
  refine xDecode.f_of ⟨max a b, fun j hj => ?_⟩
  unfold decK
  have h0 : r_code.f j T 0 T = _ := ha j (by omega)
  rw [h0, Option.bind_some, if_neg b11]
  have hcc : c_Check.f j ops nums strs = _ := hb j (by omega)
  rw [hcc, Option.bind_some, if_pos hc]
 ·rw [if_neg e]
  refine xDecode.f_of ⟨a, fun j hj => ?_⟩
  unfold decK
  have h0 : r_code.f j T 0 T = _ := ha j hj
  rw [h0, Option.bind_some, if_pos n11]
theorem whole_pos (ops : List S41) (nums : List Int) (strs : List ByteArray) : 4 ≤ (wholeE ops nums strs).length := by
 unfold wholeE
 rw [List.length_append]
 simp only [List.length_cons, List.length_nil]
 omega
theorem rem_at (a : Int) (n : Nat) (h0 : 0 < n) (h1 : n ≤ 16777216) : ∃ k : Nat, k < n ∧ wrap64 (Int.tmod (IntKind.u64.wrap a) (IntKind.u64.wrap (n : Int))) = (k : Int) := by
 have e1 : IntKind.u64.wrap (n : Int) = (n : Int) := by rw [IntKind.wrap_u64]; omega
 have e2 : 0 ≤ IntKind.u64.wrap a := by rw [IntKind.wrap_u64]; omega
 rw [e1]
 have e3 : Int.tmod (IntKind.u64.wrap a) (n : Int) = IntKind.u64.wrap a % (n : Int) := Int.tmod_eq_emod_of_nonneg e2
 rw [e3]
 have e4 := Int.emod_nonneg (IntKind.u64.wrap a) (show (n : Int) ≠ 0 by omega)
 have e5 := Int.emod_lt_of_pos (IntKind.u64.wrap a) (show (0 : Int) < (n : Int) by omega)
 refine ⟨(IntKind.u64.wrap a % (n : Int)).toNat, by omega, ?_⟩
 rw [wrap_id (by omega) (by omega)]
 omega
theorem q1 : ¬ (3 : Int) = 260 := by decide
theorem q2 : ¬ (3 : Int) = 0 := by decide
theorem q3 : ¬ (260 : Int) = 0 := by decide
theorem back_j0 (ops : List S41) (nums : List Int) (strs : List ByteArray) (cut mm : Int) (hc : (checkV ops nums.length strs.length).2.2 = 0) (hs : sumS strs ≤ 16777216) (h1 : nums.length ≤ 2097152) (h2 : strs.length ≤ 16777216) (hu : Un nums) (hm : 0 ≤ mm ∧ mm < 256)
  (hl : (wholeE ops nums strs).length ≤ 16777216) : Ans (fun k => w_CodeBack.j0 k cut mm (wholeE ops nums strs) false) true := by
 have hp := whole_pos ops nums strs
 have hd := dec_fw ops nums strs mm hc hs h1 h2 hu hm hl
 generalize wholeE ops nums strs = l at hp hd hl
 obtain ⟨j, hj, ej⟩ := rem_at cut l.length (by omega) hl
 have hd1 := hd j (by omega)
 rw [if_neg (by omega), Nat.min_eq_left (by omega), List.take_append_of_le_length (by omega)] at hd1
 have hd2 := hd (l.length + 1) (Nat.le_refl _)
 rw [if_neg (by omega), Nat.min_eq_right (by omega), List.take_of_length_le (by rw [List.length_append, List.length_singleton]; omega)] at hd2
 have e1 : ¬ IntKind.u64.wrap ((l.length : Int)) = 0 := by rw [IntKind.wrap_u64]; omega
 refine Ans.at1 fun k => ?_
 rw [w_CodeBack.j0, if_neg (by decide), if_neg e1, ej, if_pos (by omega), if_pos (by omega), Int.toNat_natCast, hd1, Option.bind_some, if_pos rfl, if_pos rfl, List.nil_append, if_pos (by rw [List.length_nil]; omega), Option.bind_some, if_pos (by omega), hd2, Option.bind_some, if_pos rfl]
 simp
theorem un_of {l : List Int} (h : ∀ x ∈ l, 0 ≤ x ∧ x < 2 ^ 64) : Un l := fun v hv => by
 have h1 := h v hv
 have e : (256 : Int) ^ 8 = 2 ^ 64 := by decide
 rw [e]
 exact h1
/-- A code's bytes there and back. -/
theorem codeBack_true (ops : List S41) (nums : List Int) (strs : List ByteArray) (cut mm : Int) (ho : ∀ x ∈ ops, I64 x) (hu : Un nums) (hz : ∀ s ∈ strs, s.size < 4611686018427387904) (hsl : strs.length < 4611686018427387904) (hm : 0 ≤ mm ∧ mm < 256) :
  Ans (fun k => w_CodeBack.f k ops nums strs cut mm) true := by
 unfold w_CodeBack.f
 refine Ans.bind awake_ans ?_
 have he := encode_ans ops nums strs ho hz hsl
 have hch := check_ans ops nums strs
 rcases check_err ops nums.length strs.length with hc | hc
 ·by_cases hgood : sumS strs ≤ 16777216 ∧ nums.length ≤ 2097152 ∧ strs.length ≤ 16777216 ∧ (wholeE ops nums strs).length ≤ 16777216
  ·obtain ⟨g1, g2, g3, g4⟩ := hgood
   have hv : encodeV ops nums strs = (wholeE ops nums strs, 0) := by
    unfold encodeV
    rw [if_pos hc, if_pos g1, if_neg (by omega)]
    unfold finE
    rw [if_neg (by omega)]
   rw [hv] at he
   have hn := (hv_ok hc).1
   have hj := back_j0 ops nums strs cut mm hc g1 g2 g3 hu hm g4
   have hs := same_t ops nums strs (by omega) (by omega) (by omega)
   have hd := dec_fw ops nums strs mm hc g1 g2 g3 hu hm g4 (wholeE ops nums strs).length (by omega)
   rw [if_pos rfl, List.take_left] at hd
   obtain ⟨n1, e1⟩ := he
   obtain ⟨n2, e2⟩ := hj
   obtain ⟨n3, e3⟩ := hs
   refine ⟨max n1 (max n2 n3), fun k hk => ?_⟩
   have a1 : c_Encode.f k ops nums strs = _ := e1 k (by omega)
   have a2 : w_CodeBack.j0 k cut mm (wholeE ops nums strs) false = _ := e2 k (by omega)
   have a3 : w_same.f k ops nums strs ops nums strs = _ := e3 k (by omega)
   show (if true = true then ((c_Encode.f k ops nums strs).bind _) else some false) = some true
   rw [if_pos rfl, a1, Option.bind_some, if_pos rfl, hd, Option.bind_some, if_pos rfl, if_pos rfl, a3, Option.bind_some]
   exact a2
  ·have hv : encodeV ops nums strs = ([], 3) := by
    unfold encodeV
    rw [if_pos hc]
    by_cases g1 : sumS strs ≤ 16777216
    ·rw [if_pos g1]
     by_cases g2 : nums.length > 2097152 ∨ strs.length > 16777216
     ·rw [if_pos g2]
     ·rw [if_neg g2]
      unfold finE
      rw [if_pos (by omega)]
    ·rw [if_neg g1]
   rw [hv] at he
   obtain ⟨n1, e1⟩ := he
   obtain ⟨n2, e2⟩ := hch
   refine ⟨max n1 n2, fun k hk => ?_⟩
   have a1 : c_Encode.f k ops nums strs = _ := e1 k (by omega)
   have a2 : c_Check.f k ops nums strs = _ := e2 k (by omega)
   show (if true = true then ((c_Encode.f k ops nums strs).bind _) else some false) = some true
   rw [if_pos rfl, a1, Option.bind_some, if_neg q2, a2, Option.bind_some]
   simp [hc]
 ·have hv : encodeV ops nums strs = ([], 260) := by
   unfold encodeV
   rw [if_neg (by rw [hc]; decide), hc]
  rw [hv] at he
  obtain ⟨n1, e1⟩ := he
  obtain ⟨n2, e2⟩ := hch
  refine ⟨max n1 n2, fun k hk => ?_⟩
  have a1 : c_Encode.f k ops nums strs = _ := e1 k (by omega)
  have a2 : c_Check.f k ops nums strs = _ := e2 k (by omega)
  show (if true = true then ((c_Encode.f k ops nums strs).bind _) else some false) = some true
  rw [if_pos rfl, a1, Option.bind_some, if_neg q3, a2, Option.bind_some]
  simp [hc]
end Go.Proofs.YtdkejcadoepnnaaDoor.Pl
