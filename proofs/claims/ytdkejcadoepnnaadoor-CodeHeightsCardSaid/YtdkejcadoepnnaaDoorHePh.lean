/-
  Plain laws of the code statements: CodeHeights. Conditions: int64 and uint64 numbers, texts below 2^62 bytes.
-/
import Derived.Test.YtdkejcadoepnnaaDoorHePf
import Derived.Test.YtdkejcadoepnnaaDoorHeECcx18h
set_option linter.unusedVariables false
set_option linter.unusedSimpArgs false
namespace Go.Proofs.YtdkejcadoepnnaaDoor.Pl
open Go.RowKit Go.Proofs.YtdkejcadoepnnaaDoorW.PrintWords Go.Proofs.YtdkejcadoepnnaaDoor.ECc Go.Proofs.YtdkejcadoepnnaaDoor.X
theorem rdOf_set {r : List Bool} {i j : Int} (h0 : 0 ≤ i) (h1 : i < r.length) (h2 : 0 ≤ j) : rdOf false (r.set i.toNat true) j = if j = i then true else rdOf false r j := by
  unfold rdOf
  by_cases h : j = i
  · subst h
    rw [if_pos rfl, List.getD_eq_getElem?_getD, List.getElem?_set_self (by omega)]
    rfl
  · rw [if_neg h, List.getD_eq_getElem?_getD, List.getD_eq_getElem?_getD, List.getElem?_set_ne (by omega)]
theorem mostL_app : ∀ (l : List Int) (m x : Int), mostL m (l ++ [x]) = mx (mostL m l) x
  | [], m, x => rfl
  | y :: l, m, x => by
    show mostL (mx m y) (l ++ [x]) = mx (mostL (mx m y) l) x
    exact mostL_app l _ x
theorem take_most {fs : List Int} {i : Int} (h0 : 0 ≤ i) (h1 : i < fs.length) : mostL 0 (fs.take (i + 1).toNat) = mx (mostL 0 (fs.take i.toNat)) (rd fs i) := by
  have e : (i + 1).toNat = i.toNat + 1 := by omega
  rw [e, List.take_add_one, List.getElem?_eq_getElem (by omega), Option.toList_some, mostL_app]
  congr 1
  unfold rd
  rw [List.getD_eq_getElem?_getD, List.getElem?_eq_getElem (by omega)]
  rfl
theorem mostL_le {b : Int} : ∀ (l : List Int) (m : Int), m ≤ b → (∀ h ∈ l, h ≤ b) → mostL m l ≤ b
  | [], m, hm, h => hm
  | x :: l, m, hm, h => by
    refine mostL_le l (mx m x) ?_ (fun y hy => h y (by simp [hy]))
    have := h x (by simp)
    unfold mx
    split <;> omega
/-- The place is reached from a place ahead of i. -/
def Met (ops : List S41) (fs : List Int) (i j : Int) : Prop := j = 0 ∨ ∃ a : Int, 0 ≤ a ∧ a < i ∧ a < ops.length ∧ 0 ≤ rd fs a ∧ (j = w1 (rd_T41 ops a) a ∨ j = w2 (rd_T41 ops a) a)
theorem met_iff {ops : List S41} {p q : Int} {fs : List Int} (g : Good ops p q fs) {i : Int} (h0 : 0 ≤ i) (h1 : i ≤ ops.length) : Met ops fs i i ↔ 0 ≤ rd fs i := by
  constructor
  · rintro (rfl | ⟨a, a0, a1, a2, a3, a4⟩)
    · rw [g.first]; omega
    · obtain ⟨t1, t2, t3, t4⟩ := g.on a a0 a2 a3
      have ok := (jump_in (g.right a a0 a2)).1
      have tk := tk_range ok
      have pt := pt_range ok
      have n0 : 0 ≤ nxH (rd_T41 ops a) (rd fs a) := by unfold nxH; omega
      rcases a4 with e | e
      · rw [e, t3]; exact n0
      · rw [e, t4]; exact n0
  · intro h
    rcases g.met i h0 h1 h with e | ⟨a, a0, a1, a2, a3⟩
    · exact .inl e
    · obtain ⟨⟨b0, b1⟩, c0, c1⟩ := ways_in (g.right a a0 a1) a1
      exact .inr ⟨a, a0, by omega, a1, a2, a3⟩
theorem met_succ {ops : List S41} {fs : List Int} {i j : Int} (h0 : 0 ≤ i) (h1 : i < ops.length) (hv : 0 ≤ rd fs i) : Met ops fs (i + 1) j ↔ Met ops fs i j ∨ j = w1 (rd_T41 ops i) i ∨ j = w2 (rd_T41 ops i) i := by
  constructor
  · rintro (e | ⟨a, a0, a1, a2, a3, a4⟩)
    · exact .inl (.inl e)
    · by_cases c : a = i
      · subst c; exact .inr a4
      · exact .inl (.inr ⟨a, a0, by omega, a2, a3, a4⟩)
  · rintro ((e | ⟨a, a0, a1, a2, a3, a4⟩) | e)
    · exact .inl e
    · exact .inr ⟨a, a0, by omega, a2, a3, a4⟩
    · exact .inr ⟨i, h0, by omega, h1, hv, e⟩
theorem met_skip {ops : List S41} {fs : List Int} {i j : Int} (hv : i < ops.length → rd fs i < 0) : Met ops fs (i + 1) j ↔ Met ops fs i j := by
  constructor
  · rintro (e | ⟨a, a0, a1, a2, a3, a4⟩)
    · exact .inl e
    · by_cases c : a = i
      · subst c
        have := hv a2
        omega
      · exact .inr ⟨a, a0, by omega, a2, a3, a4⟩
  · rintro (e | ⟨a, a0, a1, a2, a3, a4⟩)
    · exact .inl e
    · exact .inr ⟨a, a0, by omega, a2, a3, a4⟩
theorem heights_loop (ops : List S41) (nums : List Int) (strs : List ByteArray) (fs : List Int) (g : Good ops nums.length strs.length fs) :
    ∀ i : Int, i ≤ (ops.length : Int) + 1 → 0 ≤ i → ∀ r : List Bool, (r.length : Int) = ops.length + 1 → (∀ j : Int, 0 ≤ j → j ≤ ops.length → (rdOf false r j = true ↔ Met ops fs i j)) →
      Ans (fun k => w_CodeHeights.l0 k (ops.length : Int) fs (mostL 0 fs) r (mostL 0 (fs.take i.toNat)) i ops nums strs) true := by
  refine left_ind fun i hi ih => ?_
  intro h0 r hl hr
  have hn := g.short
  have hfl := g.len
  refine Ans.succ ?_
  by_cases hend : i ≤ (ops.length : Int)
  · have hri : rdOf false r i = decide (rd fs i ≥ 0) := by
      have h1 := (hr i h0 hend).trans (met_iff g h0 hend)
      by_cases c : 0 ≤ rd fs i
      · rw [h1.mpr c, decide_eq_true c]
      · rw [decide_eq_false c]
        cases e : rdOf false r i with
        | false => rfl
        | true => exact absurd (h1.mp e) c
    have hm : rd fs i ≤ mostL 0 fs := most_rd h0 (by omega) 0
    have hrg := g.range i h0
    refine Ans.congr (g' := fun k => w_CodeHeights.j3 k (ops.length : Int) fs (mostL 0 fs) r (mostL 0 (fs.take i.toNat)) i false ops nums strs) ?_ fun k => by
      rw [w_CodeHeights.l0, if_pos hend, if_pos h0, if_pos (by omega), if_pos (by omega), hri, if_neg (by simp), if_neg (by omega), decide_eq_false (by omega)]
    refine Ans.succ ?_
    refine Ans.congr (g' := fun k => w_CodeHeights.j4 k (ops.length : Int) fs (mostL 0 fs) r (mostL 0 (fs.take (i + 1).toNat)) i ops nums strs) ?_ fun k => by
      rw [w_CodeHeights.j3, if_neg (by decide), if_pos h0, if_pos (by omega), take_most h0 (by omega)]
      unfold mx
      by_cases c : rd fs i > mostL 0 (fs.take i.toNat)
      · rw [if_pos c, if_pos (by omega)]
      · rw [if_neg c, if_neg (by omega)]
    refine Ans.succ ?_
    refine Ans.congr (g' := fun k => w_CodeHeights.j5 k (ops.length : Int) fs (mostL 0 fs) r (mostL 0 (fs.take (i + 1).toNat)) i (decide (i = (ops.length : Int) ∨ rd fs i < 0)) ops nums strs) ?_ fun k => by
      rw [w_CodeHeights.j4]
      by_cases c : i = (ops.length : Int)
      · rw [if_pos c, decide_eq_true (.inl c)]
      · rw [if_neg c, if_pos h0, if_pos (by omega), hri]
        congr 1
        by_cases d : rd fs i < 0
        · rw [decide_eq_true (show i = (ops.length : Int) ∨ rd fs i < 0 from .inr d), decide_eq_false (show ¬ rd fs i ≥ 0 by omega)]; rfl
        · rw [decide_eq_true (show rd fs i ≥ 0 by omega), decide_eq_false (show ¬ (i = (ops.length : Int) ∨ rd fs i < 0) from fun h => h.elim c d)]; rfl
    refine Ans.succ ?_
    have hw : wrap64 (i + 1) = i + 1 := wrap_id (by omega) (by omega)
    by_cases c : i = (ops.length : Int) ∨ rd fs i < 0
    · refine Ans.congr (ih (i + 1) (by omega) (by omega) (by omega) r hl (fun j j0 j1 => (hr j j0 j1).trans (met_skip (fun h => by omega)).symm)) fun k => ?_
      rw [decide_eq_true c, w_CodeHeights.j5, if_pos rfl, hw]
    · have hlt : i < (ops.length : Int) := by omega
      have hv : 0 ≤ rd fs i := by omega
      obtain ⟨t1, t2, t3, t4⟩ := g.on i h0 hlt hv
      have hrt := g.right i h0 hlt
      have hms := fun j => met_succ (j := j) h0 hlt hv
      revert t1 t2 t3 t4 hrt hms
      have key0 : ∀ k, w_CodeHeights.j5 (k + 1) (ops.length : Int) fs (mostL 0 fs) r (mostL 0 (fs.take (i + 1).toNat)) i (decide (i = (ops.length : Int) ∨ rd fs i < 0)) ops nums strs = w_CodeHeights.j5 (k + 1) (ops.length : Int) fs (mostL 0 fs) r (mostL 0 (fs.take (i + 1).toNat)) i false ops nums strs := fun k => by rw [decide_eq_false c]
      refine fun t1 t2 t3 t4 hrt hms => Ans.congr ?_ key0
      have hx : ∃ x, rd_T41 ops i = x := ⟨_, rfl⟩
      obtain ⟨x, hx⟩ := hx
      rw [hx] at t1 t2 t3 t4 hrt hms
      obtain ⟨⟨a0, a1⟩, b0, b1⟩ := ways_in hrt hlt
      have ok := (jump_in hrt).1
      have hj := (jump_in hrt).2
      have tk := tk_range ok
      have pt := pt_range ok
      have hef : efI x = (tkI x, ptI x, true) := by unfold efI; rw [if_pos ok]
      have enx : wrap64 (wrap64 (rd fs i - tkI x) + ptI x) = nxH x (rd fs i) := by
        unfold nxH
        rw [wrap_id (x := rd fs i - tkI x) (by omega) (by omega), wrap_id (by omega) (by omega)]
      have key : ∀ k, w_CodeHeights.j5 (k + 1) (ops.length : Int) fs (mostL 0 fs) r (mostL 0 (fs.take (i + 1).toNat)) i false ops nums strs = (code_Effect.f k x.f0 x.f1 x.f2).bind fun bt292 => if bt292 = (tkI x, ptI x, true) then w_CodeHeights.j6 k (ops.length : Int) fs (mostL 0 fs) r (mostL 0 (fs.take (i + 1).toNat)) i (tkI x) (ptI x) (farI x) (nearI x) false ops nums strs x.f0 x.f1 x.f2 else ((abacuslaw26_jumps.f x.f0).bind fun bt295 => (if bt292.2.2 = true then (if i < (fs.length : Int) then (if (rd fs i) < bt292.1 then (w_CodeHeights.j6 k (ops.length : Int) fs (mostL 0 fs) r (mostL 0 (fs.take (i + 1).toNat)) i bt292.1 bt292.2.1 bt295.1 bt295.2 true ops nums strs x.f0 x.f1 x.f2) else (if bt295.1 = true then (if x.f1 ≤ i then (w_CodeHeights.j6 k (ops.length : Int) fs (mostL 0 fs) r (mostL 0 (fs.take (i + 1).toNat)) i bt292.1 bt292.2.1 bt295.1 bt295.2 true ops nums strs x.f0 x.f1 x.f2) else (w_CodeHeights.j6 k (ops.length : Int) fs (mostL 0 fs) r (mostL 0 (fs.take (i + 1).toNat)) i bt292.1 bt292.2.1 bt295.1 bt295.2 (decide (x.f1 > (ops.length : Int))) ops nums strs x.f0 x.f1 x.f2)) else (w_CodeHeights.j6 k (ops.length : Int) fs (mostL 0 fs) r (mostL 0 (fs.take (i + 1).toNat)) i bt292.1 bt292.2.1 bt295.1 bt295.2 false ops nums strs x.f0 x.f1 x.f2))) else (none)) else (w_CodeHeights.j6 k (ops.length : Int) fs (mostL 0 fs) r (mostL 0 (fs.take (i + 1).toNat)) i bt292.1 bt292.2.1 bt295.1 bt295.2 true ops nums strs x.f0 x.f1 x.f2))) := by
        intro k
        rw [w_CodeHeights.j5, if_neg (by decide), if_pos h0, if_pos hlt, hx]
        congr 1
        funext bt
        by_cases e : bt = (tkI x, ptI x, true)
        · rw [if_pos e, e, jumps_eq, Option.bind_some]
          show (if true = true then _ else _) = _
          rw [if_pos rfl, if_pos (by omega)]
          show (if rd fs i < tkI x then _ else _) = _
          rw [if_neg (by omega)]
          show (if farI x = true then _ else _) = _
          by_cases f : farI x = true
          · have hf := hj (of_decide_eq_true f)
            rw [if_pos f, if_neg (by omega), decide_eq_false (by omega)]
          · rw [if_neg f]
        · rw [if_neg e]
      refine Ans.congr ?_ key
      refine Ans.bind (eff_ans x) ?_
      rw [hef]
      refine Ans.congr (g' := fun k => w_CodeHeights.j6 k (ops.length : Int) fs (mostL 0 fs) r (mostL 0 (fs.take (i + 1).toNat)) i (tkI x) (ptI x) (farI x) (nearI x) false ops nums strs x.f0 x.f1 x.f2) ?_ fun k => if_pos rfl
      have fin : ∀ r' : List Bool, (r'.length : Int) = ops.length + 1 → (∀ j : Int, 0 ≤ j → j ≤ ops.length → (rdOf false r' j = true ↔ (rdOf false r j = true ∨ j = w1 x i ∨ j = w2 x i))) →
          Ans (fun k => w_CodeHeights.l0 k (ops.length : Int) fs (mostL 0 fs) r' (mostL 0 (fs.take (i + 1).toNat)) (wrap64 (i + 1)) ops nums strs) true := by
        intro r' hl' hr'
        rw [hw]
        refine ih (i + 1) (by omega) (by omega) (by omega) r' hl' (fun j j0 j1 => ?_)
        rw [hr' j j0 j1, hms j, hr j j0 j1]
      refine Ans.succ (Ans.succ ?_)
      by_cases k1 : x.f0 = 27
      · have ef : farI x = true := decide_eq_true (.inl k1)
        have en : nearI x = false := decide_eq_false (fun h => h k1)
        have e1 : w1 x i = x.f1 := by unfold w1; rw [if_pos k1]
        have e2 : w2 x i = x.f1 := by unfold w2; rw [if_pos (.inl k1)]
        have hf := hj (.inl k1)
        refine Ans.congr (fin (r.set x.f1.toNat true) (by rw [List.length_set]; exact hl) (fun j j0 j1 => ?_)) fun k => ?_
        · rw [rdOf_set (by omega) (by omega) j0, e1, e2]
          by_cases d : j = x.f1
          · simp [d]
          · simp [d]
        · rw [w_CodeHeights.j6, if_neg (by decide), en, if_neg (by decide), w_CodeHeights.j7, ef, if_pos rfl, if_pos (by omega), if_pos (by omega), if_pos (by omega), if_pos h0, if_pos (by omega), enx, if_pos (by rw [← t3, e1])]
      · have en : nearI x = true := decide_eq_true k1
        have e1 : w1 x i = i + 1 := by unfold w1; rw [if_neg k1]
        by_cases k2 : x.f0 = 28 ∨ x.f0 = 29
        · have ef : farI x = true := decide_eq_true (.inr k2)
          have e2 : w2 x i = x.f1 := by unfold w2; rw [if_pos (.inr k2)]
          have hf := hj (.inr k2)
          refine Ans.congr (fin ((r.set (i + 1).toNat true).set x.f1.toNat true) (by rw [List.length_set, List.length_set]; exact hl) (fun j j0 j1 => ?_)) fun k => ?_
          · rw [rdOf_set (by omega) (by rw [List.length_set]; omega) j0, rdOf_set (by omega) (by omega) j0, e1, e2]
            by_cases d : j = x.f1
            · simp [d]
            · by_cases d2 : j = i + 1
              · simp [d2]
              · simp [d, d2]
          · rw [w_CodeHeights.j6, if_neg (by decide), en, if_pos rfl, hw, if_pos (by omega), if_pos (by omega), if_pos (by omega), if_pos h0, if_pos (by omega), enx, if_pos (by rw [← t3, e1]), w_CodeHeights.j7, ef, if_pos rfl, if_pos (by omega), if_pos (by rw [List.length_set]; omega), if_pos (by omega), if_pos h0, if_pos (by omega), enx, if_pos (by rw [← t4, e2]), hw]
        · have ef : farI x = false := decide_eq_false (fun h => h.elim k1 k2)
          have e2 : w2 x i = i + 1 := by unfold w2; rw [if_neg (fun h => h.elim k1 k2)]
          refine Ans.congr (fin (r.set (i + 1).toNat true) (by rw [List.length_set]; exact hl) (fun j j0 j1 => ?_)) fun k => ?_
          · rw [rdOf_set (by omega) (by omega) j0, e1, e2]
            by_cases d : j = i + 1
            · simp [d]
            · simp [d]
          · rw [w_CodeHeights.j6, if_neg (by decide), en, if_pos rfl, hw, if_pos (by omega), if_pos (by omega), if_pos (by omega), if_pos h0, if_pos (by omega), enx, if_pos (by rw [← t3, e1]), w_CodeHeights.j7, ef, if_neg (by decide), hw]
  · have e : i = (ops.length : Int) + 1 := by omega
    refine Ans.of fun k => ?_
    rw [w_CodeHeights.l0, if_neg hend, List.take_of_length_le (by omega)]
    simp
theorem allR_range (n p q : Int) : ∀ (r : List S41) (i a : Int), allR n p q r i = some a → i ≤ a ∧ a < i + r.length
  | [], i, a, h => by cases h
  | x :: r, i, a, h => by
    unfold allR at h
    rw [List.length_cons]
    split at h
    · have := allR_range n p q r (i + 1) a h
      omega
    · obtain rfl := Option.some.inj h
      omega
theorem runH_bad (n : Int) : ∀ (r : List S41) (i : Int) (hs : List Int), n = i + r.length → (runH n r i hs).2.2 = 0 ∨ ∃ a, runH n r i hs = ([], a, 260) ∧ i ≤ a ∧ a ≤ n
  | [], i, hs, hn => by
    unfold runH
    split
    · exact .inl rfl
    · exact .inr ⟨n, rfl, by rw [hn]; simp, Int.le_refl _⟩
  | x :: r, i, hs, hn => by
    rw [List.length_cons] at hn
    unfold runH
    cases e : stepH x i hs with
    | none => exact .inr ⟨i, rfl, Int.le_refl _, by omega⟩
    | some hs' =>
      rcases runH_bad n r (i + 1) hs' (by omega) with h | ⟨a, h1, h2, h3⟩
      · exact .inl h
      · exact .inr ⟨a, h1, by omega, h3⟩
theorem hv_bad (ops : List S41) (p q : Int) : (heightsV ops p q).2.2 = 0 ∨ ∃ a, heightsV ops p q = ([], a, 260) ∧ 0 ≤ a ∧ (a ≤ ops.length ∧ ops.length ≤ 131072 ∨ a = 131072 ∧ ops.length > 131072) := by
  unfold heightsV
  by_cases c : (ops.length : Int) > 131072
  · rw [if_pos c]
    exact .inr ⟨131072, rfl, by omega, .inr ⟨rfl, by omega⟩⟩
  · rw [if_neg c]
    cases e : allR ops.length p q ops 0 with
    | some i =>
      have := allR_range _ _ _ _ _ _ e
      exact .inr ⟨i, rfl, this.1, .inl ⟨by omega, by omega⟩⟩
    | none =>
      rcases runH_bad ops.length ops 0 (hs0 ops.length) (by omega) with h | ⟨a, h1, h2, h3⟩
      · exact .inl h
      · exact .inr ⟨a, h1, h2, .inl ⟨by omega, by omega⟩⟩
theorem encode_err (ops : List S41) (nums : List Int) (strs : List ByteArray) (h : (checkV ops nums.length strs.length).2.2 = 0) : (encodeV ops nums strs).2 = 0 ∨ (encodeV ops nums strs).2 = 3 := by
  unfold encodeV finE
  rw [if_pos h]
  repeat' split
  all_goals first | exact .inl rfl | exact .inr rfl
theorem list_err (ops : List S41) (nums : List Int) (strs : List ByteArray) (h : (checkV ops nums.length strs.length).2.2 = 0) : (listV ops nums strs).2 = 0 ∨ (listV ops nums strs).2 = 3 := by
  unfold listV
  rw [if_pos h]
  cases listR nums strs ops 0 [] with
  | none => exact .inr rfl
  | some l => exact .inl rfl
theorem rep_at (n : Nat) (j : Int) : rdOf false (List.replicate n false) j = false := by
  unfold rdOf
  rw [List.getD_eq_getElem?_getD, List.getElem?_replicate]
  split <;> rfl
theorem codeHeights_true (ops : List S41) (nums : List Int) (strs : List ByteArray) (hu : U64 nums) (hj : ∀ x ∈ ops, J64 x) (hz : ∀ s ∈ strs, s.size < 4611686018427387904) (hsl : strs.length < 4611686018427387904) (hol : ops.length < 4611686018427387904) : Ans (fun k => w_CodeHeights.f k ops nums strs) true := by
  unfold w_CodeHeights.f
  refine Ans.bind awake_ans ?_
  refine Ans.congr (g' := fun k => (code_Heights.f k ops nums strs).bind fun bt263 => ((code_Check.f k ops nums strs).bind fun bt268 => ((code_Encode.f k ops nums strs).bind fun bt271 => ((code_List.f k ops nums strs).bind fun bt275 => (if bt263.2.2 = bt268.2.2 then (w_CodeHeights.j0 k (ops.length : Int) bt263.1 bt263.2.1 bt263.2.2 bt268.1 bt271.2 bt275.2 (bt263.2.1 != bt268.2.1) ops nums strs) else (w_CodeHeights.j0 k (ops.length : Int) bt263.1 bt263.2.1 bt263.2.2 bt268.1 bt271.2 bt275.2 true ops nums strs)))))) ?_ fun k => if_pos rfl
  refine Ans.bind (heights_ans ops nums strs) (Ans.bind (check_ans ops nums strs) (Ans.bind (encode_ans ops nums strs (fun x hx => (hj x hx).i) hz hsl) (Ans.bind (list_ans ops nums strs hu hj) ?_)))
  refine Ans.congr (g' := fun k => w_CodeHeights.j0 k (ops.length : Int) (heightsV ops nums.length strs.length).1 (heightsV ops nums.length strs.length).2.1 (heightsV ops nums.length strs.length).2.2 (mostL 0 (heightsV ops nums.length strs.length).1) (encodeV ops nums strs).2 (listV ops nums strs).2 false ops nums strs) ?_ fun k => by
    unfold checkV
    rw [if_pos rfl]
    simp
  refine Ans.succ ?_
  rcases hv_bad ops nums.length strs.length with h | ⟨a, h, h1, h2⟩
  · obtain ⟨g, e⟩ := good_of h
    have he := encode_err ops nums strs h
    have hl := list_err ops nums strs h
    have hn := g.short
    have hfl := g.len
    have hml : mostL 0 (heightsV ops nums.length strs.length).1 ≤ 32768 := mostL_le _ 0 (by omega) (fun v hv => by
      obtain ⟨m, hm, rfl⟩ := List.getElem_of_mem hv
      have := (g.range (m : Int) (by omega)).2
      unfold rd at this
      rw [Int.toNat_natCast, List.getD_eq_getElem?_getD, List.getElem?_eq_getElem hm] at this
      exact this)
    generalize heightsV ops nums.length strs.length = hv at *
    obtain ⟨fs, at_, er⟩ := hv
    cases e
    replace hml : mostL 0 fs ≤ 32768 := hml
    replace hfl : (fs.length : Int) = ops.length + 1 := hfl
    have g0 : rd fs 0 = 0 := g.first
    have gn : rd fs ops.length = 1 := g.last
    refine Ans.congr (g' := fun k => w_CodeHeights.j1 k (ops.length : Int) fs (mostL 0 fs) false ops nums strs) ?_ fun k => by
      show w_CodeHeights.j0 (k + 1) (ops.length : Int) fs 0 0 (mostL 0 fs) _ _ false ops nums strs = _
      rw [w_CodeHeights.j0, if_neg (by decide), if_pos rfl, if_pos rfl, wrap_id (by omega) (by omega), if_pos hfl, if_pos (by omega), if_pos g0, if_pos (by omega), if_pos (by omega), if_pos gn, if_neg (by omega)]
      rcases he with he | he <;> rcases hl with hl | hl <;> rw [he, hl] <;> rfl
    refine Ans.succ ?_
    have hw : (wrap64 ((ops.length : Int) + 1)).toNat = ops.length + 1 := by rw [wrap_id (by omega) (by omega)]; omega
    refine Ans.congr (heights_loop ops nums strs fs g 0 (by omega) (by omega) ((List.replicate (ops.length + 1) false).set (0 : Int).toNat true) (by simp) (fun j j0 j1 => ?_)) fun k => ?_
    · rw [rdOf_set (by omega) (by simp) j0, rep_at]
      by_cases c : j = 0
      · rw [if_pos c]; exact ⟨fun _ => .inl c, fun _ => rfl⟩
      · rw [if_neg c]
        constructor
        · intro h; cases h
        · rintro (e | ⟨a, a0, a1, -⟩)
          · exact absurd e c
          · omega
    · rw [w_CodeHeights.j1, if_neg (by decide), if_pos (by rw [wrap_id (by omega) (by omega)]; omega), hw, if_pos (by omega), Option.bind_some, if_pos (by simp)]
      rfl
  · have hc : (checkV ops nums.length strs.length).2.2 = 260 := by unfold checkV; rw [h]
    have he : (encodeV ops nums strs).2 = 260 := by unfold encodeV; rw [hc, if_neg (by decide)]
    have hl : (listV ops nums strs).2 = 260 := by unfold listV; rw [hc, if_neg (by decide)]
    rw [h, he, hl]
    refine Ans.of fun k => ?_
    show w_CodeHeights.j0 (k + 1) (ops.length : Int) [] a 260 0 260 260 false ops nums strs = _
    rw [w_CodeHeights.j0, if_neg (by decide), if_neg (by decide), if_pos rfl, if_pos (show (([] : List Int).length : Int) = 0 from rfl), if_pos rfl, if_pos rfl, if_pos rfl, if_pos h1]
    rcases h2 with ⟨b1, b2⟩ | ⟨b1, b2⟩
    · rw [if_pos b1, if_pos (by omega)]
    · subst b1
      have hd : decide ((ops.length : Int) > 131072) = true := decide_eq_true (by omega)
      by_cases c : (131072 : Int) ≤ (ops.length : Int)
      · rw [if_pos c, if_neg (by omega), if_pos rfl, hd]
      · rw [if_neg c, if_pos rfl, hd]
end Go.Proofs.YtdkejcadoepnnaaDoor.Pl
