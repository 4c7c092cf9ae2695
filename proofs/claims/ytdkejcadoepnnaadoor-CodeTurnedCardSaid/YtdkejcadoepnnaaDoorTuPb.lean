/-
  Plain laws of the code statements: Heights and Check, told as plain functions. Conditions: none.
-/
import Derived.Test.YtdkejcadoepnnaaDoorTuPa
import Derived.Test.YtdkejcadoepnnaaDoorTuECcx11
set_option linter.unusedVariables false
set_option linter.unusedSimpArgs false
namespace Go.Proofs.YtdkejcadoepnnaaDoor.Pl
open Go.RowKit Go.Proofs.YtdkejcadoepnnaaDoorW.PrintWords Go.Proofs.YtdkejcadoepnnaaDoor.ECc Go.Proofs.YtdkejcadoepnnaaDoor.X
theorem rd_set {xs : List Int} {i j v : Int} (h0 : 0 ≤ i) (h1 : i < xs.length) (h2 : 0 ≤ j) : rd (xs.set i.toNat v) j = if j = i then v else rd xs j := by
  unfold rd
  by_cases h : j = i
  · subst h
    rw [if_pos rfl, List.getD_eq_getElem?_getD, List.getElem?_set_self (by omega)]
    rfl
  · rw [if_neg h, List.getD_eq_getElem?_getD, List.getD_eq_getElem?_getD, List.getElem?_set_ne (by omega)]
def w1 (x : S41) (i : Int) : Int := if x.f0 = 27 then x.f1 else i + 1
def w2 (x : S41) (i : Int) : Int := if x.f0 = 27 ∨ x.f0 = 28 ∨ x.f0 = 29 then x.f1 else i + 1
def put1 (hs : List Int) (tz h : Int) : Option (List Int) := if 0 ≤ rd hs tz ∧ rd hs tz ≠ h then none else some (hs.set tz.toNat h)
def nxH (x : S41) (v : Int) : Int := v - tkI x + ptI x
/-- One instruction: the heights behind it, or none at a fault. -/
def stepH (x : S41) (i : Int) (hs : List Int) : Option (List Int) :=
  if rd hs i < 0 then some hs
  else if rd hs i < tkI x ∨ nxH x (rd hs i) > 32768 then none
  else (put1 hs (w1 x i) (nxH x (rd hs i))).bind fun hs1 => put1 hs1 (w2 x i) (nxH x (rd hs i))
def runH (n : Int) : List S41 → Int → List Int → List Int × Int × Int
  | [], _, hs => if rd hs n = 1 then (hs, 0, 0) else ([], n, 260)
  | x :: r, i, hs => match stepH x i hs with
    | none => ([], i, 260)
    | some hs' => runH n r (i + 1) hs'
def allR (n p q : Int) : List S41 → Int → Option Int
  | [], _ => none
  | x :: r, i => if rgI x i n p q = true then allR n p q r (i + 1) else some i
def hs0 (n : Nat) : List Int := 0 :: List.replicate n (-1)
def heightsV (ops : List S41) (p q : Int) : List Int × Int × Int :=
  if (ops.length : Int) > 131072 then ([], 131072, 260) else
  match allR ops.length p q ops 0 with
  | some i => ([], i, 260)
  | none => runH ops.length ops 0 (hs0 ops.length)
def Hb (hs : List Int) : Prop := ∀ j, 0 ≤ j → -1 ≤ rd hs j ∧ rd hs j ≤ 32768
theorem ways_eq (x : S41) (i : Int) (h0 : 0 ≤ i) (h1 : i < 131073) : xWays.f x.f0 x.f1 x.f2 i = some (w1 x i, w2 x i) := by
  unfold xWays.f w1 w2
  rw [wrap_id (x := i + 1) (by omega) (by omega)]
  by_cases a : x.f0 = 27
  · simp [a]
  · by_cases b : x.f0 = 29 ∨ x.f0 = 28
    · have b' : x.f0 = 28 ∨ x.f0 = 29 := b.symm
      simp [a, b, b']
    · have b' : ¬ (x.f0 = 28 ∨ x.f0 = 29) := fun h => b h.symm
      simp [a, b, b']
theorem put_len {hs hs' : List Int} {tz h : Int} (e : put1 hs tz h = some hs') : hs'.length = hs.length := by
  unfold put1 at e
  split at e
  · cases e
  · obtain rfl := Option.some.inj e
    simp
theorem put_b {hs hs' : List Int} {tz h : Int} (hb : Hb hs) (t0 : 0 ≤ tz) (t1 : tz < hs.length) (h0 : 0 ≤ h) (h1 : h ≤ 32768) (e : put1 hs tz h = some hs') : Hb hs' := by
  unfold put1 at e
  split at e
  · cases e
  · obtain rfl := Option.some.inj e
    intro j hj
    rw [rd_set t0 t1 hj]
    split
    · omega
    · exact hb j hj
/-- One write of Heights' own loop. -/
theorem l3_step (k : Nat) (n i h : Int) (hs ops' : List Int) (ops : List S41) (t1 t2 s : Int) (hw : wrap64 (s + 1) = s + 1) (hs2 : s < 2) (tz : Int) (hto : tz = if s = 0 then t1 else t2) (b0 : 0 ≤ tz) (b1 : tz < hs.length) :
    code_Heights.l3 (k + 1) n hs i h ops (ops.length : Int) i s t1 t2 = match put1 hs tz h with
      | none => some (([] : List Int), i, 260)
      | some hs' => code_Heights.l3 k n hs' i h ops (ops.length : Int) i (s + 1) t1 t2 := by
  rw [code_Heights.l3, if_pos hs2, hw]
  by_cases h0 : s = 0
  · rw [if_pos h0] at hto
    subst hto
    rw [if_pos h0, if_pos b0, if_pos b1]
    unfold put1
    by_cases c : rd hs tz ≥ 0
    · rw [if_pos c]
      by_cases d : rd hs tz = h
      · rw [if_pos d, if_neg (by omega)]
      · rw [if_neg d, if_pos ⟨c, d⟩]
    · rw [if_neg c, if_neg (by omega)]
  · rw [if_neg h0] at hto
    subst hto
    rw [if_neg h0, if_pos b0, if_pos b1]
    unfold put1
    by_cases c : rd hs tz ≥ 0
    · rw [if_pos c]
      by_cases d : rd hs tz = h
      · rw [if_pos d, if_neg (by omega)]
      · rw [if_neg d, if_pos ⟨c, d⟩]
    · rw [if_neg c, if_neg (by omega)]
theorem l3_all (k : Nat) (n i h : Int) (hs : List Int) (ops : List S41) (t1 t2 : Int) (a0 : 0 ≤ t1) (a1 : t1 < hs.length) (b0 : 0 ≤ t2) (b1 : t2 < hs.length) :
    code_Heights.l3 (k + 3) n hs i h ops (ops.length : Int) i 0 t1 t2 = match (put1 hs t1 h).bind fun hs1 => put1 hs1 t2 h with
      | none => some (([] : List Int), i, 260)
      | some hs' => code_Heights.l2 k n hs' ops (ops.length : Int) (wrap64 (i + 1)) := by
  rw [l3_step (k + 2) n i h hs [] ops t1 t2 0 (wrap_id (by omega) (by omega)) (by omega) t1 (by simp) a0 a1]
  cases e : put1 hs t1 h with
  | none => rfl
  | some hs1 =>
    show code_Heights.l3 (k + 2) n hs1 i h ops (ops.length : Int) i (0 + 1) t1 t2 = _
    have hl := put_len e
    rw [l3_step (k + 1) n i h hs1 [] ops t1 t2 (0 + 1) (wrap_id (by omega) (by omega)) (by omega) t2 (by simp) b0 (by omega)]
    show _ = match put1 hs1 t2 h with
      | none => some (([] : List Int), i, 260)
      | some hs' => code_Heights.l2 k n hs' ops (ops.length : Int) (wrap64 (i + 1))
    cases e2 : put1 hs1 t2 h with
    | none => rfl
    | some hs2 =>
      show code_Heights.l3 (k + 1) n hs2 i h ops (ops.length : Int) i (0 + 1 + 1) t1 t2 = _
      rw [code_Heights.l3, if_neg (by omega)]
theorem rd41_at {pre r : List S41} {x : S41} : rd_T41 (pre ++ x :: r) (pre.length : Int) = x := by
  unfold rd_T41
  rw [Int.toNat_natCast, List.getD_eq_getElem?_getD, List.getElem?_append_right (Nat.le_refl _), Nat.sub_self]
  rfl
theorem jump_in {x : S41} {i n p q : Int} (h : rgI x i n p q = true) : okI x = true ∧ ((x.f0 = 27 ∨ x.f0 = 28 ∨ x.f0 = 29) → i < x.f1 ∧ x.f1 ≤ n) := by
  unfold rgI at h
  simp only [Bool.and_eq_true] at h
  refine ⟨h.1, fun hj => ?_⟩
  have h2 := h.2
  rw [if_neg (by omega), if_neg (by omega), if_pos hj] at h2
  exact of_decide_eq_true h2
theorem ways_in {x : S41} {i n p q : Int} (h : rgI x i n p q = true) (hi : i < n) : (i < w1 x i ∧ w1 x i ≤ n) ∧ i < w2 x i ∧ w2 x i ≤ n := by
  obtain ⟨-, h⟩ := jump_in h
  unfold w1 w2
  by_cases a : x.f0 = 27
  · have := h (.inl a)
    rw [if_pos a, if_pos (.inl a)]
    exact ⟨this, this⟩
  · rw [if_neg a]
    by_cases b : x.f0 = 27 ∨ x.f0 = 28 ∨ x.f0 = 29
    · have := h b
      rw [if_pos b]
      exact ⟨by omega, this⟩
    · rw [if_neg b]
      omega
/-- Each instruction from place i on is right. -/
def Rt (n p q : Int) : List S41 → Int → Prop
  | [], _ => True
  | x :: r, i => rgI x i n p q = true ∧ Rt n p q r (i + 1)
theorem step_b {x : S41} {i n p q : Int} {hs hs' : List Int} (hr : rgI x i n p q = true) (h0 : 0 ≤ i) (hi : i < n) (hl : (hs.length : Int) = n + 1) (hb : Hb hs) (e : stepH x i hs = some hs') : hs'.length = hs.length ∧ Hb hs' := by
  obtain ⟨⟨a0, a1⟩, b0, b1⟩ := ways_in hr hi
  have ok := (jump_in hr).1
  have tk := tk_range ok
  have pt := pt_range ok
  unfold stepH at e
  split at e
  · obtain rfl := Option.some.inj e
    exact ⟨rfl, hb⟩
  · split at e
    · cases e
    · rename_i c d
      obtain ⟨hs1, e1, e2⟩ := Option.bind_eq_some_iff.mp e
      have n0 : 0 ≤ nxH x (rd hs i) := by unfold nxH; omega
      have n1 : nxH x (rd hs i) ≤ 32768 := by omega
      have l1 := put_len e1
      exact ⟨(put_len e2).trans l1, put_b (put_b hb (by omega) (by omega) n0 n1 e1) (by omega) (by omega) n0 n1 e2⟩
theorem l2_ans (n p q : Int) (ops : List S41) (hn : (ops.length : Int) = n) (hc : n ≤ 131072) : ∀ (r pre : List S41) (hs : List Int), ops = pre ++ r → Rt n p q r pre.length → (hs.length : Int) = n + 1 → Hb hs →
    Ans (fun k => code_Heights.l2 k n hs ops (ops.length : Int) (pre.length : Int)) (runH n r pre.length hs)
  | [], pre, hs, e, hr, hl, hb => by
    refine Ans.succ (Ans.of fun k => ?_)
    have hp : (pre.length : Int) = n := by rw [← hn, e]; simp
    rw [code_Heights.l2, if_neg (by omega), if_pos (by omega), if_pos (by omega)]
    unfold runH
    split <;> rfl
  | x :: r, pre, hs, e, hr, hl, hb => by
    have hp : (pre.length : Int) + 1 + r.length = n := by rw [← hn, e]; simp; omega
    have hx : rd_T41 ops (pre.length : Int) = x := by rw [e]; exact rd41_at
    have ih : ∀ hs' : List Int, hs'.length = hs.length → Hb hs' → Ans (fun k => code_Heights.l2 k n hs' ops (ops.length : Int) (wrap64 ((pre.length : Int) + 1))) (runH n r ((pre.length : Int) + 1) hs') := by
      intro hs' hl' hb'
      have := l2_ans n p q ops hn hc r (pre ++ [x]) hs' (by rw [e]; simp) (by rw [List.length_append]; exact hr.2) (by omega) hb'
      rw [List.length_append] at this
      rw [wrap_id (by omega) (by omega)]
      exact this
    have hx0 := ok_word (jump_in hr.1).1
    have tk := tk_range (jump_in hr.1).1
    have pt := pt_range (jump_in hr.1).1
    have hv := hb (pre.length : Int) (by omega)
    obtain ⟨⟨a0, a1⟩, b0, b1⟩ := ways_in hr.1 (by omega : (pre.length : Int) < n)
    refine Ans.succ ?_
    unfold runH
    by_cases c : rd hs (pre.length : Int) < 0
    · refine Ans.congr (g' := fun k => code_Heights.l2 k n hs ops (ops.length : Int) (wrap64 ((pre.length : Int) + 1))) ?_ fun k => ?_
      · have : stepH x (pre.length : Int) hs = some hs := by unfold stepH; rw [if_pos c]
        rw [this]
        exact ih hs rfl hb
      · rw [code_Heights.l2, if_pos (by omega), if_pos (by omega), if_pos (by omega), if_pos (by omega), if_pos c]
    · have ew : wrap64 ((wrap64 (rd hs (pre.length : Int) - tkI x)) + ptI x) = nxH x (rd hs (pre.length : Int)) := by
        unfold nxH
        rw [wrap_id (x := rd hs (pre.length : Int) - tkI x) (by omega) (by omega), wrap_id (by omega) (by omega)]
      have ef := rowEff_eq x
      unfold rowL at ef
      have key : ∀ k, code_Heights.l2 (k + 1) n hs ops (ops.length : Int) (pre.length : Int) = code_Heights.j3 k n hs (pre.length : Int) (nxH x (rd hs (pre.length : Int))) ops (ops.length : Int) (pre.length : Int) (decide (rd hs (pre.length : Int) < tkI x ∨ nxH x (rd hs (pre.length : Int)) > 32768)) x.f0 x.f1 x.f2 := by
        intro k
        rw [code_Heights.l2, if_pos (by omega), if_pos (by omega), if_pos (by omega), if_pos (by omega), if_neg c, hx, if_pos (by omega), if_pos (by rw [tabL_len]; omega), ef, Option.bind_some]
        show (if _ then _ else _) = _
        rw [ew]
        by_cases d : rd hs (pre.length : Int) < tkI x
        · rw [if_pos d, decide_eq_true (Or.inl d)]
        · rw [if_neg d]
          congr 1
          simp [d]
      refine Ans.congr ?_ key
      refine Ans.succ ?_
      unfold stepH
      rw [if_neg c]
      by_cases d : rd hs (pre.length : Int) < tkI x ∨ nxH x (rd hs (pre.length : Int)) > 32768
      · rw [if_pos d]
        refine Ans.of fun k => ?_
        rw [code_Heights.j3, decide_eq_true d, if_pos rfl]
      · rw [if_neg d]
        have key2 : ∀ k, code_Heights.j3 (k + 1) n hs (pre.length : Int) (nxH x (rd hs (pre.length : Int))) ops (ops.length : Int) (pre.length : Int) (decide (rd hs (pre.length : Int) < tkI x ∨ nxH x (rd hs (pre.length : Int)) > 32768)) x.f0 x.f1 x.f2 = code_Heights.l3 k n hs (pre.length : Int) (nxH x (rd hs (pre.length : Int))) ops (ops.length : Int) (pre.length : Int) 0 (w1 x (pre.length : Int)) (w2 x (pre.length : Int)) := by
          intro k
          rw [code_Heights.j3, decide_eq_false d, if_neg (by decide), ways_eq x (pre.length : Int) (by omega) (by omega), Option.bind_some]
        refine Ans.congr ?_ key2
        refine Ans.succ (Ans.succ (Ans.succ ?_))
        refine Ans.congr ?_ fun k => l3_all k n (pre.length : Int) _ hs ops _ _ (by omega) (by omega) (by omega) (by omega)
        have hst : stepH x (pre.length : Int) hs = (put1 hs (w1 x (pre.length : Int)) (nxH x (rd hs (pre.length : Int)))).bind fun hs1 => put1 hs1 (w2 x (pre.length : Int)) (nxH x (rd hs (pre.length : Int))) := by
          unfold stepH
          rw [if_neg c, if_neg d]
        cases e3 : (put1 hs (w1 x (pre.length : Int)) (nxH x (rd hs (pre.length : Int)))).bind fun hs1 => put1 hs1 (w2 x (pre.length : Int)) (nxH x (rd hs (pre.length : Int))) with
        | none => exact Ans.of fun k => rfl
        | some hs' =>
          have := step_b hr.1 (by omega) (by omega) hl hb (hst.trans e3)
          exact ih hs' this.1 this.2
theorem set_rep (m j : Nat) (hj : j < m) : (List.replicate j (-1 : Int) ++ List.replicate (m - j) 0).set j (-1) = List.replicate (j + 1) (-1) ++ List.replicate (m - (j + 1)) 0 := by
  rw [List.set_append_right _ _ (by simp), List.length_replicate, Nat.sub_self, show m - j = m - (j + 1) + 1 by omega, List.replicate_succ, List.set_cons_zero, List.replicate_succ']
  simp
theorem l1_ans (n : Nat) (ops : List S41) (nums : List Int) (strs : List ByteArray) (hc : n ≤ 131072) (hn : ops.length = n) : ∀ (d j : Nat), j + d = n + 1 → ∀ r : List Int × Int × Int, Ans (fun k => code_Heights.l2 k n (hs0 n) ops (ops.length : Int) 0) r →
    Ans (fun k => code_Heights.l1 k n (List.replicate j (-1) ++ List.replicate (n + 1 - j) 0) ((n + 1 : Nat) : Int) (j : Int) ops nums strs) r
  | 0, j, e, r, h => by
    refine Ans.succ ?_
    refine Ans.congr h fun k => ?_
    obtain rfl : j = n + 1 := by omega
    rw [code_Heights.l1, if_neg (by omega), if_pos (by simp)]
    congr 1
    rw [Nat.sub_self, List.replicate_zero, List.append_nil]
    rfl
  | d + 1, j, e, r, h => by
    refine Ans.succ ?_
    refine Ans.congr (l1_ans n ops nums strs hc hn d (j + 1) (by omega) r h) fun k => ?_
    rw [code_Heights.l1, if_pos (by omega), if_pos (by omega), if_pos (by simp; omega), wrap_id (by omega) (by omega)]
    congr 1
    rw [Int.toNat_natCast]
    exact set_rep (n + 1) j (by omega)
theorem hs0_len (n : Nat) : (hs0 n).length = n + 1 := by simp [hs0]
theorem hs0_at (n : Nat) (j : Int) (h0 : 0 ≤ j) : rd (hs0 n) j = if j = 0 then 0 else if j ≤ n then -1 else 0 := by
  unfold rd hs0
  obtain ⟨m, rfl⟩ := Int.eq_ofNat_of_zero_le h0
  rw [Int.toNat_natCast]
  cases m with
  | zero => rfl
  | succ m =>
    rw [List.getD_cons_succ, List.getD_eq_getElem?_getD, List.getElem?_replicate]
    by_cases h : m < n
    · rw [if_pos h, if_neg (by omega), if_pos (by omega)]; rfl
    · rw [if_neg h, if_neg (by omega), if_neg (by omega)]; rfl
theorem hs0_b (n : Nat) : Hb (hs0 n) := by
  intro j hj
  rw [hs0_at n j hj]
  split
  · omega
  · split <;> omega
theorem l0_ans (n : Nat) (ops : List S41) (nums : List Int) (strs : List ByteArray) (hc : n ≤ 131072) (hn : ops.length = n) : ∀ (r pre : List S41), ops = pre ++ r → ∀ v : List Int × Int × Int,
    (allR n nums.length strs.length r pre.length = none → Ans (fun k => code_Heights.l2 k n (hs0 n) ops (ops.length : Int) 0) v) →
    Ans (fun k => code_Heights.l0 k n n (pre.length : Int) ops nums strs) (match allR n nums.length strs.length r pre.length with
      | some i => ([], i, 260)
      | none => v)
  | [], pre, e, v, h => by
    refine Ans.succ ?_
    refine Ans.congr (g' := fun k => code_Heights.l1 k n (List.replicate 0 (-1) ++ List.replicate (n + 1 - 0) 0) ((n + 1 : Nat) : Int) ((0 : Nat) : Int) ops nums strs) (l1_ans n ops nums strs hc hn (n + 1) 0 (by omega) v (h rfl)) fun k => ?_
    have hp : pre.length = n := by rw [← hn, e]; simp
    have en : (wrap64 ((n : Int) + 1)).toNat = n + 1 := by rw [wrap_id (by omega) (by omega)]; omega
    rw [code_Heights.l0, if_neg (by omega), if_pos (by rw [wrap_id (by omega) (by omega)]; omega), en, if_pos (by omega), Option.bind_some]
    simp
  | x :: r, pre, e, v, h => by
    have hp : pre.length + 1 + r.length = n := by rw [← hn, e]; simp; omega
    have hx : rd_T41 ops (pre.length : Int) = x := by rw [e]; exact rd41_at
    have key : ∀ k, code_Heights.l0 (k + 1 + 2) n n (pre.length : Int) ops nums strs = if rgI x (pre.length : Int) n nums.length strs.length = true then code_Heights.l0 (k + 2) n n (wrap64 ((pre.length : Int) + 1)) ops nums strs else some ([], (pre.length : Int), 260) := by
      intro k
      rw [show k + 1 + 2 = (k + 2) + 1 from rfl, code_Heights.l0, if_pos (by omega), right_eq k ops nums strs _ (by omega) (by omega), hx, Option.bind_some, hn]
    refine Ans.succ (Ans.succ (Ans.succ (Ans.congr ?_ key)))
    unfold allR
    unfold allR at h
    by_cases c : rgI x (pre.length : Int) n nums.length strs.length = true
    · rw [if_pos c]
      rw [if_pos c] at h
      refine Ans.congr (g' := fun k => code_Heights.l0 (k + 2) n n (wrap64 ((pre.length : Int) + 1)) ops nums strs) ?_ fun k => if_pos c
      have ih := l0_ans n ops nums strs hc hn r (pre ++ [x]) (by rw [e]; simp) v (by rw [List.length_append]; exact h)
      rw [List.length_append] at ih
      rw [wrap_id (by omega) (by omega)]
      obtain ⟨m, hm⟩ := ih
      exact ⟨m, fun k hk => hm (k + 2) (by omega)⟩
    · rw [if_neg c]
      exact Ans.of fun k => if_neg c
theorem allR_rt (n p q : Int) : ∀ (r : List S41) (i : Int), allR n p q r i = none → Rt n p q r i
  | [], i, h => trivial
  | x :: r, i, h => by
    unfold allR at h
    split at h
    · rename_i c
      exact ⟨c, allR_rt n p q r (i + 1) h⟩
    · cases h
theorem heights_ans (ops : List S41) (nums : List Int) (strs : List ByteArray) : Ans (fun k => code_Heights.f k ops nums strs) (heightsV ops nums.length strs.length) := by
  unfold heightsV code_Heights.f
  by_cases c : (ops.length : Int) > 131072
  · rw [if_pos c]
    exact Ans.of fun k => if_pos c
  · rw [if_neg c]
    refine Ans.congr (g' := fun k => code_Heights.l0 k (ops.length : Int) (ops.length : Int) 0 ops nums strs) ?_ fun k => if_neg c
    exact l0_ans ops.length ops nums strs (by omega) rfl ops [] rfl _ fun h => l2_ans ops.length nums.length strs.length ops rfl (by omega) ops [] (hs0 ops.length) rfl (allR_rt _ _ _ _ _ h) (by rw [hs0_len]; omega) (hs0_b _)
def mostL (m : Int) : List Int → Int
  | [] => m
  | h :: l => mostL (mx m h) l
theorem check_l0 (a e : Int) (hs : List Int) (hl : hs.length < 9223372036854775807) : ∀ (r pre : List Int) (m : Int), hs = pre ++ r → Ans (fun k => code_Check.l0 k a e m hs hs.length (pre.length : Int)) (mostL m r, a, e)
  | [], pre, m, h => by
    refine Ans.succ (Ans.of fun k => ?_)
    have hp : pre.length = hs.length := by rw [h]; simp
    rw [code_Check.l0, if_neg (by omega)]
    rfl
  | x :: r, pre, m, h => by
    have hp : pre.length + 1 + r.length = hs.length := by rw [h]; simp; omega
    refine Ans.succ ?_
    have ih := check_l0 a e hs hl r (pre ++ [x]) (mx m x) (by rw [h]; simp)
    refine Ans.congr ih fun k => ?_
    have hx : rd hs (pre.length : Int) = x := by
      unfold rd
      rw [Int.toNat_natCast, h, List.getD_eq_getElem?_getD, List.getElem?_append_right (Nat.le_refl _), Nat.sub_self]
      rfl
    rw [code_Check.l0, if_pos (by omega), if_pos (by omega), if_pos (by omega), wrap_id (by omega) (by omega), hx]
    congr 1
    rw [List.length_append]
    rfl
def checkV (ops : List S41) (p q : Int) : Int × Int × Int := (mostL 0 (heightsV ops p q).1, (heightsV ops p q).2)
theorem runH_len (n : Int) : ∀ (r : List S41) (i : Int) (hs : List Int), (runH n r i hs).1.length ≤ hs.length
  | [], i, hs => by
    unfold runH
    split <;> simp
  | x :: r, i, hs => by
    unfold runH
    split
    · simp
    · rename_i hs' e
      have : hs'.length = hs.length := by
        unfold stepH at e
        split at e
        · obtain rfl := Option.some.inj e; rfl
        · split at e
          · cases e
          · obtain ⟨hs1, e1, e2⟩ := Option.bind_eq_some_iff.mp e
            exact (put_len e2).trans (put_len e1)
      exact this ▸ runH_len n r (i + 1) hs'
theorem heightsV_len (ops : List S41) (p q : Int) : (heightsV ops p q).1.length ≤ 131073 := by
  unfold heightsV
  split
  · simp
  · split
    · simp
    · have := runH_len ops.length ops 0 (hs0 ops.length)
      rw [hs0_len] at this
      omega
theorem check_ans (ops : List S41) (nums : List Int) (strs : List ByteArray) : Ans (fun k => code_Check.f k ops nums strs) (checkV ops nums.length strs.length) := by
  unfold code_Check.f
  have hl := heightsV_len ops nums.length strs.length
  exact Ans.bind (heights_ans ops nums strs) (check_l0 _ _ _ (by omega) _ [] 0 rfl)
end Go.Proofs.YtdkejcadoepnnaaDoor.Pl
