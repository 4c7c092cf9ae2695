/-
  Plain laws of the scan statements: Cmp of the reference answers as the program's; ScanNorms answers true.
-/
import Derived.Test.YtcgjfckhnpimbaaDoorPj
import Derived.Test.YtcgjfckhnpimbaaDoorPiR
import Derived.Test.YtcgjfckhnpimbaaDoorEScanx45
set_option linter.unusedVariables false
set_option linter.unusedSimpArgs false
set_option linter.unusedSectionVars false
namespace Go.Proofs.YtcgjfckhnpimbaaDoor.Pl
open Go.RowKit Go.Proofs.YtcgjfckhnpimbaaDoorW.PrintWords Go.Proofs.YtcgjfckhnpimbaaDoor.X Go.Proofs.YtcgjfckhnpimbaaDoor.EScan
/-! ### The reference's order, digit by digit -/
theorem drop_bt {d : ByteArray} {j : Nat} (h : j < d.size) : ∃ b, d.data.toList.drop j = b :: d.data.toList.drop (j + 1) ∧ (b.toNat : Int) = bt d j := by
  obtain ⟨b, hb, he⟩ := list_bt h
  refine ⟨b, ?_, he⟩
  obtain ⟨hl, hb⟩ := List.getElem?_eq_some_iff.1 hb
  rw [List.drop_eq_getElem_cons hl, hb]
theorem drop_end {d : ByteArray} {j : Nat} (h : d.size ≤ j) : d.data.toList.drop j = [] := List.drop_eq_nil_of_le (by simpa using h)
theorem digit_eq (g : Bool) {d : ByteArray} {e t : Int} (b : d.size ≤ 140737488351232) (x : -1152921504606846976 ≤ e) (y : e ≤ 1152921504606846976) (ht : t = e + d.size) {j : Nat} (hj : j ≤ 140737488351232) :
    abacusref08_digit.f g d e (t - 1 - j) = some (if j < d.size then bt d j else 48) := by
  unfold abacusref08_digit.f
  rw [wrap_id (x := e + (d.size : Int)) (by omega) (by omega), wrap_id (x := e + (d.size : Int) - 1) (by omega) (by omega), wrap_id (by omega) (by omega)]
  rw [show e + (d.size : Int) - 1 - (t - 1 - j) = j by omega, if_neg (by omega)]
  by_cases h : j < d.size
  · rw [if_neg (by omega), if_pos (by omega), if_pos (by omega), if_pos h]
  · rw [if_pos (by omega), if_neg h]
section
variable (g1 g2 : Bool) {d1 d2 : ByteArray} {e1 e2 t : Int} (b1 : d1.size ≤ 140737488351232) (b2 : d2.size ≤ 140737488351232) (x1 : -1152921504606846976 ≤ e1) (y1 : e1 ≤ 1152921504606846976) (x2 : -1152921504606846976 ≤ e2) (y2 : e2 ≤ 1152921504606846976)
  (t1 : t = e1 + d1.size) (t2 : t = e2 + d2.size)
include b1 b2 x1 y1 x2 y2 t1 t2
theorem sz_end {j : Nat} (h1 : d1.size ≤ j) (h2 : d2.size ≤ j) : Ans (fun k => abacusref08_size.l0 k (t - 1 - j) g1 d1 e1 g2 d2 e2) 0 := by
  refine Ans.succ ?_
  simp only [abacusref08_size.l0, if_neg (show ¬ t - 1 - (j : Int) ≥ e1 by omega), decide_eq_false (show ¬ t - 1 - (j : Int) ≥ e2 by omega)]
  refine Ans.succ ?_
  simp only [abacusref08_size.j2, Bool.false_eq_true, if_false]
  exact Ans.ret _
theorem sz_step {j : Nat} {r : Int} (h : j < d1.size ∨ j < d2.size) (hr : Ans (fun k => if (if j < d1.size then bt d1 j else 48) = (if j < d2.size then bt d2 j else 48) then abacusref08_size.l0 k (t - 1 - ((j + 1 : Nat) : Int)) g1 d1 e1 g2 d2 e2 else if (if j < d1.size then bt d1 j else 48) < (if j < d2.size then bt d2 j else 48) then some (-1) else some 1) r) :
    Ans (fun k => abacusref08_size.l0 k (t - 1 - j) g1 d1 e1 g2 d2 e2) r := by
  have hj : j ≤ 140737488351232 := by omega
  have hj2 : Ans (fun k => abacusref08_size.j2 k (t - 1 - j) true g1 d1 e1 g2 d2 e2) r := by
    refine Ans.succ ?_
    simp only [abacusref08_size.j2, if_true, digit_eq g1 b1 x1 y1 t1 hj, digit_eq g2 b2 x2 y2 t2 hj, Option.bind_some]
    rw [wrap_id (x := t - 1 - (j : Int) - 1) (by omega) (by omega), show t - 1 - (j : Int) - 1 = t - 1 - ((j + 1 : Nat) : Int) by omega]
    exact hr
  refine Ans.succ ?_
  simp only [abacusref08_size.l0]
  by_cases h1 : t - 1 - (j : Int) ≥ e1
  · simp only [if_pos h1]
    exact hj2
  · simp only [if_neg h1, decide_eq_true (show t - 1 - (j : Int) ≥ e2 by omega)]
    exact hj2

theorem sz_pad2 (n2 : Nrm d2 e2) (z2 : d2 ≠ zr) {j : Nat} (h1 : d1.size ≤ j) (h2 : j < d2.size) : Ans (fun k => abacusref08_size.l0 k (t - 1 - j) g1 d1 e1 g2 d2 e2) (-1) := by
  generalize hm : d2.size - j = m
  induction m using Nat.strongRecOn generalizing j with
  | _ m ih =>
    refine sz_step g1 g2 b1 b2 x1 y1 x2 y2 t1 t2 (.inr h2) ?_
    have hd := dig_all n2.dig (i := j) (by omega) (by omega)
    simp only [if_neg (show ¬ j < d1.size by omega), if_pos h2]
    by_cases e : bt d2 j = 48
    · have hne : j + 1 ≠ d2.size := by
        intro h
        refine n2.last z2 ?_
        rw [show (d2.size : Int) - 1 = j by omega]
        exact e
      simp only [if_pos e.symm]
      exact ih (d2.size - (j + 1)) (by omega) (j := j + 1) (by omega) (by omega) rfl
    · simp only [if_neg (Ne.symm e), if_pos (show 48 < bt d2 j by omega)]
      exact Ans.ret _
theorem sz_pad1 (n1 : Nrm d1 e1) (z1 : d1 ≠ zr) {j : Nat} (h1 : d2.size ≤ j) (h2 : j < d1.size) : Ans (fun k => abacusref08_size.l0 k (t - 1 - j) g1 d1 e1 g2 d2 e2) 1 := by
  generalize hm : d1.size - j = m
  induction m using Nat.strongRecOn generalizing j with
  | _ m ih =>
    refine sz_step g1 g2 b1 b2 x1 y1 x2 y2 t1 t2 (.inl h2) ?_
    have hd := dig_all n1.dig (i := j) (by omega) (by omega)
    simp only [if_neg (show ¬ j < d2.size by omega), if_pos h2]
    by_cases e : bt d1 j = 48
    · have hne : j + 1 ≠ d1.size := by
        intro h
        refine n1.last z1 ?_
        rw [show (d1.size : Int) - 1 = j by omega]
        exact e
      simp only [if_pos e]
      exact ih (d1.size - (j + 1)) (by omega) (j := j + 1) (by omega) (by omega) rfl
    · simp only [if_neg e, if_neg (show ¬ bt d1 j < 48 by omega)]
      exact Ans.ret _
theorem sz_all (n1 : Nrm d1 e1) (z1 : d1 ≠ zr) (n2 : Nrm d2 e2) (z2 : d2 ≠ zr) {j : Nat} : Ans (fun k => abacusref08_size.l0 k (t - 1 - j) g1 d1 e1 g2 d2 e2) (Lib.compareBytes (d1.data.toList.drop j) (d2.data.toList.drop j)) := by
  generalize hm : d1.size - j = m
  induction m using Nat.strongRecOn generalizing j with
  | _ m ih =>
    by_cases h1 : j < d1.size
    · obtain ⟨a, ha, ea⟩ := drop_bt h1
      by_cases h2 : j < d2.size
      · obtain ⟨b, hb, eb⟩ := drop_bt h2
        rw [ha, hb, Lib.compareBytes]
        refine sz_step g1 g2 b1 b2 x1 y1 x2 y2 t1 t2 (.inl h1) ?_
        simp only [if_pos h1, if_pos h2, ← ea, ← eb]
        by_cases hab : a < b
        · have : a.toNat < b.toNat := UInt8.lt_iff_toNat_lt.1 hab
          simp only [if_pos hab, if_neg (show ¬ (a.toNat : Int) = b.toNat by omega), if_pos (show (a.toNat : Int) < b.toNat by omega)]
          exact Ans.ret _
        · have g1' : ¬ a.toNat < b.toNat := fun h => hab (UInt8.lt_iff_toNat_lt.2 h)
          by_cases hba : b < a
          · have : b.toNat < a.toNat := UInt8.lt_iff_toNat_lt.1 hba
            simp only [if_neg hab, if_pos hba, if_neg (show ¬ (a.toNat : Int) = b.toNat by omega), if_neg (show ¬ (a.toNat : Int) < b.toNat by omega)]
            exact Ans.ret _
          · have g2' : ¬ b.toNat < a.toNat := fun h => hba (UInt8.lt_iff_toNat_lt.2 h)
            simp only [if_neg hab, if_neg hba, if_pos (show (a.toNat : Int) = b.toNat by omega)]
            exact ih (d1.size - (j + 1)) (by omega) rfl
      · rw [ha, drop_end (d := d2) (by omega), Lib.compareBytes]
        exact sz_pad1 g1 g2 b1 b2 x1 y1 x2 y2 t1 t2 n1 z1 (by omega) h1
    · rw [drop_end (d := d1) (by omega)]
      by_cases h2 : j < d2.size
      · obtain ⟨b, hb, eb⟩ := drop_bt h2
        rw [hb, Lib.compareBytes]
        exact sz_pad2 g1 g2 b1 b2 x1 y1 x2 y2 t1 t2 n2 z2 (by omega) h2
      · rw [drop_end (d := d2) (by omega), Lib.compareBytes]
        exact sz_end g1 g2 b1 b2 x1 y1 x2 y2 t1 t2 (by omega) (by omega)
end
theorem size_r (g1 g2 : Bool) {d1 d2 : ByteArray} {e1 e2 : Int} (b1 : d1.size ≤ 140737488351232) (b2 : d2.size ≤ 140737488351232) (x1 : -1152921504606846976 ≤ e1) (y1 : e1 ≤ 1152921504606846976) (x2 : -1152921504606846976 ≤ e2) (y2 : e2 ≤ 1152921504606846976) (n1 : Nrm d1 e1) (n2 : Nrm d2 e2) :
    Ans (fun k => abacusref08_size.f k g1 d1 e1 g2 d2 e2) (szV d1 e1 d2 e2) := by
  have go : ∀ b, (b = true ↔ d1 = zr ∨ d2 = zr) → Ans (fun k => abacusref08_size.j0 k b g1 d1 e1 g2 d2 e2) (szV d1 e1 d2 e2) := by
    intro b hb
    refine Ans.succ ?_
    simp only [abacusref08_size.j0, zr_list, list_inj]
    rw [wrap_id (x := e1 + (d1.size : Int)) (by omega) (by omega), wrap_id (x := e2 + (d2.size : Int)) (by omega) (by omega), wrap_id (x := e1 + (d1.size : Int) - 1) (by omega) (by omega)]
    by_cases h1 : d1 = zr
    · simp only [if_pos (hb.2 (.inl h1))]
      unfold szV
      by_cases h2 : d2 = zr
      · simp only [if_pos (h1.trans h2.symm), if_pos h1, if_pos h2]
        exact Ans.ret _
      · simp only [if_neg (fun h : d1 = d2 => h2 (h.symm.trans h1)), if_pos h1, if_neg h2]
        exact Ans.ret _
    · by_cases h2 : d2 = zr
      · simp only [if_pos (hb.2 (.inr h2)), if_neg (fun h : d1 = d2 => h1 (h.trans h2)), if_neg h1]
        unfold szV
        simp only [if_neg h1, if_pos h2]
        exact Ans.ret _
      · simp only [if_neg (fun h => (hb.1 h).elim h1 h2)]
        unfold szV
        simp only [if_neg h1, if_neg h2]
        by_cases h3 : e2 + (d2.size : Int) = e1 + (d1.size : Int)
        · simp only [if_pos h3, if_pos h3.symm]
          have := sz_all g1 g2 b1 b2 x1 y1 x2 y2 (t := e1 + d1.size) rfl h3.symm n1 h1 n2 h2 (j := 0)
          rw [show e1 + (d1.size : Int) - 1 - ((0 : Nat) : Int) = e1 + d1.size - 1 by omega] at this
          exact this
        · simp only [if_neg h3, if_neg (Ne.symm h3)]
          by_cases h4 : e1 + (d1.size : Int) < e2 + (d2.size : Int)
          · simp only [if_pos h4]
            exact Ans.ret _
          · simp only [if_neg h4]
            exact Ans.ret _
  unfold abacusref08_size.f
  by_cases h1 : d1 = zr
  · simp only [if_pos ((zr_list d1).2 h1)]
    exact go true ⟨fun _ => .inl h1, fun _ => rfl⟩
  · simp only [if_neg (fun h => h1 ((zr_list d1).1 h))]
    refine go _ ?_
    rw [beq_iff_eq, zr_list]
    exact ⟨fun h => .inr h, fun h => h.resolve_left h1⟩
section
variable (n1 : Bool) (s1 : ByteArray) (p1 : Int) (n2 : Bool) (s2 : ByteArray) (p2 : Int) (hs1 : s1.size ≤ 140737488351232) (hs2 : s2.size ≤ 140737488351232)
include hs1 hs2
theorem cmp_r : Ans (fun k => abacusref08_Cmp.f k n1 s1 p1 n2 s2 p2) (cmpV (nrmV n1 s1 p1) (nrmV n2 s2 p2)) := by
  obtain ⟨b1, x1, y1⟩ := nrmV_le n1 s1 p1 hs1
  obtain ⟨b2, x2, y2⟩ := nrmV_le n2 s2 p2 hs2
  have N1 := nrmV_nrm n1 s1 p1
  have N2 := nrmV_nrm n2 s2 p2
  unfold abacusref08_Cmp.f
  refine Ans.bind (norm_r n1 s1 p1 hs1) ?_
  refine Ans.bind (norm_r n2 s2 p2 hs2) ?_
  generalize nrmV n1 s1 p1 = r1 at *
  generalize nrmV n2 s2 p2 = r2 at *
  obtain ⟨g1, d1, e1, q1⟩ := r1
  obtain ⟨g2, d2, e2, q2⟩ := r2
  simp only at b1 x1 y1 b2 x2 y2 N1 N2
  unfold cmpV
  simp only
  have bad : ¬ (q1 = 0 ∧ q2 = 0) → Ans (fun k => abacusref08_Cmp.j0 k true g1 d1 e1 g2 d2 e2) (if q1 = 0 ∧ q2 = 0 then (cmpN g1 d1 e1 g2 d2 e2, 0) else (0, 80)) := by
    intro h
    rw [if_neg h]
    refine Ans.succ ?_
    simp only [abacusref08_Cmp.j0, if_true]
    exact Ans.ret _
  by_cases h1 : q1 = 0
  · by_cases h2 : q2 = 0
    · rw [if_pos ⟨h1, h2⟩]
      simp only [if_pos h1, h2, bne_self_eq_false]
      have M1 := N1 h1
      have M2 := N2 h2
      have h4 : ∀ a b : Bool, Ans (fun k => abacusref08_Cmp.j4 k false a d1 e1 b d2 e2) (if a = true then szV d2 e2 d1 e1 else szV d1 e1 d2 e2, 0) := by
        intro a b
        refine Ans.succ ?_
        simp only [abacusref08_Cmp.j4, Bool.false_eq_true, if_false]
        cases a
        · simp only [Bool.false_eq_true, if_false]
          exact Ans.bind (size_r false b b1 b2 x1 y1 x2 y2 M1 M2) (Ans.ret _)
        · simp only [if_true]
          exact Ans.bind (size_r b true b2 b1 x2 y2 x1 y1 M2 M1) (Ans.ret _)
      have h2' : ∀ a b : Bool, Ans (fun k => abacusref08_Cmp.j2 k a d1 e1 b d2 e2) (if a = true then (if b = true then szV d2 e2 d1 e1 else -1) else if b = true then 1 else szV d1 e1 d2 e2, 0) := by
        intro a b
        refine Ans.succ ?_
        simp only [abacusref08_Cmp.j2]
        cases a
        · simp only [Bool.false_eq_true, if_false]
          refine Ans.succ ?_
          simp only [abacusref08_Cmp.j3, Bool.false_eq_true, if_false]
          cases b
          · simp only [Bool.false_eq_true, if_false]
            exact h4 false false
          · refine Ans.succ ?_
            simp only [abacusref08_Cmp.j4, if_true]
            exact Ans.ret _
        · cases b
          · refine Ans.succ ?_
            simp only [abacusref08_Cmp.j3, if_true, Bool.not_false, Bool.false_eq_true, if_false]
            exact Ans.ret _
          · refine Ans.succ ?_
            simp only [abacusref08_Cmp.j3, if_true, Bool.not_true, Bool.false_eq_true, if_false]
            exact h4 true true
      have h1' : ∀ a, Ans (fun k => abacusref08_Cmp.j1 k a d1 e1 g2 d2 e2) (if a = true then (if (g2 && !decide (d2 = zr)) = true then szV d2 e2 d1 e1 else -1) else if (g2 && !decide (d2 = zr)) = true then 1 else szV d1 e1 d2 e2, 0) := by
        intro a
        refine Ans.succ ?_
        simp only [abacusref08_Cmp.j1, zr_list]
        by_cases z2 : d2 = zr
        · simp only [if_pos z2, decide_eq_true z2, Bool.not_true, Bool.and_false]
          exact h2' a false
        · simp only [if_neg z2, decide_eq_false z2, Bool.not_false, Bool.and_true]
          exact h2' a g2
      refine Ans.succ ?_
      simp only [abacusref08_Cmp.j0, Bool.false_eq_true, if_false, zr_list]
      unfold cmpN
      by_cases z1 : d1 = zr
      · simp only [if_pos z1, decide_eq_true z1, Bool.not_true, Bool.and_false]
        exact h1' false
      · simp only [if_neg z1, decide_eq_false z1, Bool.not_false, Bool.and_true]
        exact h1' g1
    · simp only [if_pos h1]
      have : (q2 != 0) = true := by simpa using h2
      rw [this]
      exact bad (fun h => h2 h.2)
  · simp only [if_neg h1]
    exact bad (fun h => h1 h.1)
theorem cmps_t : Ans (fun k => abacuslaw08_cmps.f k n1 s1 p1 n2 s2 p2) true := by
  unfold abacuslaw08_cmps.f
  refine Ans.bind (cmp_r n1 s1 p1 n2 s2 p2 hs1 hs2) ?_
  refine Ans.bind (cmp_s n1 s1 p1 n2 s2 p2 hs1 hs2) ?_
  simp only [if_true, beq_self_eq_true]
  exact Ans.ret _
end
theorem scanNorms_true (l : List S23) (hl : l.length ≤ 4611686018427387904) (hb : ∀ p ∈ l, p.f1.size ≤ 140737488351232) : Ans (fun k => abacuslaw08_ScanNorms.f k l) true := by
  have hg : ∀ i : Int, 0 ≤ i → i < l.length → (rd_T23 l i).f1.size ≤ 140737488351232 := by
    intro i h0 h
    refine hb _ ?_
    unfold rd_T23
    have : i.toNat < l.length := by omega
    rw [List.getD_eq_getElem?_getD, List.getElem?_eq_getElem this]
    exact List.getElem_mem this
  have key : ∀ i, i ≤ (l.length : Int) → 0 ≤ i → Ans (fun k => abacuslaw08_ScanNorms.l0 k l i) true := by
    refine left_ind fun i hi ih h0 => Ans.succ ?_
    simp only [abacuslaw08_ScanNorms.l0]
    by_cases hlt : i < (l.length : Int)
    · have next := ih (i + 1) (by omega) (by omega) (by omega)
      simp only [if_pos hlt, if_pos h0, if_pos (show 0 < (l.length : Int) by omega)]
      refine Ans.bind (norms_t _ _ _ (hg i h0 hlt)) ?_
      simp only [if_true]
      refine Ans.bind (cmps_t _ _ _ _ _ _ (hg i h0 hlt) (hg i h0 hlt)) ?_
      simp only [if_true]
      refine Ans.bind (cmps_t _ _ _ _ _ _ (hg i h0 hlt) (hg 0 (by omega) (by omega))) ?_
      refine Ans.succ ?_
      simp only [abacuslaw08_ScanNorms.j2, Bool.not_true, Bool.false_eq_true, if_false]
      rw [wrap_id (x := i + 1) (by omega) (by omega), wrap_id (x := i - 1) (by omega) (by omega)]
      by_cases hp : i > 0
      · simp only [if_pos hp, if_pos (show 0 ≤ i - 1 by omega), if_pos (show i - 1 < (l.length : Int) by omega), if_pos h0, if_pos hlt]
        refine Ans.bind (cmps_t _ _ _ _ _ _ (hg (i - 1) (by omega) (by omega)) (hg i h0 hlt)) ?_
        simp only [if_true]
        refine Ans.bind (cmps_t _ _ _ _ _ _ (hg i h0 hlt) (hg (i - 1) (by omega) (by omega))) ?_
        simp only [if_true]
        exact next
      · simp only [if_neg hp]
        exact next
    · simp only [if_neg hlt]
      exact Ans.ret _
  unfold abacuslaw08_ScanNorms.f
  refine Ans.bind (norms_t _ _ _ (by decide)) ?_
  simp only [if_true]
  refine Ans.bind (cmps_t _ _ _ _ _ _ (by decide) (by decide)) ?_
  refine Ans.succ ?_
  simp only [abacuslaw08_ScanNorms.j0, Bool.not_true, Bool.false_eq_true, if_false]
  exact key 0 (by omega) (by omega)
end Go.Proofs.YtcgjfckhnpimbaaDoor.Pl
