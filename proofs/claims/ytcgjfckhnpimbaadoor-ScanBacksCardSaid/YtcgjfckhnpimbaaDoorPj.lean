/-
  Plain laws of the scan statements: what Cmp of the program answers.
-/
import Derived.Test.YtcgjfckhnpimbaaDoorPi
set_option linter.unusedVariables false
set_option linter.unusedSimpArgs false
set_option linter.unusedSectionVars false
namespace Go.Proofs.YtcgjfckhnpimbaaDoor.Pl
open Go.RowKit Go.Proofs.YtcgjfckhnpimbaaDoorW.PrintWords Go.Proofs.YtcgjfckhnpimbaaDoor.X Go.Proofs.YtcgjfckhnpimbaaDoor.EScan

def zr : ByteArray := ⟨#[48]⟩
theorem zr_list (d : ByteArray) : d.toList = ([48] : List UInt8) ↔ d = zr := by
  rw [Go.ByteArray.toList_eq]
  constructor
  · intro h
    apply ByteArray.ext
    exact Array.ext' h
  · intro h
    rw [h]
    rfl
theorem list_inj (d d' : ByteArray) : d.toList = d'.toList ↔ d = d' := by
  rw [Go.ByteArray.toList_eq, Go.ByteArray.toList_eq]
  constructor
  · intro h
    apply ByteArray.ext
    exact Array.ext' h
  · intro h
    rw [h]
/-- The order of two Decs without their signs. -/
def szV (d1 : ByteArray) (e1 : Int) (d2 : ByteArray) (e2 : Int) : Int :=
  if d1 = zr then (if d2 = zr then 0 else -1) else if d2 = zr then 1
  else if e1 + d1.size = e2 + d2.size then Lib.compareBytes d1.data.toList d2.data.toList else if e1 + d1.size < e2 + d2.size then -1 else 1
theorem cmp_range : ∀ a b : List UInt8, -1 ≤ Lib.compareBytes a b ∧ Lib.compareBytes a b ≤ 1
  | [], [] => by decide
  | [], _ :: _ => ⟨by simp [Lib.compareBytes], by simp [Lib.compareBytes]⟩
  | _ :: _, [] => ⟨by simp [Lib.compareBytes], by simp [Lib.compareBytes]⟩
  | a :: as', b :: bs => by
    unfold Lib.compareBytes
    have := cmp_range as' bs
    split
    · omega
    · split
      · omega
      · exact this
theorem cmp_neg : ∀ a b : List UInt8, Lib.compareBytes b a = - Lib.compareBytes a b
  | [], [] => by simp [Lib.compareBytes]
  | [], _ :: _ => by simp [Lib.compareBytes]
  | _ :: _, [] => by simp [Lib.compareBytes]
  | a :: as', b :: bs => by
    have ih := cmp_neg as' bs
    simp only [Lib.compareBytes]
    by_cases h1 : a < b
    · have h2 : ¬ b < a := fun h => absurd (UInt8.lt_trans h1 h) (UInt8.lt_irrefl a)
      rw [if_pos h1, if_neg h2, if_pos h1]
      rfl
    · rw [if_neg h1, if_neg h1]
      by_cases h2 : b < a
      · rw [if_pos h2, if_pos h2]
      · rw [if_neg h2, if_neg h2]
        exact ih
theorem szV_range (d1 : ByteArray) (e1 : Int) (d2 : ByteArray) (e2 : Int) : -1 ≤ szV d1 e1 d2 e2 ∧ szV d1 e1 d2 e2 ≤ 1 := by
  have := cmp_range d1.data.toList d2.data.toList
  unfold szV
  repeat' split
  all_goals omega
theorem szV_neg (d1 : ByteArray) (e1 : Int) (d2 : ByteArray) (e2 : Int) : szV d2 e2 d1 e1 = - szV d1 e1 d2 e2 := by
  have hc := cmp_neg d1.data.toList d2.data.toList
  unfold szV
  by_cases h1 : d1 = zr
  · by_cases h2 : d2 = zr
    · rw [if_pos h1, if_pos h2, if_pos h1, if_pos h2]
      rfl
    · rw [if_neg h2, if_pos h1, if_pos h1, if_neg h2]
      rfl
  · by_cases h2 : d2 = zr
    · rw [if_neg h1, if_pos h2, if_neg h1, if_pos h2]
    · rw [if_neg h2, if_neg h1, if_neg h1, if_neg h2]
      by_cases h3 : e1 + d1.size = e2 + d2.size
      · rw [if_pos h3, if_pos h3.symm]
        exact hc
      · rw [if_neg h3, if_neg (Ne.symm h3)]
        by_cases h4 : e1 + d1.size < e2 + d2.size
        · rw [if_pos h4, if_neg (by omega)]
          rfl
        · rw [if_neg h4, if_pos (by omega)]
theorem size_s (g1 g2 : Bool) {d1 d2 : ByteArray} {e1 e2 : Int} (b1 : d1.size ≤ 140737488351232) (b2 : d2.size ≤ 140737488351232) (x1 : -1152921504606846976 ≤ e1) (y1 : e1 ≤ 1152921504606846976) (x2 : -1152921504606846976 ≤ e2) (y2 : e2 ≤ 1152921504606846976) :
    Ans (fun k => scan_size.f k g1 d1 e1 g2 d2 e2) (szV d1 e1 d2 e2) := by
  have go : ∀ b, (b = true ↔ d1 = zr ∧ d2 = zr) → Ans (fun k => scan_size.j0 k b g1 d1 e1 g2 d2 e2) (szV d1 e1 d2 e2) := by
    intro b hb
    refine Ans.succ ?_
    unfold szV
    simp only [scan_size.j0, zr_list]
    rw [wrap_id (x := e1 + (d1.size : Int)) (by omega) (by omega), wrap_id (x := e2 + (d2.size : Int)) (by omega) (by omega)]
    by_cases h1 : d1 = zr
    · by_cases h2 : d2 = zr
      · simp only [if_pos (hb.2 ⟨h1, h2⟩), if_pos h1, if_pos h2]
        exact Ans.ret _
      · simp only [if_neg (fun h => h2 (hb.1 h).2), if_pos h1, if_neg h2]
        exact Ans.ret _
    · simp only [if_neg (fun h => h1 (hb.1 h).1), if_neg h1]
      by_cases h2 : d2 = zr
      · simp only [if_pos h2]
        exact Ans.ret _
      · simp only [if_neg h2]
        by_cases h3 : e1 + (d1.size : Int) = e2 + (d2.size : Int)
        · simp only [if_pos h3, xCompare.f, Option.bind_some]
          exact Ans.ret _
        · simp only [if_neg h3]
          by_cases h4 : e1 + (d1.size : Int) < e2 + (d2.size : Int)
          · simp only [if_pos h4]
            exact Ans.ret _
          · simp only [if_neg h4]
            exact Ans.ret _
  unfold scan_size.f
  by_cases h1 : d1 = zr
  · simp only [if_pos ((zr_list d1).2 h1)]
    refine go _ ?_
    rw [beq_iff_eq, zr_list]
    exact ⟨fun h => ⟨h1, h⟩, fun h => h.2⟩
  · simp only [if_neg (fun h => h1 ((zr_list d1).1 h))]
    exact go false ⟨fun h => (by cases h), fun h => absurd h.1 h1⟩
/-- The order of two Decs. -/
def cmpN (g1 : Bool) (d1 : ByteArray) (e1 : Int) (g2 : Bool) (d2 : ByteArray) (e2 : Int) : Int :=
  if (g1 && !decide (d1 = zr)) = true then (if (g2 && !decide (d2 = zr)) = true then szV d2 e2 d1 e1 else -1) else if (g2 && !decide (d2 = zr)) = true then 1 else szV d1 e1 d2 e2
def cmpV (r1 r2 : Bool × ByteArray × Int × Int) : Int × Int :=
  if r1.2.2.2 = 0 ∧ r2.2.2.2 = 0 then (cmpN r1.1 r1.2.1 r1.2.2.1 r2.1 r2.2.1 r2.2.2.1, 0) else (0, 80)
theorem nrmV_nrm (neg : Bool) (s : ByteArray) (exp : Int) (h : (nrmV neg s exp).2.2.2 = 0) : Nrm (nrmV neg s exp).2.1 (nrmV neg s exp).2.2.1 := by
  by_cases g : okD neg s exp
  · rw [nrmV_y g]
    exact (nrm_facts g.1 g.2.2.2.1).2.1
  · rw [nrmV_n g] at h
    exact absurd h (by show ¬ (80 : Int) = 0; omega)
section
variable (n1 : Bool) (s1 : ByteArray) (p1 : Int) (n2 : Bool) (s2 : ByteArray) (p2 : Int) (hs1 : s1.size ≤ 140737488351232) (hs2 : s2.size ≤ 140737488351232)
include hs1 hs2
theorem cmp_s : Ans (fun k => scan_Cmp.f k n1 s1 p1 n2 s2 p2) (cmpV (nrmV n1 s1 p1) (nrmV n2 s2 p2)) := by
  obtain ⟨b1, x1, y1⟩ := nrmV_le n1 s1 p1 hs1
  obtain ⟨b2, x2, y2⟩ := nrmV_le n2 s2 p2 hs2
  unfold scan_Cmp.f
  refine Ans.bind (norm_s n1 s1 p1 hs1) ?_
  refine Ans.bind (norm_s n2 s2 p2 hs2) ?_
  generalize nrmV n1 s1 p1 = r1 at *
  generalize nrmV n2 s2 p2 = r2 at *
  obtain ⟨g1, d1, e1, q1⟩ := r1
  obtain ⟨g2, d2, e2, q2⟩ := r2
  simp only at b1 x1 y1 b2 x2 y2
  unfold cmpV
  simp only
  have bad : ¬ (q1 = 0 ∧ q2 = 0) → Ans (fun k => scan_Cmp.j0 k true g1 d1 e1 g2 d2 e2) (if q1 = 0 ∧ q2 = 0 then (cmpN g1 d1 e1 g2 d2 e2, 0) else (0, 80)) := by
    intro h
    rw [if_neg h]
    refine Ans.succ ?_
    simp only [scan_Cmp.j0, if_true]
    exact Ans.ret _
  by_cases h1 : q1 = 0
  · by_cases h2 : q2 = 0
    · rw [if_pos ⟨h1, h2⟩]
      simp only [if_pos h1, h2, bne_self_eq_false]
      refine Ans.succ ?_
      simp only [scan_Cmp.j0, Bool.false_eq_true, if_false, zr_list]
      refine Ans.bind (size_s g1 g2 b1 b2 x1 y1 x2 y2) ?_
      have hr := szV_range d1 e1 d2 e2
      have hn := szV_neg d1 e1 d2 e2
      have hz : d1 = zr → d2 = zr → szV d1 e1 d2 e2 = 0 := by
        intro h1 h2
        unfold szV
        rw [if_pos h1, if_pos h2]
      have hz1 : d1 = zr → d2 ≠ zr → szV d1 e1 d2 e2 = -1 := by
        intro h1 h2
        unfold szV
        rw [if_pos h1, if_neg h2]
      have hz2 : d1 ≠ zr → d2 = zr → szV d1 e1 d2 e2 = 1 := by
        intro h1 h2
        unfold szV
        rw [if_neg h1, if_pos h2]
      unfold cmpN
      have h3 : ∀ b, (b = true ↔ g1 = true ∧ d1 ≠ zr) → Ans (fun k => scan_Cmp.j3 k (szV d1 e1 d2 e2) b g2 d2 e2) (if b = true then ((-1 : Int), (0 : Int)) else if g2 = true then (if d2 = zr then (szV d1 e1 d2 e2, 0) else (1, 0)) else (szV d1 e1 d2 e2, 0)) := by
        intro b hb
        refine Ans.succ ?_
        simp only [scan_Cmp.j3, zr_list]
        cases b <;> cases g2 <;> by_cases h2 : d2 = zr <;> simp only [h2, if_true, if_false, Bool.false_eq_true] <;> exact Ans.ret _
      have h2' : ∀ b, Ans (fun k => scan_Cmp.j2 k (szV d1 e1 d2 e2) b g1 d1 e1 g2 d2 e2) (if b = true then (- szV d1 e1 d2 e2, (0 : Int)) else if (g1 && !decide (d1 = zr)) = true then ((-1 : Int), (0 : Int)) else if g2 = true then (if d2 = zr then (szV d1 e1 d2 e2, 0) else (1, 0)) else (szV d1 e1 d2 e2, 0)) := by
        intro b
        refine Ans.succ ?_
        simp only [scan_Cmp.j2]
        cases b
        · simp only [Bool.false_eq_true, if_false]
          cases g1
          · simp only [Bool.false_eq_true, if_false, Bool.false_and]
            exact h3 false (by simp)
          · simp only [if_true, Bool.true_and]
            have hb : (d1.toList != ([48] : List UInt8)) = !decide (d1 = zr) := by
              rw [bne, Bool.not_inj_iff, Bool.eq_iff_iff, beq_iff_eq, zr_list, decide_eq_true_iff]
            rw [hb]
            exact h3 _ (by simp)
        · simp only [if_true]
          rw [wrap_id (by omega) (by omega)]
          exact Ans.ret _
      have h1' : Ans (fun k => scan_Cmp.j1 k (szV d1 e1 d2 e2) false g1 d1 e1 g2 d2 e2) (if (g1 && g2) = true then (- szV d1 e1 d2 e2, (0 : Int)) else if (g1 && !decide (d1 = zr)) = true then ((-1 : Int), (0 : Int)) else if g2 = true then (if d2 = zr then (szV d1 e1 d2 e2, 0) else (1, 0)) else (szV d1 e1 d2 e2, 0)) := by
        refine Ans.succ ?_
        simp only [scan_Cmp.j1, Bool.false_eq_true, if_false]
        cases g1
        · simp only [Bool.false_eq_true, if_false, Bool.false_and]
          exact h2' false
        · simp only [if_true, Bool.true_and]
          exact h2' g2
      by_cases z1 : d1 = zr
      · by_cases z2 : d2 = zr
        · simp only [if_pos z1, (beq_iff_eq).2 ((zr_list d2).2 z2)]
          refine Ans.succ ?_
          simp only [scan_Cmp.j1, if_true, decide_eq_true z1, decide_eq_true z2, Bool.not_true, Bool.and_false, Bool.false_eq_true, if_false, hz z1 z2]
          exact Ans.ret _
        · simp only [if_pos z1, (beq_eq_false_iff_ne).2 (fun h => z2 ((zr_list d2).1 h))]
          refine (h1'.congr fun k => rfl) |> fun h => ?_
          have e := hz1 z1 z2
          rw [e] at h hn ⊢
          cases g1 <;> cases g2 <;> simpa [z1, z2, hn, e] using h
      · simp only [if_neg z1]
        by_cases z2 : d2 = zr
        · have e := hz2 z1 z2
          have h := h1'
          rw [e] at h hn ⊢
          cases g1 <;> cases g2 <;> simpa [z1, z2, hn, e] using h
        · have h := h1'
          cases g1 <;> cases g2 <;> simpa [z1, z2, hn] using h
    · simp only [if_pos h1]
      have : (q2 != 0) = true := by simpa using h2
      rw [this]
      exact bad (fun h => h2 h.2)
  · simp only [if_neg h1]
    exact bad (fun h => h1 h.1)

end
end Go.Proofs.YtcgjfckhnpimbaaDoor.Pl
