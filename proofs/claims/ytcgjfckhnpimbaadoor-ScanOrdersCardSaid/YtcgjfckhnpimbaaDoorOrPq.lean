/-
  Plain laws of the scan statements: zeros about a Dec's digits move nothing; ScanOrders answers true.
-/
import Derived.Test.YtcgjfckhnpimbaaDoorOrPo
import Derived.Test.YtcgjfckhnpimbaaDoorOrEScanx10h
set_option linter.unusedVariables false
set_option linter.unusedSimpArgs false
set_option linter.unusedSectionVars false
namespace Go.Proofs.YtcgjfckhnpimbaaDoor.Pl
open Go.RowKit Go.Proofs.YtcgjfckhnpimbaaDoorW.PrintWords Go.Proofs.YtcgjfckhnpimbaaDoor.X Go.Proofs.YtcgjfckhnpimbaaDoor.EScan
/-- Two zeros ahead, three behind. -/
def pad (s : ByteArray) : ByteArray := ((⟨#[48, 48]⟩ : ByteArray) ++ s) ++ (⟨#[48, 48, 48]⟩ : ByteArray)
theorem pad_list (s : ByteArray) : (pad s).data.toList = (48 : UInt8) :: 48 :: (s.data.toList ++ [48, 48, 48]) := by
  unfold pad
  simp [ByteArray.data_append]
theorem pad_size (s : ByteArray) : (pad s).size = s.size + 5 := by
  have h1 : (⟨#[48, 48]⟩ : ByteArray).size = 2 := rfl
  have h2 : (⟨#[48, 48, 48]⟩ : ByteArray).size = 3 := rfl
  unfold pad
  rw [ByteArray.size_append, ByteArray.size_append]
  omega
theorem pad_mid (s : ByteArray) {i : Int} (h0 : 0 ≤ i) (h : i < s.size) : bt (pad s) (i + 2) = bt s i := by
  obtain ⟨j, rfl⟩ : ∃ j : Nat, i = j := ⟨i.toNat, by omega⟩
  have hj : j < s.data.toList.length := by simpa using (show j < s.size by omega)
  have e1 : s.data.toList[j]? = some s.data.toList[j] := List.getElem?_eq_getElem hj
  have e2 : (pad s).data.toList[j + 2]? = some s.data.toList[j] := by
    rw [pad_list]
    simp only [List.getElem?_cons_succ]
    rw [List.getElem?_append_left hj]
    exact e1
  have := bt_list e2
  rw [bt_list e1, ← this]
  rfl
theorem pad_head (s : ByteArray) : bt (pad s) 0 = 48 ∧ bt (pad s) 1 = 48 := by
  have e1 : (pad s).data.toList[0]? = some 48 := by rw [pad_list]; rfl
  have e2 : (pad s).data.toList[1]? = some 48 := by rw [pad_list]; rfl
  exact ⟨bt_list e1, bt_list e2⟩
theorem pad_tail (s : ByteArray) {i : Int} (h0 : s.size ≤ i) (h : i < s.size + 3) : bt (pad s) (i + 2) = 48 := by
  obtain ⟨j, rfl⟩ : ∃ j : Nat, i = ((s.size + j : Nat) : Int) := ⟨(i - s.size).toNat, by omega⟩
  have hl : s.data.toList.length = s.size := by simp
  have e2 : (pad s).data.toList[s.size + j + 2]? = some 48 := by
    rw [pad_list]
    simp only [List.getElem?_cons_succ]
    rw [List.getElem?_append_right (by omega), hl, show s.size + j - s.size = j by omega]
    have : j = 0 ∨ j = 1 ∨ j = 2 := by omega
    rcases this with rfl | rfl | rfl <;> rfl
  have := bt_list e2
  rw [show ((s.size + j : Nat) : Int) + 2 = ((s.size + j + 2 : Nat) : Int) by omega, this]
  rfl
theorem pad_dig {s : ByteArray} (h : digEnd s 0 = s.size) : digEnd (pad s) 0 = (pad s).size := by
  have hz := pad_size s
  refine dig_of fun i h0 hi => ?_
  by_cases a : i < 2
  · obtain ⟨p0, p1⟩ := pad_head s
    have : i = 0 ∨ i = 1 := by omega
    rcases this with rfl | rfl
    · omega
    · omega
  · obtain ⟨j, rfl⟩ : ∃ j : Int, i = j + 2 := ⟨i - 2, by omega⟩
    by_cases b : j < s.size
    · rw [pad_mid s (by omega) b]
      exact dig_all h (by omega) b
    · rw [pad_tail s (by omega) (by omega)]
      omega
theorem pad_zHead (s : ByteArray) : ∀ i, i ≤ (s.size : Int) → 0 ≤ i → zHead (pad s) (i + 2) = if zHead s i = s.size then ((pad s).size : Int) else zHead s i + 2 := by
  have hz := pad_size s
  refine left_ind fun i hi ih h0 => ?_
  by_cases hlt : i < (s.size : Int)
  · by_cases e : bt s i = 48
    · rw [zHead_yes (zB_of hlt e), zHead_yes (s := pad s) (zB_of (by omega) ((pad_mid s h0 hlt).trans e)), show i + 2 + 1 = i + 1 + 2 by omega]
      exact ih (i + 1) (by omega) (by omega) (by omega)
    · rw [zHead_no (zB_ne e), zHead_no (s := pad s) (zB_ne (fun h => e ((pad_mid s h0 hlt).symm.trans h))), if_neg (by omega)]
  · rw [zHead_no (zB_out hlt), if_pos (by omega)]
    have hi' : i = s.size := by omega
    have t0 := pad_tail s (i := i) (by omega) (by omega)
    have t1 := pad_tail s (i := i + 1) (by omega) (by omega)
    have t2 := pad_tail s (i := i + 2) (by omega) (by omega)
    rw [zHead_yes (zB_of (by omega) t0), show i + 2 + 1 = i + 1 + 2 by omega, zHead_yes (zB_of (by omega) t1), show i + 1 + 2 + 1 = i + 2 + 2 by omega, zHead_yes (zB_of (by omega) t2), zHead_no (zB_out (by omega))]
    omega
theorem pad_zHead0 (s : ByteArray) : zHead (pad s) 0 = if zHead s 0 = s.size then ((pad s).size : Int) else zHead s 0 + 2 := by
  have hz := pad_size s
  obtain ⟨p0, p1⟩ := pad_head s
  rw [zHead_yes (zB_of (by omega) p0), show (0 : Int) + 1 = 1 by rfl, zHead_yes (zB_of (by omega) p1), show (1 : Int) + 1 = 0 + 2 by rfl]
  exact pad_zHead s 0 (by omega) (by omega)
theorem pad_zTail (s : ByteArray) (z : Int) (z0 : 0 ≤ z) (zn : bt s z ≠ 48) : ∀ j, 0 ≤ j → z < j → j ≤ s.size → zTail (pad s) (j + 2) = zTail s j + 2 := by
  refine down_ind fun j hj ih hzj hjs => ?_
  have e := pad_mid s (i := j - 1) (by omega) (by omega)
  rw [show j - 1 + 2 = j + 2 - 1 by omega] at e
  by_cases h : bt s (j - 1) = 48
  · rw [zTail_yes ⟨by omega, h⟩, zTail_yes (s := pad s) ⟨by omega, e.trans h⟩, show j + 2 - 1 = j - 1 + 2 by omega]
    have hne : z ≠ j - 1 := fun h' => zn (by rw [h']; exact h)
    exact ih (j - 1) (by omega) (by omega) (by omega) (by omega)
  · rw [zTail_no (fun h' => h h'.2), zTail_no (s := pad s) (fun h' => h (e.symm.trans h'.2))]
theorem pad_zTail0 (s : ByteArray) (z : Int) (z0 : 0 ≤ z) (zn : bt s z ≠ 48) (hz : z < s.size) : zTail (pad s) (pad s).size = zTail s s.size + 2 := by
  have t0 := pad_tail s (i := (s.size : Int)) (by omega) (by omega)
  have t1 := pad_tail s (i := (s.size : Int) + 1) (by omega) (by omega)
  have t2 := pad_tail s (i := (s.size : Int) + 2) (by omega) (by omega)
  rw [pad_size, show ((s.size + 5 : Nat) : Int) = s.size + 5 by omega,
    zTail_yes ⟨by omega, by rw [show (s.size : Int) + 5 - 1 = s.size + 2 + 2 by omega]; exact t2⟩, show (s.size : Int) + 5 - 1 = s.size + 4 by omega,
    zTail_yes ⟨by omega, by rw [show (s.size : Int) + 4 - 1 = s.size + 1 + 2 by omega]; exact t1⟩, show (s.size : Int) + 4 - 1 = s.size + 3 by omega,
    zTail_yes ⟨by omega, by rw [show (s.size : Int) + 3 - 1 = s.size + 2 by omega]; exact t0⟩, show (s.size : Int) + 3 - 1 = s.size + 2 by omega]
  exact pad_zTail s z z0 zn s.size (by omega) hz (Int.le_refl _)
theorem pad_ext (s : ByteArray) (a b : Nat) (hb : b ≤ s.size) : (pad s).extract (a + 2) (b + 2) = s.extract a b := by
  have hl : s.data.toList.length = s.size := by simp
  apply ByteArray.ext
  apply Array.ext'
  rw [ByteArray.data_extract, ByteArray.data_extract, Array.toList_extract, Array.toList_extract, pad_list]
  simp only [List.extract_eq_take_drop, List.drop_succ_cons]
  rw [show b + 2 - (a + 2) = b - a by omega]
  by_cases h : a ≤ b
  · rw [List.drop_append_of_le_length (by omega), List.take_append_of_le_length (by rw [List.length_drop]; omega)]
  · rw [show b - a = 0 by omega]
    rfl
theorem pad_nrm (neg : Bool) (s : ByteArray) (e : Int) : nrm neg (pad s) (e - 3) = nrm neg s e := by
  have hz := pad_size s
  have hr := zHead_range s 0 (by omega)
  unfold nrm
  rw [pad_zHead0]
  by_cases h : zHead s 0 = (s.size : Int)
  · rw [if_pos h, if_pos rfl, if_pos h]
  · have hzb : bt s (zHead s 0) ≠ 48 := fun g => by
      have := zHead_stop s 0 (by omega)
      rw [zB_of (by omega) g] at this
      cases this
    obtain ⟨t1, t2, t3, t4⟩ := zTail_spec s (zHead s 0) (by omega) hzb s.size (by omega) (by omega)
    rw [if_neg h, if_neg (by omega), if_neg h, pad_zTail0 s _ (by omega) hzb (by omega)]
    rw [show (zHead s 0 + 2).toNat = (zHead s 0).toNat + 2 by omega, show (zTail s s.size + 2).toNat = (zTail s s.size).toNat + 2 by omega, pad_ext s _ _ (by omega)]
    congr 2
    omega
theorem shift_nrm (neg : Bool) (s : ByteArray) (e K : Int) : (nrm neg s (e + K)).1 = (nrm neg s e).1 ∧ (nrm neg s (e + K)).2.1 = (nrm neg s e).2.1 ∧ (zHead s 0 ≠ s.size → (nrm neg s (e + K)).2.2 = (nrm neg s e).2.2 + K) := by
  unfold nrm
  by_cases h : zHead s 0 = (s.size : Int)
  · rw [if_pos h, if_pos h]
    exact ⟨rfl, rfl, fun g => absurd h g⟩
  · rw [if_neg h, if_neg h]
    refine ⟨rfl, rfl, fun _ => ?_⟩
    show e + K + _ - _ = e + _ - _ + K
    omega
theorem not_nrm (neg : Bool) (s : ByteArray) (e : Int) : nrm (!neg) s e = (!(nrm neg s e).1, (nrm neg s e).2.1, (nrm neg s e).2.2) := by
  unfold nrm
  split <;> rfl
theorem nrm_zr (neg : Bool) (s : ByteArray) (e : Int) (h : zHead s 0 = s.size) : (nrm neg s e).2.1 = zr := by
  unfold nrm
  rw [if_pos h]
  rfl
theorem cmp_g (n1 : Bool) (s1 : ByteArray) (p1 : Int) (n2 : Bool) (s2 : ByteArray) (p2 : Int) (r1 r2 : Bool × ByteArray × Int × Int) (N1 : Ans (fun k => scan_Norm.f k n1 s1 p1) r1) (N2 : Ans (fun k => scan_Norm.f k n2 s2 p2) r2)
    (b1 : r1.2.1.size ≤ 140737488351232) (x1 : -1152921504606846976 ≤ r1.2.2.1) (y1 : r1.2.2.1 ≤ 1152921504606846976) (b2 : r2.2.1.size ≤ 140737488351232) (x2 : -1152921504606846976 ≤ r2.2.2.1) (y2 : r2.2.2.1 ≤ 1152921504606846976) :
    Ans (fun k => scan_Cmp.f k n1 s1 p1 n2 s2 p2) (cmpV r1 r2) := by
  unfold scan_Cmp.f
  refine Ans.bind N1 ?_
  refine Ans.bind N2 ?_
  clear N1 N2
  obtain ⟨g1, d1, e1, q1⟩ := r1
  obtain ⟨g2, d2, e2, q2⟩ := r2
  simp only at b1 x1 y1 b2 x2 y2
  unfold cmpV
  simp only
  have bad : ¬ (q1 = 0 ∧ q2 = 0) → Ans (fun k => scan_Cmp.j0 k true g1 d1 e1 g2 d2 e2) (if q1 = 0 ∧ q2 = 0 then (cmpN g1 d1 e1 g2 d2 e2, 0) else (0, 80)) := by
    intro h
    rw [if_neg h]
    refine Ans.succ ?_
    simp only [scan_Cmp.j0, if_true]
    exact Ans.ret _
  by_cases h1 : q1 = 0
  · by_cases h2 : q2 = 0
    · rw [if_pos ⟨h1, h2⟩]
      simp only [if_pos h1, h2, bne_self_eq_false]
      refine Ans.succ ?_
      simp only [scan_Cmp.j0, Bool.false_eq_true, if_false, zr_list]
      refine Ans.bind (size_s g1 g2 b1 b2 x1 y1 x2 y2) ?_
      have hr := szV_range d1 e1 d2 e2
      have hn := szV_neg d1 e1 d2 e2
      have hz : d1 = zr → d2 = zr → szV d1 e1 d2 e2 = 0 := by
        intro h1 h2
        unfold szV
        rw [if_pos h1, if_pos h2]
      have hz1 : d1 = zr → d2 ≠ zr → szV d1 e1 d2 e2 = -1 := by
        intro h1 h2
        unfold szV
        rw [if_pos h1, if_neg h2]
      have hz2 : d1 ≠ zr → d2 = zr → szV d1 e1 d2 e2 = 1 := by
        intro h1 h2
        unfold szV
        rw [if_neg h1, if_pos h2]
      unfold cmpN
      have h3 : ∀ b, (b = true ↔ g1 = true ∧ d1 ≠ zr) → Ans (fun k => scan_Cmp.j3 k (szV d1 e1 d2 e2) b g2 d2 e2) (if b = true then ((-1 : Int), (0 : Int)) else if g2 = true then (if d2 = zr then (szV d1 e1 d2 e2, 0) else (1, 0)) else (szV d1 e1 d2 e2, 0)) := by
        intro b hb
        refine Ans.succ ?_
        simp only [scan_Cmp.j3, zr_list]
        cases b <;> cases g2 <;> by_cases h2 : d2 = zr <;> simp only [h2, if_true, if_false, Bool.false_eq_true] <;> exact Ans.ret _
      have h2' : ∀ b, Ans (fun k => scan_Cmp.j2 k (szV d1 e1 d2 e2) b g1 d1 e1 g2 d2 e2) (if b = true then (- szV d1 e1 d2 e2, (0 : Int)) else if (g1 && !decide (d1 = zr)) = true then ((-1 : Int), (0 : Int)) else if g2 = true then (if d2 = zr then (szV d1 e1 d2 e2, 0) else (1, 0)) else (szV d1 e1 d2 e2, 0)) := by
        intro b
        refine Ans.succ ?_
        simp only [scan_Cmp.j2]
        cases b
        · simp only [Bool.false_eq_true, if_false]
          cases g1
          · simp only [Bool.false_eq_true, if_false, Bool.false_and]
            exact h3 false (by simp)
          · simp only [if_true, Bool.true_and]
            have hb : (d1.toList != ([48] : List UInt8)) = !decide (d1 = zr) := by
              rw [bne, Bool.not_inj_iff, Bool.eq_iff_iff, beq_iff_eq, zr_list, decide_eq_true_iff]
            rw [hb]
            exact h3 _ (by simp)
        · simp only [if_true]
          rw [wrap_id (by omega) (by omega)]
          exact Ans.ret _
      have h1' : Ans (fun k => scan_Cmp.j1 k (szV d1 e1 d2 e2) false g1 d1 e1 g2 d2 e2) (if (g1 && g2) = true then (- szV d1 e1 d2 e2, (0 : Int)) else if (g1 && !decide (d1 = zr)) = true then ((-1 : Int), (0 : Int)) else if g2 = true then (if d2 = zr then (szV d1 e1 d2 e2, 0) else (1, 0)) else (szV d1 e1 d2 e2, 0)) := by
        refine Ans.succ ?_
        simp only [scan_Cmp.j1, Bool.false_eq_true, if_false]
        cases g1
        · simp only [Bool.false_eq_true, if_false, Bool.false_and]
          exact h2' false
        · simp only [if_true, Bool.true_and]
          exact h2' g2
      by_cases z1 : d1 = zr
      · by_cases z2 : d2 = zr
        · simp only [if_pos z1, (beq_iff_eq).2 ((zr_list d2).2 z2)]
          refine Ans.succ ?_
          simp only [scan_Cmp.j1, if_true, decide_eq_true z1, decide_eq_true z2, Bool.not_true, Bool.and_false, Bool.false_eq_true, if_false, hz z1 z2]
          exact Ans.ret _
        · simp only [if_pos z1, (beq_eq_false_iff_ne).2 (fun h => z2 ((zr_list d2).1 h))]
          refine (h1'.congr fun k => rfl) |> fun h => ?_
          have e := hz1 z1 z2
          rw [e] at h hn ⊢
          cases g1 <;> cases g2 <;> simpa [z1, z2, hn, e] using h
      · simp only [if_neg z1]
        by_cases z2 : d2 = zr
        · have e := hz2 z1 z2
          have h := h1'
          rw [e] at h hn ⊢
          cases g1 <;> cases g2 <;> simpa [z1, z2, hn, e] using h
        · have h := h1'
          cases g1 <;> cases g2 <;> simpa [z1, z2, hn] using h
    · simp only [if_pos h1]
      have : (q2 != 0) = true := by simpa using h2
      rw [this]
      exact bad (fun h => h2 h.2)
  · simp only [if_neg h1]
    exact bad (fun h => h1 h.1)
/-- Cmp of two Decs that Norm takes. -/
theorem cmp_ok (n1 : Bool) (s1 : ByteArray) (p1 : Int) (n2 : Bool) (s2 : ByteArray) (p2 : Int) (h1 : s1.size ≤ 281474976710656) (h2 : s2.size ≤ 281474976710656) (o1 : okD n1 s1 p1) (o2 : okD n2 s2 p2)
    {g1 g2 : Bool} {d1 d2 : ByteArray} {e1 e2 : Int} (q1 : nrm n1 s1 p1 = (g1, d1, e1)) (q2 : nrm n2 s2 p2 = (g2, d2, e2)) (b1 : d1.size ≤ 140737488351232) (b2 : d2.size ≤ 140737488351232) :
    Ans (fun k => scan_Cmp.f k n1 s1 p1 n2 s2 p2) (cmpN g1 d1 e1 g2 d2 e2, 0) := by
  have N1 := norm_sb n1 s1 p1 h1
  have N2 := norm_sb n2 s2 p2 h2
  have f1 := (nrm_facts (neg := n1) (exp := p1) o1.1 o1.2.2.2.1).2.2
  have f2 := (nrm_facts (neg := n2) (exp := p2) o2.1 o2.2.2.2.1).2.2
  have l1 := o1.2.2.2.2
  have l2 := o2.2.2.2.2
  have m1 := o1.2.1
  have m2 := o2.2.1
  rw [nrmV_y o1, q1] at N1
  rw [nrmV_y o2, q2] at N2
  rw [q1] at f1 l1
  rw [q2] at f2 l2
  simp only at N1 N2 f1 f2 l1 l2
  have := cmp_g n1 s1 p1 n2 s2 p2 _ _ N1 N2 b1 (by simp only; omega) l1 b2 (by simp only; omega) l2
  unfold cmpV at this
  simpa using this
theorem ord_c : Ans (fun k => scan_Cmp.f k false (⟨#[57]⟩ : ByteArray) 1 false (⟨#[49, 48, 48]⟩ : ByteArray) 0) ((-1 : Int), (0 : Int)) := by
  have a1 : zHead (⟨#[57]⟩ : ByteArray) 0 = 0 := zHead_no (by decide)
  have a2 : zTail (⟨#[57]⟩ : ByteArray) ((⟨#[57]⟩ : ByteArray).size : Nat) = 1 := by
    rw [show (((⟨#[57]⟩ : ByteArray).size : Nat) : Int) = 1 by rfl, zTail_no (by decide)]
  have b1 : zHead (⟨#[49, 48, 48]⟩ : ByteArray) 0 = 0 := zHead_no (by decide)
  have b2 : zTail (⟨#[49, 48, 48]⟩ : ByteArray) ((⟨#[49, 48, 48]⟩ : ByteArray).size : Nat) = 1 := by
    rw [show (((⟨#[49, 48, 48]⟩ : ByteArray).size : Nat) : Int) = 3 by rfl, zTail_yes (by decide), show (3 : Int) - 1 = 2 by rfl, zTail_yes (by decide), show (2 : Int) - 1 = 1 by rfl, zTail_no (by decide)]
  have n1 : nrm false (⟨#[57]⟩ : ByteArray) 1 = (false, (⟨#[57]⟩ : ByteArray), 1) := by
    unfold nrm
    rw [a1, a2, if_neg (by decide)]
    decide
  have n2 : nrm false (⟨#[49, 48, 48]⟩ : ByteArray) 0 = (false, (⟨#[49]⟩ : ByteArray), 2) := by
    unfold nrm
    rw [b1, b2, if_neg (by decide)]
    decide
  have d1 : digEnd (⟨#[57]⟩ : ByteArray) 0 = (⟨#[57]⟩ : ByteArray).size := by
    refine digEnd_eq (Int.le_refl _) (by decide) 0 (by decide) fun j h0 hj => ?_
    have hz : (((⟨#[57]⟩ : ByteArray).size : Nat) : Int) = 1 := rfl
    have : j = 0 := by omega
    rcases this with rfl
    decide
  have d2 : digEnd (⟨#[49, 48, 48]⟩ : ByteArray) 0 = (⟨#[49, 48, 48]⟩ : ByteArray).size := by
    refine digEnd_eq (Int.le_refl _) (by decide) 0 (by decide) fun j h0 hj => ?_
    have hz : (((⟨#[49, 48, 48]⟩ : ByteArray).size : Nat) : Int) = 3 := rfl
    have : j = 0 ∨ j = 1 ∨ j = 2 := by omega
    rcases this with rfl | rfl | rfl <;> decide
  have := cmp_ok _ _ _ _ _ _ (by decide) (by decide) ⟨by decide, by decide, by decide, d1, by rw [n1]; decide⟩ ⟨by decide, by decide, by decide, d2, by rw [n2]; decide⟩ n1 n2 (by decide) (by decide)
  have e : cmpN false (⟨#[57]⟩ : ByteArray) 1 false (⟨#[49]⟩ : ByteArray) 2 = -1 := by decide
  rw [e] at this
  exact this
theorem ord_j3 (x10 x14 x16 : Int) (g1 : Bool) (d1 : ByteArray) (e1 : Int) (g2 : Bool) (d2 : ByteArray) (e2 : Int) (tr : x10 ≤ 0 → x14 ≤ 0 → x16 ≤ 0 ∧ (x16 = 0 → x10 = 0 ∧ x14 = 0))
    (z : x10 = 0 ↔ ((g1 = g2 ∧ d1 = d2 ∧ e1 = e2) ∨ (d1 = zr ∧ d2 = zr))) : Ans (fun k => scOrd.j3 k x10 x14 x16 false g1 d1 e1 g2 d2 e2) true := by
  refine Ans.succ ?_
  have hE : (if d1.toList = ([48] : List UInt8) then (if (g1 == g2 && (d1.toList == d2.toList && (e1 == e2))) = true then (some ((x10 == 0) == true)) else (some ((x10 == 0) == (d2.toList == ([48] : List UInt8))))) else (if (g1 == g2 && (d1.toList == d2.toList && (e1 == e2))) = true then (some ((x10 == 0) == true)) else (some ((x10 == 0) == false)))) = some true := by
    have c1 : (g1 == g2 && (d1.toList == d2.toList && (e1 == e2))) = decide (g1 = g2 ∧ d1 = d2 ∧ e1 = e2) := by
      rw [Bool.eq_iff_iff]
      simp [list_inj]
    have c2 : (d2.toList == ([48] : List UInt8)) = decide (d2 = zr) := by
      rw [Bool.eq_iff_iff, beq_iff_eq, zr_list, decide_eq_true_iff]
    have c3 : (x10 == 0) = decide (x10 = 0) := by
      rw [Bool.eq_iff_iff, beq_iff_eq, decide_eq_true_iff]
    rw [c1, c2, c3]
    simp only [zr_list, decide_eq_true_iff]
    by_cases a : g1 = g2 ∧ d1 = d2 ∧ e1 = e2
    · rw [decide_eq_true (z.2 (.inl a))]
      simp only [if_pos a]
      split <;> rfl
    · rw [if_neg a, if_neg a]
      by_cases b1 : d1 = zr
      · rw [if_pos b1]
        by_cases b2 : d2 = zr
        · rw [decide_eq_true (z.2 (.inr ⟨b1, b2⟩)), decide_eq_true b2]
          rfl
        · rw [decide_eq_false b2, decide_eq_false (fun h => (z.1 h).elim a fun g => b2 g.2)]
          rfl
      · rw [if_neg b1, decide_eq_false (fun h => (z.1 h).elim a fun g => b1 g.1)]
        rfl
  simp only [scOrd.j3, Bool.false_eq_true, if_false, hE]
  by_cases h1 : x10 ≤ 0
  · simp only [if_pos h1]
    by_cases h2 : x14 ≤ 0
    · simp only [if_pos h2]
      obtain ⟨t1, t2⟩ := tr h1 h2
      simp only [if_neg (show ¬ x16 > 0 by omega)]
      by_cases h3 : x16 = 0
      · obtain ⟨u1, u2⟩ := t2 h3
        simp only [if_pos h3, if_pos u1, if_pos u2]
        exact Ans.ret _
      · simp only [if_neg h3]
        exact Ans.ret _
    · simp only [if_neg h2]
      exact Ans.ret _
  · simp only [if_neg h1]
    exact Ans.ret _
theorem scanOrders_true (ga : Bool) (sa : ByteArray) (pa : Int) (gb : Bool) (sb : ByteArray) (pb : Int) (gc : Bool) (sc : ByteArray) (pc : Int) (ha : sa.size ≤ 140737488351232) (hb : sb.size ≤ 140737488351232) (hc : sc.size ≤ 140737488351232) :
    Ans (fun k => scOrd.f k ga sa pa gb sb pb gc sc pc) true := by
  have far : Ans (fun k => scOrd.j1 k false ga sa pa gb sb pb gc sc pc) true := by
    refine Ans.succ ?_
    simp only [scOrd.j1, Bool.false_eq_true, if_false]
    exact Ans.ret _
  have near : okD ga sa pa → okD gb sb pb → okD gc sc pc → pa < 576460752303423488 → pb < 576460752303423488 → pc < 576460752303423488 → pa > -576460752303423488 → pb > -576460752303423488 → pc > -576460752303423488 →
      Ans (fun k => scOrd.j1 k true ga sa pa gb sb pb gc sc pc) true := by
    intro oa ob oc u1 u2 u3 v1 v2 v3
    have fa := nrm_facts (neg := ga) (exp := pa) oa.1 oa.2.2.2.1
    have fb := nrm_facts (neg := gb) (exp := pb) ob.1 ob.2.2.2.1
    have fc := nrm_facts (neg := gc) (exp := pc) oc.1 oc.2.2.2.1
    obtain ⟨ma1, ma2, ma3⟩ := shift_nrm ga sa pa 288230376151711744
    obtain ⟨mb1, mb2, mb3⟩ := shift_nrm gb sb pb 288230376151711744
    have ta := not_nrm ga sa pa
    have tb := not_nrm gb sb pb
    have wa := pad_nrm ga sa pa
    have za := nrm_zr ga sa pa
    have zb := nrm_zr gb sb pb
    have la := oa.2.2.2.2
    have lb := ob.2.2.2.2
    have lc := oc.2.2.2.2
    have na := nrmV_y oa
    have nb := nrmV_y ob
    rcases ea : nrm ga sa pa with ⟨g1, d1, e1⟩
    rcases eb : nrm gb sb pb with ⟨g2, d2, e2⟩
    rcases ec : nrm gc sc pc with ⟨g3, d3, e3⟩
    rcases ea' : nrm ga sa (pa + 288230376151711744) with ⟨g1', d1', e1'⟩
    rcases eb' : nrm gb sb (pb + 288230376151711744) with ⟨g2', d2', e2'⟩
    rw [ea] at fa ma1 ma2 ma3 ta wa za la na
    rw [eb] at fb mb1 mb2 mb3 tb zb lb nb
    rw [ec] at fc lc
    rw [ea'] at ma1 ma2 ma3
    rw [eb'] at mb1 mb2 mb3
    simp only at fa fb fc ma1 ma2 ma3 mb1 mb2 mb3 ta tb wa za zb la lb lc na nb
    obtain ⟨_, _, fa3, fa4⟩ := fa
    obtain ⟨_, _, fb3, fb4⟩ := fb
    obtain ⟨_, _, fc3, fc4⟩ := fc
    subst ma1 ma2 mb1 mb2
    have a1 : (d1' ≠ zr → e1' = e1 + 288230376151711744) := fun h => ma3 fun g => h (za g)
    have a2 : (d2' ≠ zr → e2' = e2 + 288230376151711744) := fun h => mb3 fun g => h (zb g)
    have y1 : e1' ≤ 1152921504606846976 := by
      have := (nrm_facts (neg := ga) (exp := pa + 288230376151711744) oa.1 oa.2.2.2.1).2.2.2
      rw [ea'] at this
      simp only at this
      omega
    have y2 : e2' ≤ 1152921504606846976 := by
      have := (nrm_facts (neg := gb) (exp := pb + 288230376151711744) ob.1 ob.2.2.2.1).2.2.2
      rw [eb'] at this
      simp only at this
      omega
    have oa' : okD ga sa (pa + 288230376151711744) := ⟨oa.1, by omega, by omega, oa.2.2.2.1, by rw [ea']; exact y1⟩
    have ob' : okD gb sb (pb + 288230376151711744) := ⟨ob.1, by omega, by omega, ob.2.2.2.1, by rw [eb']; exact y2⟩
    have oan : okD (!ga) sa pa := ⟨oa.1, oa.2.1, oa.2.2.1, oa.2.2.2.1, by rw [ta]; exact la⟩
    have obn : okD (!gb) sb pb := ⟨ob.1, ob.2.1, ob.2.2.1, ob.2.2.2.1, by rw [tb]; exact lb⟩
    have hz := pad_size sa
    have oap : okD ga (pad sa) (pa - 3) := ⟨by omega, by omega, by omega, pad_dig oa.2.2.2.1, by rw [wa]; exact la⟩
    have A1 := cmp_ok ga sa pa gb sb pb (by omega) (by omega) oa ob ea eb (by omega) (by omega)
    have A2 := cmp_ok gb sb pb ga sa pa (by omega) (by omega) ob oa eb ea (by omega) (by omega)
    have A3 := cmp_ok gb sb pb gc sc pc (by omega) (by omega) ob oc eb ec (by omega) (by omega)
    have A4 := cmp_ok ga sa pa gc sc pc (by omega) (by omega) oa oc ea ec (by omega) (by omega)
    have A5 := cmp_ok ga sa (pa + 288230376151711744) gb sb (pb + 288230376151711744) (by omega) (by omega) oa' ob' ea' eb' (by omega) (by omega)
    have A6 := cmp_ok (!ga) sa pa (!gb) sb pb (by omega) (by omega) oan obn ta tb (by omega) (by omega)
    have A7 := cmp_ok ga (pad sa) (pa - 3) gb sb pb (by omega) (by omega) oap ob wa eb (by omega) (by omega)
    rw [cmpN_neg g1' d1' e1 g2' d2' e2] at A2
    rw [cmpN_shift g1' d1' e1 g2' d2' e2 288230376151711744 e1' e2' a1 a2] at A5
    rw [cmpN_not] at A6
    have N1 := norm_sb ga sa pa (by omega)
    have N2 := norm_sb gb sb pb (by omega)
    rw [na] at N1
    rw [nb] at N2
    have hr := cmpN_range g1' d1' e1 g2' d2' e2
    have tr := cmpN_tr g1' d1' e1 g2' d2' e2 g3 d3 e3
    have zz := cmpN_zero g1' d1' e1 g2' d2' e2
    generalize cmpN g1' d1' e1 g2' d2' e2 = ab at *
    generalize cmpN g2' d2' e2 g3 d3 e3 = bc at *
    generalize cmpN g1' d1' e1 g3 d3 e3 = ac at *
    have j3 := ord_j3 ab bc ac g1' d1' e1 g2' d2' e2 tr zz
    have j2 : Ans (fun k => scOrd.j2 k ab (-ab) bc ac ab (-ab) ab ((0 : Int) != 0) g1' d1' e1 g2' d2' e2) true := by
      refine Ans.succ ?_
      simp only [scOrd.j2, bne_self_eq_false, Bool.false_eq_true, if_false, if_neg (show ¬ ab < -1 by omega), if_neg (show ¬ ab > 1 by omega), wrap_id (x := -ab) (by omega) (by omega), if_true]
      exact j3
    refine Ans.succ ?_
    simp only [scOrd.j1, if_true, abacuslaw08_moved.f, abacuslaw08_turned.f, Option.bind_some, wrap_id (x := pa + 288230376151711744) (by omega) (by omega), wrap_id (x := pb + 288230376151711744) (by omega) (by omega)]
    refine Ans.bind A1 ?_
    refine Ans.bind A2 ?_
    refine Ans.bind A3 ?_
    refine Ans.bind A4 ?_
    refine Ans.bind A5 ?_
    refine Ans.bind A6 ?_
    have hq : ((⟨#[48, 48]⟩ : ByteArray) ++ sa).size = 2 + sa.size := by
      rw [ByteArray.size_append]
      rfl
    simp only [if_pos (show 2 + sa.size ≤ 9223372036854775807 by omega), if_pos (show ((⟨#[48, 48]⟩ : ByteArray) ++ sa).size + 3 ≤ 9223372036854775807 by omega), wrap_id (x := pa - 3) (by omega) (by omega)]
    refine Ans.bind (show Ans (fun k => scan_Cmp.f k ga (((⟨#[48, 48]⟩ : ByteArray) ++ sa) ++ (⟨#[48, 48, 48]⟩ : ByteArray)) (pa - 3) gb sb pb) (ab, 0) from A7) ?_
    refine Ans.bind N1 ?_
    refine Ans.bind N2 ?_
    simp only [if_true]
    exact j2
  unfold scOrd.f
  refine Ans.bind ord_c ?_
  simp only [if_true, bne_self_eq_false]
  refine Ans.succ ?_
  simp only [scOrd.j0, Bool.false_eq_true, if_false]
  refine Ans.bind (is_t ga sa pa ha) ?_
  by_cases oa : okD ga sa pa
  · simp only [decide_eq_true oa, if_true]
    refine Ans.bind (is_t gb sb pb hb) ?_
    by_cases ob : okD gb sb pb
    · simp only [decide_eq_true ob, if_true]
      refine Ans.bind (is_t gc sc pc hc) ?_
      by_cases oc : okD gc sc pc
      · simp only [decide_eq_true oc, if_true]
        by_cases u1 : pa < 576460752303423488
        · simp only [if_pos u1]
          by_cases u2 : pb < 576460752303423488
          · simp only [if_pos u2]
            by_cases u3 : pc < 576460752303423488
            · simp only [if_pos u3]
              by_cases v1 : pa > -576460752303423488
              · simp only [if_pos v1]
                by_cases v2 : pb > -576460752303423488
                · simp only [if_pos v2]
                  by_cases v3 : pc > -576460752303423488
                  · simp only [decide_eq_true v3]
                    exact near oa ob oc u1 u2 u3 v1 v2 v3
                  · simp only [decide_eq_false v3]
                    exact far
                · simp only [if_neg v2]
                  exact far
              · simp only [if_neg v1]
                exact far
            · simp only [if_neg u3]
              exact far
          · simp only [if_neg u2]
            exact far
        · simp only [if_neg u1]
          exact far
      · simp only [decide_eq_false oc, Bool.false_eq_true, if_false]
        exact far
    · simp only [decide_eq_false ob, Bool.false_eq_true, if_false]
      exact far
  · simp only [decide_eq_false oa, Bool.false_eq_true, if_false]
    exact far
end Go.Proofs.YtcgjfckhnpimbaaDoor.Pl
