/-
  Plain laws of the scan statements: a text and its beginnings; ScanLongest answers true, whatever the text (of at most 2^47 bytes).
-/
import Derived.Test.YtcgjfckhnpimbaaDoorP
import Derived.Test.YtcgjfckhnpimbaaDoorEScanx29
set_option linter.unusedVariables false
set_option linter.unusedSimpArgs false
namespace Go.Proofs.YtcgjfckhnpimbaaDoor.Pl
open Go.RowKit Go.Proofs.YtcgjfckhnpimbaaDoorW.PrintWords Go.Proofs.YtcgjfckhnpimbaaDoor.X Go.Proofs.YtcgjfckhnpimbaaDoor.EScan

/-- Where an exponent's digits begin, if the letter stands at i. -/
def jE (s : ByteArray) (i : Int) : Int := if oneB s (i + 1) 43 45 = true then i + 1 + 1 else i + 1
theorem jE_gt (s : ByteArray) (i : Int) : i < jE s i := by
  unfold jE
  split <;> omega
theorem tEnd_y {s : ByteArray} {i : Int} (h : oneB s i 101 69 = true) (h2 : dgB s (jE s i) = true) : tEnd s i = digEnd s (jE s i) := by
  unfold jE at h2 ⊢
  unfold tEnd
  rw [if_pos h, if_pos h2]
theorem tEnd_n {s : ByteArray} {i : Int} (h : ¬ (oneB s i 101 69 = true ∧ dgB s (jE s i) = true)) : tEnd s i = i := by
  unfold jE at h
  unfold tEnd
  by_cases h1 : oneB s i 101 69 = true
  · rw [if_pos h1, if_neg (fun h2 => h ⟨h1, h2⟩)]
  · rw [if_neg h1]
section
variable (s : ByteArray) (x : Nat) (hx : x ≤ s.size)
include hx
theorem pre_size : (s.extract 0 x).size = x := by
  rw [ext_size hx]
  rfl
theorem bt_pre {i : Int} (h0 : 0 ≤ i) (h : i < x) : bt (s.extract 0 x) i = bt s i := by
  rw [bt_ext h0 (by omega) hx]
  congr 1
  omega
theorem dg_pre {i : Int} (h0 : 0 ≤ i) (h : i < x) : dgB (s.extract 0 x) i = dgB s i := by
  unfold dgB
  rw [bt_pre s x hx h0 h, pre_size s x hx, decide_eq_true (show i < (x : Int) from h), decide_eq_true (show i < (s.size : Int) by omega)]
theorem one_pre {i a b : Int} (h0 : 0 ≤ i) (h : i < x) : oneB (s.extract 0 x) i a b = oneB s i a b := by
  unfold oneB
  rw [bt_pre s x hx h0 h, pre_size s x hx, decide_eq_true (show i < (x : Int) from h), decide_eq_true (show i < (s.size : Int) by omega)]
theorem bl_pre {i : Int} (h0 : 0 ≤ i) (h : i < x) : blB (s.extract 0 x) i = blB s i := by
  unfold blB
  rw [bt_pre s x hx h0 h, pre_size s x hx, decide_eq_true (show i < (x : Int) from h), decide_eq_true (show i < (s.size : Int) by omega)]
theorem dig_pre : ∀ i, i ≤ (x : Int) → 0 ≤ i → digEnd (s.extract 0 x) i = min (digEnd s i) x := by
  refine left_ind fun i hi ih h0 => ?_
  by_cases hlt : i < x
  · cases h : dgB s i
    · rw [digEnd_no h, digEnd_no ((dg_pre s x hx h0 hlt).trans h)]
      omega
    · rw [digEnd_yes h, digEnd_yes ((dg_pre s x hx h0 hlt).trans h)]
      exact ih (i + 1) (by omega) (by omega) (by omega)
  · rw [digEnd_no (dg_out (by rw [pre_size s x hx]; exact hlt))]
    have := digEnd_range s i (by omega)
    omega
theorem blE_pre : ∀ i, i ≤ (x : Int) → 0 ≤ i → blEnd (s.extract 0 x) i = min (blEnd s i) x := by
  refine left_ind fun i hi ih h0 => ?_
  by_cases hlt : i < x
  · cases h : blB s i
    · rw [blEnd_no h, blEnd_no ((bl_pre s x hx h0 hlt).trans h)]
      omega
    · rw [blEnd_yes h, blEnd_yes ((bl_pre s x hx h0 hlt).trans h)]
      exact ih (i + 1) (by omega) (by omega) (by omega)
  · rw [blEnd_no (blB_out (by rw [pre_size s x hx]; exact hlt))]
    have := blEnd_range s i (by omega)
    omega
theorem jE_pre {i : Int} (h0 : 0 ≤ i) (h : i + 1 < x) : jE (s.extract 0 x) i = jE s i := by
  unfold jE
  rw [one_pre s x hx (by omega) h]
theorem tE_ge {i : Int} (h0 : 0 ≤ i) (hi : i ≤ x) (h : tEnd (s.extract 0 x) i = x) : (x : Int) ≤ tEnd s i := by
  have hz := pre_size s x hx
  by_cases hp : oneB (s.extract 0 x) i 101 69 = true ∧ dgB (s.extract 0 x) (jE (s.extract 0 x) i) = true
  · have h1 := oneB_lt hp.1
    have h2 := dgB_lt hp.2
    have h3 := jE_gt (s.extract 0 x) i
    rw [tEnd_y hp.1 hp.2] at h
    rw [hz] at h1 h2
    have e := jE_pre s x hx h0 (by omega)
    rw [e] at h h2
    have g2 := hp.2
    rw [e, dg_pre s x hx (by omega) h2] at g2
    rw [tEnd_y ((one_pre s x hx h0 h1).symm.trans hp.1) g2]
    rw [dig_pre s x hx _ (by omega) (by omega)] at h
    omega
  · rw [tEnd_n hp] at h
    have := tEnd_range s (i := i) (by omega)
    omega
theorem tE_pre {i : Int} (h0 : 0 ≤ i) (hi : i ≤ x) (h : tEnd s i = x) : tEnd (s.extract 0 x) i = x := by
  have hz := pre_size s x hx
  by_cases hp : oneB s i 101 69 = true ∧ dgB s (jE s i) = true
  · rw [tEnd_y hp.1 hp.2] at h
    have h3 := jE_gt s i
    have h4 := dgB_lt hp.2
    have h5 := digEnd_range s (jE s i + 1) (by omega)
    rw [← digEnd_yes hp.2] at h5
    have e := jE_pre s x hx h0 (by omega)
    rw [tEnd_y ((one_pre s x hx h0 (by omega)).trans hp.1) (by rw [e, dg_pre s x hx (by omega) (by omega)]; exact hp.2), e, dig_pre s x hx _ (by omega) (by omega)]
    omega
  · rw [tEnd_n hp] at h
    by_cases hp' : oneB (s.extract 0 x) i 101 69 = true ∧ dgB (s.extract 0 x) (jE (s.extract 0 x) i) = true
    · have h1 := oneB_lt hp'.1
      rw [hz] at h1
      omega
    · rw [tEnd_n hp']
      exact h
theorem hE_ge {k i : Int} (h0 : 0 ≤ i) (hi : i ≤ x) (hk : k < x) (h : hEnd (s.extract 0 x) k i = x) : (x : Int) ≤ hEnd s k i := by
  have hz := pre_size s x hx
  unfold hEnd at h
  cases hd : dgB (s.extract 0 x) i
  · simp only [hd, Bool.false_eq_true, if_false] at h
    cases hp : oneB (s.extract 0 x) i 46 46
    · simp only [hp, Bool.false_eq_true, if_false] at h
      omega
    · simp only [hp, if_true] at h
      cases hd2 : dgB (s.extract 0 x) (i + 1)
      · simp only [hd2, Bool.false_eq_true, if_false] at h
        omega
      · simp only [hd2, if_true] at h
        have h1 := dgB_lt hd2
        rw [hz] at h1
        unfold hEnd
        rw [dg_pre s x hx h0 (by omega)] at hd
        rw [one_pre s x hx h0 (by omega)] at hp
        rw [dg_pre s x hx (by omega) h1] at hd2
        simp only [hd, hp, hd2, Bool.false_eq_true, if_false, if_true]
        have hr := digEnd_range s (i + 1) (by omega)
        have ht := tEnd_range s (i := digEnd s (i + 1)) (by omega)
        rw [dig_pre s x hx _ (by omega) (by omega)] at h
        by_cases hle : digEnd s (i + 1) ≤ x
        · rw [show min (digEnd s (i + 1)) (x : Int) = digEnd s (i + 1) by omega] at h
          exact tE_ge s x hx (by omega) hle h
        · omega
  · simp only [hd, if_true] at h
    have h1 := dgB_lt hd
    rw [hz] at h1
    have hd' := hd
    rw [dg_pre s x hx h0 h1] at hd'
    unfold hEnd
    simp only [hd', if_true]
    have hr := digEnd_range s i (by omega)
    rw [dig_pre s x hx _ (by omega) (by omega)] at h
    have hany : (x : Int) ≤ digEnd s i → (x : Int) ≤ (if oneB s (digEnd s i) 46 46 = true then tEnd s (digEnd s (digEnd s i + 1)) else tEnd s (digEnd s i)) := by
      intro hge
      cases hp : oneB s (digEnd s i) 46 46
      · simp only [Bool.false_eq_true, if_false]
        have ht := tEnd_range s (i := digEnd s i) (by omega)
        omega
      · simp only [if_true]
        have h3 := oneB_lt hp
        have hr2 := digEnd_range s (digEnd s i + 1) (by omega)
        have ht := tEnd_range s (i := digEnd s (digEnd s i + 1)) (by omega)
        omega
    by_cases hge : (x : Int) ≤ digEnd s i
    · exact hany hge
    · rw [show min (digEnd s i) (x : Int) = digEnd s i by omega] at h
      rw [one_pre s x hx (by omega) (by omega)] at h
      cases hp : oneB s (digEnd s i) 46 46
      · simp only [hp, Bool.false_eq_true, if_false] at h ⊢
        exact tE_ge s x hx (by omega) (by omega) h
      · simp only [hp, if_true] at h ⊢
        have hr2 := digEnd_range s (digEnd s i + 1) (by omega)
        have ht := tEnd_range s (i := digEnd s (digEnd s i + 1)) (by omega)
        rw [dig_pre s x hx _ (by omega) (by omega)] at h
        by_cases hle : digEnd s (digEnd s i + 1) ≤ x
        · rw [show min (digEnd s (digEnd s i + 1)) (x : Int) = digEnd s (digEnd s i + 1) by omega] at h
          exact tE_ge s x hx (by omega) hle h
        · omega
theorem hE_pre {k i : Int} (h0 : 0 ≤ i) (hi : i ≤ x) (hk : k < x) (h : hEnd s k i = x) : hEnd (s.extract 0 x) k i = x := by
  have hz := pre_size s x hx
  unfold hEnd at h
  cases hd : dgB s i
  · simp only [hd, Bool.false_eq_true, if_false] at h
    cases hp : oneB s i 46 46
    · simp only [hp, Bool.false_eq_true, if_false] at h
      omega
    · simp only [hp, if_true] at h
      cases hd2 : dgB s (i + 1)
      · simp only [hd2, Bool.false_eq_true, if_false] at h
        omega
      · simp only [hd2, if_true] at h
        have h4 := dgB_lt hd2
        have hr := digEnd_range s (i + 1 + 1) (by omega)
        rw [← digEnd_yes hd2] at hr
        have ht := tEnd_range s (i := digEnd s (i + 1)) (by omega)
        unfold hEnd
        rw [dg_pre s x hx h0 (by omega), one_pre s x hx h0 (by omega), dg_pre s x hx (by omega) (by omega)]
        simp only [hd, hp, hd2, Bool.false_eq_true, if_false, if_true]
        rw [dig_pre s x hx _ (by omega) (by omega), show min (digEnd s (i + 1)) (x : Int) = digEnd s (i + 1) by omega]
        exact tE_pre s x hx (by omega) (by omega) h
  · simp only [hd, if_true] at h
    have h4 := dgB_lt hd
    have hr := digEnd_range s (i + 1) (by omega)
    rw [← digEnd_yes hd] at hr
    cases hp : oneB s (digEnd s i) 46 46
    · simp only [hp, Bool.false_eq_true, if_false] at h
      have ht := tEnd_range s (i := digEnd s i) (by omega)
      unfold hEnd
      rw [dg_pre s x hx h0 (by omega), dig_pre s x hx _ (by omega) (by omega), show min (digEnd s i) (x : Int) = digEnd s i by omega]
      have hp' : oneB (s.extract 0 x) (digEnd s i) 46 46 = false := by
        by_cases hlt : digEnd s i < x
        · rw [one_pre s x hx (by omega) hlt]
          exact hp
        · exact one_out (by rw [hz]; exact hlt)
      simp only [hd, hp', if_true, Bool.false_eq_true, if_false]
      exact tE_pre s x hx (by omega) (by omega) h
    · simp only [hp, if_true] at h
      have h5 := oneB_lt hp
      have hr2 := digEnd_range s (digEnd s i + 1) (by omega)
      have ht := tEnd_range s (i := digEnd s (digEnd s i + 1)) (by omega)
      unfold hEnd
      rw [dg_pre s x hx h0 (by omega), dig_pre s x hx _ (by omega) (by omega), show min (digEnd s i) (x : Int) = digEnd s i by omega, one_pre s x hx (by omega) (by omega)]
      simp only [hd, hp, if_true]
      rw [dig_pre s x hx _ (by omega) (by omega), show min (digEnd s (digEnd s i + 1)) (x : Int) = digEnd s (digEnd s i + 1) by omega]
      exact tE_pre s x hx (by omega) (by omega) h
end
/-- At b stands no byte of a literal. -/
def Stop (s : ByteArray) (b : Int) : Prop := dgB s b = false ∧ oneB s b 43 45 = false ∧ oneB s b 46 46 = false ∧ oneB s b 101 69 = false
theorem stop_blank {s : ByteArray} {b : Int} (h : blB s b = true) : Stop s b := by
  unfold blB at h
  simp at h
  unfold Stop dgB oneB
  simp
  omega
theorem dig_stop {s : ByteArray} {b i : Int} (hb : Stop s b) (hi : i ≤ b) (hs : i ≤ s.size) : digEnd s i ≤ b := by
  have hr := digEnd_range s i hs
  by_cases h : digEnd s i ≤ b
  · exact h
  · have := digEnd_in s i hs b hi (by omega)
    rw [hb.1] at this
    cases this
theorem jE_stop {s : ByteArray} {b i : Int} (hb : Stop s b) (hi : i < b) : jE s i ≤ b := by
  unfold jE
  by_cases h : oneB s (i + 1) 43 45 = true
  · rw [if_pos h]
    by_cases e : i + 1 = b
    · rw [e, hb.2.1] at h
      cases h
    · omega
  · rw [if_neg h]
    omega
theorem tE_stop {s : ByteArray} {b i : Int} (hb : Stop s b) (hi : i ≤ b) (hs : i ≤ s.size) : tEnd s i ≤ b := by
  by_cases hp : oneB s i 101 69 = true ∧ dgB s (jE s i) = true
  · rw [tEnd_y hp.1 hp.2]
    have h1 : i < b := by
      by_cases e : i = b
      · rw [e, hb.2.2.2] at hp
        cases hp.1
      · omega
    have := dgB_lt hp.2
    exact dig_stop hb (jE_stop hb h1) (by omega)
  · rw [tEnd_n hp]
    exact hi
theorem hE_stop {s : ByteArray} {b k i : Int} (hb : Stop s b) (hi : i ≤ b) (hk : k ≤ b) (hs : i ≤ s.size) : hEnd s k i ≤ b := by
  unfold hEnd
  cases hd : dgB s i
  · cases hp : oneB s i 46 46
    · simpa using hk
    · have h1 : i < b := by
        by_cases e : i = b
        · rw [e, hb.2.2.1] at hp
          cases hp
        · omega
      cases hd2 : dgB s (i + 1)
      · simpa using hk
      · have := dgB_lt hd2
        have hr := digEnd_range s (i + 1) (by omega)
        simpa using tE_stop hb (dig_stop hb (by omega) (by omega)) (by omega)
  · have hr := digEnd_range s i hs
    have h1 := dig_stop hb hi hs
    cases hp : oneB s (digEnd s i) 46 46
    · simpa [hp] using tE_stop hb h1 (by omega)
    · have h2 : digEnd s i < b := by
        by_cases e : digEnd s i = b
        · rw [e, hb.2.2.1] at hp
          cases hp
        · omega
      have := oneB_lt hp
      have hr2 := digEnd_range s (digEnd s i + 1) (by omega)
      simpa [hp] using tE_stop hb (dig_stop hb (i := digEnd s i + 1) (by omega) (by omega)) (by omega)
section
variable (s : ByteArray) (x : Nat) (hx : x ≤ s.size)
include hx
theorem dig_same {b i : Int} (hb : Stop s b) (hbx : b < x) (h0 : 0 ≤ i) (hi : i ≤ b) : digEnd (s.extract 0 x) i = digEnd s i := by
  rw [dig_pre s x hx i (by omega) h0]
  have := dig_stop hb hi (by omega)
  omega
theorem tE_same {b i : Int} (hb : Stop s b) (hbx : b < x) (h0 : 0 ≤ i) (hi : i ≤ b) : tEnd (s.extract 0 x) i = tEnd s i := by
  by_cases hp : oneB s i 101 69 = true ∧ dgB s (jE s i) = true
  · have h1 : i < b := by
      by_cases e : i = b
      · rw [e, hb.2.2.2] at hp
        cases hp.1
      · omega
    have h2 := jE_stop hb h1
    have h3 := jE_gt s i
    have e := jE_pre s x hx h0 (by omega)
    rw [tEnd_y hp.1 hp.2, tEnd_y ((one_pre s x hx h0 (by omega)).trans hp.1) (by rw [e, dg_pre s x hx (by omega) (by omega)]; exact hp.2), e]
    exact dig_same s x hx hb hbx (by omega) h2
  · rw [tEnd_n hp, tEnd_n]
    rintro ⟨g1, g2⟩
    rw [one_pre s x hx h0 (by omega)] at g1
    have h1 : i < b := by
      by_cases e : i = b
      · rw [e, hb.2.2.2] at g1
        cases g1
      · omega
    have h2 := jE_stop hb h1
    have h3 := jE_gt s i
    rw [jE_pre s x hx h0 (by omega), dg_pre s x hx (by omega) (by omega)] at g2
    exact hp ⟨g1, g2⟩
theorem hE_same {b k i : Int} (hb : Stop s b) (hbx : b < x) (h0 : 0 ≤ i) (hi : i ≤ b) : hEnd (s.extract 0 x) k i = hEnd s k i := by
  unfold hEnd
  rw [dg_pre s x hx h0 (by omega), one_pre s x hx h0 (by omega)]
  have hd0 := dig_same s x hx hb hbx h0 hi
  have hr := digEnd_range s i (by omega)
  have h1 := dig_stop hb hi (by omega)
  rw [hd0, one_pre s x hx (by omega) (by omega), tE_same s x hx hb hbx (by omega) h1]
  cases hp : oneB s (digEnd s i) 46 46
  · cases hq : oneB s i 46 46
    · simp
    · have h2 : i < b := by
        by_cases e : i = b
        · rw [e, hb.2.2.1] at hq
          cases hq
        · omega
      have hr2 := digEnd_range s (i + 1) (by omega)
      have h3 := dig_stop hb (i := i + 1) (by omega) (by omega)
      rw [dg_pre s x hx (by omega) (by omega), dig_same s x hx hb hbx (i := i + 1) (by omega) (by omega), tE_same s x hx hb hbx (by omega) h3]
      simp
  · have h2 : digEnd s i < b := by
      by_cases e : digEnd s i = b
      · rw [e, hb.2.2.1] at hp
        cases hp
      · omega
    have hr2 := digEnd_range s (digEnd s i + 1) (by omega)
    have h3 := dig_stop hb (i := digEnd s i + 1) (by omega) (by omega)
    rw [dig_same s x hx hb hbx (i := digEnd s i + 1) (by omega) (by omega), tE_same s x hx hb hbx (by omega) h3]
    have hr3 := digEnd_range s (i + 1) (by omega)
    rw [dg_pre s x hx (i := i + 1) (by omega) (by omega)]
    have h4 := dig_stop hb (i := i + 1) (by omega) (by omega)
    rw [dig_same s x hx hb hbx (i := i + 1) (by omega) (by omega), tE_same s x hx hb hbx (by omega) h4]
end

/-! ### Numbers of beginnings -/
theorem ext_ext {s : ByteArray} {x k n : Nat} (hn : n ≤ x) : (s.extract 0 x).extract k n = s.extract k n := by
  apply ByteArray.ext
  rw [ByteArray.data_extract, ByteArray.data_extract, ByteArray.data_extract, Array.extract_extract]
  congr 1 <;> omega
/-- Of a literal as it is read: the number. -/
theorem num_lit {s : ByteArray} (L : LitAt s (blEnd s 0) (litF s (blEnd s 0))) :
    num s = ((nrm (litF s (blEnd s 0)).1 (litF s (blEnd s 0)).2.1 (litF s (blEnd s 0)).2.2.1).1, (nrm (litF s (blEnd s 0)).1 (litF s (blEnd s 0)).2.1 (litF s (blEnd s 0)).2.2.1).2.1, (nrm (litF s (blEnd s 0)).1 (litF s (blEnd s 0)).2.1 (litF s (blEnd s 0)).2.2.1).2.2, (litF s (blEnd s 0)).2.2.2.1) := by
  unfold num
  rw [if_pos L.ok]
def sg (s : ByteArray) : Int := if oneB s (blEnd s 0) 43 45 = true then blEnd s 0 + 1 else blEnd s 0
section
variable (s : ByteArray) (hs : s.size ≤ 140737488351232)
include hs
theorem num_how : (num s = (false, ⟨#[]⟩, 0, 0) ∧ hEnd s (blEnd s 0) (sg s) = blEnd s 0) ∨ (blEnd s 0 < (num s).2.2.2 ∧ hEnd s (blEnd s 0) (sg s) = (num s).2.2.2 ∧ LitAt s (blEnd s 0) (litF s (blEnd s 0)) ∧ (num s).2.2.2 = (litF s (blEnd s 0)).2.2.2.1) := by
  have hb := blEnd_range s 0 (by omega)
  rcases lit_cases s hs (k := blEnd s 0) (by omega) (by omega) with ⟨e, g⟩ | L
  · refine .inl ⟨?_, g⟩
    unfold num
    rw [e]
    simp
  · have := num_lit L
    refine .inr ⟨by rw [this]; exact L.lt, by rw [this]; exact L.longest, L, by rw [this]⟩
theorem num_same {x : Nat} (hx : x ≤ s.size) (hk : blEnd (s.extract 0 x) 0 = blEnd s 0) (h1 : blEnd s 0 < (num (s.extract 0 x)).2.2.2) (h2 : hEnd s (blEnd s 0) (sg s) = (num (s.extract 0 x)).2.2.2) : num (s.extract 0 x) = num s := by
  have hz := pre_size s x hx
  have hb := blEnd_range s 0 (by omega)
  rcases num_how (s.extract 0 x) (by omega) with ⟨e, g⟩ | ⟨g1, g2, g3, g4⟩
  · rw [e] at h1
    simp at h1
    omega
  · rcases num_how s hs with ⟨e, g⟩ | ⟨f1, f2, f3, f4⟩
    · omega
    · have hn : (num (s.extract 0 x)).2.2.2 = (num s).2.2.2 := by omega
      have w1 := g3.worth
      have w2 := f3.worth
      rw [← g4, hk, ext_ext (by have := (num_end (s.extract 0 x) (by omega)).2; rw [hz] at this; omega)] at w1
      rw [← f4, ← hn] at w2
      have w := w1.uniq w2
      have e1 := num_lit g3
      have e2 := num_lit f3
      rw [e1, e2, hk, w, ← f4, ← hn, g4, hk]
theorem whole_pre {x : Nat} (hx : x ≤ s.size) (hw : (whole (s.extract 0 x)).2.2.2 = true) :
    (x : Int) ≤ (num s).2.2.2 ∨ (whole (s.extract 0 x) = ((num s).1, (num s).2.1, (num s).2.2.1, true) ∧ blB s (x - 1) = true ∧ 0 < (num s).2.2.2) := by
  have hz := pre_size s x hx
  unfold whole at hw ⊢
  by_cases h0 : (num (s.extract 0 x)).2.2.2 = 0
  · rw [if_pos h0] at hw
    cases hw
  rw [if_neg h0] at hw ⊢
  by_cases hB : blEnd (s.extract 0 x) (num (s.extract 0 x)).2.2.2 = ((s.extract 0 x).size : Int)
  · rw [if_pos hB]
    rw [hz] at hB
    have hb := blEnd_range s 0 (by omega)
    rcases num_how (s.extract 0 x) (by omega) with ⟨e, g⟩ | ⟨g1, g2, g3, g4⟩
    · rw [e] at h0
      exact absurd rfl h0
    · have hle := num_end (s.extract 0 x) (by omega)
      rw [hz] at hle
      have hk := blE_pre s x hx 0 (by omega) (by omega)
      have hk' : blEnd (s.extract 0 x) 0 = blEnd s 0 := by omega
      have hsg : sg (s.extract 0 x) = sg s := by
        unfold sg
        rw [hk', one_pre s x hx (by omega) (by omega)]
      have hsr : blEnd s 0 ≤ sg s ∧ sg s ≤ blEnd s 0 + 1 := by
        unfold sg
        split <;> omega
      rw [hk', hsg] at g2
      by_cases hm : (num (s.extract 0 x)).2.2.2 = x
      · left
        rw [hm] at g2
        have := hE_ge s x hx (by omega) (by omega) (by omega) g2
        rcases num_how s hs with ⟨e, g⟩ | ⟨f1, f2, f3, f4⟩
        · omega
        · omega
      · right
        have hbl : blB (s.extract 0 x) (num (s.extract 0 x)).2.2.2 = true := by
          cases hc : blB (s.extract 0 x) (num (s.extract 0 x)).2.2.2
          · rw [blEnd_no hc] at hB
            exact absurd hB hm
          · rfl
        rw [bl_pre s x hx hle.1 (by omega)] at hbl
        have hst := stop_blank hbl
        rw [hE_same s x hx hst (by omega) (by omega) (by omega)] at g2
        have hnum := num_same s hs hx hk' (by omega) g2
        refine ⟨by rw [hnum], ?_, by rw [← hnum]; omega⟩
        have := blEnd_in (s.extract 0 x) (num (s.extract 0 x)).2.2.2 (by rw [hz]; exact hle.2) (x - 1) (by omega) (by omega)
        rwa [bl_pre s x hx (by omega) (by omega)] at this
  · rw [if_neg hB] at hw
    cases hw
theorem whole_at (h0 : 0 < (num s).2.2.2) : whole (s.extract 0 (num s).2.2.2.toNat) = ((num s).1, (num s).2.1, (num s).2.2.1, true) ∧ blB s ((num s).2.2.2 - 1) = false := by
  have hle := num_end s hs
  have hx : (num s).2.2.2.toNat ≤ s.size := by omega
  have hz := pre_size s _ hx
  have hb := blEnd_range s 0 (by omega)
  have hxx : (((num s).2.2.2.toNat : Nat) : Int) = (num s).2.2.2 := by omega
  rcases num_how s hs with ⟨e, g⟩ | ⟨f1, f2, f3, f4⟩
  · rw [e] at h0
    exact absurd h0 (by decide)
  · have hk := blE_pre s _ hx 0 (by omega) (by omega)
    have hk' : blEnd (s.extract 0 (num s).2.2.2.toNat) 0 = blEnd s 0 := by omega
    have hsg : sg (s.extract 0 (num s).2.2.2.toNat) = sg s := by
      unfold sg
      rw [hk', one_pre s _ hx (by omega) (by omega)]
    have hsr : blEnd s 0 ≤ sg s ∧ sg s ≤ blEnd s 0 + 1 := by
      unfold sg
      split <;> omega
    have hp := hE_pre s _ hx (k := blEnd s 0) (i := sg s) (by omega) (by omega) (by omega) (by omega)
    have hn : (num (s.extract 0 (num s).2.2.2.toNat)).2.2.2 = (num s).2.2.2 := by
      rcases num_how (s.extract 0 (num s).2.2.2.toNat) (by omega) with ⟨e, g⟩ | ⟨g1, g2, g3, g4⟩
      · rw [hk', hsg] at g
        omega
      · rw [hk', hsg] at g2
        omega
    have hnum := num_same s hs hx hk' (by omega) (by omega)
    constructor
    · unfold whole
      rw [hnum, if_neg (by omega), if_pos]
      rw [blEnd_no (blB_out (by rw [hz]; omega)), hz, hxx]
    · cases hc : blB s ((num s).2.2.2 - 1)
      · rfl
      · exfalso
        have hst := stop_blank hc
        have hnb := blEnd_stop s 0 (by omega)
        have hne : blEnd s 0 ≠ (num s).2.2.2 - 1 := by
          intro e
          rw [e, hc] at hnb
          cases hnb
        have := hE_stop hst (i := sg s) (k := blEnd s 0) (by omega) (by omega) (by omega)
        omega
end
theorem blank_law (c : Int) : abacuslaw08_blank.f c = some ((c == 32) || (decide (9 ≤ c) && decide (c ≤ 13))) := by
  unfold abacuslaw08_blank.f
  by_cases h : c = 32
  · simp [h]
  · by_cases h9 : 9 ≤ c
    · simp [h, h9]
    · simp [h, h9]
section
variable (s : ByteArray) (hs : s.size ≤ 140737488351232)
include hs
theorem longest_l0 : ∀ x, x ≤ (s.size : Int) + 1 → (num s).2.2.2 < x → Ans (fun k => abacuslaw08_ScanLongest.l0 k s (num s).2.2.2 x (num s).1 (num s).2.1 (num s).2.2.1) true := by
  have hle := num_end s hs
  refine left_ind fun x hx ih h0 => Ans.succ ?_
  simp only [abacuslaw08_ScanLongest.l0]
  by_cases hlt : x ≤ (s.size : Int)
  · have next := ih (x + 1) (by omega) (by omega) (by omega)
    simp only [if_pos hlt, if_pos (show 0 ≤ x by omega)]
    have hxx : ((x.toNat : Nat) : Int) = x := by omega
    have hz := pre_size s x.toNat (by omega)
    refine Ans.bind (whole_s (s.extract 0 x.toNat) (by omega)) ?_
    have hpre := whole_pre s hs (x := x.toNat) (by omega)
    rw [hxx] at hpre
    have hj5 : ∀ b, (b = true → 0 < (num s).2.2.2) → (b = false → (whole (s.extract 0 x.toNat)).2.2.2 = false) → Ans (fun k => abacuslaw08_ScanLongest.j5 k s (num s).2.2.2 x (whole (s.extract 0 x.toNat)).2.2.2 b (num s).1 (num s).2.1 (num s).2.2.1 (whole (s.extract 0 x.toNat)).1 (whole (s.extract 0 x.toNat)).2.1 (whole (s.extract 0 x.toNat)).2.2.1) true := by
      intro b hb1 hb2
      refine Ans.succ ?_
      simp only [abacuslaw08_ScanLongest.j5]
      cases b
      · rw [hb2 rfl]
        simp only [Bool.false_eq_true, if_false, wrap_id (x := x + 1) (by omega) (by omega)]
        exact next
      · simp only [if_true]
        cases hw : (whole (s.extract 0 x.toNat)).2.2.2
        · simp only [Bool.false_eq_true, if_false]
          refine Ans.succ ?_
          simp only [abacuslaw08_ScanLongest.j6, Bool.false_eq_true, if_false, wrap_id (x := x + 1) (by omega) (by omega)]
          exact next
        · simp only [if_true]
          rcases hpre hw with h | ⟨h1, _, _⟩
          · omega
          · rw [h1]
            refine Ans.succ ?_
            simp only [abacuslaw08_ScanLongest.j6, beq_self_eq_true, Bool.not_true, Bool.or_self, Bool.false_eq_true, if_false, wrap_id (x := x + 1) (by omega) (by omega)]
            exact next
    by_cases hn : (num s).2.2.2 > 0
    · simp only [if_pos hn, wrap_id (x := x - 1) (by omega) (by omega), if_pos (show 0 ≤ x - 1 by omega), if_pos (show x - 1 < (s.size : Int) by omega), blank_law, Option.bind_some, blB_of (show x - 1 < (s.size : Int) by omega)]
      refine hj5 _ (fun _ => hn) (fun hb => ?_)
      cases hw : (whole (s.extract 0 x.toNat)).2.2.2
      · rfl
      · rcases hpre hw with h | ⟨_, h2, _⟩
        · omega
        · rw [hb] at h2
          cases h2
    · simp only [if_neg hn]
      refine hj5 _ (fun h => by cases h) (fun _ => ?_)
      cases hw : (whole (s.extract 0 x.toNat)).2.2.2
      · rfl
      · rcases hpre hw with h | ⟨_, _, h2⟩
        · omega
        · omega
  · simp only [if_neg hlt]
    exact Ans.ret _
theorem longest_j0 : Ans (fun k => abacuslaw08_ScanLongest.j0 k s false) true := by
  have hle := num_end s hs
  refine Ans.succ ?_
  simp only [abacuslaw08_ScanLongest.j0, Bool.false_eq_true, if_false]
  by_cases hbig : (s.size : Int) > 1500
  · simp only [if_pos hbig]
    exact Ans.ret _
  · simp only [if_neg hbig]
    refine Ans.bind (number_s s hs) ?_
    have hd : decide ((num s).2.2.2 > (s.size : Int)) = false := by
      rw [decide_eq_false_iff_not]
      omega
    simp only [if_neg (show ¬ (num s).2.2.2 < 0 by omega), hd]
    refine Ans.succ ?_
    simp only [abacuslaw08_ScanLongest.j1, Bool.false_eq_true, if_false]
    have h3 : Ans (fun k => abacuslaw08_ScanLongest.j3 k s (num s).2.2.2 (num s).1 (num s).2.1 (num s).2.2.1) true := by
      refine Ans.succ ?_
      simp only [abacuslaw08_ScanLongest.j3, wrap_id (x := (num s).2.2.2 + 1) (by omega) (by omega)]
      exact longest_l0 s hs _ (by omega) (by omega)
    by_cases h0 : (num s).2.2.2 = 0
    · rcases num_how s hs with ⟨e, g⟩ | ⟨f1, f2, f3, f4⟩
      · rw [e] at h3 ⊢
        have ht : (⟨#[]⟩ : ByteArray).toList = ([] : List UInt8) := (empty_list _).2 rfl
        simp only [if_true, Bool.false_eq_true, if_false, ht]
        refine Ans.succ ?_
        simp only [abacuslaw08_ScanLongest.j2, bne_self_eq_false, Bool.false_eq_true, if_false, if_neg (show ¬ (0 : Int) > 0 by omega)]
        exact h3
      · have := blEnd_range s 0 (by omega)
        omega
    · simp only [if_neg h0]
      refine Ans.succ ?_
      obtain ⟨w1, w2⟩ := whole_at s hs (by omega)
      have hz := pre_size s (num s).2.2.2.toNat (by omega)
      simp only [abacuslaw08_ScanLongest.j2, Bool.false_eq_true, if_false, if_pos (show (num s).2.2.2 > 0 by omega), if_pos (show 0 ≤ (num s).2.2.2 by omega), if_pos hle.2]
      refine Ans.bind (whole_s (s.extract 0 (num s).2.2.2.toNat) (by omega)) ?_
      simp only [w1, if_true, beq_self_eq_true, Bool.not_true, Bool.or_self, Bool.false_eq_true, if_false, wrap_id (x := (num s).2.2.2 - 1) (by omega) (by omega), if_pos (show 0 ≤ (num s).2.2.2 - 1 by omega), if_pos (show (num s).2.2.2 - 1 < (s.size : Int) by omega), blank_law, Option.bind_some,
        blB_of (show (num s).2.2.2 - 1 < (s.size : Int) by omega), w2]
      exact h3
end

/-- The text ' 2.5e1e'. -/
def cTxt : ByteArray := ⟨#[32, 50, 46, 53, 101, 49, 101]⟩
theorem num_cTxt : num cTxt = (false, ⟨#[50, 53]⟩, 0, 6) := by
  have z : cTxt.size = 7 := rfl
  have hb : blEnd cTxt 0 = 1 := by rw [blEnd_yes (by decide), blEnd_no (by decide)]; rfl
  have d3 : digEnd cTxt (2 + 1) = 4 := by rw [digEnd_yes (by decide), digEnd_no (by decide)]; rfl
  have d1 : digEnd cTxt 1 = 2 := by rw [digEnd_yes (by decide), digEnd_no (by decide)]; rfl
  have d5 : digEnd cTxt 5 = 6 := by rw [digEnd_yes (by decide), digEnd_no (by decide)]; rfl
  have x5 : expRun cTxt 5 0 = 1 := by
    rw [expRun, dif_pos (by decide), expRun, dif_neg (by decide)]
    decide
  have hl : litF cTxt 1 = (false, ⟨#[50, 53]⟩, 0, 6, true) := by
    unfold litF
    rw [if_neg (by decide)]
    unfold litA
    rw [d1, if_pos (by decide)]
    unfold litB
    rw [d3]
    unfold litM
    rw [if_neg (by decide)]
    rw [litTail_zd (by decide) (by decide) (by decide)]
    unfold litExp
    rw [show (4 : Int) + 1 = 5 by decide, x5, d5]
    decide
  have hn : nrm false ⟨#[50, 53]⟩ 0 = (false, ⟨#[50, 53]⟩, 0) := by
    unfold nrm
    have h1 : zHead (⟨#[50, 53]⟩ : ByteArray) 0 = 0 := zHead_no (by decide)
    have h2 : zTail (⟨#[50, 53]⟩ : ByteArray) ((⟨#[50, 53]⟩ : ByteArray).size) = 2 := zTail_no (by decide)
    rw [h1, h2, if_neg (by decide)]
    decide
  unfold num
  rw [hb, hl]
  simp only [if_true, hn]
theorem scanLongest_true (s : ByteArray) (hs : s.size ≤ 140737488351232) : Ans (fun k => abacuslaw08_ScanLongest.f k s) true := by
  unfold abacuslaw08_ScanLongest.f
  refine Ans.bind (a := (false, (⟨#[50, 53]⟩ : ByteArray), 0, 6)) ?_ ?_
  · have := number_s cTxt (by decide)
    rw [num_cTxt] at this
    exact this
  · have ht : (⟨#[50, 53]⟩ : ByteArray).toList = ([50, 53] : List UInt8) := by rw [Go.ByteArray.toList_eq]
    simp only [if_true, Bool.false_eq_true, if_false, ht, bne_self_eq_false]
    exact longest_j0 s hs
end Go.Proofs.YtcgjfckhnpimbaaDoor.Pl
