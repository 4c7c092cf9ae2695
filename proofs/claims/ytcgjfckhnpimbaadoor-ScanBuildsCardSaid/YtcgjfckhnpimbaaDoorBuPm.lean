/-
  Plain laws of the scan statements: a built text reads back; ScanBuilds answers true.
-/
import Derived.Test.YtcgjfckhnpimbaaDoorBuPk
import Derived.Test.YtcgjfckhnpimbaaDoorBuEScanx35
set_option linter.unusedVariables false
set_option linter.unusedSimpArgs false
set_option linter.unusedSectionVars false
namespace Go.Proofs.YtcgjfckhnpimbaaDoor.Pl
open Go.RowKit Go.Proofs.YtcgjfckhnpimbaaDoorW.PrintWords Go.Proofs.YtcgjfckhnpimbaaDoor.X Go.Proofs.YtcgjfckhnpimbaaDoor.EScan
def Dig (D : List UInt8) : Prop := ∀ b ∈ D, 48 ≤ b.toNat ∧ b.toNat ≤ 57
/-- The list begins with no byte of a literal. -/
def StopL (R : List UInt8) : Prop := ∀ b R', R = b :: R' → ¬ (48 ≤ b.toNat ∧ b.toNat ≤ 57) ∧ b ≠ 43 ∧ b ≠ 45 ∧ b ≠ 46 ∧ b ≠ 101 ∧ b ≠ 69
def StopB (s : ByteArray) (b : Int) : Prop := dgB s b = false ∧ oneB s b 43 45 = false ∧ oneB s b 46 46 = false ∧ oneB s b 101 69 = false
def NoDig (R : List UInt8) : Prop := ∀ b R', R = b :: R' → ¬ (48 ≤ b.toNat ∧ b.toNat ≤ 57)
theorem end_at {t : ByteArray} {A : List UInt8} (h : t.data.toList = A ++ []) : t.size = A.length := by
  have hl : t.data.toList.length = t.size := by simp
  rw [← hl, h, List.append_nil]
theorem nodig_at {t : ByteArray} {A R : List UInt8} (h : t.data.toList = A ++ R) (hr : NoDig R) : dgB t A.length = false := by
  cases R with
  | nil => exact dg_out (by have := end_at h; omega)
  | cons b R' =>
    obtain ⟨h1, h2⟩ := at_list h
    have := hr b R' rfl
    unfold dgB
    simp
    omega
theorem run_at {t : ByteArray} {R : List UInt8} (hr : NoDig R) : ∀ (D A : List UInt8), t.data.toList = A ++ (D ++ R) → Dig D → digEnd t A.length = A.length + D.length ∧ ∀ x, expRun t A.length x = hfold x D
  | [], A, h, _ => by
    have hn := nodig_at (by simpa using h) hr
    exact ⟨by rw [digEnd_no hn]; simp, fun x => by rw [expRun_no hn]; rfl⟩
  | b :: D, A, h, hd => by
    have hb := hd b (by simp)
    obtain ⟨h1, h2⟩ := at_list (b := b) (A := A) (B := D ++ R) (by rw [h]; simp)
    have ih := run_at hr D (A ++ [b]) (by rw [h]; simp) (fun c hc => hd c (by simp [hc]))
    rw [List.length_append, List.length_singleton, show ((A.length + 1 : Nat) : Int) = (A.length : Int) + 1 by omega] at ih
    have hg : dgB t A.length = true := by
      unfold dgB
      simp
      omega
    refine ⟨by rw [digEnd_yes hg, ih.1, List.length_cons]; omega, fun x => ?_⟩
    rw [expRun_yes hg, ih.2, h1]
    rfl
theorem cut_at {t : ByteArray} {A D R : List UInt8} (h : t.data.toList = A ++ (D ++ R)) : t.extract A.length (A.length + D.length) = ⟨D.toArray⟩ := by
  apply ByteArray.ext
  rw [ByteArray.data_extract]
  apply Array.ext'
  rw [Array.toList_extract, List.extract_eq_take_drop, h, List.drop_left, show A.length + D.length - A.length = D.length by omega, List.take_left]
theorem hfold_cap : ∀ u : Nat, hfold 0 (Lib.decDigits u) = min (u : Int) 1000000000000000 := by
  intro u
  induction u using Nat.strongRecOn with
  | _ u ih =>
    by_cases h : u < 10
    · rw [Lib.decDigits_one h]
      unfold hfold
      simp only [List.foldl_cons, List.foldl_nil, dgt u h]
      unfold cap15
      split <;> omega
    · rw [Lib.decDigits, dif_neg h]
      have := ih (u / 10) (by omega)
      unfold hfold at this ⊢
      rw [List.foldl_append, this]
      simp only [List.foldl_cons, List.foldl_nil, dgt (u % 10) (by omega)]
      unfold cap15
      split <;> omega
theorem stop_one {t : ByteArray} {A R : List UInt8} (h : t.data.toList = A ++ R) (hr : StopL R) : StopB t A.length := by
  cases R with
  | nil =>
    have := end_at h
    exact ⟨dg_out (by omega), one_out (by omega), one_out (by omega), one_out (by omega)⟩
  | cons b R' =>
    obtain ⟨h1, h2⟩ := at_list h
    obtain ⟨g0, g1, g2, g3, g4, g5⟩ := hr b R' rfl
    have ne : ∀ c : UInt8, b ≠ c → (b.toNat : Int) ≠ c.toNat := fun c h e => h (UInt8.toNat.inj (by omega))
    have e1 := ne 43 g1
    have e2 := ne 45 g2
    have e3 := ne 46 g3
    have e4 := ne 101 g4
    have e5 := ne 69 g5
    have f1 : ((43 : UInt8).toNat : Int) = 43 := rfl
    have f2 : ((45 : UInt8).toNat : Int) = 45 := rfl
    have f3 : ((46 : UInt8).toNat : Int) = 46 := rfl
    have f4 : ((101 : UInt8).toNat : Int) = 101 := rfl
    have f5 : ((69 : UInt8).toNat : Int) = 69 := rfl
    rw [f1] at e1
    rw [f2] at e2
    rw [f3] at e3
    rw [f4] at e4
    rw [f5] at e5
    unfold StopB dgB oneB
    rw [h1]
    simp [e1, e2, e3, e4, e5]
    omega
theorem StopL.nodig {R : List UInt8} (h : StopL R) : NoDig R := fun b R' e => (h b R' e).1
/-- The exponent's part, as it is written. -/
structure IsEx (EX : List UInt8) (v : Int) : Prop where
  cases : (EX = [] ∧ v = 0) ∨ ∃ (l : UInt8) (ES : List UInt8) (u : Nat), (l = 101 ∨ l = 69) ∧ (ES = [] ∨ ES = [43] ∨ ES = [45]) ∧ EX = l :: (ES ++ Lib.decDigits u) ∧ v = (if ES = [45] then - min (u : Int) 1000000000000000 else min (u : Int) 1000000000000000)
theorem tail2 {t : ByteArray} {A EX R : List UInt8} {v : Int} (h : t.data.toList = A ++ (EX ++ R)) (hr : StopL R) (hx : IsEx EX v) (g : Bool) (dg : ByteArray) (places : Int) :
    litTail t g dg places A.length = (g, dg, v - places, (A.length : Int) + EX.length, true) ∧ dgB t A.length = false ∧ oneB t A.length 46 46 = false ∧ oneB t A.length 43 45 = false := by
  rcases hx.cases with ⟨rfl, rfl⟩ | ⟨l, ES, u, hl, hes, rfl, rfl⟩
  · have hs := stop_one (A := A) (R := R) (by simpa using h) hr
    refine ⟨?_, hs.1, hs.2.2.1, hs.2.1⟩
    rw [litTail_n hs.2.2.2]
    simp
  · obtain ⟨b1, b2⟩ := at_list (A := A) (b := l) (B := ES ++ Lib.decDigits u ++ R) (by rw [h]; simp)
    have hl' : bt t A.length = 101 ∨ bt t A.length = 69 := by
      rcases hl with rfl | rfl
      · exact .inl b1
      · exact .inr b1
    have o1 : oneB t A.length 101 69 = true := by
      unfold oneB
      rcases hl' with e | e <;> simp [e] <;> omega
    have q1 : ((A.length + 1 : Nat) : Int) = (A.length : Int) + 1 := by omega
    have q2 : ((A.length + 2 : Nat) : Int) = (A.length : Int) + 1 + 1 := by omega
    have hda := dec_all u
    have hne : 0 < (Lib.decDigits u).length := List.length_pos_iff.2 hda.1
    refine ⟨?_, ?_, ?_, ?_⟩
    · have first : ∀ (B : List UInt8), t.data.toList = B ++ (Lib.decDigits u ++ R) → dgB t B.length = true ∧ oneB t B.length 43 45 = false ∧ digEnd t B.length = B.length + (Lib.decDigits u).length ∧ expRun t B.length 0 = min (u : Int) 1000000000000000 := by
        intro B hB
        obtain ⟨r1, r2⟩ := run_at hr.nodig (Lib.decDigits u) B hB hda.2
        refine ⟨?_, ?_, r1, by rw [r2, hfold_cap]⟩
        · cases hc : dgB t B.length
          · rw [digEnd_no hc] at r1
            omega
          · rfl
        · match hD : Lib.decDigits u, hne with
          | b :: D', _ =>
            obtain ⟨c1, c2⟩ := at_list (t := t) (A := B) (b := b) (B := D' ++ R) (by rw [hB, hD]; simp)
            have := hda.2 b (by rw [hD]; simp)
            unfold oneB
            rw [c1]
            simp
            omega
      rcases hes with rfl | rfl | rfl
      · obtain ⟨f1, f2, f3, f4⟩ := first (A ++ [l]) (by rw [h]; simp)
        simp only [List.length_append, List.length_singleton, q1] at f1 f2 f3 f4
        rw [litTail_zd o1 f2 f1]
        unfold litExp
        simp only [Bool.false_eq_true, if_false, f3, f4, List.nil_append, List.length_cons, if_neg (show ¬ ([] : List UInt8) = [45] by decide)]
        congr 4
        omega
      · obtain ⟨f1, f2, f3, f4⟩ := first (A ++ [l, 43]) (by rw [h]; simp)
        simp only [List.length_append, List.length_cons, List.length_nil, Nat.zero_add, Nat.reduceAdd, q2] at f1 f2 f3 f4
        obtain ⟨c1, c2⟩ := at_list (t := t) (A := A ++ [l]) (b := 43) (B := Lib.decDigits u ++ R) (by rw [h]; simp)
        simp only [List.length_append, List.length_singleton, q1] at c1 c2
        have c1' : bt t ((A.length : Int) + 1) = 43 := c1
        have o2 : oneB t ((A.length : Int) + 1) 43 45 = true := by
          unfold oneB
          simp [c1']
          omega
        rw [litTail_sd o1 o2 (b := false) (by rw [c1']; rfl) f1]
        unfold litExp
        simp only [Bool.false_eq_true, if_false, f3, f4, List.length_append, List.length_cons, List.length_nil, if_neg (show ¬ ([43] : List UInt8) = [45] by decide)]
        congr 4
        omega
      · obtain ⟨f1, f2, f3, f4⟩ := first (A ++ [l, 45]) (by rw [h]; simp)
        simp only [List.length_append, List.length_cons, List.length_nil, Nat.zero_add, Nat.reduceAdd, q2] at f1 f2 f3 f4
        obtain ⟨c1, c2⟩ := at_list (t := t) (A := A ++ [l]) (b := 45) (B := Lib.decDigits u ++ R) (by rw [h]; simp)
        simp only [List.length_append, List.length_singleton, q1] at c1 c2
        have c1' : bt t ((A.length : Int) + 1) = 45 := c1
        have o2 : oneB t ((A.length : Int) + 1) 43 45 = true := by
          unfold oneB
          simp [c1']
          omega
        rw [litTail_sd o1 o2 (b := true) (by rw [c1']; rfl) f1]
        unfold litExp
        simp only [if_true, f3, f4, List.length_append, List.length_cons, List.length_nil]
        congr 4
        omega
    all_goals
      rcases hl' with e | e <;> simp [dgB, oneB, e]
theorem tail2_more {t : ByteArray} {A EX R : List UInt8} {v : Int} (h : t.data.toList = A ++ (EX ++ R)) (hr : StopL R) (hx : IsEx EX v) : NoDig (EX ++ R) := by
  rcases hx.cases with ⟨rfl, rfl⟩ | ⟨l, ES, u, hl, hes, rfl, rfl⟩
  · simpa using hr.nodig
  · intro b R' e
    simp only [List.cons_append, List.cons.injEq] at e
    rcases hl with rfl | rfl <;> rw [← e.1] <;> decide
/-- A built text at its place: the sign SG, the digits FA, the point's part, the exponent's part. -/
theorem lit2 {t : ByteArray} {A SG FA FB EX R : List UInt8} {pt : Bool} {v : Int}
    (h : t.data.toList = A ++ (SG ++ (FA ++ ((if pt = true then 46 :: FB else []) ++ (EX ++ R))))) (hsg : SG = [] ∨ SG = [43] ∨ SG = [45]) (hfa : Dig FA) (hfb : Dig FB) (hb : pt = false → FB = []) (hne : 0 < FA.length + FB.length)
    (hr : StopL R) (hx : IsEx EX v) :
    litF t A.length = (decide (SG = [45]), ⟨(FA ++ FB).toArray⟩, v - FB.length, (A.length : Int) + SG.length + FA.length + (if pt = true then 1 + FB.length else 0 : Nat) + EX.length, true) := by
  have hl : t.data.toList.length = t.size := by simp
  -- the digits on
  have body : ∀ neg, litA t neg (A ++ SG).length (A ++ SG).length = (neg, ⟨(FA ++ FB).toArray⟩, v - FB.length, (A.length : Int) + SG.length + FA.length + (if pt = true then 1 + FB.length else 0 : Nat) + EX.length, true) := by
    intro neg
    cases pt
    · have hB := hb rfl
      subst hB
      simp only [Bool.false_eq_true, if_false, List.nil_append] at h
      have h1 : t.data.toList = (A ++ SG) ++ (FA ++ (EX ++ R)) := by rw [h]; simp
      have h2 : t.data.toList = (A ++ SG ++ FA) ++ (EX ++ R) := by rw [h]; simp
      obtain ⟨t1, t2, t3, t4⟩ := tail2 h2 hr hx neg ⟨FA.toArray⟩ 0
      obtain ⟨r1, _⟩ := run_at (tail2_more h2 hr hx) FA (A ++ SG) h1 hfa
      have hc := cut_at h1
      have e1 : (((A ++ SG ++ FA).length : Nat) : Int) = ((A ++ SG).length : Int) + FA.length := by rw [List.length_append]; omega
      rw [e1] at t1 t3
      simp only [List.length_nil, Nat.add_zero] at hne
      unfold litA
      rw [r1, t3]
      simp only [Bool.false_and, Bool.false_eq_true, if_false]
      unfold litM digs
      rw [if_neg (by omega), if_neg (by omega), show ((((A ++ SG).length : Nat) : Int)).toNat = (A ++ SG).length by omega, show ((((A ++ SG).length : Nat) : Int) + (FA.length : Nat)).toNat = (A ++ SG).length + FA.length by omega, hc, t1]
      simp only [List.append_nil, List.length_nil, List.length_append]
      congr 4
      try omega
    · simp only [if_true] at h
      have h1 : t.data.toList = (A ++ SG) ++ (FA ++ (46 :: FB ++ (EX ++ R))) := by rw [h]; simp
      have h2 : t.data.toList = (A ++ SG ++ FA) ++ 46 :: (FB ++ (EX ++ R)) := by rw [h]; simp
      have h3 : t.data.toList = (A ++ SG ++ FA ++ [46]) ++ (FB ++ (EX ++ R)) := by rw [h]; simp
      have h4 : t.data.toList = (A ++ SG ++ FA ++ [46] ++ FB) ++ (EX ++ R) := by rw [h]; simp
      obtain ⟨t1, t2, t3, t4⟩ := tail2 h4 hr hx neg ⟨(FA ++ FB).toArray⟩ FB.length
      obtain ⟨r1, _⟩ := run_at (R := 46 :: FB ++ (EX ++ R)) (by intro b R' e; simp only [List.cons_append, List.cons.injEq] at e; rw [← e.1]; decide) FA (A ++ SG) h1 hfa
      obtain ⟨p1, p2⟩ := at_list h2
      obtain ⟨q1, _⟩ := run_at (tail2_more h4 hr hx) FB (A ++ SG ++ FA ++ [46]) h3 hfb
      have c1 := cut_at h1
      have c3 := cut_at h3
      have e1 : (((A ++ SG ++ FA).length : Nat) : Int) = ((A ++ SG).length : Int) + FA.length := by rw [List.length_append]; omega
      have e2 : (((A ++ SG ++ FA ++ [46]).length : Nat) : Int) = ((A ++ SG).length : Int) + FA.length + 1 := by simp only [List.length_append, List.length_singleton]; omega
      have e3 : (((A ++ SG ++ FA ++ [46] ++ FB).length : Nat) : Int) = ((A ++ SG).length : Int) + FA.length + 1 + FB.length := by simp only [List.length_append, List.length_singleton]; omega
      have e4 : (A ++ SG ++ FA ++ [46]).length = (A ++ SG).length + FA.length + 1 := by omega
      rw [e1] at p1
      rw [e2] at q1
      rw [e3] at t1
      rw [e4] at c3
      have p1' : bt t (((A ++ SG).length : Int) + FA.length) = 46 := p1
      have o1 : oneB t (((A ++ SG).length : Int) + FA.length) 46 46 = true := by
        have p2' : ((A ++ SG).length : Int) + FA.length < t.size := by omega
        unfold oneB
        rw [p1', decide_eq_true p2']
        rfl
      have cond : (oneB t (digEnd t (A ++ SG).length) 46 46 && !(digEnd t (A ++ SG).length == ((A ++ SG).length : Int) && !dgB t (digEnd t (A ++ SG).length + 1))) = true := by
        rw [r1, o1]
        simp only [Bool.true_and, Bool.not_eq_true', Bool.and_eq_false_iff, beq_eq_false_iff_ne, Bool.not_eq_false']
        by_cases hz : FA.length = 0
        · right
          cases hc : dgB t (((A ++ SG).length : Int) + FA.length + 1)
          · rw [digEnd_no hc] at q1
            omega
          · rfl
        · left
          omega
      unfold litA
      rw [if_pos cond]
      unfold litB litM digs
      rw [r1, q1, if_neg (by omega), if_pos (by omega)]
      rw [show ((((A ++ SG).length : Nat) : Int)).toNat = (A ++ SG).length by omega, show ((((A ++ SG).length : Nat) : Int) + (FA.length : Nat)).toNat = (A ++ SG).length + FA.length by omega, c1,
        show ((((A ++ SG).length : Nat) : Int) + (FA.length : Nat) + 1).toNat = (A ++ SG).length + FA.length + 1 by omega, show ((((A ++ SG).length : Nat) : Int) + (FA.length : Nat) + 1 + (FB.length : Nat)).toNat = (A ++ SG).length + FA.length + 1 + FB.length by omega, c3]
      have hj : (⟨FA.toArray⟩ : ByteArray) ++ ⟨FB.toArray⟩ = ⟨(FA ++ FB).toArray⟩ := by
        apply ByteArray.ext
        simp [ByteArray.data_append]
      rw [hj, show (0 : Int) + ((((A ++ SG).length : Nat) : Int) + (FA.length : Nat) + 1 + (FB.length : Nat) - ((((A ++ SG).length : Nat) : Int) + (FA.length : Nat) + 1)) = FB.length by omega, t1]
      simp only [if_true, List.length_append]
      congr 4
      omega
  unfold litF
  rcases hsg with rfl | rfl | rfl
  · have hfirst : oneB t A.length 43 45 = false := by
      cases FA with
      | cons b FA' =>
        obtain ⟨c1, c2⟩ := at_list (t := t) (A := A) (b := b) (B := FA' ++ ((if pt = true then 46 :: FB else []) ++ (EX ++ R))) (by rw [h]; simp)
        have := hfa b (by simp)
        unfold oneB
        rw [c1]
        simp
        omega
      | nil =>
        cases pt
        · rw [hb rfl] at hne
          simp at hne
        · obtain ⟨c1, c2⟩ := at_list (t := t) (A := A) (b := 46) (B := FB ++ (EX ++ R)) (by rw [h]; simp)
          have c1' : bt t A.length = 46 := c1
          unfold oneB
          simp [c1']
    rw [hfirst, if_neg (by decide)]
    have := body false
    rw [List.append_nil] at this
    exact this
  · obtain ⟨c1, c2⟩ := at_list (t := t) (A := A) (b := 43) (B := FA ++ ((if pt = true then 46 :: FB else []) ++ (EX ++ R))) (by rw [h]; simp)
    have c1' : bt t A.length = 43 := c1
    have o : oneB t A.length 43 45 = true := by
      unfold oneB
      simp [c1']
      omega
    rw [o, if_pos rfl, c1']
    have := body false
    simp only [List.length_append, List.length_singleton, show ((A.length + 1 : Nat) : Int) = (A.length : Int) + 1 by omega] at this
    exact this
  · obtain ⟨c1, c2⟩ := at_list (t := t) (A := A) (b := 45) (B := FA ++ ((if pt = true then 46 :: FB else []) ++ (EX ++ R))) (by rw [h]; simp)
    have c1' : bt t A.length = 45 := c1
    have o : oneB t A.length 43 45 = true := by
      unfold oneB
      simp [c1']
      omega
    rw [o, if_pos rfl, c1']
    have := body true
    simp only [List.length_append, List.length_singleton, show ((A.length + 1 : Nat) : Int) = (A.length : Int) + 1 by omega] at this
    exact this
def fg (a : Int) : Int := (48 + (Int.tmod a 10)) % 256
def u8L (l : List Int) : List UInt8 := l.map fun n => UInt8.ofNat n.toNat
theorem figures_t (l : List Int) (hl : l.length ≤ 281474976710656) : Ans (fun k => abacuslaw08_figures.f k l) (strOfNums (l.map fg)) := by
  have key : ∀ i, i ≤ (l.length : Int) → 0 ≤ i → Ans (fun k => abacuslaw08_figures.l0 k l ((l.take i.toNat).map fg ++ List.replicate (l.length - i.toNat) 0) i) (strOfNums (l.map fg)) := by
    refine left_ind fun i hi ih h0 => Ans.succ ?_
    simp only [abacuslaw08_figures.l0]
    by_cases hlt : i < (l.length : Int)
    · have hlen : ((l.take i.toNat).map fg).length = i.toNat := by rw [List.length_map, List.length_take]; omega
      have hlen2 : ((l.take i.toNat).map fg ++ List.replicate (l.length - i.toNat) (0 : Int)).length = l.length := by rw [List.length_append, hlen, List.length_replicate]; omega
      simp only [if_pos hlt, if_pos h0, hlen2]
      rw [wrap_id (by omega) (by omega)]
      have next := ih (i + 1) (by omega) (by omega) (by omega)
      have hi2 : i.toNat < l.length := by omega
      have hset : ((l.take i.toNat).map fg ++ List.replicate (l.length - i.toNat) (0 : Int)).set i.toNat ((48 + (Int.tmod (rd l i) 10)) % 256) = (l.take (i + 1).toNat).map fg ++ List.replicate (l.length - (i + 1).toNat) 0 := by
        rw [List.set_append, if_neg (by omega), hlen, Nat.sub_self, show l.length - i.toNat = (l.length - (i + 1).toNat) + 1 by omega, List.replicate_succ, List.set_cons_zero, show (i + 1).toNat = i.toNat + 1 by omega, List.take_succ_eq_append_getElem hi2, List.map_append, List.append_assoc]
        have : rd l i = l[i.toNat] := by
          unfold rd
          rw [List.getD_eq_getElem?_getD, List.getElem?_eq_getElem hi2]
          rfl
        rw [this]
        rfl
      rw [hset]
      exact next
    · simp only [if_neg hlt]
      have : i.toNat = l.length := by omega
      rw [this, List.take_length, Nat.sub_self, List.replicate_zero, List.append_nil]
      exact Ans.ret _
  unfold abacuslaw08_figures.f
  rw [show ((l.length : Int)).toNat = l.length by omega]
  simp only [if_pos (show 0 ≤ (l.length : Int) by omega), if_pos hl]
  have := key 0 (by omega) (by omega)
  simpa using this
def sgOf (a : Int) : List UInt8 := if a = 1 then [43] else if a = 2 then [45] else []
theorem sign_t (a : Int) : abacuslaw08_sign.f a = some ⟨(sgOf a).toArray⟩ := by
  unfold abacuslaw08_sign.f sgOf
  by_cases h1 : a = 1
  · simp [h1]
  · by_cases h2 : a = 2
    · simp [h2]
    · simp [h1, h2]
theorem number_t : ∀ u : Nat, u ≤ 9223372036854775807 → Ans (fun k => abacuslaw08_number.f k u) ⟨(Lib.decDigits u).toArray⟩ := by
  intro u
  induction u using Nat.strongRecOn with
  | _ u ih =>
    intro hu
    refine Ans.succ ?_
    simp only [abacuslaw08_number.f]
    by_cases h : u < 10
    · simp only [if_pos (show (u : Int) < 10 by omega)]
      rw [Lib.decDigits_one h, wrap_id (by omega) (by omega), show (48 + (u : Int)) % 256 = ((48 + u : Nat) : Int) by omega]
      exact Ans.ret _
    · simp only [if_neg (show ¬ (u : Int) < 10 by omega)]
      have e1 : Int.tdiv (u : Int) 10 = ((u / 10 : Nat) : Int) := by
        rw [Int.tdiv_eq_ediv_of_nonneg (by omega)]
        omega
      have e2 : Int.tmod (u : Int) 10 = ((u % 10 : Nat) : Int) := by
        rw [Int.tmod_eq_emod_of_nonneg (by omega)]
        omega
      rw [e1, e2, wrap_id (x := ((u / 10 : Nat) : Int)) (by omega) (by omega), wrap_id (by omega) (by omega), show (48 + ((u % 10 : Nat) : Int)) % 256 = ((48 + u % 10 : Nat) : Int) by omega]
      refine Ans.bind (ih (u / 10) (by omega) (by omega)) ?_
      have hlen : (Lib.decDigits (u / 10)).length ≤ 21 := by
        have := Lib.itoa_length_le ((u / 10 : Nat) : Int) (by omega) (by omega)
        rwa [Lib.itoa_nonneg] at this
      have h1 : (⟨(Lib.decDigits (u / 10)).toArray⟩ : ByteArray).size ≤ 21 := by
        show (Lib.decDigits (u / 10)).toArray.size ≤ 21
        simpa using hlen
      have h2 : (strOfNums [((48 + u % 10 : Nat) : Int)]).size = 1 := rfl
      simp only [Option.bind_some, h2]
      rw [if_pos (by omega)]
      have : (⟨(Lib.decDigits (u / 10)).toArray⟩ : ByteArray) ++ strOfNums [((48 + u % 10 : Nat) : Int)] = ⟨(Lib.decDigits u).toArray⟩ := by
        rw [show Lib.decDigits u = Lib.decDigits (u / 10) ++ [UInt8.ofNat (48 + u % 10)] by rw [Lib.decDigits, dif_neg h]]
        unfold strOfNums
        have ht : ((48 + u % 10 : Nat) : Int).toNat = 48 + u % 10 := by omega
        simp only [List.map_cons, List.map_nil, ht]
        apply ByteArray.ext
        rw [ByteArray.data_append]
        simp only [List.append_toArray]
      rw [this]
      exact Ans.ret _
theorem strOf_u8 (l : List Int) : strOfNums l = ⟨(u8L l).toArray⟩ := rfl
theorem u8_len (l : List Int) : (u8L l).length = l.length := by simp [u8L]
theorem fig_dig {l : List Int} (h : ∀ a ∈ l, 0 ≤ a ∧ a ≤ 255) : Dig (u8L (l.map fg)) := by
  intro b hb
  unfold u8L at hb
  rw [List.map_map] at hb
  obtain ⟨a, ha, rfl⟩ := List.mem_map.1 hb
  have hr := h a ha
  simp only [Function.comp]
  have e : fg a = ((48 + (a % 10).toNat : Nat) : Int) := by
    unfold fg
    rw [Int.tmod_eq_emod_of_nonneg (by omega)]
    omega
  rw [e, Int.toNat_natCast, dgt _ (by omega)]
  omega
section
variable (sgn : Int) (A : List Int) (pt : Bool) (B : List Int) (lt es ex : Int)
def bFA : List UInt8 := u8L (A.map fg)
def bFB : List UInt8 := if pt = true then u8L (B.map fg) else []
def bPT : List UInt8 := if pt = true then 46 :: u8L (B.map fg) else []
def bEX : List UInt8 := if lt = 1 then 101 :: (sgOf es ++ Lib.decDigits ex.toNat) else if lt = 2 then 69 :: (sgOf es ++ Lib.decDigits ex.toNat) else []
def bV : Int := if lt = 1 ∨ lt = 2 then (if es = 2 then - min ex 1000000000000000 else min ex 1000000000000000) else 0
def bTxt : List UInt8 := sgOf sgn ++ (bFA A ++ (bPT pt B ++ bEX lt es ex))
def bOk : Prop := 0 < (bFA A).length + (bFB pt B).length ∧ ((lt = 1 ∨ lt = 2) → 0 ≤ ex)
instance : Decidable (bOk A pt B lt ex) := by unfold bOk; exact inferInstance
def bRes : ByteArray × ByteArray × Int × Bool :=
  if bOk A pt B lt ex then (⟨(bTxt sgn A pt B lt es ex).toArray⟩, ⟨(bFA A ++ bFB pt B).toArray⟩, bV lt es ex - (bFB pt B).length, true) else (⟨#[]⟩, ⟨#[]⟩, 0, false)
end
theorem bEx_is {lt es ex : Int} (h : (lt = 1 ∨ lt = 2) → 0 ≤ ex) : IsEx (bEX lt es ex) (bV lt es ex) := by
  have hs : sgOf es = [] ∨ sgOf es = [43] ∨ sgOf es = [45] := by
    unfold sgOf
    by_cases h1 : es = 1
    · simp [h1]
    · by_cases h2 : es = 2
      · simp [h2]
      · simp [h1, h2]
  have hm : sgOf es = [45] ↔ es = 2 := by
    unfold sgOf
    by_cases h1 : es = 1
    · simp [h1]
    · by_cases h2 : es = 2
      · simp [h2]
      · simp [h1, h2]
  constructor
  unfold bEX bV
  by_cases h1 : lt = 1
  · right
    refine ⟨101, sgOf es, ex.toNat, .inl rfl, hs, by rw [if_pos h1], ?_⟩
    rw [if_pos (.inl h1), show ((ex.toNat : Nat) : Int) = ex by have := h (.inl h1); omega]
    by_cases h2 : es = 2
    · rw [if_pos h2, if_pos (hm.2 h2)]
    · rw [if_neg h2, if_neg (fun g => h2 (hm.1 g))]
  · by_cases h2 : lt = 2
    · right
      refine ⟨69, sgOf es, ex.toNat, .inr rfl, hs, by rw [if_neg h1, if_pos h2], ?_⟩
      rw [if_pos (.inr h2), show ((ex.toNat : Nat) : Int) = ex by have := h (.inr h2); omega]
      by_cases h2 : es = 2
      · rw [if_pos h2, if_pos (hm.2 h2)]
      · rw [if_neg h2, if_neg (fun g => h2 (hm.1 g))]
    · left
      rw [if_neg h1, if_neg h2, if_neg (by omega)]
      exact ⟨rfl, rfl⟩
theorem ba_app (a b : List UInt8) : (⟨a.toArray⟩ : ByteArray) ++ ⟨b.toArray⟩ = ⟨(a ++ b).toArray⟩ := by
  apply ByteArray.ext
  simp [ByteArray.data_append]
theorem ba_size (a : List UInt8) : (⟨a.toArray⟩ : ByteArray).size = a.length := by
  show a.toArray.size = a.length
  simp
theorem sg_len (a : Int) : (sgOf a).length ≤ 1 := by
  unfold sgOf
  split
  · decide
  · split <;> decide
theorem dec_len {u : Nat} (h : u ≤ 9223372036854775807) : (Lib.decDigits u).length ≤ 21 := by
  have := Lib.itoa_length_le (u : Int) (by omega) (by omega)
  rwa [Lib.itoa_nonneg] at this
section
variable (bl sgn : Int) (A : List Int) (pt : Bool) (B : List Int) (lt es ex : Int) (tr : ByteArray) (hA : A.length ≤ 140737488351232) (hB : B.length ≤ 140737488351232) (hex : ex ≤ 9223372036854775807)
include hA hB hex
/-- The end: the digits, with the exponent that is had. -/
theorem built_j1 (T : List UInt8) (hT : T.length ≤ 300000000000000) (h0 : 0 < (bFA A).length + (bFB pt B).length) (b : Bool) (hb : b = true ↔ lt = 1 ∨ lt = 2) (hTx : bTxt sgn A pt B lt es ex = T ++ bEX lt es ex) :
    Ans (fun k => abacuslaw08_built.j1 k ⟨(bFB pt B).toArray⟩ ⟨T.toArray⟩ 0 b bl sgn A pt B lt es ex tr) (bRes sgn A pt B lt es ex) := by
  have hfl := figures_t A (by omega)
  rw [strOf_u8] at hfl
  have hfa : (bFA A).length = A.length := by unfold bFA; rw [u8_len, List.length_map]
  have hfb : (bFB pt B).length ≤ 140737488351232 := by
    unfold bFB
    split
    · rw [u8_len, List.length_map]
      exact hB
    · exact Nat.zero_le _
  have s1 := ba_size (bFB pt B)
  have s2 := ba_size (bFA A)
  have fin : ∀ (Z : ByteArray) (v : Int), (Z, (⟨(bFA A ++ bFB pt B).toArray⟩ : ByteArray), v - (bFB pt B).length, true) = bRes sgn A pt B lt es ex → -9000000000000000000 ≤ v → v ≤ 9223372036854775807 →
      Ans (fun k => (abacuslaw08_figures.f k A).bind fun t => if t.size + (⟨(bFB pt B).toArray⟩ : ByteArray).size ≤ 9223372036854775807 then some (Z, t ++ ⟨(bFB pt B).toArray⟩, wrap64 (v - ((⟨(bFB pt B).toArray⟩ : ByteArray).size : Int)), true) else none) (bRes sgn A pt B lt es ex) := by
    intro Z v hr hv hv'
    refine Ans.bind hfl ?_
    have e : (⟨(u8L (A.map fg)).toArray⟩ : ByteArray) = ⟨(bFA A).toArray⟩ := rfl
    rw [e, s1, s2, if_pos (by omega), ba_app, wrap_id (by omega) (by omega), hr]
    exact Ans.ret _
  refine Ans.succ ?_
  simp only [abacuslaw08_built.j1]
  cases b
  · have hn : ¬ (lt = 1 ∨ lt = 2) := fun h => by cases hb.2 h
    simp only [Bool.false_eq_true, if_false]
    refine fin _ 0 ?_ (by omega) (by omega)
    unfold bRes
    rw [if_pos ⟨h0, fun h => absurd h hn⟩, hTx]
    have : bEX lt es ex = [] := by unfold bEX; rw [if_neg (fun h => hn (.inl h)), if_neg (fun h => hn (.inr h))]
    rw [this, List.append_nil]
    unfold bV
    rw [if_neg hn]
  · have hy := hb.1 rfl
    simp only [if_true]
    by_cases hneg : ex < 0
    · simp only [if_pos hneg]
      unfold bRes
      rw [if_neg (fun h => by have := h.2 hy; omega)]
      exact Ans.ret _
    · simp only [if_neg hneg]
      have hx : (⟨#[101, 69]⟩ : ByteArray).extract (lt - 1).toNat lt.toNat = ⟨(if lt = 1 then ([101] : List UInt8) else [69]).toArray⟩ := by
        rcases hy with rfl | rfl
        · decide
        · decide
      have hex2 : bEX lt es ex = (if lt = 1 then ([101] : List UInt8) else [69]) ++ (sgOf es ++ Lib.decDigits ex.toNat) := by
        unfold bEX
        rcases hy with rfl | rfl
        · rfl
        · rfl
      have hl1 : (if lt = 1 then ([101] : List UInt8) else [69]).length = 1 := by split <;> rfl
      generalize (if lt = 1 then ([101] : List UInt8) else [69]) = L at hx hex2 hl1
      rw [wrap_id (x := lt - 1) (by omega) (by omega)]
      simp only [if_pos (show 0 ≤ lt - 1 by omega), if_pos (show lt - 1 ≤ lt by omega), if_pos (show lt ≤ 2 by omega), hx, ba_app, ba_size, sign_t, Option.bind_some]
      have hl2 := sg_len es
      have hl3 := dec_len (u := ex.toNat) (by omega)
      simp only [List.length_append, hl1]
      simp only [if_pos (show T.length + 1 ≤ 9223372036854775807 by omega), if_pos (show T.length + 1 + (sgOf es).length ≤ 9223372036854775807 by omega)]
      have hnum := number_t ex.toNat (by omega)
      rw [show ((ex.toNat : Nat) : Int) = ex by omega] at hnum
      refine Ans.bind hnum ?_
      simp only [ba_size, ba_app, List.length_append, hl1]
      simp only [if_pos (show T.length + 1 + (sgOf es).length + (Lib.decDigits ex.toNat).length ≤ 9223372036854775807 by omega)]
      have hres : ∀ v, bV lt es ex = v → ((⟨(T ++ L ++ sgOf es ++ Lib.decDigits ex.toNat).toArray⟩ : ByteArray), (⟨(bFA A ++ bFB pt B).toArray⟩ : ByteArray), v - (bFB pt B).length, true) = bRes sgn A pt B lt es ex := by
        intro v hv
        unfold bRes
        rw [if_pos ⟨h0, fun _ => by omega⟩, hTx, hex2, hv]
        simp only [List.append_assoc]
      have fin' := fun v hv a b => fin (⟨(T ++ L ++ sgOf es ++ Lib.decDigits ex.toNat).toArray⟩ : ByteArray) v (hres v hv) a b
      simp only [ba_size] at fin'
      have hvd : bV lt es ex = if es = 2 then - min ex 1000000000000000 else min ex 1000000000000000 := by
        unfold bV
        rw [if_pos hy]
      by_cases h15 : ex > 1000000000000000
      · simp only [if_pos h15]
        by_cases h2 : es = 2
        · simp only [if_pos h2]
          exact fin' (-1000000000000000) (by rw [hvd, if_pos h2]; omega) (by omega) (by omega)
        · simp only [if_neg h2]
          exact fin' 1000000000000000 (by rw [hvd, if_neg h2]; omega) (by omega) (by omega)
      · simp only [if_neg h15]
        by_cases h2 : es = 2
        · simp only [if_pos h2]
          rw [wrap_id (x := -ex) (by omega) (by omega)]
          exact fin' (-ex) (by rw [hvd, if_pos h2]; omega) (by omega) (by omega)
        · simp only [if_neg h2]
          exact fin' ex (by rw [hvd, if_neg h2]; omega) (by omega) (by omega)
theorem built_j0 (T : List UInt8) (hT : T.length ≤ 300000000000000) (hTx : bTxt sgn A pt B lt es ex = T ++ bEX lt es ex) :
    Ans (fun k => abacuslaw08_built.j0 k ⟨(bFB pt B).toArray⟩ ⟨T.toArray⟩ bl sgn A pt B lt es ex tr) (bRes sgn A pt B lt es ex) := by
  have hfa : (bFA A).length = A.length := by unfold bFA; rw [u8_len, List.length_map]
  have hfb : (bFB pt B).length ≤ 140737488351232 := by
    unfold bFB
    split
    · rw [u8_len, List.length_map]
      exact hB
    · exact Nat.zero_le _
  refine Ans.succ ?_
  simp only [abacuslaw08_built.j0, ba_size]
  rw [wrap_id (by omega) (by omega)]
  by_cases h0 : (A.length : Int) + (bFB pt B).length = 0
  · simp only [if_pos h0]
    unfold bRes
    rw [if_neg (fun h => by have := h.1; omega)]
    exact Ans.ret _
  · simp only [if_neg h0]
    by_cases h1 : lt = 1
    · simp only [if_pos h1]
      exact built_j1 bl sgn A pt B lt es ex tr hA hB hex T hT (by omega) true ⟨fun _ => .inl h1, fun _ => rfl⟩ hTx
    · simp only [if_neg h1]
      exact built_j1 bl sgn A pt B lt es ex tr hA hB hex T hT (by omega) _ (by rw [beq_iff_eq]; exact ⟨fun h => .inr h, fun h => h.resolve_left h1⟩) hTx
theorem built_t : Ans (fun k => abacuslaw08_built.f k bl sgn A pt B lt es ex tr) (bRes sgn A pt B lt es ex) := by
  have hfa := figures_t A (by omega)
  have hfb := figures_t B (by omega)
  rw [strOf_u8] at hfa hfb
  have la : (u8L (A.map fg)).length = A.length := by rw [u8_len, List.length_map]
  have lb : (u8L (B.map fg)).length = B.length := by rw [u8_len, List.length_map]
  have ls := sg_len sgn
  unfold abacuslaw08_built.f
  simp only [sign_t, Option.bind_some]
  refine Ans.bind hfa ?_
  simp only [ba_size, ba_app, List.length_append]
  simp only [if_pos (show (sgOf sgn).length + (u8L (A.map fg)).length ≤ 9223372036854775807 by omega)]
  cases pt
  · simp only [Bool.false_eq_true, if_false]
    exact built_j0 bl sgn A false B lt es ex tr hA hB hex (sgOf sgn ++ u8L (A.map fg)) (by rw [List.length_append]; omega) (by unfold bTxt bFA bPT; simp)
  · simp only [if_true]
    refine Ans.bind hfb ?_
    have h46 : (⟨#[46]⟩ : ByteArray) = ⟨([46] : List UInt8).toArray⟩ := rfl
    simp only [h46, ba_size, ba_app, List.length_append, List.length_singleton]
    simp only [if_pos (show (sgOf sgn).length + (u8L (A.map fg)).length + 1 ≤ 9223372036854775807 by omega), if_pos (show (sgOf sgn).length + (u8L (A.map fg)).length + 1 + (u8L (B.map fg)).length ≤ 9223372036854775807 by omega)]
    exact built_j0 bl sgn A true B lt es ex tr hA hB hex (sgOf sgn ++ u8L (A.map fg) ++ [46] ++ u8L (B.map fg)) (by simp only [List.length_append, List.length_singleton]; omega) (by unfold bTxt bFA bPT; simp)
end
def blOf (i : Nat) : UInt8 := ([9, 10, 11, 12, 13, 32] : List UInt8).getD (i % 6) 32
def blL (n : Nat) : List UInt8 := (List.range n).map blOf
theorem blL_succ (n : Nat) : blL (n + 1) = blL n ++ [blOf n] := by
  unfold blL
  rw [List.range_succ, List.map_append]
  rfl
theorem blL_len (n : Nat) : (blL n).length = n := by simp [blL]
theorem bl_cut : ∀ r : Nat, r < 6 → (⟨#[9, 10, 11, 12, 13, 32]⟩ : ByteArray).extract r (r + 1) = ⟨[([9, 10, 11, 12, 13, 32] : List UInt8).getD r 32].toArray⟩ := by
  decide
theorem bl_is : ∀ r : Nat, r < 6 → ((([9, 10, 11, 12, 13, 32] : List UInt8).getD r 32).toNat = 32 ∨ (9 ≤ (([9, 10, 11, 12, 13, 32] : List UInt8).getD r 32).toNat ∧ (([9, 10, 11, 12, 13, 32] : List UInt8).getD r 32).toNat ≤ 13)) := by
  decide
theorem bl_loop (x5 x6 tr : ByteArray) (x7 sgn lt es ex : Int) (A B : List Int) (pt : Bool) (bl : Int) (h1 : bl ≤ 1000)
    (fin : Ans (fun k => abacuslaw08_ScanBuilds.l0 k x5 x6 x7 ⟨(blL bl.toNat).toArray⟩ bl bl sgn A pt B lt es ex tr) true) :
    ∀ i, i ≤ bl → 0 ≤ i → Ans (fun k => abacuslaw08_ScanBuilds.l0 k x5 x6 x7 ⟨(blL i.toNat).toArray⟩ i bl sgn A pt B lt es ex tr) true := by
  refine left_ind fun i hi ih h0 => ?_
  by_cases hlt : i < bl
  · refine Ans.succ ?_
    have next := ih (i + 1) (by omega) (by omega) (by omega)
    have e : Int.tmod i 6 = i % 6 := Int.tmod_eq_emod_of_nonneg h0
    have hc := bl_cut (i.toNat % 6) (by omega)
    have q1 : (i % 6).toNat = i.toNat % 6 := by omega
    have q2 : (i % 6 + 1).toNat = i.toNat % 6 + 1 := by omega
    simp only [abacuslaw08_ScanBuilds.l0, if_pos hlt, e]
    rw [wrap_id (x := i % 6 + 1) (by omega) (by omega), wrap_id (x := i + 1) (by omega) (by omega)]
    simp only [if_pos (show 0 ≤ i % 6 by omega), if_pos (show i % 6 ≤ i % 6 + 1 by omega), if_pos (show i % 6 + 1 ≤ 6 by omega), q1, q2, hc, ba_size, ba_app, blL_len, List.length_singleton]
    simp only [if_pos (show i.toNat + 1 ≤ 9223372036854775807 by omega)]
    rw [show (i + 1).toNat = i.toNat + 1 by omega, blL_succ] at next
    exact next
  · have : i = bl := by omega
    rw [this]
    exact fin
theorem stops_t (s : ByteArray) : ∃ b, abacuslaw08_stops.f s = some b ∧ (b = true → StopL s.data.toList) := by
  unfold abacuslaw08_stops.f
  by_cases h0 : s.size = 0
  · rw [if_pos ((empty_list s).2 h0)]
    refine ⟨true, rfl, fun _ b R' e => ?_⟩
    have : s.data.toList.length = s.size := by simp
    rw [e, h0] at this
    cases this
  · rw [if_neg (fun h => h0 ((empty_list s).1 h)), if_pos (by omega)]
    by_cases h1 : bt s 0 = 46
    · exact ⟨false, by rw [if_pos h1], fun h => by cases h⟩
    rw [if_neg h1]
    by_cases h2 : bt s 0 = 101
    · exact ⟨false, by rw [if_pos h2], fun h => by cases h⟩
    rw [if_neg h2]
    by_cases h3 : bt s 0 = 69
    · exact ⟨false, by rw [if_pos h3], fun h => by cases h⟩
    rw [if_neg h3]
    have good : ¬ (48 ≤ bt s 0 ∧ bt s 0 ≤ 57) → bt s 0 ≠ 43 → bt s 0 ≠ 45 → StopL s.data.toList := by
      intro a4 a5 a6 b R' e
      have hb : bt s 0 = b.toNat := bt_list (j := 0) (by rw [e]; rfl)
      rw [hb] at h1 h2 h3 a4 a5 a6
      refine ⟨by omega, ?_, ?_, ?_, ?_, ?_⟩ <;> rintro rfl <;> first | exact a5 rfl | exact a6 rfl | exact h1 rfl | exact h2 rfl | exact h3 rfl
    by_cases h4 : bt s 0 < 48
    · rw [if_pos h4]
      by_cases h5 : bt s 0 = 43
      · exact ⟨false, by rw [if_pos h5], fun h => by cases h⟩
      · exact ⟨bt s 0 != 45, by rw [if_neg h5], fun h => good (by omega) h5 (by simpa using h)⟩
    · rw [if_neg h4]
      by_cases h6 : bt s 0 > 57
      · rw [if_pos h6]
        by_cases h5 : bt s 0 = 43
        · exact ⟨false, by rw [if_pos h5], fun h => by cases h⟩
        · exact ⟨bt s 0 != 45, by rw [if_neg h5], fun h => good (by omega) h5 (by simpa using h)⟩
      · exact ⟨false, by rw [if_neg h6], fun h => by cases h⟩
section
variable (neg : Bool) (s : ByteArray) (exp : Int) (hs : s.size ≤ 281474976710656)
include hs
theorem norm_l0b (h1 : s.size ≠ 0) (h2 : -1152921504606846976 ≤ exp) (h3 : exp ≤ 1152921504606846976) : ∀ i, i ≤ (s.size : Int) → 0 ≤ i → digEnd s i = digEnd s 0 → Ans (fun k => scan_Norm.l0 k s.size i neg s exp) (nrmV neg s exp) := by
  refine left_ind fun i hi ih h0 he => Ans.succ ?_
  simp only [scan_Norm.l0]
  by_cases hlt : i < (s.size : Int)
  · simp only [if_pos hlt, digitAt_eq h0, Option.bind_some]
    cases hd : dgB s i
    · simp only [Bool.false_eq_true, if_false]
      rw [nrmV_n]
      · exact Ans.ret _
      · intro h
        rw [digEnd_no hd] at he
        have := h.2.2.2.1
        omega
    · simp only [if_true]
      rw [wrap_id (by omega) (by omega)]
      exact ih (i + 1) (by omega) (by omega) (by omega) (by rw [← he, digEnd_yes hd])
  · simp only [if_neg hlt, normal_eq neg s exp (by omega) (by omega) (by omega), Option.bind_some]
    rw [digEnd_no (dg_out hlt)] at he
    by_cases hb : (nrm neg s exp).2.2 > 1152921504606846976
    · simp only [if_pos hb]
      rw [nrmV_n]
      · exact Ans.ret _
      · intro h
        have := h.2.2.2.2
        omega
    · simp only [if_neg hb]
      rw [nrmV_y ⟨h1, h2, h3, by omega, by omega⟩]
      exact Ans.ret _
theorem norm_sb : Ans (fun k => scan_Norm.f k neg s exp) (nrmV neg s exp) := by
  have bad : ¬ okD neg s exp → Ans (fun k => scan_Norm.j0 k true neg s exp) (nrmV neg s exp) := by
    intro h
    rw [nrmV_n h]
    refine Ans.succ ?_
    simp only [scan_Norm.j0, if_true]
    exact Ans.ret _
  unfold scan_Norm.f
  by_cases h1 : s.size = 0
  · simp only [if_pos ((empty_list s).2 h1)]
    exact bad (fun h => h.1 h1)
  · simp only [if_neg (fun h => h1 ((empty_list s).1 h))]
    by_cases h2 : exp < -1152921504606846976
    · simp only [if_pos h2]
      exact bad (fun h => by have := h.2.1; omega)
    · simp only [if_neg h2]
      by_cases h3 : exp > 1152921504606846976
      · simp only [decide_eq_true h3]
        exact bad (fun h => by have := h.2.2.1; omega)
      · simp only [decide_eq_false h3]
        refine Ans.succ ?_
        simp only [scan_Norm.j0, Bool.false_eq_true, if_false]
        exact norm_l0b neg s exp hs h1 (by omega) (by omega) 0 (by omega) (by omega) rfl
end
theorem bl_run {t : ByteArray} {R : List UInt8} (hr : ∀ b R', R = b :: R' → ¬ (b.toNat = 32 ∨ (9 ≤ b.toNat ∧ b.toNat ≤ 13))) : ∀ (D A : List UInt8), t.data.toList = A ++ (D ++ R) → (∀ b ∈ D, b.toNat = 32 ∨ (9 ≤ b.toNat ∧ b.toNat ≤ 13)) → blEnd t A.length = A.length + D.length
  | [], A, h, _ => by
    cases R with
    | nil => rw [blEnd_no (blB_out (by have := end_at (by simpa using h); omega))]; simp
    | cons b R' =>
      obtain ⟨h1, h2⟩ := at_list (A := A) (b := b) (B := R') (by simpa using h)
      have := hr b R' rfl
      rw [blEnd_no]
      · simp
      · unfold blB
        rw [h1]
        simp
        omega
  | b :: D, A, h, hd => by
    have hb := hd b (by simp)
    obtain ⟨h1, h2⟩ := at_list (b := b) (A := A) (B := D ++ R) (by rw [h]; simp)
    have ih := bl_run hr D (A ++ [b]) (by rw [h]; simp) (fun c hc => hd c (by simp [hc]))
    rw [List.length_append, List.length_singleton, show ((A.length + 1 : Nat) : Int) = (A.length : Int) + 1 by omega] at ih
    have hg : blB t A.length = true := by
      unfold blB
      rw [h1]
      simp
      omega
    rw [blEnd_yes hg, ih, List.length_cons]
    omega
theorem blL_is (n : Nat) : ∀ b ∈ blL n, b.toNat = 32 ∨ (9 ≤ b.toNat ∧ b.toNat ≤ 13) := by
  intro b hb
  obtain ⟨i, _, rfl⟩ := List.mem_map.1 hb
  exact bl_is (i % 6) (by omega)
theorem sg_cases (a : Int) : sgOf a = [] ∨ sgOf a = [43] ∨ sgOf a = [45] := by
  unfold sgOf
  by_cases h1 : a = 1
  · simp [h1]
  · by_cases h2 : a = 2
    · simp [h2]
    · simp [h1, h2]
/-- Number, at a built text between blanks and a stop. -/
theorem lit_built {sgn lt es ex : Int} {A B : List Int} {pt : Bool} (n : Nat) {R : List UInt8} (hr : StopL R) (hA : ∀ a ∈ A, 0 ≤ a ∧ a ≤ 255) (hB : ∀ a ∈ B, 0 ≤ a ∧ a ≤ 255) (hok : bOk A pt B lt ex) {t : ByteArray}
    (ht : t.data.toList = blL n ++ (bTxt sgn A pt B lt es ex ++ R)) :
    blEnd t 0 = n ∧ litF t n = (decide (sgOf sgn = [45]), ⟨(bFA A ++ bFB pt B).toArray⟩, bV lt es ex - (bFB pt B).length, (n : Int) + (bTxt sgn A pt B lt es ex).length, true) := by
  have hda := fig_dig hA
  have hdb : Dig (bFB pt B) := by
    unfold bFB
    split
    · exact fig_dig hB
    · intro b hb
      cases hb
  have hpt : bPT pt B = if pt = true then 46 :: bFB pt B else [] := by
    unfold bPT bFB
    cases pt <;> rfl
  have h2 : t.data.toList = blL n ++ (sgOf sgn ++ (bFA A ++ ((if pt = true then 46 :: bFB pt B else []) ++ (bEX lt es ex ++ R)))) := by
    rw [ht, ← hpt]
    unfold bTxt
    simp only [List.append_assoc]
  have L := lit2 h2 (sg_cases sgn) hda hdb (by intro h; unfold bFB; rw [h]; rfl) hok.1 hr (bEx_is hok.2)
  rw [blL_len] at L
  constructor
  · have := bl_run (t := t) (R := bTxt sgn A pt B lt es ex ++ R) (by
      intro b R' e
      unfold bTxt at e
      rcases sg_cases sgn with h | h | h
      · rw [h] at e
        cases hfa : bFA A with
        | cons c FA' =>
          rw [hfa] at e
          simp only [List.nil_append, List.cons_append, List.cons.injEq] at e
          have := hda c (by show c ∈ bFA A; rw [hfa]; simp)
          rw [← e.1]
          omega
        | nil =>
          have hp : pt = true := by
            cases pt
            · have := hok.1
              rw [hfa] at this
              simp [bFB] at this
            · rfl
          rw [hfa, hp] at e
          simp only [bPT, if_true, List.nil_append, List.cons_append, List.cons.injEq] at e
          rw [← e.1]
          decide
      · rw [h] at e
        simp only [List.cons_append, List.cons.injEq] at e
        rw [← e.1]
        decide
      · rw [h] at e
        simp only [List.cons_append, List.cons.injEq] at e
        rw [← e.1]
        decide) (blL n) [] (by simpa using ht) (blL_is n)
    rw [blL_len] at this
    simpa using this
  · rw [L]
    congr 4
    have : (bTxt sgn A pt B lt es ex).length = (sgOf sgn).length + (bFA A).length + (if pt = true then 1 + (bFB pt B).length else 0) + (bEX lt es ex).length := by
      unfold bTxt
      rw [hpt]
      simp only [List.length_append]
      cases pt <;> simp <;> omega
    rw [this]
    omega
theorem number_lit {t : ByteArray} {n m : Nat} {g : Bool} {D : ByteArray} {v : Int} (hz : t.size ≤ 4611686018427387904) (h1 : blEnd t 0 = n) (h2 : litF t n = (g, D, v, (m : Int), true)) (hn : n ≤ t.size) (hD : D.size ≤ 281474976710656) (v1 : -4611686018427387904 ≤ v) (v2 : v ≤ 4611686018427387904) :
    Ans (fun k => scan_Number.f k t) ((nrm g D v).1, (nrm g D v).2.1, (nrm g D v).2.2, (m : Int)) := by
  have hb := blanks_l t hz 0 (by omega) (Int.le_refl _)
  rw [h1] at hb
  unfold scan_Number.f
  refine Ans.bind hb ?_
  have hl : xLiteral.f t (n : Int) = some (g, D, v, (m : Int), true) := by
    unfold xLiteral.f
    rw [if_pos ⟨by omega, by omega, by omega⟩, h2]
  simp only [hl, Option.bind_some, if_true, normal_eq g D v hD v1 v2]
  exact Ans.ret _
theorem blL_stop (n : Nat) : StopL (blL n) := by
  intro b R' e
  have := blL_is n b (by rw [e]; simp)
  refine ⟨by omega, ?_, ?_, ?_, ?_, ?_⟩ <;> rintro rfl <;> revert this <;> decide
section
variable (bl sgn : Int) (A : List Int) (pt : Bool) (B : List Int) (lt es ex : Int) (tr : ByteArray) (hA : A.length ≤ 140737488351232) (hB : B.length ≤ 140737488351232) (hex : ex ≤ 9223372036854775807)
  (rA : ∀ a ∈ A, 0 ≤ a ∧ a ≤ 255) (rB : ∀ a ∈ B, 0 ≤ a ∧ a ≤ 255) (htr : tr.size ≤ 140737488351232) (hok : bOk A pt B lt ex) (b0 : 0 ≤ bl) (b1 : bl ≤ 1000)
include hA hB hex rA rB htr hok b0 b1
theorem built_facts : (bFA A ++ bFB pt B).length ≤ 281474976702464 ∧ (bFB pt B).length ≤ 140737488351232 ∧ (bTxt sgn A pt B lt es ex).length ≤ 300000000000000 ∧ -1000000000000000 ≤ bV lt es ex ∧ bV lt es ex ≤ 1000000000000000 := by
  have hfa : (bFA A).length = A.length := by unfold bFA; rw [u8_len, List.length_map]
  have hfb : (bFB pt B).length ≤ B.length := by
    unfold bFB
    split
    · rw [u8_len, List.length_map]
      exact Nat.le_refl _
    · exact Nat.zero_le _
  have hpt : (bPT pt B).length ≤ 1 + B.length := by
    unfold bPT
    split
    · rw [List.length_cons, u8_len, List.length_map]
      omega
    · exact Nat.zero_le _
  have ls := sg_len sgn
  have le := sg_len es
  have ld := dec_len (u := ex.toNat) (by omega)
  have hx : (bEX lt es ex).length ≤ 23 := by
    unfold bEX
    split
    · rw [List.length_cons, List.length_append]
      omega
    · split
      · rw [List.length_cons, List.length_append]
        omega
      · exact Nat.zero_le _
  refine ⟨by rw [List.length_append]; omega, by omega, by unfold bTxt; simp only [List.length_append]; omega, ?_, ?_⟩
  · unfold bV
    split
    · rename_i h
      have := hok.2 h
      split <;> omega
    · omega
  · unfold bV
    split
    · rename_i h
      have := hok.2 h
      split <;> omega
    · omega
/-- Norm takes the digits of a Build. -/
theorem built_ok : okD (sgn == 2) ⟨(bFA A ++ bFB pt B).toArray⟩ (bV lt es ex - (bFB pt B).length) := by
  obtain ⟨f1, f2, f3, f4, f5⟩ := built_facts bl sgn A pt B lt es ex tr hA hB hex rA rB htr hok b0 b1
  have hz := ba_size (bFA A ++ bFB pt B)
  have hd : Dig (bFA A ++ bFB pt B) := by
    intro b hb
    rcases List.mem_append.1 hb with h | h
    · exact fig_dig rA b h
    · unfold bFB at h
      split at h
      · exact fig_dig rB b h
      · cases h
  have hE : digEnd (⟨(bFA A ++ bFB pt B).toArray⟩ : ByteArray) 0 = ((⟨(bFA A ++ bFB pt B).toArray⟩ : ByteArray).size : Int) := by
    have := (run_at (t := ⟨(bFA A ++ bFB pt B).toArray⟩) (R := []) (by intro b R' e; cases e) (bFA A ++ bFB pt B) [] (by simp) hd).1
    rw [hz]
    simpa using this
  have h0 : (⟨(bFA A ++ bFB pt B).toArray⟩ : ByteArray).size ≠ 0 := by
    rw [hz, List.length_append]
    have := hok.1
    omega
  have hn := nrm_facts (neg := (sgn == 2)) (exp := bV lt es ex - (bFB pt B).length) h0 hE
  refine ⟨h0, by omega, by omega, hE, ?_⟩
  rcases hn.2.2.2 with h | h
  · omega
  · rw [hz] at h
    omega
theorem built_fin (hst : StopL tr.data.toList) :
    Ans (fun k => abacuslaw08_ScanBuilds.l0 k ⟨(bTxt sgn A pt B lt es ex).toArray⟩ ⟨(bFA A ++ bFB pt B).toArray⟩ (bV lt es ex - (bFB pt B).length) ⟨(blL bl.toNat).toArray⟩ bl bl sgn A pt B lt es ex tr) true := by
  obtain ⟨f1, f2, f3, f4, f5⟩ := built_facts bl sgn A pt B lt es ex tr hA hB hex rA rB htr hok b0 b1
  have ho := built_ok bl sgn A pt B lt es ex tr hA hB hex rA rB htr hok b0 b1
  have z1 := ba_size (bFA A ++ bFB pt B)
  have z2 := ba_size (bTxt sgn A pt B lt es ex)
  have z3 := ba_size (blL bl.toNat)
  have z4 := blL_len bl.toNat
  have hg : decide (sgOf sgn = [45]) = (sgn == 2) := by
    rw [Bool.eq_iff_iff, decide_eq_true_iff, beq_iff_eq]
    unfold sgOf
    by_cases h1 : sgn = 1
    · simp [h1]
    · by_cases h2 : sgn = 2
      · simp [h2]
      · simp [h1, h2]
  have num : ∀ R : ByteArray, StopL R.data.toList → R.size ≤ 140737488351232 → Ans (fun k => scan_Number.f k ((⟨(blL bl.toNat).toArray⟩ : ByteArray) ++ ⟨(bTxt sgn A pt B lt es ex).toArray⟩ ++ R))
      ((nrm (sgn == 2) ⟨(bFA A ++ bFB pt B).toArray⟩ (bV lt es ex - (bFB pt B).length)).1, (nrm (sgn == 2) ⟨(bFA A ++ bFB pt B).toArray⟩ (bV lt es ex - (bFB pt B).length)).2.1, (nrm (sgn == 2) ⟨(bFA A ++ bFB pt B).toArray⟩ (bV lt es ex - (bFB pt B).length)).2.2, ((bl.toNat + (bTxt sgn A pt B lt es ex).length : Nat) : Int)) := by
    intro R hR hRs
    obtain ⟨g1, g2⟩ := lit_built (sgn := sgn) (lt := lt) (es := es) (ex := ex) bl.toNat hR rA rB hok (t := (⟨(blL bl.toNat).toArray⟩ : ByteArray) ++ ⟨(bTxt sgn A pt B lt es ex).toArray⟩ ++ R) (by simp [ByteArray.data_append])
    rw [hg, ← Int.natCast_add] at g2
    have hs : ((⟨(blL bl.toNat).toArray⟩ : ByteArray) ++ ⟨(bTxt sgn A pt B lt es ex).toArray⟩ ++ R).size = bl.toNat + (bTxt sgn A pt B lt es ex).length + R.size := by
      rw [ByteArray.size_append, ByteArray.size_append, z3, z2, z4]
    exact number_lit (by omega) g1 g2 (by omega) (by omega) (by omega) (by omega)
  have hpos : 0 < (bTxt sgn A pt B lt es ex).length := by
    have := hok.1
    have hp : (bFB pt B).length ≤ (bPT pt B).length := by
      unfold bFB bPT
      split
      · rw [List.length_cons]
        omega
      · exact Nat.le_refl _
    unfold bTxt
    simp only [List.length_append]
    omega
  have whole_ : Ans (fun k => scan_Whole.f k ((⟨(blL bl.toNat).toArray⟩ : ByteArray) ++ ⟨(bTxt sgn A pt B lt es ex).toArray⟩ ++ ⟨(blL bl.toNat).toArray⟩))
      ((nrm (sgn == 2) ⟨(bFA A ++ bFB pt B).toArray⟩ (bV lt es ex - (bFB pt B).length)).1, (nrm (sgn == 2) ⟨(bFA A ++ bFB pt B).toArray⟩ (bV lt es ex - (bFB pt B).length)).2.1, (nrm (sgn == 2) ⟨(bFA A ++ bFB pt B).toArray⟩ (bV lt es ex - (bFB pt B).length)).2.2, true) := by
    have hs : ((⟨(blL bl.toNat).toArray⟩ : ByteArray) ++ ⟨(bTxt sgn A pt B lt es ex).toArray⟩ ++ ⟨(blL bl.toNat).toArray⟩).size = bl.toNat + (bTxt sgn A pt B lt es ex).length + bl.toNat := by
      rw [ByteArray.size_append, ByteArray.size_append, z3, z2, z4]
    have hbl := bl_run (t := (⟨(blL bl.toNat).toArray⟩ : ByteArray) ++ ⟨(bTxt sgn A pt B lt es ex).toArray⟩ ++ ⟨(blL bl.toNat).toArray⟩) (R := []) (by intro b R' e; cases e) (blL bl.toNat) (blL bl.toNat ++ bTxt sgn A pt B lt es ex) (by simp [ByteArray.data_append]) (blL_is _)
    rw [List.length_append, z4] at hbl
    have hbb := blanks_l ((⟨(blL bl.toNat).toArray⟩ : ByteArray) ++ ⟨(bTxt sgn A pt B lt es ex).toArray⟩ ++ ⟨(blL bl.toNat).toArray⟩) (by omega) ((bl.toNat + (bTxt sgn A pt B lt es ex).length : Nat) : Int) (by omega) (by omega)
    rw [hbl] at hbb
    unfold scan_Whole.f
    refine Ans.bind (num ⟨(blL bl.toNat).toArray⟩ (blL_stop _) (by omega)) ?_
    simp only [if_neg (show ¬ ((bl.toNat + (bTxt sgn A pt B lt es ex).length : Nat) : Int) = 0 by omega)]
    unfold scan_blanks.f
    refine Ans.bind hbb ?_
    rw [hs]
    simp only [if_pos (show ((bl.toNat + (bTxt sgn A pt B lt es ex).length : Nat) : Int) + (bl.toNat : Nat) = ((bl.toNat + (bTxt sgn A pt B lt es ex).length + bl.toNat : Nat) : Int) by omega)]
    exact Ans.ret _
  refine Ans.succ ?_
  simp only [abacuslaw08_ScanBuilds.l0, if_neg (show ¬ bl < bl by omega)]
  refine Ans.bind (norm_sb (sgn == 2) ⟨(bFA A ++ bFB pt B).toArray⟩ (bV lt es ex - (bFB pt B).length) (by omega)) ?_
  rw [nrmV_y ho]
  have q1 : (⟨(blL bl.toNat).toArray⟩ : ByteArray).size + (⟨(bTxt sgn A pt B lt es ex).toArray⟩ : ByteArray).size ≤ 9223372036854775807 := by omega
  have q2 : ((⟨(blL bl.toNat).toArray⟩ : ByteArray) ++ ⟨(bTxt sgn A pt B lt es ex).toArray⟩).size + tr.size ≤ 9223372036854775807 := by rw [ByteArray.size_append]; omega
  have q3 : ((⟨(blL bl.toNat).toArray⟩ : ByteArray) ++ ⟨(bTxt sgn A pt B lt es ex).toArray⟩).size + (⟨(blL bl.toNat).toArray⟩ : ByteArray).size ≤ 9223372036854775807 := by rw [ByteArray.size_append]; omega
  have q4 : ((bl.toNat + (bTxt sgn A pt B lt es ex).length : Nat) : Int) = wrap64 (((⟨(blL bl.toNat).toArray⟩ : ByteArray).size : Int) + ((⟨(bTxt sgn A pt B lt es ex).toArray⟩ : ByteArray).size : Int)) := by
    rw [wrap_id (by omega) (by omega)]
    omega
  simp only [if_pos q1, if_pos q2]
  refine Ans.bind (num tr hst htr) ?_
  simp only [if_true, if_pos q4, if_pos q3, beq_self_eq_true, Bool.not_true, Bool.or_self, Bool.false_eq_true, if_false]
  refine Ans.bind whole_ ?_
  simp only [if_true, beq_self_eq_true, Bool.and_self]
  exact Ans.ret _
end
/-- The text '+3.25E1;'. -/
def cBld : ByteArray := ⟨#[43, 51, 46, 50, 53, 69, 49, 59]⟩
theorem num_cBld : Ans (fun k => scan_Number.f k cBld) (false, ⟨#[51, 50, 53]⟩, -1, 7) := by
  have ht : cBld.data.toList = blL 0 ++ (bTxt 1 [3] true [2, 5] 2 0 1 ++ [59]) := by
    unfold bTxt bEX
    rw [if_neg (by decide), if_pos (by decide), show (1 : Int).toNat = 1 by rfl, Lib.decDigits_one (by decide)]
    decide
  have hl : (bTxt 1 [3] true [2, 5] 2 0 1).length = 7 := by
    have h1 : cBld.data.toList.length = 8 := by decide
    rw [ht, List.length_append, List.length_append, blL_len, List.length_singleton] at h1
    omega
  have hst : StopL [59] := by
    intro b R' e
    simp only [List.cons.injEq] at e
    rw [← e.1]
    decide
  obtain ⟨g1, g2⟩ := lit_built (sgn := 1) (lt := 2) (es := 0) (ex := 1) (A := [3]) (B := [2, 5]) (pt := true) 0 hst (by decide) (by decide) (by decide) ht
  have hv : bV 2 0 1 - ((bFB true [2, 5]).length : Int) = -1 := by decide
  have hD : (⟨(bFA [3] ++ bFB true [2, 5]).toArray⟩ : ByteArray) = ⟨#[51, 50, 53]⟩ := by decide
  have hg : decide (sgOf 1 = [45]) = false := by decide
  rw [hv, hD, hg, hl, show ((0 : Nat) : Int) + ((7 : Nat) : Int) = ((7 : Nat) : Int) by omega] at g2
  have hn : nrm false ⟨#[51, 50, 53]⟩ (-1) = (false, ⟨#[51, 50, 53]⟩, -1) := by
    unfold nrm
    have h1 : zHead (⟨#[51, 50, 53]⟩ : ByteArray) 0 = 0 := zHead_no (by decide)
    have h2 : zTail (⟨#[51, 50, 53]⟩ : ByteArray) ((⟨#[51, 50, 53]⟩ : ByteArray).size) = 3 := zTail_no (by decide)
    rw [h1, h2, if_neg (by decide)]
    decide
  have := number_lit (t := cBld) (by decide) g1 g2 (by decide) (by decide) (by decide) (by decide)
  rw [hn] at this
  exact this
theorem scanBuilds_true (bl sgn : Int) (A : List Int) (pt : Bool) (B : List Int) (lt es ex : Int) (tr : ByteArray) (hA : A.length ≤ 140737488351232) (hB : B.length ≤ 140737488351232) (hex : ex ≤ 9223372036854775807)
    (rA : ∀ a ∈ A, 0 ≤ a ∧ a ≤ 255) (rB : ∀ a ∈ B, 0 ≤ a ∧ a ≤ 255) (htr : tr.size ≤ 140737488351232) : Ans (fun k => abacuslaw08_ScanBuilds.f k bl sgn A pt B lt es ex tr) true := by
  have j1t : ∀ (x5 x6 : ByteArray) (x7 : Int), Ans (fun k => abacuslaw08_ScanBuilds.j1 k x5 x6 x7 true bl sgn A pt B lt es ex tr) true := by
    intro x5 x6 x7
    refine Ans.succ ?_
    simp only [abacuslaw08_ScanBuilds.j1, if_true]
    exact Ans.ret _
  have hj0 : Ans (fun k => abacuslaw08_ScanBuilds.j0 k false bl sgn A pt B lt es ex tr) true := by
    refine Ans.succ ?_
    simp only [abacuslaw08_ScanBuilds.j0, Bool.false_eq_true, if_false]
    refine Ans.bind (built_t bl sgn A pt B lt es ex tr hA hB hex) ?_
    by_cases hok : bOk A pt B lt ex
    · unfold bRes
      rw [if_pos hok]
      obtain ⟨b, e1, e2⟩ := stops_t tr
      simp only [if_true, e1, Option.bind_some]
      cases b
      · simp only [Bool.false_eq_true, if_false]
        exact j1t _ _ _
      · simp only [if_true]
        by_cases h0 : bl < 0
        · simp only [if_pos h0]
          exact j1t _ _ _
        · simp only [if_neg h0]
          by_cases h1 : bl > 1000
          · simp only [decide_eq_true h1]
            exact j1t _ _ _
          · simp only [decide_eq_false h1]
            refine Ans.succ ?_
            simp only [abacuslaw08_ScanBuilds.j1, Bool.false_eq_true, if_false]
            exact bl_loop _ _ tr _ sgn lt es ex A B pt bl (by omega) (built_fin bl sgn A pt B lt es ex tr hA hB hex rA rB htr hok (by omega) (by omega) (e2 rfl)) 0 (by omega) (by omega)
    · unfold bRes
      rw [if_neg hok]
      simp only [Bool.false_eq_true, if_false]
      exact j1t _ _ _
  unfold abacuslaw08_ScanBuilds.f
  refine Ans.bind num_cBld ?_
  have hl : (⟨#[51, 50, 53]⟩ : ByteArray).toList = ([51, 50, 53] : List UInt8) := by rw [Go.ByteArray.toList_eq]
  simp only [if_true, Bool.false_eq_true, if_false, hl, bne_self_eq_false]
  exact hj0
end Go.Proofs.YtcgjfckhnpimbaaDoor.Pl
