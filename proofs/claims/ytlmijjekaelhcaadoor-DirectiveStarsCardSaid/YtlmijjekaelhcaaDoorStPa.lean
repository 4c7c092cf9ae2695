/-
  Plain laws of the directive statements: when a piece is in form, what Check and Settle answer, and DirectiveStars.
-/
import Derived.Test.YtlmijjekaelhcaaDoorStPBase
import Derived.Test.YtlmijjekaelhcaaDoorStEDix30
import Derived.Laws.BitsAllLaws
set_option linter.unusedVariables false
set_option linter.unusedSimpArgs false
namespace Go.Proofs.YtlmijjekaelhcaaDoor.Pl
open Go.RowKit Go.Proofs.YtlmijjekaelhcaaDoorW.PrintWords Go.Proofs.YtlmijjekaelhcaaDoor.EDi Go.Proofs.YtlmijjekaelhcaaDoor.X
theorem awake_true : abacuslaw13_awake.f 40 = some true := by kernel_rfl
theorem Ans.of_mono {α : Type} {g : Nat → Option α} {r : α} {n : Nat} (h : g n = Option.some r) (hm : ∀ k, LeO (g k) (g (k + 1))) : Ans g r := by
  refine ⟨n, fun k hk => ?_⟩
  obtain ⟨d, rfl⟩ := Nat.exists_eq_add_of_le hk
  induction d with
  | zero => exact h
  | succ d ih => exact hm _ _ (ih (by omega))
theorem awake_ans : Ans (fun k => abacuslaw13_awake.f k) true := Ans.of_mono (g := fun k => abacuslaw13_awake.f k) awake_true fun k => abacuslaw13_awake.mono k
theorem wrap_zero {n : Nat} (h : n < 18446744073709551616) (e : IntKind.i64.wrap (n : Int) = 0) : n = 0 := by
  rw [IntKind.wrap_i64] at e
  omega
theorem flags_in {x : Int} (h0 : -9223372036854775808 ≤ x) (h1 : x ≤ 9223372036854775807) (h : Go.bits .andNot .i64 x 31 = 0) : 0 ≤ x ∧ x ≤ 31 := by
  have hv : (BitVec.ofInt 64 x).toNat < 18446744073709551616 := (BitVec.ofInt 64 x).isLt
  have e : ((BitVec.ofInt 64 x).toNat : Int) = x % 18446744073709551616 := by
    rw [BitVec.toNat_ofInt]
    omega
  have h' : IntKind.i64.wrap (((BitVec.ofInt 64 x &&& ~~~BitVec.ofInt 64 31).toNat : Nat) : Int) = 0 := h
  rw [BitVec.toNat_and] at h'
  have e31 : (~~~BitVec.ofInt 64 31).toNat = 18446744073709551584 := by decide
  rw [e31, nat_hi64_5] at h'
  have := wrap_zero (by omega) h'
  omega
theorem or1_all : ∀ n : Fin 32, Go.bits .or .i64 ((n.val : Nat) : Int) 1 = ((n.val + 1 - n.val % 2 : Nat) : Int) := by decide
theorem or1 {x : Int} (h0 : 0 ≤ x) (h1 : x ≤ 31) : Go.bits .or .i64 x 1 = x + 1 - x % 2 := by
  have := or1_all ⟨x.toNat, by omega⟩
  have e : ((x.toNat : Nat) : Int) = x := by omega
  simp only [e] at this
  rw [this]
  omega
theorem not31_all : ∀ n : Fin 32, Go.bits .andNot .i64 ((n.val : Nat) : Int) 31 = 0 := by decide
theorem not31 {x : Int} (h0 : 0 ≤ x) (h1 : x ≤ 31) : Go.bits .andNot .i64 x 31 = 0 := by
  have := not31_all ⟨x.toNat, by omega⟩
  have e : ((x.toNat : Nat) : Int) = x := by omega
  simp only [e] at this
  exact this
def Cnt (k n least : Int) : Prop := (k = 1 ∧ least ≤ n ∧ n ≤ 4096) ∨ ((k = 0 ∨ k = 2) ∧ n = 0)
theorem counted_yes {k n l : Int} (h : Cnt k n l) : directive_counted.f k n l = some true := by
  unfold directive_counted.f
  rcases h with ⟨rfl, h1, h2⟩ | ⟨rfl | rfl, rfl⟩
  · rw [if_pos rfl, if_pos h1, decide_eq_true h2]
  · rfl
  · rfl
theorem counted_no {k n l : Int} (h : ¬ Cnt k n l) : directive_counted.f k n l = some false := by
  unfold directive_counted.f
  by_cases h1 : k = 1
  · rw [if_pos h1]
    by_cases h2 : n ≥ l
    · rw [if_pos h2, decide_eq_false (fun h3 => h (.inl ⟨h1, h2, h3⟩))]
    · rw [if_neg h2]
  · rw [if_neg h1]
    by_cases h2 : k = 0
    · rw [if_pos h2]
      have : ¬ n = 0 := fun e => h (.inr ⟨.inl h2, e⟩)
      simp [this]
    · rw [if_neg h2]
      by_cases h3 : k = 2
      · rw [if_pos h3]
        have : ¬ n = 0 := fun e => h (.inr ⟨.inr h3, e⟩)
        simp [this]
      · rw [if_neg h3]
def verbL : List UInt8 := [100, 105, 111, 117, 120, 88, 99, 115, 101, 69, 102, 70, 103, 71]
def InF (t : ByteArray) (v fl wk wd pk pr : Int) : Prop :=
  t.toList = ([] : List UInt8) ∧ v ≠ 0 ∧ 0 ≤ Lib.indexByte verbL v.toNat.toUInt8 ∧ Go.bits .andNot .i64 fl 31 = 0 ∧ Cnt wk wd 1 ∧ Cnt pk pr 0
theorem inForm_yes {t : ByteArray} {v fl wk wd pk pr : Int} (h : InF t v fl wk wd pk pr) : directive_inForm.f t v fl wk wd pk pr = some true := by
  obtain ⟨h1, h2, h3, h4, h5, h6⟩ := h
  unfold directive_inForm.f
  rw [if_pos h1, if_neg h2]
  show (if Lib.indexByte verbL v.toNat.toUInt8 ≥ 0 then _ else _) = _
  rw [if_pos h3, if_pos h4, counted_yes h5]
  simp only [Option.bind_some, if_true]
  rw [counted_yes h6]
  rfl
theorem inForm_no {t : ByteArray} {v fl wk wd pk pr : Int} (h : ¬ InF t v fl wk wd pk pr) : directive_inForm.f t v fl wk wd pk pr = some false := by
  unfold directive_inForm.f
  by_cases h1 : t.toList = ([] : List UInt8)
  · rw [if_pos h1]
    by_cases h2 : v = 0
    · rw [if_pos h2]
    · rw [if_neg h2]
      show (if Lib.indexByte verbL v.toNat.toUInt8 ≥ 0 then _ else _) = _
      by_cases h3 : Lib.indexByte verbL v.toNat.toUInt8 ≥ 0
      · rw [if_pos h3]
        by_cases h4 : Go.bits .andNot .i64 fl 31 = 0
        · rw [if_pos h4]
          by_cases h5 : Cnt wk wd 1
          · rw [counted_yes h5]
            simp only [Option.bind_some, if_true]
            rw [counted_no (fun h6 => h ⟨h1, h2, h3, h4, h5, h6⟩)]
            rfl
          · rw [counted_no h5]
            rfl
        · rw [if_neg h4]
      · rw [if_neg h3]
  · rw [if_neg h1]
theorem inF_not37 {t : ByteArray} {v fl wk wd pk pr : Int} (h : InF t v fl wk wd pk pr) : v ≠ 37 := by
  rintro rfl
  exact absurd h.2.2.1 (by decide)
theorem check_yes {t : ByteArray} {v fl wk wd pk pr : Int} (h : InF t v fl wk wd pk pr) (k : Nat) : directive_Check.f (k + 1) t v fl wk wd pk pr = some 0 := by
  unfold directive_Check.f
  rw [inForm_yes h]
  rfl
theorem check_no {t : ByteArray} {v fl wk wd pk pr : Int} (h : ¬ InF t v fl wk wd pk pr) (k : Nat) : ∃ c, directive_Check.f (k + 1) t v fl wk wd pk pr = some c ∧ (c = 0 → v = 0 ∨ v = 37) := by
  unfold directive_Check.f
  rw [inForm_no h]
  simp only [Option.bind_some, Bool.false_eq_true, if_false, directive_Check.j0]
  by_cases h1 : (t.toList == ([] : List UInt8) && (v == 37 && (fl == 0 && (wk == 0 && (wd == 0 && (pk == 0 && (pr == 0))))))) = true
  · rw [if_pos h1]
    refine ⟨0, rfl, fun _ => .inr ?_⟩
    simp at h1
    exact h1.2.1
  · rw [if_neg h1]
    by_cases h2 : t.toList = ([] : List UInt8)
    · rw [if_pos h2]
      exact ⟨132, rfl, fun e => absurd e (by decide)⟩
    · rw [if_neg h2]
      by_cases h3 : (v == 0 && (fl == 0 && (wk == 0 && (wd == 0 && (pk == 0 && (pr == 0)))))) = true
      · rw [if_pos h3]
        simp at h3
        show ∃ c, (if Lib.indexByte t.data.toList (37 : Int).toNat.toUInt8 < 0 then some (0 : Int) else some 132) = some c ∧ _
        by_cases h4 : Lib.indexByte t.data.toList (37 : Int).toNat.toUInt8 < 0
        · rw [if_pos h4]
          exact ⟨0, rfl, fun _ => .inl h3.1⟩
        · rw [if_neg h4]
          exact ⟨132, rfl, fun e => absurd e (by decide)⟩
      · rw [if_neg h3]
        exact ⟨132, rfl, fun e => absurd e (by decide)⟩
theorem settle_no {t : ByteArray} {v fl wk wd pk pr : Int} (h : ¬ InF t v fl wk wd pk pr) (k : Nat) (a b : Int) : directive_Settle.f k t v fl wk wd pk pr a b = some (0, 0, 0, 0, 132) := by
  unfold directive_Settle.f
  rw [inForm_no h]
  rfl
def setW (wk wd a : Int) : Int := if wk = 2 then a else wd
def setP (pk pr b : Int) : Int := if pk = 1 then pr else if pk = 2 then mx b (-1) else -1
def settled (v fl W P : Int) : Int × Int × Int × Int × Int :=
  if W > 4096 ∨ W < -4096 ∨ P > 4096 then (0, 0, 0, 0, 6) else if W < 0 then (v, Go.bits .or .i64 fl 1, wrap64 (-W), P, 0) else (v, fl, W, P, 0)
theorem settle_j1 (k : Nat) (v fl W P : Int) : directive_Settle.j1 (k + 2) v fl W P = some (settled v fl W P) := by
  unfold settled
  simp only [directive_Settle.j1, directive_Settle.j2]
  by_cases h1 : W > 4096
  · simp [h1]
  · by_cases h2 : W < -4096
    · simp [h1, h2]
    · by_cases h3 : P > 4096
      · simp [h1, h2, h3]
      · by_cases h4 : W < 0
        · simp [h1, h2, h3, h4]
        · simp [h1, h2, h3, h4]
theorem settle_yes {t : ByteArray} {v fl wk wd pk pr : Int} (h : InF t v fl wk wd pk pr) (k : Nat) (a b : Int) : directive_Settle.f (k + 3) t v fl wk wd pk pr a b = some (settled v fl (setW wk wd a) (setP pk pr b)) := by
  have j0 : ∀ W, directive_Settle.j0 (k + 3) b t v fl wk wd pk pr v fl W (-1) = some (settled v fl W (setP pk pr b)) := by
    intro W
    unfold setP
    simp only [directive_Settle.j0, settle_j1]
    by_cases h1 : pk = 1
    · simp [h1]
    · by_cases h2 : pk = 2
      · simp [h2]
      · simp [h1, h2]
  unfold directive_Settle.f
  rw [inForm_yes h]
  simp only [Option.bind_some, if_true, j0]
  unfold setW
  by_cases h1 : wk = 2
  · simp [h1]
  · simp [h1]
/-- The bounds that a piece's numbers keep. -/
def I64 (x : Int) : Prop := -9223372036854775808 ≤ x ∧ x ≤ 9223372036854775807
theorem j4_true (k : Nat) (s0 s1 s2 s3 : Int) (t : ByteArray) (q1 q2 q3 q4 q5 q6 : Int) (h : s3 = if q5 = 0 then -1 else q6) :
    abacuslaw13_DirectiveStars.j4 (k + 1) false s0 s1 s2 s3 t q1 q2 q3 q4 q5 q6 = some true := by
  subst h
  simp only [abacuslaw13_DirectiveStars.j4]
  by_cases h5 : q5 = 0
  · simp [h5]
  · simp [h5]
/-- Behind the turn of both stars. -/
theorem j3_bad (k : Nat) (a b : Int) (p0 : ByteArray) (p1 p2 p3 p4 p5 p6 : Int) (q0 : ByteArray) (q1 q2 q3 q4 q5 q6 : Int) :
    abacuslaw13_DirectiveStars.j3 (k + 1) a b 6 true p0 p1 p2 p3 p4 p5 p6 0 0 0 0 q0 q1 q2 q3 q4 q5 q6 = some true := by
  simp [abacuslaw13_DirectiveStars.j3]
theorem j3_good (k : Nat) (a b : Int) (p0 : ByteArray) (p1 p2 p3 p4 p5 p6 : Int) (q0 : ByteArray) (q2 q3 q4 q5 q6 : Int) (hq : InF q0 p1 q2 q3 q4 q5 q6) (h3 : q3 ≠ 2) (h5 : q5 ≠ 2) (s3 : Int)
    (hs : s3 = if q5 = 0 then -1 else q6) (hb : q4 ≤ 4096 ∧ 0 ≤ q4) (hp : s3 ≤ 4096) :
    abacuslaw13_DirectiveStars.j3 (k + 4) a b 0 false p0 p1 p2 p3 p4 p5 p6 p1 q2 q4 s3 q0 p1 q2 q3 q4 q5 q6 = some true := by
  simp only [abacuslaw13_DirectiveStars.j3, Bool.false_eq_true, if_false]
  rw [settle_yes hq k b a]
  have e1 : setW q3 q4 b = q4 := by unfold setW; rw [if_neg h3]
  have e2 : setP q5 q6 a = s3 := by
    unfold setP
    rw [hs, if_neg h5]
    have : q5 = 1 ∨ q5 = 0 := by
      rcases hq.2.2.2.2.2 with ⟨h, _⟩ | ⟨h | h, _⟩
      · exact .inl h
      · exact .inr h
      · exact absurd h h5
    rcases this with rfl | rfl <;> rfl
  rw [e1, e2]
  have e3 : settled p1 q2 q4 s3 = (p1, q2, q4, s3, 0) := by
    unfold settled
    rw [if_neg (by omega), if_neg (by omega)]
  rw [e3]
  simp only [Option.bind_some, if_true, beq_self_eq_true, Bool.not_true, Bool.or_false, Bool.false_eq_true, if_false, bne_self_eq_false]
  exact j4_true (k + 2) p1 q2 q4 s3 q0 p1 q2 q3 q4 q5 q6 hs
theorem j2_wide (k : Nat) (a b : Int) (p0 : ByteArray) (p1 p2 p3 p4 p5 p6 : Int) (q0 : ByteArray) (q1 q2 q3 q4 q5 q6 : Int) :
    abacuslaw13_DirectiveStars.j2 (k + 2) a b 6 true p0 p1 p2 p3 p4 p5 p6 0 0 0 0 q0 q1 q2 q3 q4 q5 q6 = some true := by
  simp only [abacuslaw13_DirectiveStars.j2, if_true, j3_bad]
  by_cases h : p5 = 2
  · rw [if_pos h]
    by_cases h' : b < 0
    · rw [if_pos h']
    · rw [if_neg h']
  · rw [if_neg h]
def good (p1 q2 q4 P : Int) : Int × Int × Int × Int × Int := if P > 4096 then (0, 0, 0, 0, 6) else (p1, q2, q4, P, 0)
theorem j2_ok (k : Nat) (a b : Int) (p0 : ByteArray) (p1 p2 p3 p4 p5 p6 : Int) (q2 q3 q4 : Int) (hq : InF p0 p1 q2 q3 q4 p5 p6) (h3 : q3 ≠ 2) (hw : 0 ≤ q4) (h4 : q4 ≤ 4096) (s : Int × Int × Int × Int × Int)
    (hs : s = good p1 q2 q4 (setP p5 p6 b)) :
    abacuslaw13_DirectiveStars.j2 (k + 5) a b s.2.2.2.2 false p0 p1 p2 p3 p4 p5 p6 s.1 s.2.1 s.2.2.1 s.2.2.2.1 p0 p1 q2 q3 q4 p5 p6 = some true := by
  subst hs
  simp only [abacuslaw13_DirectiveStars.j2, Bool.false_eq_true, if_false]
  obtain ⟨g1, g2, g3, g4, g5, g6⟩ := hq
  by_cases h : p5 = 2
  · rw [if_pos h]
    have e6 : p6 = 0 := by
      rcases g6 with ⟨e, _⟩ | ⟨_, e⟩
      · omega
      · exact e
    by_cases h' : b < 0
    · have eP : setP p5 p6 b = -1 := by
        unfold setP
        rw [if_neg (by omega), if_pos h]
        unfold mx
        omega
      rw [if_pos h', eP]
      unfold good
      rw [if_neg (by omega), decide_eq_false (by omega : ¬ b > 4096)]
      exact j3_good k a b p0 p1 p2 p3 p4 p5 p6 p0 q2 q3 q4 0 0 ⟨g1, g2, g3, g4, g5, .inr ⟨.inl rfl, rfl⟩⟩ h3 (by decide) (-1) rfl ⟨h4, hw⟩ (by omega)
    · have eP : setP p5 p6 b = b := by
        unfold setP
        rw [if_neg (by omega), if_pos h]
        unfold mx
        omega
      rw [if_neg h', eP]
      by_cases hb : b > 4096
      · unfold good
        rw [if_pos hb, decide_eq_true hb]
        exact j3_bad (k + 3) a b p0 p1 p2 p3 p4 p5 p6 p0 p1 q2 q3 q4 1 b
      · unfold good
        rw [if_neg hb, decide_eq_false hb]
        exact j3_good k a b p0 p1 p2 p3 p4 p5 p6 p0 q2 q3 q4 1 b ⟨g1, g2, g3, g4, g5, .inl ⟨rfl, by omega, by omega⟩⟩ h3 (by decide) b rfl ⟨h4, hw⟩ (by omega)
  · rw [if_neg h]
    have eP : setP p5 p6 b = (if p5 = 0 then -1 else p6) ∧ setP p5 p6 b ≤ 4096 := by
      unfold setP
      rcases g6 with ⟨rfl, h1, h2⟩ | ⟨rfl | rfl, rfl⟩
      · exact ⟨rfl, h2⟩
      · exact ⟨rfl, by show (-1 : Int) ≤ 4096; omega⟩
      · exact absurd rfl h
    unfold good
    rw [if_neg (by omega)]
    exact j3_good k a b p0 p1 p2 p3 p4 p5 p6 p0 q2 q3 q4 p5 p6 ⟨g1, g2, g3, g4, g5, g6⟩ h3 h _ eP.1 ⟨h4, hw⟩ eP.2
theorem j1_wide (k : Nat) (a b : Int) (p0 : ByteArray) (p1 p2 p3 p4 p5 p6 : Int) (q0 : ByteArray) (q1 q2 q3 q4 q5 q6 : Int) :
    abacuslaw13_DirectiveStars.j1 (k + 3) a b 6 true p0 p1 p2 p3 p4 p5 p6 0 0 0 0 q0 q1 q2 q3 q4 q5 q6 = some true := by
  simp only [abacuslaw13_DirectiveStars.j1, j2_wide]
  by_cases h : a < 0
  · rw [if_pos h, if_neg (by omega)]
  · rw [if_neg h]
    by_cases h' : a = 0
    · rw [if_pos h']
    · rw [if_neg h']
theorem stars_in (k : Nat) (a b : Int) (p0 : ByteArray) (p1 p2 p3 p4 p5 p6 : Int) (h2 : I64 p2) (hp : InF p0 p1 p2 p3 p4 p5 p6) (s : Int × Int × Int × Int × Int)
    (hs : s = settled p1 p2 (setW p3 p4 a) (setP p5 p6 b)) :
    abacuslaw13_DirectiveStars.j0 (k + 7) a b s.2.2.2.2 false p0 p1 p2 p3 p4 p5 p6 s.1 s.2.1 s.2.2.1 s.2.2.2.1 = some true := by
  subst hs
  have fl := flags_in h2.1 h2.2 hp.2.2.2.1
  simp only [abacuslaw13_DirectiveStars.j0, Bool.false_eq_true, if_false]
  by_cases h3 : p3 = 2
  · rw [if_pos h3]
    have eW : setW p3 p4 a = a := by
      unfold setW
      rw [if_pos h3]
    rw [eW]
    by_cases hw : a > 4096 ∨ a < -4096
    · have es : settled p1 p2 a (setP p5 p6 b) = (0, 0, 0, 0, 6) := by
        unfold settled
        rw [if_pos (by omega)]
      rw [es]
      by_cases ha : a > 4096
      · rw [if_pos ha]
        exact j1_wide (k + 3) a b p0 p1 p2 p3 p4 p5 p6 p0 p1 p2 p3 p4 p5 p6
      · rw [if_neg ha, decide_eq_true (by omega : a < -4096)]
        exact j1_wide (k + 3) a b p0 p1 p2 p3 p4 p5 p6 p0 p1 p2 p3 p4 p5 p6
    · rw [if_neg (by omega), decide_eq_false (by omega : ¬ a < -4096)]
      simp only [abacuslaw13_DirectiveStars.j1]
      obtain ⟨g1, g2, g3, g4, g5, g6⟩ := hp
      by_cases ha : a < 0
      · rw [if_pos ha, if_neg (by omega)]
        have ew : wrap64 (-a) = -a := wrap_id (by omega) (by omega)
        have es : settled p1 p2 a (setP p5 p6 b) = good p1 (Go.bits .or .i64 p2 1) (wrap64 (-a)) (setP p5 p6 b) := by
          unfold settled good
          by_cases hP : setP p5 p6 b > 4096
          · rw [if_pos (by omega), if_pos hP]
          · rw [if_neg (by omega), if_neg hP, if_pos ha]
        rw [es]
        refine j2_ok k a b p0 p1 p2 p3 p4 p5 p6 (Go.bits .or .i64 p2 1) 1 (wrap64 (-a)) ⟨g1, g2, g3, ?_, .inl ⟨rfl, by omega, by omega⟩, g6⟩ (by decide) (by omega) (by omega) _ rfl
        rw [or1 fl.1 fl.2]
        exact not31 (by omega) (by omega)
      · rw [if_neg ha]
        have es : settled p1 p2 a (setP p5 p6 b) = good p1 p2 a (setP p5 p6 b) := by
          unfold settled good
          by_cases hP : setP p5 p6 b > 4096
          · rw [if_pos (by omega), if_pos hP]
          · rw [if_neg (by omega), if_neg hP, if_neg ha]
        rw [es]
        by_cases hz : a = 0
        · rw [if_pos hz]
          exact j2_ok k a b p0 p1 p2 p3 p4 p5 p6 p2 0 a ⟨g1, g2, g3, g4, .inr ⟨.inl rfl, hz⟩, g6⟩ (by decide) (by omega) (by omega) _ rfl
        · rw [if_neg hz]
          exact j2_ok k a b p0 p1 p2 p3 p4 p5 p6 p2 1 a ⟨g1, g2, g3, g4, .inl ⟨rfl, by omega, by omega⟩, g6⟩ (by decide) (by omega) (by omega) _ rfl
  · rw [if_neg h3]
    have eW : setW p3 p4 a = p4 := by
      unfold setW
      rw [if_neg h3]
    have h4 : 0 ≤ p4 ∧ p4 ≤ 4096 := by
      rcases hp.2.2.2.2.1 with ⟨_, _, _⟩ | ⟨_, _⟩ <;> omega
    have es : settled p1 p2 p4 (setP p5 p6 b) = good p1 p2 p4 (setP p5 p6 b) := by
      unfold settled good
      by_cases hP : setP p5 p6 b > 4096
      · rw [if_pos (by omega), if_pos hP]
      · rw [if_neg (by omega), if_neg hP, if_neg (by omega)]
    rw [eW, es]
    exact j2_ok (k + 1) a b p0 p1 p2 p3 p4 p5 p6 p2 p3 p4 hp h3 h4.1 h4.2 _ rfl
theorem directiveStars_true (p0 : ByteArray) (p1 p2 p3 p4 p5 p6 a b : Int) (h2 : I64 p2) : Ans (fun k => abacuslaw13_DirectiveStars.f k p0 p1 p2 p3 p4 p5 p6 a b) true := by
  unfold abacuslaw13_DirectiveStars.f
  refine Ans.bind awake_ans ?_
  simp only [if_true]
  refine ⟨7, fun k hk => ?_⟩
  obtain ⟨d, rfl⟩ : ∃ d, k = d + 7 := ⟨k - 7, by omega⟩
  simp only []
  by_cases h : InF p0 p1 p2 p3 p4 p5 p6
  · rw [settle_yes h (d + 4) a b]
    simp only [Option.bind_some]
    rw [check_yes h (d + 6)]
    simp only [Option.bind_some, if_true]
    rw [if_neg h.2.1]
    have e37 : (p1 == 37) = false := beq_eq_false_iff_ne.2 (inF_not37 h)
    rw [e37]
    exact stars_in d a b p0 p1 p2 p3 p4 p5 p6 h2 h _ rfl
  · rw [settle_no h]
    simp only [Option.bind_some]
    obtain ⟨c, hc, h0⟩ := check_no h (d + 6)
    rw [hc]
    simp only [Option.bind_some]
    have j : abacuslaw13_DirectiveStars.j0 (d + 7) a b 132 true p0 p1 p2 p3 p4 p5 p6 0 0 0 0 = some true := by simp [abacuslaw13_DirectiveStars.j0]
    by_cases e : c = 0
    · rw [if_pos e]
      by_cases e0 : p1 = 0
      · rw [if_pos e0]
        exact j
      · rw [if_neg e0]
        have : (p1 == 37) = true := by
          rcases h0 e with h | h
          · exact absurd h e0
          · rw [h]
            rfl
        rw [this]
        exact j
    · rw [if_neg e]
      exact j
end Go.Proofs.YtlmijjekaelhcaaDoor.Pl
