/-
  Plain laws of the scan statements: a Dec's text reads back as the Dec; ScanBacks answers true.
-/
import Derived.Test.YtcgjfckhnpimbaaDoorPj
import Derived.Test.YtcgjfckhnpimbaaDoorXLit
import Derived.Test.YtcgjfckhnpimbaaDoorEScanx14
import Derived.Test.YtcgjfckhnpimbaaDoorEScanx46
set_option linter.unusedVariables false
set_option linter.unusedSimpArgs false
set_option linter.unusedSectionVars false
namespace Go.Proofs.YtcgjfckhnpimbaaDoor.Pl
open Go.RowKit Go.Proofs.YtcgjfckhnpimbaaDoorW.PrintWords Go.Proofs.YtcgjfckhnpimbaaDoor.X Go.Proofs.YtcgjfckhnpimbaaDoor.EScan

/-! ### The normal form of a normal form -/
theorem nrm_again (g : Bool) {d : ByteArray} {e : Int} (n : Nrm d e) : nrm g d e = (g, d, e) := by
  unfold nrm
  by_cases h : d = zr
  · have h1 : zHead d 0 = (d.size : Int) := by
      rw [h]
      unfold zr
      rw [zHead_yes (by decide), zHead_no (by decide)]
      rfl
    rw [if_pos h1, n.zero h]
    rw [h]
    rfl
  · have h0 : zHead d 0 = 0 := zHead_no (zB_ne (n.head h))
    have h2 : zTail d d.size = d.size := zTail_no (fun g => n.last h g.2)
    have hp := n.pos
    rw [h0, h2, if_neg (by omega)]
    have : d.extract (0 : Int).toNat ((d.size : Int)).toNat = d := by
      rw [show (0 : Int).toNat = 0 by rfl, show ((d.size : Int)).toNat = d.size by omega]
      exact ByteArray.extract_zero_size
    rw [this]
    congr 2
    omega
theorem nrmV_again (g : Bool) {d : ByteArray} {e : Int} (n : Nrm d e) (h1 : -1152921504606846976 ≤ e) (h2 : e ≤ 1152921504606846976) : nrmV g d e = (g, d, e, 0) := by
  have hn := nrm_again g n
  have hp := n.pos
  rw [nrmV_y ⟨by omega, h1, h2, n.dig, by rw [hn]; exact h2⟩, hn]
theorem cmp_self : ∀ l : List UInt8, Lib.compareBytes l l = 0
  | [] => rfl
  | a :: l => by
    unfold Lib.compareBytes
    rw [if_neg (UInt8.lt_irrefl a), if_neg (UInt8.lt_irrefl a)]
    exact cmp_self l
theorem szV_self (d : ByteArray) (e : Int) : szV d e d e = 0 := by
  unfold szV
  by_cases h : d = zr
  · rw [if_pos h, if_pos h]
  · rw [if_neg h, if_neg h, if_pos rfl]
    exact cmp_self _
theorem cmpN_self (g : Bool) (d : ByteArray) (e : Int) : cmpN g d e g d e = 0 := by
  unfold cmpN
  rw [szV_self]
  split <;> rfl

/-! ### 'is' -/
section
variable (neg : Bool) (s : ByteArray) (exp : Int) (hs : s.size ≤ 140737488351232)
include hs
theorem is_l0 (h1 : s.size ≠ 0) (h2 : -1152921504606846976 ≤ exp) (h3 : exp ≤ 1152921504606846976) : ∀ i, i ≤ (s.size : Int) → 0 ≤ i → digEnd s i = digEnd s 0 → 0 ≤ zTail s i → zTail s i ≤ i →
    Ans (fun k => abacuslaw08_is.l0 k (i - zTail s i) (decide (zHead s 0 < i)) i neg s exp) (decide (okD neg s exp)) := by
  have hr := zHead_range s 0 (by omega)
  refine left_ind fun i hi ih h0 he t0 t1 => Ans.succ ?_
  simp only [abacuslaw08_is.l0]
  by_cases hlt : i < (s.size : Int)
  · simp only [if_pos hlt, if_pos h0]
    have bad : dgB s i = false → Ans (fun k => abacuslaw08_is.j2 k (i - zTail s i) (decide (zHead s 0 < i)) i (bt s i) true neg s exp) (decide (okD neg s exp)) := by
      intro hd
      refine Ans.succ ?_
      simp only [abacuslaw08_is.j2, if_true]
      rw [decide_eq_false]
      · exact Ans.ret _
      · intro h
        rw [digEnd_no hd] at he
        have := h.2.2.2.1
        omega
    by_cases g : bt s i < 48
    · simp only [if_pos g]
      refine bad ?_
      unfold dgB
      simp
      omega
    · simp only [if_neg g]
      by_cases g' : bt s i > 57
      · simp only [decide_eq_true g']
        refine bad ?_
        unfold dgB
        simp
        omega
      · simp only [decide_eq_false g']
        have hd : dgB s i = true := by
          unfold dgB
          simp
          omega
        refine Ans.succ ?_
        simp only [abacuslaw08_is.j2, Bool.false_eq_true, if_false]
        have next := ih (i + 1) (by omega) (by omega) (by omega) (by rw [← he, digEnd_yes hd])
        rw [wrap_id (x := i + 1) (by omega) (by omega)]
        by_cases e : bt s i = 48
        · simp only [if_pos e]
          rw [wrap_id (by omega) (by omega)]
          have hz : zTail s (i + 1) = zTail s i := by
            rw [zTail_yes ⟨by omega, by rw [show i + 1 - 1 = i by omega]; exact e⟩, show i + 1 - 1 = i by omega]
          have hh : decide (zHead s 0 < i + 1) = decide (zHead s 0 < i) := by
            rw [decide_eq_decide]
            constructor
            · intro h
              by_cases e2 : zHead s 0 = i
              · have := zHead_stop s 0 (by omega)
                rw [e2, zB_of hlt e] at this
                cases this
              · omega
            · omega
          rw [hz, hh, show i + 1 - zTail s i = i - zTail s i + 1 by omega] at next
          exact next t0 (by omega)
        · simp only [if_neg e]
          have hz : zTail s (i + 1) = i + 1 := zTail_no (fun h => e (by have := h.2; rwa [show i + 1 - 1 = i by omega] at this))
          have hh : decide (zHead s 0 < i + 1) = true := by
            rw [decide_eq_true_iff]
            by_cases hc : zHead s 0 < i + 1
            · exact hc
            · exact absurd (zHead_in s 0 (by omega) i h0 (by omega)) e
          rw [hz, hh, show i + 1 - (i + 1) = (0 : Int) by omega] at next
          exact next (by omega) (by omega)
  · simp only [if_neg hlt]
    have hi' : i = s.size := by omega
    rw [digEnd_no (dg_out hlt), hi'] at he
    have hok : decide (okD neg s exp) = decide ((nrm neg s exp).2.2 ≤ 1152921504606846976) := by
      rw [decide_eq_decide]
      exact ⟨fun h => h.2.2.2.2, fun h => ⟨h1, h2, h3, he.symm, h⟩⟩
    rw [hok]
    unfold nrm
    subst hi'
    by_cases hz : zHead s 0 = (s.size : Int)
    · simp only [decide_eq_false (show ¬ zHead s 0 < (s.size : Int) by omega), Bool.false_eq_true, if_false, if_pos hz]
      exact Ans.ret _
    · simp only [decide_eq_true (show zHead s 0 < (s.size : Int) by omega), if_true, if_neg hz]
      rw [wrap_id (by omega) (by omega)]
      rw [show decide (exp + (s.size : Int) - zTail s s.size ≤ 1152921504606846976) = decide (exp ≤ 1152921504606846976 - ((s.size : Int) - zTail s s.size)) by rw [decide_eq_decide]; omega]
      exact Ans.ret _
theorem is_t : Ans (fun k => abacuslaw08_is.f k neg s exp) (decide (okD neg s exp)) := by
  have bad : ¬ okD neg s exp → Ans (fun k => abacuslaw08_is.j0 k true neg s exp) (decide (okD neg s exp)) := by
    intro h
    rw [decide_eq_false h]
    refine Ans.succ ?_
    simp only [abacuslaw08_is.j0, if_true]
    exact Ans.ret _
  unfold abacuslaw08_is.f
  by_cases h1 : s.size = 0
  · simp only [if_pos ((empty_list s).2 h1)]
    exact bad (fun h => h.1 h1)
  · simp only [if_neg (fun h => h1 ((empty_list s).1 h))]
    by_cases h2 : exp < -1152921504606846976
    · simp only [if_pos h2]
      exact bad (fun h => by have := h.2.1; omega)
    · simp only [if_neg h2]
      by_cases h3 : exp > 1152921504606846976
      · simp only [decide_eq_true h3]
        exact bad (fun h => by have := h.2.2.1; omega)
      · simp only [decide_eq_false h3]
        refine Ans.succ ?_
        simp only [abacuslaw08_is.j0, Bool.false_eq_true, if_false]
        have hz : zTail s 0 = 0 := zTail_no (fun h => absurd h.1 (by omega))
        have hr := zHead_range s 0 (by omega)
        have := is_l0 neg s exp hs h1 (by omega) (by omega) 0 (by omega) (by omega) rfl (by omega) (by omega)
        rw [hz, decide_eq_false (show ¬ zHead s 0 < 0 by omega)] at this
        exact this
end

/-! ### The text of a Dec reads back -/
def tailL (e : Int) : List UInt8 := if e = 0 then [] else 101 :: Lib.itoa e
def sgL (g : Bool) : List UInt8 := if g = true then [45] else []
theorem txt_list (g : Bool) (d : ByteArray) (e : Int) : (txt g d e).data.toList = (sgL g ++ d.data.toList) ++ tailL e := by
  unfold txt sgL tailL
  cases g <;> by_cases h : e = 0 <;> simp [h, ByteArray.data_append]
theorem at_list {t : ByteArray} {A B : List UInt8} {b : UInt8} (h : t.data.toList = A ++ b :: B) : bt t A.length = b.toNat ∧ A.length < t.size := by
  have hl : t.data.toList.length = t.size := by simp
  constructor
  · refine bt_list ?_
    rw [h]
    simp
  · rw [← hl, h]
    simp
def hfold (x : Int) (l : List UInt8) : Int := l.foldl (fun x b => cap15 (x * 10 + ((b.toNat : Int) - 48))) x
theorem drop_bt2 {d : ByteArray} {j : Nat} (h : j < d.size) : ∃ b, d.data.toList.drop j = b :: d.data.toList.drop (j + 1) ∧ (b.toNat : Int) = bt d j := by
  obtain ⟨b, hb, he⟩ := list_bt h
  refine ⟨b, ?_, he⟩
  obtain ⟨hl, hb⟩ := List.getElem?_eq_some_iff.1 hb
  rw [List.drop_eq_getElem_cons hl, hb]
theorem expRun_list (t : ByteArray) : ∀ i, i ≤ (t.size : Int) → 0 ≤ i → (∀ j, i ≤ j → j < t.size → dgB t j = true) → ∀ x, expRun t i x = hfold x (t.data.toList.drop i.toNat) := by
  refine left_ind fun i hi ih h0 hd x => ?_
  by_cases hlt : i < t.size
  · obtain ⟨b, e1, e2⟩ := drop_bt2 (d := t) (j := i.toNat) (by omega)
    rw [expRun_yes (hd i (by omega) hlt), ih (i + 1) (by omega) (by omega) (by omega) (fun j h => hd j (by omega)), e1, show (i + 1).toNat = i.toNat + 1 by omega]
    unfold hfold
    rw [List.foldl_cons, e2, show ((i.toNat : Nat) : Int) = i by omega]
  · rw [expRun_no (dg_out hlt), List.drop_eq_nil_of_le (by simp; omega)]
    rfl
theorem dgt (v : Nat) (h : v < 10) : (UInt8.ofNat (48 + v)).toNat = 48 + v := by
  rw [UInt8.toNat_ofNat']
  omega
theorem hfold_dec : ∀ u : Nat, u ≤ 1000000000000000 → hfold 0 (Lib.decDigits u) = u := by
  intro u
  induction u using Nat.strongRecOn with
  | _ u ih =>
    intro hu
    by_cases h : u < 10
    · rw [Lib.decDigits_one h]
      unfold hfold
      simp only [List.foldl_cons, List.foldl_nil, dgt u h]
      unfold cap15
      split <;> omega
    · rw [Lib.decDigits, dif_neg h]
      have := ih (u / 10) (by omega) (by omega)
      unfold hfold at this ⊢
      rw [List.foldl_append, this]
      simp only [List.foldl_cons, List.foldl_nil, dgt (u % 10) (by omega)]
      unfold cap15
      split <;> omega
theorem dec_all : ∀ u : Nat, Lib.decDigits u ≠ [] ∧ ∀ b ∈ Lib.decDigits u, 48 ≤ b.toNat ∧ b.toNat ≤ 57 := by
  intro u
  induction u using Nat.strongRecOn with
  | _ u ih =>
    by_cases h : u < 10
    · rw [Lib.decDigits_one h]
      refine ⟨by simp, fun b hb => ?_⟩
      rw [List.mem_singleton.1 hb, dgt u h]
      omega
    · rw [Lib.decDigits, dif_neg h]
      have := ih (u / 10) (by omega)
      refine ⟨by simp, fun b hb => ?_⟩
      rcases List.mem_append.1 hb with hb | hb
      · exact this.2 b hb
      · rw [List.mem_singleton.1 hb, dgt (u % 10) (by omega)]
        omega
/-- Behind A stand the digits of u, up to the end. -/
theorem dec_at {t : ByteArray} {A : List UInt8} {u : Nat} (h : t.data.toList = A ++ Lib.decDigits u) (hu : u ≤ 1000000000000000) :
    (A.length : Int) < t.size ∧ dgB t A.length = true ∧ digEnd t A.length = t.size ∧ expRun t A.length 0 = u ∧ ∀ a b, a < 48 → b < 48 → oneB t A.length a b = false := by
  have hl : t.data.toList.length = t.size := by simp
  have hn := dec_all u
  have hlen : 0 < (Lib.decDigits u).length := List.length_pos_iff.2 hn.1
  have hs : t.size = A.length + (Lib.decDigits u).length := by rw [← hl, h, List.length_append]
  have hb : ∀ j : Int, (A.length : Int) ≤ j → j < t.size → 48 ≤ bt t j ∧ bt t j ≤ 57 := by
    intro j h1 h2
    have hj : j.toNat - A.length < (Lib.decDigits u).length := by omega
    have e : t.data.toList[j.toNat]? = some (Lib.decDigits u)[j.toNat - A.length] := by
      rw [h, List.getElem?_append_right (by omega), List.getElem?_eq_getElem hj]
    have := bt_list e
    rw [show ((j.toNat : Nat) : Int) = j by omega] at this
    have hm := hn.2 _ (List.getElem_mem hj)
    omega
  have hd : ∀ j : Int, (A.length : Int) ≤ j → j < t.size → dgB t j = true := by
    intro j h1 h2
    have := hb j h1 h2
    unfold dgB
    simp
    omega
  refine ⟨by omega, hd _ (by omega) (by omega), digEnd_eq (Int.le_refl _) (dg_out (by omega)) _ (by omega) hd, ?_, fun a b ha hb' => ?_⟩
  · rw [expRun_list t _ (by omega) (by omega) hd, h, show ((A.length : Int)).toNat = A.length by omega, List.drop_left, hfold_dec u hu]
  · have := hb A.length (by omega) (by omega)
    unfold oneB
    simp
    omega
theorem tail_at {t : ByteArray} {A : List UInt8} {e : Int} (g : Bool) (d : ByteArray) (h : t.data.toList = A ++ tailL e) (h1 : -1000000000000000 ≤ e) (h2 : e ≤ 1000000000000000) :
    litTail t g d 0 A.length = (g, d, e, (t.size : Int), true) ∧ dgB t A.length = false ∧ oneB t A.length 46 46 = false := by
  have hl : t.data.toList.length = t.size := by simp
  unfold tailL at h
  by_cases e0 : e = 0
  · rw [if_pos e0, List.append_nil] at h
    have hs : t.size = A.length := by rw [← hl, h]
    refine ⟨?_, dg_out (by omega), one_out (by omega)⟩
    rw [litTail_n (one_out (by omega)), e0, hs]
    rfl
  · rw [if_neg e0] at h
    obtain ⟨b1, b2⟩ := at_list h
    have b1' : bt t A.length = 101 := b1
    have o1 : oneB t A.length 101 69 = true := by
      unfold oneB
      simp [b1']
      omega
    refine ⟨?_, ?_, ?_⟩
    · by_cases hneg : e < 0
      · have hI : Lib.itoa e = 45 :: Lib.decDigits e.natAbs := by
          unfold Lib.itoa
          rw [if_pos hneg]
        rw [hI] at h
        have h' : t.data.toList = (A ++ [101]) ++ 45 :: Lib.decDigits e.natAbs := by rw [h]; simp
        have h'' : t.data.toList = (A ++ [101, 45]) ++ Lib.decDigits e.natAbs := by rw [h]; simp
        obtain ⟨c1, c2⟩ := at_list h'
        obtain ⟨f1, f2, f3, f4, f5⟩ := dec_at h'' (by omega)
        simp only [List.length_append, List.length_cons, List.length_nil] at c1 c2 f1 f2 f3 f4 f5
        have q1 : ((A.length + (0 + 1) : Nat) : Int) = (A.length : Int) + 1 := by omega
        have q2 : ((A.length + (0 + 1 + 1) : Nat) : Int) = (A.length : Int) + 1 + 1 := by omega
        rw [q1] at c1
        rw [q2] at f1 f2 f3 f4 f5
        have c1' : bt t ((A.length : Int) + 1) = 45 := c1
        have o2 : oneB t ((A.length : Int) + 1) 43 45 = true := by
          unfold oneB
          simp [c1']
          omega
        rw [litTail_sd o1 o2 (b := true) (by rw [c1']; rfl) f2]
        unfold litExp
        simp only [if_true]
        rw [f3, f4]
        have : -((e.natAbs : Nat) : Int) - 0 = e := by omega
        rw [this]
      · have hI : Lib.itoa e = Lib.decDigits e.toNat := by
          unfold Lib.itoa
          rw [if_neg hneg]
        rw [hI] at h
        have h'' : t.data.toList = (A ++ [101]) ++ Lib.decDigits e.toNat := by rw [h]; simp
        obtain ⟨f1, f2, f3, f4, f5⟩ := dec_at h'' (by omega)
        simp only [List.length_append, List.length_cons, List.length_nil] at f1 f2 f3 f4 f5
        have q1 : ((A.length + (0 + 1) : Nat) : Int) = (A.length : Int) + 1 := by omega
        rw [q1] at f1 f2 f3 f4 f5
        rw [litTail_zd o1 (f5 43 45 (by omega) (by omega)) f2]
        unfold litExp
        simp only [Bool.false_eq_true, if_false]
        rw [f3, f4]
        have : ((e.toNat : Nat) : Int) - 0 = e := by omega
        rw [this]
    · unfold dgB
      simp [b1']
    · unfold oneB
      simp [b1']
theorem lit_txt (g : Bool) {d : ByteArray} {e : Int} (n : Nrm d e) (h1 : -1000000000000000 ≤ e) (h2 : e ≤ 1000000000000000) :
    litF (txt g d e) 0 = (g, d, e, ((txt g d e).size : Int), true) ∧ blEnd (txt g d e) 0 = 0 := by
  have hl : (txt g d e).data.toList.length = (txt g d e).size := by simp
  have hT := txt_list g d e
  obtain ⟨t1, t2, t3⟩ := tail_at g d hT h1 h2
  have hp := n.pos
  have hdl : d.data.toList.length = d.size := by simp
  have hA : (sgL g ++ d.data.toList).length = (sgL g).length + d.size := by rw [List.length_append, hdl]
  have hs : (sgL g).length + d.size ≤ (txt g d e).size := by rw [← hl, hT, List.length_append, hA]; omega
  rw [hA] at t1 t2 t3
  generalize txt g d e = t at *
  have hb : ∀ j : Int, 0 ≤ j → j < d.size → bt t ((sgL g).length + j) = bt d j := by
    intro j g0 g1
    obtain ⟨b, e1, e2⟩ := list_bt (s := d) (j := j.toNat) (by omega)
    have : t.data.toList[(sgL g).length + j.toNat]? = some b := by
      rw [hT, List.getElem?_append_left (by rw [hA]; omega), List.getElem?_append_right (by omega), show (sgL g).length + j.toNat - (sgL g).length = j.toNat by omega]
      exact e1
    have := bt_list this
    rw [show (((sgL g).length + j.toNat : Nat) : Int) = (sgL g).length + j by omega] at this
    rw [this, e2, show ((j.toNat : Nat) : Int) = j by omega]
  have hdg : ∀ j : Int, ((sgL g).length : Int) ≤ j → j < (sgL g).length + d.size → dgB t j = true := by
    intro j g0 g1
    have := hb (j - (sgL g).length) (by omega) (by omega)
    rw [show ((sgL g).length : Int) + (j - (sgL g).length) = j by omega] at this
    have hd := dig_all n.dig (i := j - (sgL g).length) (by omega) (by omega)
    unfold dgB
    simp
    omega
  have hq : (((sgL g).length + d.size : Nat) : Int) = (sgL g).length + d.size := by omega
  rw [hq] at t1 t2 t3
  have hE : digEnd t (sgL g).length = (sgL g).length + d.size := digEnd_eq (by omega) t2 _ (by omega) hdg
  have hx : t.extract (sgL g).length ((sgL g).length + d.size) = d := by
    apply ByteArray.ext
    rw [ByteArray.data_extract]
    apply Array.ext'
    rw [Array.toList_extract, List.extract_eq_take_drop, hT, List.append_assoc, List.drop_left, show (sgL g).length + d.size - (sgL g).length = d.data.toList.length by omega, List.take_left]
  have hL : litA t g (sgL g).length (sgL g).length = (g, d, e, (t.size : Int), true) := by
    unfold litA
    rw [hE, t3]
    simp only [Bool.false_and, Bool.false_eq_true, if_false]
    unfold litM digs
    rw [if_neg (by omega), if_neg (by omega), show ((((sgL g).length : Nat) : Int)).toNat = (sgL g).length by omega, show ((((sgL g).length : Nat) : Int) + d.size).toNat = (sgL g).length + d.size by omega, hx]
    exact t1
  cases g
  · have hz : (sgL false).length = 0 := rfl
    rw [hz] at hL hdg hs
    have h0 := dgB_byte (hdg 0 (by omega) (by omega))
    constructor
    · unfold litF
      have : oneB t 0 43 45 = false := by
        unfold oneB
        simp
        omega
      rw [this, if_neg (by decide)]
      exact hL
    · refine blEnd_no ?_
      unfold blB
      simp
      omega
  · have hz : (sgL true).length = 1 := rfl
    rw [hz] at hL hs
    have hT' : t.data.toList = [] ++ 45 :: (d.data.toList ++ tailL e) := by rw [hT]; rfl
    obtain ⟨c1, c2⟩ := at_list hT'
    have c1' : bt t 0 = 45 := c1
    constructor
    · unfold litF
      have : oneB t 0 43 45 = true := by
        unfold oneB
        simp [c1']
        omega
      rw [this, if_pos rfl, c1']
      exact hL
    · refine blEnd_no ?_
      unfold blB
      simp [c1']
theorem number_txt (g : Bool) {d : ByteArray} {e : Int} (n : Nrm d e) (h1 : -1000000000000000 ≤ e) (h2 : e ≤ 1000000000000000) (hd : d.size ≤ 140737488351232) (hz : (txt g d e).size ≤ 4611686018427387904) :
    Ans (fun k => scan_Number.f k (txt g d e)) (g, d, e, ((txt g d e).size : Int)) := by
  obtain ⟨f1, f2⟩ := lit_txt g n h1 h2
  have hb := blanks_l (txt g d e) hz 0 (by omega) (Int.le_refl _)
  rw [f2] at hb
  unfold scan_Number.f
  refine Ans.bind hb ?_
  have hl : xLiteral.f (txt g d e) 0 = some (g, d, e, ((txt g d e).size : Int), true) := by
    unfold xLiteral.f
    rw [if_pos ⟨by omega, by omega, by omega⟩, f1]
  simp only [hl, Option.bind_some, if_true, normal_eq g d e (by omega) (by omega) (by omega), nrm_again g n]
  exact Ans.ret _

/-! ### The law -/
def c0120 : ByteArray := ⟨#[48, 49, 50, 48]⟩
def c12 : ByteArray := ⟨#[49, 50]⟩
theorem nrmV_c : nrmV true c0120 3 = (true, c12, 4, 0) := by
  have h1 : zHead c0120 0 = 1 := by
    rw [zHead_yes (by decide), zHead_no (by decide)]
    rfl
  have h2 : zTail c0120 c0120.size = 3 := by
    rw [show ((c0120.size : Nat) : Int) = 4 by rfl, zTail_yes (by decide), zTail_no (by decide)]
    rfl
  have hn : nrm true c0120 3 = (true, c12, 4) := by
    unfold nrm
    rw [h1, h2, if_neg (by decide)]
    decide
  have hd : digEnd c0120 0 = c0120.size := by
    refine digEnd_eq (Int.le_refl _) (by decide) 0 (by decide) fun j h0 hj => ?_
    have hz : ((c0120.size : Nat) : Int) = 4 := rfl
    have : j = 0 ∨ j = 1 ∨ j = 2 ∨ j = 3 := by omega
    rcases this with rfl | rfl | rfl | rfl <;> decide
  rw [nrmV_y ⟨by decide, by decide, by decide, hd, by rw [hn]; decide⟩, hn]
theorem txt_c : (txt true c12 4).toList = ([45, 49, 50, 101, 52] : List UInt8) := by
  rw [Go.ByteArray.toList_eq, txt_list]
  unfold tailL sgL Lib.itoa
  rw [if_pos rfl, if_neg (by decide), if_neg (by decide), Lib.decDigits_one (by decide)]
  rfl
theorem txt_size (g : Bool) {d : ByteArray} {e : Int} (h1 : -9223372036854775808 ≤ e) (h2 : e ≤ 9223372036854775807) : (txt g d e).size ≤ d.size + 23 := by
  have h3 := itoa_size e h1 h2
  have h4 : (⟨#[45]⟩ : ByteArray).size = 1 := rfl
  have h5 : (⟨#[101]⟩ : ByteArray).size = 1 := rfl
  unfold txt
  repeat' split
  all_goals try simp only [ByteArray.size_append]
  all_goals omega
section
variable (g : Bool) {d : ByteArray} {e : Int} (n : Nrm d e) (h1 : -1152921504606846976 ≤ e) (h2 : e ≤ 1152921504606846976) (hd : d.size ≤ 140737488351232)
include n h1 h2 hd
theorem backs_j2 : Ans (fun k => abacuslaw08_ScanBacks.j2 k (txt g d e) false g d e) true := by
  have hz := txt_size g (d := d) (e := e) (by omega) (by omega)
  refine Ans.succ ?_
  simp only [abacuslaw08_ScanBacks.j2, Bool.false_eq_true, if_false]
  by_cases b1 : e > 1000000000000000
  · simp only [if_pos b1]
    exact Ans.ret _
  · simp only [if_neg b1]
    by_cases b2 : e < -1000000000000000
    · simp only [if_pos b2]
      exact Ans.ret _
    · simp only [if_neg b2]
      refine Ans.bind (number_txt g n (by omega) (by omega) hd (by omega)) ?_
      simp only [if_true, beq_self_eq_true, Bool.and_self]
      exact Ans.ret _
theorem backs_j1 : Ans (fun k => abacuslaw08_ScanBacks.j1 k (txt g d e) false g d e) true := by
  have hz := txt_size g (d := d) (e := e) (by omega) (by omega)
  have hp := n.pos
  refine Ans.succ ?_
  simp only [abacuslaw08_ScanBacks.j1, Bool.false_eq_true, if_false, zr_list]
  by_cases z : d = zr
  · have e0 := n.zero z
    simp only [if_pos z, if_pos e0, if_neg (show ¬ e > 1000000000000000 by omega), if_neg (show ¬ e < -1000000000000000 by omega)]
    refine Ans.bind (number_txt g n (by omega) (by omega) hd (by omega)) ?_
    simp only [if_true, beq_self_eq_true, Bool.and_self]
    exact Ans.ret _
  · have a1 := n.head z
    have a2 := n.last z
    simp only [if_neg z, if_neg (fun h => by have := (empty_list d).1 h; omega), if_pos (show 0 < (d.size : Int) by omega), if_neg a1]
    rw [wrap_id (by omega) (by omega)]
    simp only [if_pos (show 0 ≤ (d.size : Int) - 1 by omega), if_pos (show (d.size : Int) - 1 < d.size by omega), beq_eq_false_iff_ne.2 a2]
    exact backs_j2 g n h1 h2 hd
end
theorem scanBacks_true (neg : Bool) (s : ByteArray) (exp : Int) (hs : s.size ≤ 140737488351232) : Ans (fun k => abacuslaw08_ScanBacks.f k neg s exp) true := by
  have hj0 : Ans (fun k => abacuslaw08_ScanBacks.j0 k false neg s exp) true := by
    refine Ans.succ ?_
    simp only [abacuslaw08_ScanBacks.j0, Bool.false_eq_true, if_false]
    refine Ans.bind (norm_s neg s exp hs) ?_
    refine Ans.bind (text_s neg s exp hs) ?_
    refine Ans.bind (cmp_s neg s exp neg s exp hs hs) ?_
    refine Ans.bind (is_t neg s exp hs) ?_
    by_cases hk : okD neg s exp
    · obtain ⟨f1, f2, f3, f4⟩ := nrm_facts (neg := neg) (exp := exp) hk.1 hk.2.2.2.1
      obtain ⟨b1, b2, b3⟩ := nrmV_le neg s exp hs
      have hc := cmp_s (nrmV neg s exp).1 (nrmV neg s exp).2.1 (nrmV neg s exp).2.2.1 neg s exp b1 hs
      have hn := norm_s (nrmV neg s exp).1 (nrmV neg s exp).2.1 (nrmV neg s exp).2.2.1 b1
      simp only [decide_eq_true hk, if_true]
      refine Ans.bind hn ?_
      refine Ans.bind hc ?_
      rw [nrmV_y hk] at b1 b2 b3 ⊢
      generalize nrm neg s exp = r at *
      obtain ⟨g, d, e⟩ := r
      simp only at f1 f2 f3 f4 b1 b2 b3 ⊢
      subst f1
      rw [nrmV_again g f2 b2 b3]
      have hv : cmpV (g, d, e, 0) (g, d, e, 0) = (0, 0) := by
        unfold cmpV
        rw [if_pos ⟨rfl, rfl⟩]
        simp only [cmpN_self]
      have ht : txtV (g, d, e, 0) = (txt g d e, 0) := by
        unfold txtV
        rw [if_pos rfl]
      simp only [hv, ht, if_true, beq_self_eq_true, Bool.not_true, Bool.or_self, Bool.false_eq_true, if_false, bne_self_eq_false]
      exact backs_j1 g f2 b2 b3 b1
    · simp only [decide_eq_false hk, Bool.false_eq_true, if_false]
      rw [nrmV_n hk]
      have hv : cmpV (false, (⟨#[]⟩ : ByteArray), 0, 80) (false, (⟨#[]⟩ : ByteArray), 0, 80) = (0, 80) := by
        unfold cmpV
        rw [if_neg (fun h => absurd h.1 (by decide))]
      have ht : txtV (false, (⟨#[]⟩ : ByteArray), 0, 80) = (⟨#[]⟩, 80) := by
        unfold txtV
        rw [if_neg (by decide)]
      have he : (⟨#[]⟩ : ByteArray).toList = ([] : List UInt8) := (empty_list _).2 rfl
      simp only [hv, ht, he, if_true, beq_self_eq_true, Bool.not_false, Bool.and_self]
      exact Ans.ret _
  unfold abacuslaw08_ScanBacks.f
  refine Ans.bind (text_s true c0120 3 (by decide)) ?_
  have ht : txtV (nrmV true c0120 3) = (txt true c12 4, 0) := by
    rw [nrmV_c]
    unfold txtV
    rw [if_pos rfl]
  simp only [ht, if_true, txt_c, bne_self_eq_false]
  exact hj0
end Go.Proofs.YtcgjfckhnpimbaaDoor.Pl
