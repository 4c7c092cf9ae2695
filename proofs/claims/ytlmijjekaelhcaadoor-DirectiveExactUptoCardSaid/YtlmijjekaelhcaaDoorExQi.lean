/-
  Several texts of this session's own in one: Pc Pd Pe Pf Pg Qa Qb Qc Qd Qe Qf Qg Qh Qi.
-/
import Derived.Test.YtlmijjekaelhcaaDoorExPb
import Derived.Test.YtlmijjekaelhcaaDoorExEDix28
import Derived.Test.YtlmijjekaelhcaaDoorExPa
import Derived.Lib.ItoaMem
import Derived.Test.YtlmijjekaelhcaaDoorExEDmx31
import Derived.Test.YtlmijjekaelhcaaDoorExEDmx32
import Derived.Test.YtlmijjekaelhcaaDoorExEDpx44
import Derived.Test.YtlmijjekaelhcaaDoorExEDpx48
import Derived.Test.YtlmijjekaelhcaaDoorExEDpx49
import Derived.Test.YtlmijjekaelhcaaDoorExEDpx37
import Derived.Test.YtlmijjekaelhcaaDoorExEDpx39
import Derived.Test.YtlmijjekaelhcaaDoorExEDpx40
section
set_option linter.unusedVariables false
set_option linter.unusedSimpArgs false
namespace Go.Proofs.YtlmijjekaelhcaaDoor.Pl
open Go.RowKit Go.Proofs.YtlmijjekaelhcaaDoorW.PrintWords Go.Proofs.YtlmijjekaelhcaaDoor.EDi Go.Proofs.YtlmijjekaelhcaaDoor.X
def Open (s : St) : Prop := ∀ p, fin p s = ([], p, 131)
theorem tl_len (T : ByteArray) : T.data.toList.length = T.size := by simp
end Go.Proofs.YtlmijjekaelhcaaDoor.Pl
end
section
set_option linter.unusedVariables false
set_option linter.unusedSimpArgs false
namespace Go.Proofs.YtlmijjekaelhcaaDoor.Pl
open Go.RowKit Go.Proofs.YtlmijjekaelhcaaDoorW.PrintWords Go.Proofs.YtlmijjekaelhcaaDoor.EDi Go.Proofs.YtlmijjekaelhcaaDoor.X
section
variable (ls : List S25) (cur : List UInt8) (d : Int)
end
def sz (s : St) : Nat := match s with
 | .text ps t => ps.length + (opt t).length
 | .pct ps => ps.length
 | .flg ps _ => ps.length
 | .wid ps _ _ _ => ps.length
 | .aw ps _ _ _ => ps.length
 | .pnt ps _ _ _ => ps.length
 | .prc ps _ _ _ _ _ => ps.length
 | .ap ps _ _ _ _ _ => ps.length
 | .bad _ _ => 0
def All (b : Nat) (ps : List S25) : Prop := ∀ q ∈ ps, q.f0.size ≤ b
theorem All.snoc {b : Nat} {ps : List S25} {q : S25} (h : All b ps) (hq : q.f0.size ≤ b) : All b (ps ++ [q]) := by
 intro x hx
 rcases List.mem_append.1 hx with hx | hx
 ·exact h x hx
 ·rw [List.mem_singleton.1 hx]
  exact hq
theorem All.opt {b : Nat} {ps : List S25} {t : List UInt8} (h : All b ps) (ht : t.length ≤ b) : All b (ps ++ opt t) := by
 unfold Pl.opt
 split
 ·rw [List.append_nil]
  exact h
 ·exact h.snoc (by show (⟨t.toArray⟩ : ByteArray).size ≤ b; exact ht)
theorem rd_mem {l : List S25} {j : Int} (h0 : 0 ≤ j) (h : j < (l.length : Int)) : rd_T25 l j ∈ l := by
 have hj : j.toNat < l.length := by omega
 unfold rd_T25
 rw [List.getD_eq_getElem?_getD, List.getElem?_eq_getElem hj]
 exact List.getElem_mem hj
theorem same_l0 (l : List S25) (hl : l.length ≤ 9223372036854775806) : ∀ j, j ≤ (l.length : Int) → 0 ≤ j → Ans (fun k => w_same.l0 k l l j) true := by
 refine left_ind fun j hj ih h0 => ?_
 refine Ans.succ ?_
 simp only [w_same.l0]
 by_cases h : j < (l.length : Int)
 ·simp only [if_pos h, if_pos h0, beq_self_eq_true, Bool.not_true, Bool.or_false, Bool.false_eq_true, if_false]
  rw [wrap_id (x := j + 1) (by omega) (by omega)]
  exact ih (j + 1) (by omega) (by omega) (by omega)
 ·simp only [if_neg h]
  exact Ans.ret _
theorem same_self (l : List S25) (hl : l.length ≤ 9223372036854775806) : Ans (fun k => w_same.f k l l) true := by
 unfold w_same.f
 simp only [if_true]
 exact same_l0 l hl 0 (by omega) (by omega)
theorem rd_drop {l : List S25} {j : Int} (h0 : 0 ≤ j) (h : j < (l.length : Int)) : l.drop j.toNat = rd_T25 l j :: l.drop (j + 1).toNat := by
 have hj : j.toNat < l.length := by omega
 rw [List.drop_eq_getElem_cons hj, show (j + 1).toNat = j.toNat + 1 by omega]
 unfold rd_T25
 rw [List.getD_eq_getElem?_getD, List.getElem?_eq_getElem hj]
 rfl
end Go.Proofs.YtlmijjekaelhcaaDoor.Pl
end
section
set_option linter.unusedVariables false
set_option linter.unusedSimpArgs false
namespace Go.Proofs.YtlmijjekaelhcaaDoor.Pl
open Go.RowKit Go.Proofs.YtlmijjekaelhcaaDoorW.PrintWords Go.Proofs.YtlmijjekaelhcaaDoor.EDi Go.Proofs.YtlmijjekaelhcaaDoor.X
theorem dd_len (u : Nat) (hu : u ≤ 4096) : (Lib.decDigits u).length ≤ 4 := by
 by_cases h1 : u < 10
 ·rw [Lib.decDigits_one h1]; simp
 ·rw [Lib.decDigits, dif_neg h1, List.length_append]
  by_cases h2 : u / 10 < 10
  ·rw [Lib.decDigits_one h2]; simp
  ·rw [Lib.decDigits, dif_neg h2, List.length_append]
   by_cases h3 : u / 10 / 10 < 10
   ·rw [Lib.decDigits_one h3]; simp
   ·rw [Lib.decDigits, dif_neg h3, List.length_append]
    rw [Lib.decDigits_one (by omega)]; simp
def on (fl j : Int) : Bool := Go.bits .and .i64 (shr .i64 fl j) 1 == 1
def sel (fl j : Int) (c : UInt8) : List UInt8 := if on fl j = true then [c] else []
def FT (fl : Int) : List UInt8 := sel fl 0 45 ++ (sel fl 1 43 ++ (sel fl 2 32 ++ (sel fl 3 35 ++ sel fl 4 48)))
def shL (kd n : Int) : List UInt8 := if kd = 2 then [42] else if kd = 1 then Lib.itoa n else []
def dirL (v fl wk wd pk pr : Int) : List UInt8 := 37 :: (FT fl ++ (shL wk wd ++ ((if pk = 0 then [] else 46 :: shL pk pr) ++ [v.toNat.toUInt8])))
theorem sel_len (fl j : Int) (c : UInt8) : (sel fl j c).length ≤ 1 := by
 unfold sel
 split <;> simp
theorem FT_len (fl : Int) : (FT fl).length ≤ 5 := by
 have := sel_len fl 0 45
 have := sel_len fl 1 43
 have := sel_len fl 2 32
 have := sel_len fl 3 35
 have := sel_len fl 4 48
 unfold FT
 simp only [List.length_append]
 omega
theorem shL_len {kd n : Int} (h0 : 0 ≤ n) (h1 : n ≤ 4096) : (shL kd n).length ≤ 4 := by
 unfold shL
 split
 ·simp
 ·split
  ·have := dd_len n.toNat (by omega)
   unfold Lib.itoa
   rw [if_neg (by omega)]
   exact this
  ·simp
theorem shown_law {kd n : Int} (h0 : -9223372036854775808 ≤ n) (h1 : n ≤ 9223372036854775807) : d_shown.f kd n = some ⟨(shL kd n).toArray⟩ := by
 unfold d_shown.f shL
 by_cases h2 : kd = 2
 ·rw [if_pos h2, if_pos h2]
 ·rw [if_neg h2, if_neg h2]
  by_cases h3 : kd = 1
  ·rw [if_pos h3, if_pos h3]
   unfold xItoa.f
   rw [if_pos ⟨h0, h1⟩]
   rfl
  ·rw [if_neg h3, if_neg h3]
theorem ba_app (a b : List UInt8) : (⟨a.toArray⟩ : ByteArray) ++ ⟨b.toArray⟩ = ⟨(a ++ b).toArray⟩ := by
 apply ByteArray.ext
 rw [ByteArray.data_append]
 simp
theorem ba_size (a : List UInt8) : (⟨a.toArray⟩ : ByteArray).size = a.length := rfl
theorem text_step (k : Nat) (x : List UInt8) (hx : x.length ≤ 100) {j : Int} (c : UInt8) (h0 : 0 ≤ j) (h5 : j < 5) (hc : (⟨#[45, 43, 32, 35, 48]⟩ : ByteArray).extract j.toNat (j + 1).toNat = ⟨#[c]⟩) (t : ByteArray) (v fl wk wd pk pr : Int) :
  d_text.l0 (k + 1) ⟨x.toArray⟩ j t v fl wk wd pk pr = d_text.l0 k ⟨(x ++ sel fl j c).toArray⟩ (j + 1) t v fl wk wd pk pr := by
 have hw : wrap64 (j + 1) = j + 1 := wrap_id (by omega) (by omega)
 simp only [d_text.l0, if_pos h5, if_pos h0, hw]
 unfold sel on
 by_cases h : Go.bits .and .i64 (shr .i64 fl j) 1 = 1
 ·have e1 : (⟨#[c]⟩ : ByteArray) = ⟨([c] : List UInt8).toArray⟩ := rfl
  rw [if_pos h, if_pos (by omega), if_pos (by omega), hc, e1, ba_size, ba_size, if_pos (by simp; omega), ba_app, if_pos (beq_iff_eq.2 h)]
 ·rw [if_neg h, if_neg (by intro h'; exact h (eq_of_beq h')), List.append_nil]
theorem text_dir {t : ByteArray} {v fl wk wd pk pr : Int} (hv0 : v ≠ 0) (hv37 : v ≠ 37) (hw : 0 ≤ wd ∧ wd ≤ 4096) (hp : 0 ≤ pr ∧ pr ≤ 4096) : Ans (fun k => d_text.f k t v fl wk wd pk pr) ⟨(dirL v fl wk wd pk pr).toArray⟩ := by
 refine ⟨6, fun k hk => ?_⟩
 obtain ⟨k, rfl⟩ : ∃ m, k = m + 6 := ⟨k - 6, by omega⟩
 unfold d_text.f
 simp only [if_neg hv0, if_neg hv37]
 have e0 : (⟨#[37]⟩ : ByteArray) = ⟨([37] : List UInt8).toArray⟩ := rfl
 have s0 := sel_len fl 0 45
 have s1 := sel_len fl 1 43
 have s2 := sel_len fl 2 32
 have s3 := sel_len fl 3 35
 have s4 := sel_len fl 4 48
 rw [e0, text_step (k + 5) [37] (by simp) (j := 0) 45 (by omega) (by omega) (by decide)]
 rw [text_step (k + 4) _ (by simp; omega) (j := 0 + 1) 43 (by omega) (by omega) (by decide)]
 rw [text_step (k + 3) _ (by simp; omega) (j := 0 + 1 + 1) 32 (by omega) (by omega) (by decide)]
 rw [text_step (k + 2) _ (by simp; omega) (j := 0 + 1 + 1 + 1) 35 (by omega) (by omega) (by decide)]
 rw [text_step (k + 1) _ (by simp; omega) (j := 0 + 1 + 1 + 1 + 1) 48 (by omega) (by omega) (by decide)]
 have lw := shL_len (kd := wk) hw.1 hw.2
 have lp := shL_len (kd := pk) hp.1 hp.2
 simp only [d_text.l0]
 rw [if_neg (by decide), shown_law (by omega) (by omega)]
 simp only [Option.bind_some, ba_size]
 rw [if_pos (by simp; omega)]
 have ev : strOfNums [v] = ⟨([v.toNat.toUInt8] : List UInt8).toArray⟩ := rfl
 have efin : ∀ z : List UInt8, 37 :: (FT fl ++ z) = [37] ++ sel fl 0 45 ++ sel fl (0 + 1) 43 ++ sel fl (0 + 1 + 1) 32 ++ sel fl (0 + 1 + 1 + 1) 35 ++ sel fl (0 + 1 + 1 + 1 + 1) 48 ++ z := by
  intro z
  unfold FT
  simp
 unfold dirL
 by_cases hpk : pk = 0
 ·rw [if_pos hpk, if_pos hpk, ev, ba_app, ba_size, ba_size, if_pos (by simp; omega), ba_app, efin]
  simp
 ·rw [if_neg hpk, if_neg hpk, shown_law (by omega) (by omega)]
  have e46 : (⟨#[46]⟩ : ByteArray) = ⟨([46] : List UInt8).toArray⟩ := rfl
  simp only [Option.bind_some, e46, ev, ba_app, ba_size]
  rw [if_pos (by omega), if_pos (by simp; omega), if_pos (by simp; omega), efin]
  simp
/-- Behind a % and flags worth f. -/
def Q (ps : List S25) (f : Int) (s : St) : Prop := (s = .pct ps ∧ f = 0) ∨ s = .flg ps f
theorem itoa_nat {n : Int} (h0 : 0 ≤ n) : Lib.itoa n = Lib.decDigits n.toNat := by
 unfold Lib.itoa
 rw [if_neg (by omega)]
def Pct (q : S25) : Prop := q = ⟨⟨#[]⟩, 37, 0, 0, 0, 0, 0⟩
def Txt (q : S25) : Prop := q.f0.toList ≠ ([] : List UInt8) ∧ q.f1 = 0 ∧ q.f2 = 0 ∧ q.f3 = 0 ∧ q.f4 = 0 ∧ q.f5 = 0 ∧ q.f6 = 0 ∧ Lib.indexByte q.f0.data.toList 37 < 0
def Dir (q : S25) : Prop := InF q.f0 q.f1 q.f2 q.f3 q.f4 q.f5 q.f6
def OkP (q : S25) : Prop := Dir q ∨ Pct q ∨ Txt q
theorem check_law (q : S25) (k : Nat) : (OkP q → d_Check.f (k + 1) q.f0 q.f1 q.f2 q.f3 q.f4 q.f5 q.f6 = some 0) ∧ (¬ OkP q → d_Check.f (k + 1) q.f0 q.f1 q.f2 q.f3 q.f4 q.f5 q.f6 = some 132) := by
 classical
 by_cases hd : Dir q
 ·exact ⟨fun _ => check_yes hd k, fun h => absurd (.inl hd) h⟩
 ·have base : d_Check.f (k + 1) q.f0 q.f1 q.f2 q.f3 q.f4 q.f5 q.f6 = some (if Pct q ∨ Txt q then 0 else 132) := by
   unfold d_Check.f
   rw [inForm_no hd]
   simp only [Option.bind_some, Bool.false_eq_true, if_false, d_Check.j0]
   have e37 : ((37 : Int).toNat.toUInt8) = (37 : UInt8) := rfl
   by_cases h1 : (q.f0.toList == ([] : List UInt8) && (q.f1 == 37 && (q.f2 == 0 && (q.f3 == 0 && (q.f4 == 0 && (q.f5 == 0 && (q.f6 == 0))))))) = true
   ·rw [if_pos h1]
    have hp : Pct q := by
     simp at h1
     obtain ⟨a, b, c, d, e, f, g⟩ := h1
     obtain ⟨x0, x1, x2, x3, x4, x5, x6⟩ := q
     simp only at a b c d e f g
     unfold Pct
     subst b c d e f g
     rw [Go.ByteArray.toList_eq] at a
     rw [mk_of a]
    rw [if_pos (.inl hp)]
   ·rw [if_neg h1]
    have hnp : ¬ Pct q := by
     intro hp
     apply h1
     unfold Pct at hp
     rw [hp]
     have : (⟨#[]⟩ : ByteArray).toList = ([] : List UInt8) := by rw [Go.ByteArray.toList_eq]
     simp [this]
    by_cases h2 : q.f0.toList = ([] : List UInt8)
    ·rw [if_pos h2, if_neg (fun h => h.elim hnp fun h => h.1 h2)]
    ·rw [if_neg h2]
     by_cases h3 : (q.f1 == 0 && (q.f2 == 0 && (q.f3 == 0 && (q.f4 == 0 && (q.f5 == 0 && (q.f6 == 0)))))) = true
     ·rw [if_pos h3]
      simp at h3
      obtain ⟨a, b, c, d, e, f⟩ := h3
      show (if Lib.indexByte q.f0.data.toList (37 : Int).toNat.toUInt8 < 0 then some (0 : Int) else some 132) = _
      rw [e37]
      by_cases h4 : Lib.indexByte q.f0.data.toList 37 < 0
      ·rw [if_pos h4, if_pos (.inr ⟨h2, a, b, c, d, e, f, h4⟩)]
      ·rw [if_neg h4, if_neg (fun h => h.elim hnp fun h => h4 h.2.2.2.2.2.2.2)]
     ·rw [if_neg h3, if_neg (fun h => h.elim hnp fun h => h3 (by simp [h.2.1, h.2.2.1, h.2.2.2.1, h.2.2.2.2.1, h.2.2.2.2.2.1, h.2.2.2.2.2.2.1]))]
  by_cases h : Pct q ∨ Txt q
  ·rw [if_pos h] at base
   exact ⟨fun _ => base, fun hn => absurd (.inr h) hn⟩
  ·rw [if_neg h] at base
   exact ⟨fun ho => absurd ho (fun ho => ho.elim hd h), fun _ => base⟩
theorem check_ok {q : S25} (h : OkP q) : Ans (fun k => d_Check.f k q.f0 q.f1 q.f2 q.f3 q.f4 q.f5 q.f6) 0 := Ans.succ (Ans.of fun k => (check_law q k).1 h)
theorem check_bad {q : S25} (h : ¬ OkP q) : Ans (fun k => d_Check.f k q.f0 q.f1 q.f2 q.f3 q.f4 q.f5 q.f6) 132 := Ans.succ (Ans.of fun k => (check_law q k).2 h)
/-- The bytes of a piece's text. -/
def pL (q : S25) : List UInt8 := if q.f1 = 0 then q.f0.data.toList else if q.f1 = 37 then [37, 37] else dirL q.f1 q.f2 q.f3 q.f4 q.f5 q.f6
theorem cnt_range {k n l : Int} (h : Cnt k n l) (hl : 0 ≤ l) : 0 ≤ n ∧ n ≤ 4096 := by
 rcases h with ⟨_, h1, h2⟩ | ⟨_, h⟩ <;> omega
theorem text_ok {q : S25} (h : OkP q) : Ans (fun k => d_text.f k q.f0 q.f1 q.f2 q.f3 q.f4 q.f5 q.f6) ⟨(pL q).toArray⟩ := by
 unfold pL
 by_cases h0 : q.f1 = 0
 ·rw [if_pos h0]
  refine Ans.of fun k => ?_
  unfold d_text.f
  rw [if_pos h0]
 ·rw [if_neg h0]
  by_cases h37 : q.f1 = 37
  ·rw [if_pos h37]
   refine Ans.of fun k => ?_
   unfold d_text.f
   rw [if_neg h0, if_pos h37]
  ·rw [if_neg h37]
   rcases h with h | h | h
   ·exact text_dir h0 h37 (cnt_range h.2.2.2.2.1 (by decide)) (cnt_range h.2.2.2.2.2 (by decide))
   ·unfold Pct at h
    rw [h] at h37
    exact absurd rfl h37
   ·exact absurd h.2.1 h0
theorem pL_len {q : S25} (h : OkP q) : (pL q).length ≤ q.f0.size + 20 := by
 unfold pL
 by_cases h0 : q.f1 = 0
 ·rw [if_pos h0, tl_len]
  omega
 ·rw [if_neg h0]
  by_cases h37 : q.f1 = 37
  ·rw [if_pos h37]
   show 2 ≤ _
   omega
  ·rw [if_neg h37]
   rcases h with h | h | h
   ·have l1 := FT_len q.f2
    have c1 := cnt_range h.2.2.2.2.1 (by decide)
    have c2 := cnt_range h.2.2.2.2.2 (by decide)
    have l2 := shL_len (kd := q.f3) c1.1 c1.2
    have l3 := shL_len (kd := q.f5) c2.1 c2.2
    have l4 : (if q.f5 = 0 then ([] : List UInt8) else 46 :: shL q.f5 q.f6).length ≤ 5 := by
     split
     ·simp
     ·rw [List.length_cons]
      omega
    unfold dirL
    rw [List.length_cons, List.length_append, List.length_append, List.length_append, List.length_singleton]
    omega
   ·unfold Pct at h
    rw [h] at h37
    exact absurd rfl h37
   ·exact absurd h.2.1 h0
def Rng (q : S25) : Prop := (0 ≤ q.f1 ∧ q.f1 ≤ 255) ∧ I64 q.f2
def cat (l : List S25) : List UInt8 := (l.map pL).flatten
theorem cat_cons (q : S25) (l : List S25) : cat (q :: l) = pL q ++ cat l := rfl
theorem print_l1 (l : List S25) (hok : ∀ q ∈ l, OkP q) (hl : l.length ≤ 9223372036854775806) (hs : (cat l).length ≤ 140737488355328) : ∀ j, j ≤ (l.length : Int) → 0 ≤ j → ∀ x : List UInt8, x ++ cat (l.drop j.toNat) = cat l →
  Ans (fun k => d_Print.l1 k ⟨x.toArray⟩ l (l.length : Int) j) (⟨(cat l).toArray⟩, 0) := by
 refine left_ind fun j hj ih h0 x hx => ?_
 refine Ans.succ ?_
 simp only [d_Print.l1]
 by_cases h : j < (l.length : Int)
 ·have hd := rd_drop h0 h
  have hq := hok _ (rd_mem h0 h)
  simp only [if_pos h, if_pos h0]
  refine Ans.bind (text_ok hq) ?_
  rw [hd, cat_cons] at hx
  have hlen := congrArg List.length hx
  simp only [List.length_append] at hlen
  have hfit : (⟨x.toArray⟩ : ByteArray).size + (⟨(pL (rd_T25 l j)).toArray⟩ : ByteArray).size ≤ 140737488355328 := by
   rw [ba_size, ba_size]
   omega
  simp only [if_pos hfit, ba_app]
  rw [wrap_id (x := j + 1) (by omega) (by omega)]
  refine ih (j + 1) (by omega) (by omega) (by omega) _ ?_
  rw [List.append_assoc]
  exact hx
 ·rw [List.drop_eq_nil_of_le (by omega)] at hx
  have : x = cat l := by simpa [cat] using hx
  subst this
  simp only [if_neg h]
  exact Ans.ret _
theorem cat_len : ∀ (l : List S25), (∀ q ∈ l, OkP q) → (cat l).length ≤ (l.map fun q => q.f0.size + 20).sum
 | [], _ => by simp [cat]
 | q :: l, h => by
  have h1 := pL_len (h q (by simp))
  have h2 := cat_len l (fun x hx => h x (by simp [hx]))
  rw [cat_cons, List.length_append, List.map_cons, List.sum_cons]
  omega
theorem rd_get {l : List S25} {i : Nat} {a : S25} (h : l[i]? = some a) : rd_T25 l (i : Int) = a := by
 unfold rd_T25
 rw [List.getD_eq_getElem?_getD, Int.toNat_natCast, h]
 rfl
def tot (l : List S25) : Nat := (l.map fun q => q.f0.size + 20).sum
theorem tot_le (m : S25 → Nat) (hm : ∀ q, q.f0.size + 1 ≤ m q) : ∀ l, tot l ≤ 20 * (l.map m).sum ∧ l.length ≤ (l.map m).sum
 | [] => by simp [tot]
 | q :: l => by
  have h1 := hm q
  obtain ⟨h2, h3⟩ := tot_le m hm l
  unfold tot at h2 ⊢
  rw [List.map_cons, List.map_cons, List.sum_cons, List.sum_cons, List.length_cons]
  omega
end Go.Proofs.YtlmijjekaelhcaaDoor.Pl
end
section
set_option linter.unusedVariables false
set_option linter.unusedSimpArgs false
namespace Go.Proofs.YtlmijjekaelhcaaDoor.Pl
open Go.RowKit Go.Proofs.YtlmijjekaelhcaaDoorW.PrintWords Go.Proofs.YtlmijjekaelhcaaDoor.EDi Go.Proofs.YtlmijjekaelhcaaDoor.X
/-- A text or a percent. -/
def TP (q : S25) : Prop := Pct q ∨ Txt q
theorem tp_txt {cur : List UInt8} (h0 : cur ≠ []) (h : ∀ c ∈ cur, c ≠ 37) : Txt (tp cur) := by
 refine ⟨?_, rfl, rfl, rfl, rfl, rfl, rfl, ?_⟩
 ·rw [Go.ByteArray.toList_eq]
  exact h0
 ·show Lib.indexByte cur 37 < 0
  by_cases hx : 0 ≤ Lib.indexByte cur 37
  ·obtain ⟨a, r, e, _, _⟩ := ix_pos 37 cur hx
   exact absurd rfl (h 37 (by rw [e]; simp))
  ·omega
theorem opt_tp {cur : List UInt8} (h : ∀ c ∈ cur, c ≠ 37) : ∀ q ∈ opt cur, TP q := by
 intro q hq
 unfold opt at hq
 split at hq
 ·cases hq
 ·rename_i h0
  rw [List.mem_singleton.1 hq]
  exact .inr (tp_txt h0 h)
theorem tp_rng {q : S25} (h : TP q) : Rng q := by
 rcases h with h | h
 ·rw [h]
  exact ⟨⟨by decide, by decide⟩, by decide, by decide⟩
 ·obtain ⟨_, h1, h2, _⟩ := h
  unfold Rng
  rw [h1, h2]
  exact ⟨⟨by decide, by decide⟩, by decide, by decide⟩
/-- What a piece stands for. -/
def uq (q : S25) : List UInt8 := if q.f1 = 37 then [37] else q.f0.data.toList
def uL (l : List S25) : List UInt8 := (l.map uq).flatten
theorem uL_append (l m : List S25) : uL (l ++ m) = uL l ++ uL m := by simp [uL]
end Go.Proofs.YtlmijjekaelhcaaDoor.Pl
end
section
set_option linter.unusedVariables false
set_option linter.unusedSimpArgs false
namespace Go.Proofs.YtlmijjekaelhcaaDoor.Pl
open Go.RowKit Go.Proofs.YtlmijjekaelhcaaDoorW.PrintWords Go.Proofs.YtlmijjekaelhcaaDoor.EDi Go.Proofs.YtlmijjekaelhcaaDoor.X
def NA : ByteArray × Int × Int × Int × Int × ByteArray × Bool := ((⟨#[]⟩ : ByteArray), 0, 0, 0, 0, (⟨#[]⟩ : ByteArray), false)
def up1 (seen : Int) (a u : List UInt8) : List UInt8 := if seen = 0 then a ++ u else a
def up2 (seen : Int) (b u : List UInt8) : List UInt8 := if seen = 0 then b else b ++ u
theorem up1_up (seen : Int) (a u v : List UInt8) : up1 seen (up1 seen a u) v = up1 seen a (u ++ v) := by
 unfold up1
 split <;> simp
theorem up2_up (seen : Int) (a u v : List UInt8) : up2 seen (up2 seen a u) v = up2 seen a (u ++ v) := by
 unfold up2
 split <;> simp
theorem up_nil (seen : Int) (a : List UInt8) : up1 seen a [] = a ∧ up2 seen a [] = a := by
 unfold up1 up2
 constructor <;> split <;> simp
theorem up_len (seen : Int) (a b u : List UInt8) : (up1 seen a u).length + (up2 seen b u).length = a.length + b.length + u.length := by
 unfold up1 up2
 split <;> simp only [List.length_append] <;> omega
theorem side_law {seen : Int} (hs : seen = 0 ∨ seen = 1) (a b u : List UInt8) (hl : a.length + b.length + u.length ≤ 140737488355328) :
  xSide.f ⟨a.toArray⟩ ⟨b.toArray⟩ seen ⟨u.toArray⟩ = some (⟨(up1 seen a u).toArray⟩, ⟨(up2 seen b u).toArray⟩) := by
 unfold xSide.f up1 up2
 rcases hs with rfl | rfl
 ·rw [if_pos rfl, if_pos rfl, if_pos rfl, if_pos (by rw [ba_size, ba_size]; omega), ba_app]
 ·have hfit : (⟨b.toArray⟩ : ByteArray).size + (⟨u.toArray⟩ : ByteArray).size ≤ 140737488355328 := by
   rw [ba_size, ba_size]
   omega
  simp only [if_neg (show ¬ (1 : Int) = 0 by decide), if_true, if_pos hfit, ba_app]
theorem drop_cons {L : List S25} {q : S25} {m : List S25} {i : Int} (h0 : 0 ≤ i) (h : L.drop i.toNat = q :: m) : i < (L.length : Int) ∧ rd_T25 L i = q ∧ L.drop (i + 1).toNat = m := by
 have hi : i < (L.length : Int) := by
  have := congrArg List.length h
  rw [List.length_drop, List.length_cons] at this
  omega
 have hd := rd_drop h0 hi
 rw [h] at hd
 injection hd with h1 h2
 exact ⟨hi, h1.symm, h2.symm⟩
theorem seg_run (L : List S25) (hL : L.length ≤ 1099511627776) (seen : Int) (hs : seen = 0 ∨ seen = 1) (s0 s1 s2 s3 : Int) (r : ByteArray × Int × Int × Int × Int × ByteArray × Bool) : ∀ (seg : List S25) (i : Int) (a b : List UInt8) (m : List S25), 0 ≤ i → L.drop i.toNat = seg ++ m → (∀ q ∈ seg, TP q) →
  a.length + b.length + (uL seg).length ≤ 140737488355328 →
  Ans (fun k => d_Single.l0 k ⟨(up1 seen a (uL seg)).toArray⟩ seen L (L.length : Int) (i + seg.length) ⟨(up2 seen b (uL seg)).toArray⟩ s0 s1 s2 s3) r →
  Ans (fun k => d_Single.l0 k ⟨a.toArray⟩ seen L (L.length : Int) i ⟨b.toArray⟩ s0 s1 s2 s3) r
 | [], i, a, b, m, h0, hd, ht, hl, h => by
  have e : uL ([] : List S25) = [] := rfl
  rw [e, (up_nil seen a).1, (up_nil seen b).2] at h
  simpa using h
 | q :: seg, i, a, b, m, h0, hd, ht, hl, h => by
  obtain ⟨hi, hq, hd'⟩ := drop_cons h0 hd
  have eu : uL (q :: seg) = uq q ++ uL seg := rfl
  rw [eu, List.length_append] at hl
  have hw : wrap64 (i + 1) = i + 1 := wrap_id (by omega) (by omega)
  have hn : Ans (fun k => d_Single.l0 k ⟨(up1 seen a (uq q)).toArray⟩ seen L (L.length : Int) (i + 1) ⟨(up2 seen b (uq q)).toArray⟩ s0 s1 s2 s3) r := by
   refine seg_run L hL seen hs s0 s1 s2 s3 r seg (i + 1) _ _ m (by omega) hd' (fun x hx => ht x (by simp [hx])) (by have := up_len seen a b (uq q); omega) ?_
   rw [up1_up, up2_up, ← eu, show i + 1 + (seg.length : Int) = i + ((q :: seg).length : Int) by rw [List.length_cons]; omega]
   exact h
  refine Ans.succ ?_
  simp only [d_Single.l0, if_pos hi, if_pos h0, hq]
  refine Ans.succ ?_
  have hsd := side_law hs a b (uq q) (by omega)
  rcases ht q (by simp) with h1 | h1
  ·have e37 : q.f1 = 37 := by rw [h1]
   have euq : (⟨(uq q).toArray⟩ : ByteArray) = ⟨#[37]⟩ := by
    unfold uq
    rw [if_pos e37]
   rw [euq] at hsd
   simp only [e37, if_neg (show ¬ (37 : Int) = 0 by decide), d_Single.j1, beq_self_eq_true, if_true, hsd, Option.bind_some, hw]
   exact hn
  ·have e0 : q.f1 = 0 := h1.2.1
   have euq : (⟨(uq q).toArray⟩ : ByteArray) = q.f0 := by
    unfold uq
    rw [if_neg (by rw [e0]; decide)]
   rw [euq] at hsd
   simp only [e0, if_true, d_Single.j1, if_neg (show ¬ (0 : Int) = 37 by decide), hsd, Option.bind_some, hw]
   exact hn
def Point (v : Int) : Prop := v = 101 ∨ v = 69 ∨ v = 102 ∨ v = 70 ∨ v = 103 ∨ v = 71
theorem point_yes {v : Int} (h : Point v) : ∃ j, xIndexByte.f (⟨#[101, 69, 102, 70, 103, 71]⟩ : ByteArray) v = some j ∧ ¬ j < 0 := by
 rcases h with rfl | rfl | rfl | rfl | rfl | rfl
 all_goals exact ⟨_, rfl, by decide⟩
theorem point_no {v : Int} (hv : 0 ≤ v ∧ v ≤ 255) (h : ¬ Point v) : ∃ j, xIndexByte.f (⟨#[101, 69, 102, 70, 103, 71]⟩ : ByteArray) v = some j ∧ j < 0 := by
 refine ⟨_, rfl, ?_⟩
 by_cases hx : 0 ≤ Lib.indexByte [101, 69, 102, 70, 103, 71] v.toNat.toUInt8
 ·obtain ⟨a, r, e, _, _⟩ := ix_pos _ _ hx
  have hm : v.toNat.toUInt8 ∈ ([101, 69, 102, 70, 103, 71] : List UInt8) := by rw [e]; simp
  have key : ∀ c : UInt8, v.toNat.toUInt8 = c → v = (c.toNat : Int) := by
   intro c hc
   rw [← hc]
   simp
   omega
  simp only [List.mem_cons, List.not_mem_nil, or_false] at hm
  refine absurd ?_ h
  rcases hm with hm | hm | hm | hm | hm | hm
  ·exact .inl (key _ hm)
  ·exact .inr (.inl (key _ hm))
  ·exact .inr (.inr (.inl (key _ hm)))
  ·exact .inr (.inr (.inr (.inl (key _ hm))))
  ·exact .inr (.inr (.inr (.inr (.inl (key _ hm)))))
  ·exact .inr (.inr (.inr (.inr (.inr (key _ hm)))))
 ·show Lib.indexByte [101, 69, 102, 70, 103, 71] _ < 0
  omega
/-- A directive that ends the search. -/
theorem dir_na (L : List S25) (seen : Int) (a b : ByteArray) (s0 s1 s2 s3 : Int) {i : Int} {p : S25} {m : List S25} (h0 : 0 ≤ i) (hd : L.drop i.toNat = p :: m) (hp : Dir p) (hv : 0 ≤ p.f1 ∧ p.f1 ≤ 255)
  (h : seen = 1 ∨ ¬ Point p.f1 ∨ p.f3 = 2 ∨ p.f5 = 2) : Ans (fun k => d_Single.l0 k a seen L (L.length : Int) i b s0 s1 s2 s3) NA := by
 obtain ⟨hi, hq, _⟩ := drop_cons h0 hd
 have e0 : ¬ p.f1 = 0 := hp.2.1
 have e37 : ¬ p.f1 = 37 := inF_not37 hp
 have eb : (p.f1 == 37) = false := beq_eq_false_iff_ne.2 e37
 refine Ans.succ (Ans.succ ?_)
 simp only [d_Single.l0, if_pos hi, if_pos h0, hq, if_neg e0, eb, d_Single.j1, Bool.false_eq_true, if_false]
 by_cases h1 : seen = 1
 ·simp only [if_pos h1]
  exact Ans.ret _
 ·simp only [if_neg h1]
  by_cases h2 : Point p.f1
  ·obtain ⟨j, hj, hn⟩ := point_yes h2
   simp only [hj, Option.bind_some, if_neg hn]
   by_cases h3 : p.f3 = 2
   ·simp only [if_pos h3]
    exact Ans.ret _
   ·simp only [if_neg h3]
    have h5 : p.f5 = 2 := by
     rcases h with h | h | h | h
     ·exact absurd h h1
     ·exact absurd h2 h
     ·exact absurd h h3
     ·exact h
    simp only [if_pos h5]
    exact Ans.ret _
  ·obtain ⟨j, hj, hn⟩ := point_no hv h2
   simp only [hj, Option.bind_some, if_pos hn]
   exact Ans.ret _
theorem settle_good {p : S25} (hp : Dir p) (h3 : p.f3 ≠ 2) (h5 : p.f5 ≠ 2) : ∃ W P, Ans (fun k => d_Settle.f k p.f0 p.f1 p.f2 p.f3 p.f4 p.f5 p.f6 0 0) (p.f1, p.f2, W, P, 0) := by
 refine ⟨p.f4, setP p.f5 p.f6 0, ?_⟩
 have hw := cnt_range hp.2.2.2.2.1 (by decide)
 have hpr := cnt_range hp.2.2.2.2.2 (by decide)
 have hP : setP p.f5 p.f6 0 ≤ 4096 := by
  unfold setP
  rw [if_neg h5]
  split <;> omega
 have e : settled p.f1 p.f2 (setW p.f3 p.f4 0) (setP p.f5 p.f6 0) = (p.f1, p.f2, p.f4, setP p.f5 p.f6 0, 0) := by
  unfold settled setW
  rw [if_neg h3, if_neg (by omega), if_neg (by omega)]
 refine Ans.succ (Ans.succ (Ans.succ (Ans.of fun k => ?_)))
 rw [← e]
 exact settle_yes hp k 0 0
/-- The directive. -/
theorem dir_good (L : List S25) (a b : ByteArray) (s0 s1 s2 s3 : Int) {i : Int} {p : S25} {m : List S25} (h0 : 0 ≤ i) (hL : L.length ≤ 1099511627776) (hd : L.drop i.toNat = p :: m) (hp : Dir p) (h1 : Point p.f1) (h3 : p.f3 ≠ 2) (h5 : p.f5 ≠ 2) (W P : Int)
  (hs : Ans (fun k => d_Settle.f k p.f0 p.f1 p.f2 p.f3 p.f4 p.f5 p.f6 0 0) (p.f1, p.f2, W, P, 0)) (r : ByteArray × Int × Int × Int × Int × ByteArray × Bool)
  (h : Ans (fun k => d_Single.l0 k a 1 L (L.length : Int) (i + 1) b p.f1 p.f2 W P) r) : Ans (fun k => d_Single.l0 k a 0 L (L.length : Int) i b s0 s1 s2 s3) r := by
 obtain ⟨hi, hq, _⟩ := drop_cons h0 hd
 have e0 : ¬ p.f1 = 0 := hp.2.1
 have e37 : ¬ p.f1 = 37 := inF_not37 hp
 have eb : (p.f1 == 37) = false := beq_eq_false_iff_ne.2 e37
 obtain ⟨j, hj, hn⟩ := point_yes h1
 have hw : wrap64 (i + 1) = i + 1 := wrap_id (by omega) (by omega)
 have hw1 : wrap64 ((0 : Int) + 1) = 1 := wrap_id (by omega) (by omega)
 refine Ans.succ (Ans.succ ?_)
 simp only [d_Single.l0, if_pos hi, if_pos h0, hq, if_neg e0, eb, d_Single.j1, Bool.false_eq_true, if_false, if_neg (show ¬ (0 : Int) = 1 by decide), hj, Option.bind_some, if_neg hn, if_neg h3, if_neg h5, hw, hw1]
 refine Ans.bind hs ?_
 exact h
theorem end_na (L : List S25) (a b : ByteArray) (s0 s1 s2 s3 : Int) {i : Int} (hi : i = (L.length : Int)) : Ans (fun k => d_Single.l0 k a 0 L (L.length : Int) i b s0 s1 s2 s3) NA := by
 refine Ans.succ ?_
 simp only [d_Single.l0, if_neg (show ¬ i < (L.length : Int) by omega), if_true]
 exact Ans.ret _
theorem end_ok (L : List S25) (a b : ByteArray) (s0 s1 s2 s3 : Int) {i : Int} (hi : i = (L.length : Int)) : Ans (fun k => d_Single.l0 k a 1 L (L.length : Int) i b s0 s1 s2 s3) (a, s0, s1, s2, s3, b, true) := by
 refine Ans.succ ?_
 simp only [d_Single.l0, if_neg (show ¬ i < (L.length : Int) by omega), if_neg (show ¬ (1 : Int) = 0 by decide)]
 exact Ans.ret _
end Go.Proofs.YtlmijjekaelhcaaDoor.Pl
end
section
set_option linter.unusedVariables false
set_option linter.unusedSimpArgs false
namespace Go.Proofs.YtlmijjekaelhcaaDoor.Pl
open Go.RowKit Go.Proofs.YtlmijjekaelhcaaDoorW.PrintWords Go.Proofs.YtlmijjekaelhcaaDoor.EDi Go.Proofs.YtlmijjekaelhcaaDoor.X
theorem ix_low (c : UInt8) : ∀ l, -1 ≤ Lib.indexByte l c
 | [] => by simp [Lib.indexByte]
 | b :: l => by
  have ih := ix_low c l
  simp only [Lib.indexByte]
  split
  ·omega
  ·split <;> omega
theorem ref_at_l0 {T : ByteArray} (hT : T.size ≤ 1099511627776) (c : UInt8) : ∀ i, i ≤ (T.size : Int) → 0 ≤ i → Ans (fun k => q_at.l0 k T (cI c) i) (if Lib.indexByte (rest T i) c < 0 then -1 else i + Lib.indexByte (rest T i) c) := by
 refine left_ind fun i hi ih h0 => Ans.succ ?_
 simp only [q_at.l0]
 by_cases h : i < (T.size : Int)
 ·obtain ⟨d, hd, hb⟩ := rest_cons h0 h
  simp only [if_pos h, if_pos h0, hb]
  by_cases e : d = c
  ·have hx : Lib.indexByte (rest T i) c = 0 := by rw [hd, e]; simp [Lib.indexByte]
   rw [hx]
   simp only [e, if_true]
   have : (if (0 : Int) < 0 then (-1 : Int) else i + 0) = i := by simp
   rw [this]
   exact Ans.ret _
  ·have hne : ¬ cI d = cI c := fun h => e (cI_inj h)
   have hbe : (d == c) = false := beq_eq_false_iff_ne.2 e
   simp only [if_neg hne]
   rw [wrap_id (x := i + 1) (by omega) (by omega)]
   have hn := ih (i + 1) (by omega) (by omega) (by omega)
   have hx : (if Lib.indexByte (rest T i) c < 0 then (-1 : Int) else i + Lib.indexByte (rest T i) c) = (if Lib.indexByte (rest T (i + 1)) c < 0 then (-1 : Int) else i + 1 + Lib.indexByte (rest T (i + 1)) c) := by
    have hl := ix_low c (rest T (i + 1))
    rw [hd]
    simp only [Lib.indexByte, hbe, Bool.false_eq_true, if_false]
    by_cases h1 : Lib.indexByte (rest T (i + 1)) c = -1
    ·rw [h1]
     simp
    ·have h1b : (Lib.indexByte (rest T (i + 1)) c == -1) = false := beq_eq_false_iff_ne.2 h1
     rw [h1b]
     simp only [Bool.false_eq_true, if_false]
     rw [if_neg (by omega), if_neg (by omega)]
     omega
   rw [hx]
   exact hn
 ·simp only [if_neg h]
  rw [rest_nil (by omega)]
  exact Ans.ret _
theorem ref_at {T : ByteArray} (hT : T.size ≤ 1099511627776) (c : UInt8) : Ans (fun k => q_at.f k T (cI c)) (Lib.indexByte T.data.toList c) := by
 have h := ref_at_l0 hT c 0 (by omega) (by omega)
 have e : (if Lib.indexByte (rest T 0) c < 0 then (-1 : Int) else 0 + Lib.indexByte (rest T 0) c) = Lib.indexByte T.data.toList c := by
  have hr : rest T 0 = T.data.toList := by simp [rest]
  have := ix_low c T.data.toList
  rw [hr]
  split <;> omega
 rw [e] at h
 exact h
theorem byte_cI {v : Int} (h : 0 ≤ v ∧ v ≤ 255) : v = cI v.toNat.toUInt8 := by
 unfold cI
 simp
 omega
theorem ref_counted {k n l : Int} : (Cnt k n l → q_counted.f k n l = some true) ∧ (¬ Cnt k n l → q_counted.f k n l = some false) := by
 have e : q_counted.f k n l = d_counted.f k n l := by
  unfold q_counted.f d_counted.f
  first
  | rfl
  | (by_cases h1 : k = 1 <;> by_cases h2 : k = 0 <;> by_cases h3 : k = 2 <;> simp [h1, h2, h3])
 rw [e]
 exact ⟨counted_yes, counted_no⟩
theorem ref_dir (q : S25) (hv : 0 ≤ q.f1 ∧ q.f1 ≤ 255) (h2 : I64 q.f2) : (Dir q → Ans (fun k => q_directive.f k q.f0 q.f1 q.f2 q.f3 q.f4 q.f5 q.f6) true) ∧ (¬ Dir q → Ans (fun k => q_directive.f k q.f0 q.f1 q.f2 q.f3 q.f4 q.f5 q.f6) false) := by
 have hat := ref_at (T := ⟨#[100, 105, 111, 117, 120, 88, 99, 115, 101, 69, 102, 70, 103, 71]⟩) (by decide) q.f1.toNat.toUInt8
 rw [← byte_cI hv] at hat
 have hat' : Ans (fun k => q_at.f k ⟨#[100, 105, 111, 117, 120, 88, 99, 115, 101, 69, 102, 70, 103, 71]⟩ q.f1) (Lib.indexByte verbL q.f1.toNat.toUInt8) := hat
 constructor
 ·intro h
  obtain ⟨g1, g2, g3, g4, g5, g6⟩ := h
  obtain ⟨f0, f1⟩ := flags_in h2.1 h2.2 g4
  unfold q_directive.f
  refine Ans.bind hat' ?_
  simp only [if_pos (show Lib.indexByte verbL q.f1.toNat.toUInt8 ≥ 0 from g3), if_pos g1, if_pos (show q.f2 ≥ 0 from f0), if_pos f1, ref_counted.1 g5, ref_counted.1 g6, Option.bind_some, if_true]
  exact Ans.ret _
 ·intro h
  unfold q_directive.f
  refine Ans.bind hat' ?_
  by_cases g3 : Lib.indexByte verbL q.f1.toNat.toUInt8 ≥ 0
  ·simp only [if_pos g3]
   by_cases g1 : q.f0.toList = ([] : List UInt8)
   ·simp only [if_pos g1]
    by_cases f0 : q.f2 ≥ 0
    ·simp only [if_pos f0]
     by_cases f1 : q.f2 ≤ 31
     ·simp only [if_pos f1]
      by_cases g5 : Cnt q.f3 q.f4 1
      ·simp only [ref_counted.1 g5, Option.bind_some, if_true]
       have g6 : ¬ Cnt q.f5 q.f6 0 := by
        intro g6
        refine h ⟨g1, ?_, g3, not31 f0 f1, g5, g6⟩
        intro e
        rw [e] at g3
        exact absurd g3 (by decide)
       simp only [ref_counted.2 g6, Option.bind_some]
       exact Ans.ret _
      ·simp only [ref_counted.2 g5, Option.bind_some, Bool.false_eq_true, if_false]
       exact Ans.ret _
     ·simp only [if_neg f1]
      exact Ans.ret _
    ·simp only [if_neg f0]
     exact Ans.ret _
   ·simp only [if_neg g1]
    exact Ans.ret _
  ·simp only [if_neg g3]
   exact Ans.ret _
/-- The document's Check. -/
theorem ref_check (q : S25) (hr : Rng q) (hs : q.f0.size ≤ 1099511627776) : (OkP q → Ans (fun k => q_Check.f k q.f0 q.f1 q.f2 q.f3 q.f4 q.f5 q.f6) 0) ∧ (¬ OkP q → Ans (fun k => q_Check.f k q.f0 q.f1 q.f2 q.f3 q.f4 q.f5 q.f6) 132) := by
 obtain ⟨d1, d2⟩ := ref_dir q hr.1 hr.2
 have bare : ∃ b : Bool, (b = true ↔ (q.f2 = 0 ∧ q.f3 = 0 ∧ q.f4 = 0 ∧ q.f5 = 0 ∧ q.f6 = 0)) ∧ ∀ k, q_Check.f k q.f0 q.f1 q.f2 q.f3 q.f4 q.f5 q.f6 = q_Check.j0 k b q.f0 q.f1 q.f2 q.f3 q.f4 q.f5 q.f6 := by
  unfold q_Check.f
  by_cases e2 : q.f2 = 0
  ·by_cases e3 : q.f3 = 0
   ·by_cases e4 : q.f4 = 0
    ·by_cases e5 : q.f5 = 0
     ·refine ⟨q.f6 == 0, by simp [e2, e3, e4, e5], fun k => ?_⟩
      rw [if_pos e2, if_pos e3, if_pos e4, if_pos e5]
     ·refine ⟨false, by simp [e5], fun k => ?_⟩
      rw [if_pos e2, if_pos e3, if_pos e4, if_neg e5]
    ·refine ⟨false, by simp [e4], fun k => ?_⟩
     rw [if_pos e2, if_pos e3, if_neg e4]
   ·refine ⟨false, by simp [e3], fun k => ?_⟩
    rw [if_pos e2, if_neg e3]
  ·refine ⟨false, by simp [e2], fun k => ?_⟩
   rw [if_neg e2]
 obtain ⟨b, hb, hf⟩ := bare
 have pct : Pct q ↔ (q.f1 = 37 ∧ b = true ∧ q.f0.toList = ([] : List UInt8)) := by
  rw [hb]
  constructor
  ·intro h
   rw [h]
   refine ⟨rfl, ⟨rfl, rfl, rfl, rfl, rfl⟩, ?_⟩
   rw [Go.ByteArray.toList_eq]
  ·rintro ⟨a, ⟨c2, c3, c4, c5, c6⟩, t⟩
   obtain ⟨x0, x1, x2, x3, x4, x5, x6⟩ := q
   simp only at a c2 c3 c4 c5 c6 t
   subst a c2 c3 c4 c5 c6
   rw [Go.ByteArray.toList_eq] at t
   unfold Pct
   rw [mk_of t]
 have txt : Txt q ↔ (q.f1 = 0 ∧ b = true ∧ q.f0.toList ≠ ([] : List UInt8) ∧ Lib.indexByte q.f0.data.toList 37 < 0) := by
  rw [hb]
  unfold Txt
  constructor
  ·rintro ⟨a, b1, c2, c3, c4, c5, c6, t⟩
   exact ⟨b1, ⟨c2, c3, c4, c5, c6⟩, a, t⟩
  ·rintro ⟨b1, ⟨c2, c3, c4, c5, c6⟩, a, t⟩
   exact ⟨a, b1, c2, c3, c4, c5, c6, t⟩
 have j2 : ∀ u : Bool, (u = true → OkP q) → (u = false → ¬ Pct q ∧ ¬ Txt q) → (OkP q → Ans (fun k => q_Check.j2 k u q.f0 q.f1 q.f2 q.f3 q.f4 q.f5 q.f6) 0) ∧ (¬ OkP q → Ans (fun k => q_Check.j2 k u q.f0 q.f1 q.f2 q.f3 q.f4 q.f5 q.f6) 132) := by
  intro u hu1 hu2
  cases u with
  | true =>
   refine ⟨fun _ => Ans.succ ?_, fun h => absurd (hu1 rfl) h⟩
   simp only [q_Check.j2, if_true]
   exact Ans.ret _
  | false =>
   obtain ⟨n1, n2⟩ := hu2 rfl
   constructor
   ·intro h
    have hd : Dir q := by
     rcases h with h | h | h
     ·exact h
     ·exact absurd h n1
     ·exact absurd h n2
    refine Ans.succ ?_
    simp only [q_Check.j2, Bool.false_eq_true, if_false]
    refine Ans.bind (d1 hd) ?_
    simp only [if_true]
    exact Ans.ret _
   ·intro h
    refine Ans.succ ?_
    simp only [q_Check.j2, Bool.false_eq_true, if_false]
    refine Ans.bind (d2 fun hd => h (.inl hd)) ?_
    simp only [Bool.false_eq_true, if_false]
    exact Ans.ret _
 have j1 : ∀ u : Bool, (u = true ↔ Txt q) → (OkP q → Ans (fun k => q_Check.j1 k b u q.f0 q.f1 q.f2 q.f3 q.f4 q.f5 q.f6) 0) ∧ (¬ OkP q → Ans (fun k => q_Check.j1 k b u q.f0 q.f1 q.f2 q.f3 q.f4 q.f5 q.f6) 132) := by
  intro u hu
  cases u with
  | true =>
   refine ⟨fun _ => Ans.succ ?_, fun h => absurd (.inr (.inr (hu.1 rfl))) h⟩
   simp only [q_Check.j1, if_true]
   exact Ans.ret _
  | false =>
   have nt : ¬ Txt q := fun h => absurd (hu.2 h) (by simp)
   have key : ∀ r, Ans (fun k => q_Check.j1 (k + 1) b false q.f0 q.f1 q.f2 q.f3 q.f4 q.f5 q.f6) r → Ans (fun k => q_Check.j1 k b false q.f0 q.f1 q.f2 q.f3 q.f4 q.f5 q.f6) r := fun r h => Ans.succ h
   by_cases e1 : q.f1 = 37
   ·by_cases eb : b = true
    ·obtain ⟨k1, k2⟩ := j2 (q.f0.toList == ([] : List UInt8)) (fun h => .inr (.inl (pct.2 ⟨e1, eb, eq_of_beq h⟩))) (fun h => ⟨fun hp => (beq_eq_false_iff_ne.1 h) (pct.1 hp).2.2, nt⟩)
     constructor
     ·intro h
      refine key _ ?_
      simp only [q_Check.j1, Bool.false_eq_true, if_false, if_pos e1, if_pos eb]
      exact k1 h
     ·intro h
      refine key _ ?_
      simp only [q_Check.j1, Bool.false_eq_true, if_false, if_pos e1, if_pos eb]
      exact k2 h
    ·obtain ⟨k1, k2⟩ := j2 false (fun h => by cases h) (fun _ => ⟨fun hp => eb (pct.1 hp).2.1, nt⟩)
     constructor
     ·intro h
      refine key _ ?_
      simp only [q_Check.j1, Bool.false_eq_true, if_false, if_pos e1, if_neg eb]
      exact k1 h
     ·intro h
      refine key _ ?_
      simp only [q_Check.j1, Bool.false_eq_true, if_false, if_pos e1, if_neg eb]
      exact k2 h
   ·obtain ⟨k1, k2⟩ := j2 false (fun h => by cases h) (fun _ => ⟨fun hp => e1 (pct.1 hp).1, nt⟩)
    constructor
    ·intro h
     refine key _ ?_
     simp only [q_Check.j1, Bool.false_eq_true, if_false, if_neg e1]
     exact k1 h
    ·intro h
     refine key _ ?_
     simp only [q_Check.j1, Bool.false_eq_true, if_false, if_neg e1]
     exact k2 h
 have j0 : ∀ r, (∀ u : Bool, (u = true ↔ Txt q) → Ans (fun k => q_Check.j1 k b u q.f0 q.f1 q.f2 q.f3 q.f4 q.f5 q.f6) r) → Ans (fun k => q_Check.f k q.f0 q.f1 q.f2 q.f3 q.f4 q.f5 q.f6) r := by
  intro r hj
  refine Ans.congr (g' := fun k => q_Check.j0 k b q.f0 q.f1 q.f2 q.f3 q.f4 q.f5 q.f6) ?_ hf
  refine Ans.succ ?_
  simp only [q_Check.j0]
  by_cases e1 : q.f1 = 0
  ·simp only [if_pos e1]
   by_cases eb : b = true
   ·simp only [if_pos eb]
    by_cases et : q.f0.toList = ([] : List UInt8)
    ·simp only [if_pos et]
     exact hj false ⟨fun h => absurd h (by decide), fun h => absurd et (txt.1 h).2.2.1⟩
    ·simp only [if_neg et]
     have hat := ref_at (T := q.f0) hs 37
     rw [show cI 37 = (37 : Int) by decide] at hat
     refine Ans.bind hat ?_
     refine hj _ ?_
     rw [decide_eq_true_iff, txt]
     exact ⟨fun h => ⟨e1, eb, et, h⟩, fun h => h.2.2.2⟩
   ·simp only [if_neg eb]
    exact hj false ⟨fun h => absurd h (by decide), fun h => absurd (txt.1 h).2.1 eb⟩
  ·simp only [if_neg e1]
   exact hj false ⟨fun h => absurd h (by decide), fun h => absurd (txt.1 h).1 e1⟩
 exact ⟨fun h => j0 0 fun u hu => (j1 u hu).1 h, fun h => j0 132 fun u hu => (j1 u hu).2 h⟩
def takes (q : S25) : Int := if q.f1 = 0 ∨ q.f1 = 37 then 0 else if q.f3 = 2 then (if q.f5 = 2 then 3 else 2) else (if q.f5 = 2 then 2 else 1)
theorem ref_takes (q : S25) : Ans (fun k => q_Takes.f k q.f0 q.f1 q.f2 q.f3 q.f4 q.f5 q.f6) (takes q) := by
 have j0 : ∀ b : Bool, (b = true ↔ (q.f1 = 0 ∨ q.f1 = 37)) → Ans (fun k => q_Takes.j0 k b q.f0 q.f1 q.f2 q.f3 q.f4 q.f5 q.f6) (takes q) := by
  intro b hb
  refine Ans.succ (Ans.of fun k => ?_)
  simp only [q_Takes.j0]
  unfold takes
  cases b with
  | true => rw [if_pos rfl, if_pos (hb.1 rfl)]
  | false =>
   rw [if_neg (by decide), if_neg (fun h => absurd (hb.2 h) (by decide))]
   by_cases h3 : q.f3 = 2 <;> by_cases h5 : q.f5 = 2 <;> simp [h3, h5]
 unfold q_Takes.f
 by_cases h : q.f1 = 0
 ·simp only [if_pos h]
  exact j0 true (by simp [h])
 ·simp only [if_neg h]
  exact j0 _ (by simp [h])
theorem wants_both (l : List S25) (hl : l.length ≤ 1099511627776) : ∀ j, j ≤ (l.length : Int) → 0 ≤ j → ∀ n : Int, 0 ≤ n → n ≤ 3 * j →
  ∃ r, Ans (fun k => d_Wants.l0 k n l (l.length : Int) j) r ∧ Ans (fun k => q_Wants.l0 k l n j) r := by
 refine left_ind fun j hj ih h0 n hn0 hn => ?_
 by_cases h : j < (l.length : Int)
 ·have hw : wrap64 (j + 1) = j + 1 := wrap_id (by omega) (by omega)
  have ht : 0 ≤ takes (rd_T25 l j) ∧ takes (rd_T25 l j) ≤ 3 := by
   unfold takes
   split
   ·omega
   ·split <;> split <;> omega
  obtain ⟨r, h1, h2⟩ := ih (j + 1) (by omega) (by omega) (by omega) (n + takes (rd_T25 l j)) (by omega) (by omega)
  refine ⟨r, ?_, ?_⟩
  ·have w1 : wrap64 (n + 1) = n + 1 := wrap_id (by omega) (by omega)
   have w2 : wrap64 (n + 1 + 1) = n + 1 + 1 := wrap_id (by omega) (by omega)
   have w3 : wrap64 (n + 1 + 1 + 1) = n + 1 + 1 + 1 := wrap_id (by omega) (by omega)
   have j1 : ∀ b : Bool, (b = true ↔ ((rd_T25 l j).f1 = 0 ∨ (rd_T25 l j).f1 = 37)) → Ans (fun k => d_Wants.j1 k n l (l.length : Int) j b (rd_T25 l j).f0 (rd_T25 l j).f1 (rd_T25 l j).f2 (rd_T25 l j).f3 (rd_T25 l j).f4 (rd_T25 l j).f5 (rd_T25 l j).f6) r := by
    intro b hb
    refine Ans.succ ?_
    simp only [d_Wants.j1, hw, w1, w2, w3]
    unfold takes at h1
    cases b with
    | true =>
     rw [if_pos (hb.1 rfl), Int.add_zero] at h1
     simp only [if_true]
     exact h1
    | false =>
     rw [if_neg (fun h => absurd (hb.2 h) (by decide))] at h1
     simp only [Bool.false_eq_true, if_false]
     by_cases h3 : (rd_T25 l j).f3 = 2
     ·by_cases h5 : (rd_T25 l j).f5 = 2
      ·simp only [if_pos h3, if_pos h5] at h1 ⊢
       rw [show n + 1 + 1 + 1 = n + 3 by omega]
       exact h1
      ·simp only [if_pos h3, if_neg h5] at h1 ⊢
       rw [show n + 1 + 1 = n + 2 by omega]
       exact h1
     ·by_cases h5 : (rd_T25 l j).f5 = 2
      ·simp only [if_neg h3, if_pos h5] at h1 ⊢
       rw [show n + 1 + 1 = n + 2 by omega]
       exact h1
      ·simp only [if_neg h3, if_neg h5] at h1 ⊢
       exact h1
   refine Ans.succ ?_
   simp only [d_Wants.l0, if_pos h, if_pos h0]
   by_cases hv : (rd_T25 l j).f1 = 0
   ·simp only [if_pos hv]
    exact j1 true (by simp [hv])
   ·simp only [if_neg hv]
    exact j1 _ (by simp [hv])
  ·refine Ans.succ ?_
   simp only [q_Wants.l0, if_pos h, if_pos h0, hw]
   refine Ans.bind (ref_takes _) ?_
   rw [wrap_id (x := n + takes (rd_T25 l j)) (by omega) (by omega)]
   exact h2
 ·refine ⟨n, Ans.succ ?_, Ans.succ ?_⟩
  ·simp only [d_Wants.l0, if_neg h]
   exact Ans.ret _
  ·simp only [q_Wants.l0, if_neg h]
   exact Ans.ret _
theorem wants_same (l : List S25) (hl : l.length ≤ 1099511627776) : ∃ r, Ans (fun k => d_Wants.f k l) r ∧ Ans (fun k => q_Wants.f k l) r := by
 unfold d_Wants.f q_Wants.f
 exact wants_both l hl 0 (by omega) (by omega) 0 (by omega) (by omega)
end Go.Proofs.YtlmijjekaelhcaaDoor.Pl
end
section
set_option linter.unusedVariables false
set_option linter.unusedSimpArgs false
namespace Go.Proofs.YtlmijjekaelhcaaDoor.Pl
open Go.RowKit Go.Proofs.YtlmijjekaelhcaaDoorW.PrintWords Go.Proofs.YtlmijjekaelhcaaDoor.EDi Go.Proofs.YtlmijjekaelhcaaDoor.X
theorem mx_is (b : Int) : mx b (-1) = if b ≥ 0 then b else -1 := by
 unfold mx
 split <;> split <;> omega
theorem ref_j1 (q : S25) (hc : Cnt q.f5 q.f6 0) (b s0 s1 W : Int) : Ans (fun k => q_Settle.j1 k b q.f0 q.f1 q.f2 q.f3 q.f4 q.f5 q.f6 s0 s1 W (-1)) (if setP q.f5 q.f6 b > 4096 then (0, 0, 0, 0, 6) else (s0, s1, W, setP q.f5 q.f6 b, 0)) := by
 refine Ans.succ (Ans.succ (Ans.of fun k => ?_))
 unfold setP
 simp only [q_Settle.j1, q_Settle.j2]
 rcases hc with ⟨e, h1, h2⟩ | ⟨e | e, h1⟩
 ·rw [e]
  simp only [if_true, if_neg (show ¬ (1 : Int) = 2 by decide), if_neg (show ¬ q.f6 > 4096 by omega)]
 ·rw [e]
  simp only [if_neg (show ¬ (0 : Int) = 1 by decide), if_neg (show ¬ (0 : Int) = 2 by decide), if_neg (show ¬ (-1 : Int) > 4096 by decide)]
 ·rw [e]
  simp only [if_neg (show ¬ (2 : Int) = 1 by decide), if_true, mx_is]
  by_cases g1 : b > 4096
  ·rw [if_pos g1, if_pos (show b ≥ 0 by omega), if_pos g1]
  ·by_cases g2 : b ≥ 0
   ·rw [if_neg g1, if_pos g2, if_pos g2, if_neg g1]
   ·rw [if_neg g1, if_neg g2, if_neg g2, if_neg (by decide)]
theorem ref_settle (q : S25) (hr : Rng q) (a b : Int) : (Dir q → Ans (fun k => q_Settle.f k q.f0 q.f1 q.f2 q.f3 q.f4 q.f5 q.f6 a b) (settled q.f1 q.f2 (setW q.f3 q.f4 a) (setP q.f5 q.f6 b))) ∧
  (¬ Dir q → Ans (fun k => q_Settle.f k q.f0 q.f1 q.f2 q.f3 q.f4 q.f5 q.f6 a b) (0, 0, 0, 0, 132)) := by
 obtain ⟨d1, d2⟩ := ref_dir q hr.1 hr.2
 constructor
 ·intro h
  have hd := h
  obtain ⟨g1, g2, g3, g4, g5, g6⟩ := h
  obtain ⟨f0, f1⟩ := flags_in hr.2.1 hr.2.2 g4
  unfold q_Settle.f
  refine Ans.bind (d1 hd) ?_
  simp only [if_true]
  unfold settled
  have hw := cnt_range g5 (by decide)
  by_cases e3 : q.f3 = 2
  ·have eW : setW q.f3 q.f4 a = a := by
    unfold setW
    rw [if_pos e3]
   rw [eW]
   simp only [if_pos e3]
   by_cases w1 : a > 4096
   ·simp only [if_pos w1]
    rw [if_pos (.inl w1)]
    refine Ans.succ ?_
    simp only [q_Settle.j0, if_true]
    exact Ans.ret _
   ·simp only [if_neg w1]
    by_cases w2 : a < -4096
    ·simp only [decide_eq_true w2]
     rw [if_pos (.inr (.inl w2))]
     refine Ans.succ ?_
     simp only [q_Settle.j0, if_true]
     exact Ans.ret _
    ·simp only [decide_eq_false w2]
     refine Ans.succ ?_
     simp only [q_Settle.j0, Bool.false_eq_true, if_false]
     by_cases w3 : a < 0
     ·simp only [if_pos w3]
      have eo := or1 f0 f1
      have et : Int.tmod q.f2 2 = q.f2 % 2 := Int.tmod_eq_emod_of_nonneg f0
      have ef : (if q.f2 % 2 = 0 then q.f2 + 1 else q.f2) = Go.bits .or .i64 q.f2 1 := by
       rw [eo]
       split <;> omega
      have hj := ref_j1 q g6 b q.f1 (if q.f2 % 2 = 0 then q.f2 + 1 else q.f2) (wrap64 (-a))
      rw [et]
      by_cases e2 : q.f2 % 2 = 0
      ·simp only [if_pos e2] at hj ef ⊢
       rw [wrap_id (x := q.f2 + 1) (by omega) (by omega)]
       rw [← ef]
       by_cases hp : setP q.f5 q.f6 b > 4096
       ·rw [if_pos hp] at hj
        rw [if_pos (.inr (.inr hp))]
        exact hj
       ·rw [if_neg hp] at hj
        rw [if_neg (by omega)]
        exact hj
      ·simp only [if_neg e2] at hj ef ⊢
       rw [← ef]
       by_cases hp : setP q.f5 q.f6 b > 4096
       ·rw [if_pos hp] at hj
        rw [if_pos (.inr (.inr hp))]
        exact hj
       ·rw [if_neg hp] at hj
        rw [if_neg (by omega)]
        exact hj
     ·simp only [if_neg w3]
      have hj := ref_j1 q g6 b q.f1 q.f2 a
      by_cases hp : setP q.f5 q.f6 b > 4096
      ·rw [if_pos hp] at hj
       rw [if_pos (.inr (.inr hp))]
       exact hj
      ·rw [if_neg hp] at hj
       rw [if_neg (by omega)]
       exact hj
  ·have eW : setW q.f3 q.f4 a = q.f4 := by
    unfold setW
    rw [if_neg e3]
   rw [eW]
   simp only [if_neg e3]
   have hj := ref_j1 q g6 b q.f1 q.f2 q.f4
   by_cases hp : setP q.f5 q.f6 b > 4096
   ·rw [if_pos hp] at hj
    rw [if_pos (.inr (.inr hp))]
    exact hj
   ·rw [if_neg hp] at hj
    rw [if_neg (by omega), if_neg (by omega)]
    exact hj
 ·intro h
  unfold q_Settle.f
  refine Ans.bind (d2 h) ?_
  simp only [Bool.false_eq_true, if_false]
  exact Ans.ret _
theorem settle_same (q : S25) (hr : Rng q) (a b : Int) : ∃ r, Ans (fun k => d_Settle.f k q.f0 q.f1 q.f2 q.f3 q.f4 q.f5 q.f6 a b) r ∧ Ans (fun k => q_Settle.f k q.f0 q.f1 q.f2 q.f3 q.f4 q.f5 q.f6 a b) r := by
 classical
 by_cases h : Dir q
 ·exact ⟨_, Ans.succ (Ans.succ (Ans.succ (Ans.of fun k => settle_yes h k a b))), (ref_settle q hr a b).1 h⟩
 ·exact ⟨_, Ans.of fun k => settle_no h k a b, (ref_settle q hr a b).2 h⟩
end Go.Proofs.YtlmijjekaelhcaaDoor.Pl
end
section
set_option linter.unusedVariables false
set_option linter.unusedSimpArgs false
namespace Go.Proofs.YtlmijjekaelhcaaDoor.Pl
open Go.RowKit Go.Proofs.YtlmijjekaelhcaaDoorW.PrintWords Go.Proofs.YtlmijjekaelhcaaDoor.EDi Go.Proofs.YtlmijjekaelhcaaDoor.X
theorem one_num (d : Int) : strOfNums [d] = ⟨([d.toNat.toUInt8] : List UInt8).toArray⟩ := rfl
theorem dec_digit {u : Nat} (h : u ≤ 4096) : ((wrap64 (48 + (Int.tmod (u : Int) 10))) % 256).toNat.toUInt8 = UInt8.ofNat (48 + u % 10) := by
 have e : Int.tmod (u : Int) 10 = ((u % 10 : Nat) : Int) := by
  rw [Int.tmod_eq_emod_of_nonneg (by omega)]
  omega
 rw [e, wrap_id (by omega) (by omega)]
 have : (((48 : Int) + ((u % 10 : Nat) : Int)) % 256).toNat = 48 + u % 10 := by omega
 rw [this]
theorem dec_l0 (u : Nat) (hu : u ≤ 4096) : ∀ x : List UInt8, x.length + u ≤ 1000000 → Ans (fun k => q_decimal.l0 k (u : Int) ⟨x.toArray⟩) ⟨(Lib.decDigits u ++ x).toArray⟩ := by
 induction u using Nat.strongRecOn with
 | _ u ih =>
  intro x hx
  refine Ans.succ ?_
  simp only [q_decimal.l0]
  refine Ans.bind (Ans.ret _) ?_
  have ed : Int.tdiv (u : Int) 10 = ((u / 10 : Nat) : Int) := by
   rw [Int.tdiv_eq_ediv_of_nonneg (by omega)]
   omega
  have ew : wrap64 (Int.tdiv (u : Int) 10) = ((u / 10 : Nat) : Int) := by
   rw [ed, wrap_id (by omega) (by omega)]
  have hfit : (⟨([UInt8.ofNat (48 + u % 10)] : List UInt8).toArray⟩ : ByteArray).size + (⟨x.toArray⟩ : ByteArray).size ≤ 9223372036854775807 := by
   rw [ba_size, ba_size, List.length_singleton]
   omega
  simp only [one_num, dec_digit hu, if_pos hfit, ew, ba_app]
  by_cases h : u < 10
  ·have h0 : ((u / 10 : Nat) : Int) = 0 := by omega
   simp only [if_pos h0]
   rw [Lib.decDigits_one h, show 48 + u % 10 = 48 + u by omega]
   exact Ans.ret _
  ·have h0 : ¬ ((u / 10 : Nat) : Int) = 0 := by omega
   simp only [if_neg h0]
   have hn : ∀ y : List UInt8, y.length + u / 10 ≤ 1000000 → Ans (fun k => q_decimal.l0 k ((u / 10 : Nat) : Int) ⟨y.toArray⟩) ⟨(Lib.decDigits (u / 10) ++ y).toArray⟩ := ih (u / 10) (by omega) (by omega)
   have e : Lib.decDigits u = Lib.decDigits (u / 10) ++ [UInt8.ofNat (48 + u % 10)] := by
    conv => lhs; rw [Lib.decDigits]
    rw [dif_neg h]
   rw [e, List.append_assoc]
   exact hn _ (by simp; omega)
theorem ref_decimal {n : Int} (h0 : 0 ≤ n) (h1 : n ≤ 4096) : Ans (fun k => q_decimal.f k n) ⟨(Lib.itoa n).toArray⟩ := by
 obtain ⟨u, rfl⟩ := Int.eq_ofNat_of_zero_le h0
 have h := dec_l0 u (by omega) [] (by simp; omega)
 rw [List.append_nil] at h
 rw [itoa_nat h0, Int.toNat_natCast]
 exact h
theorem ref_bit (j : Int) (b : Int) (c : Int) (h : q_bit.f 20 c = some b) : Ans (fun k => q_bit.f k c) b := Ans.of_mono (g := fun k => q_bit.f k c) h fun k => q_bit.mono c k
theorem bit_on0 : ∀ n : Fin 32, decide (Int.tmod (Int.tdiv ((n.val : Nat) : Int) 1) 2 = 1) = on ((n.val : Nat) : Int) 0 := by decide
theorem bit_sel0 {fl : Int} (h0 : 0 ≤ fl) (h1 : fl ≤ 31) : (Int.tmod (wrap64 (Int.tdiv fl 1)) 2 = 1) ↔ on fl 0 = true := by
 have hd : 0 ≤ Int.tdiv fl 1 ∧ Int.tdiv fl 1 ≤ 31 := by
  rw [Int.tdiv_eq_ediv_of_nonneg h0]
  omega
 rw [wrap_id (by omega) (by omega)]
 have := bit_on0 ⟨fl.toNat, by omega⟩
 simp only [Int.toNat_of_nonneg h0] at this
 rw [← this, decide_eq_true_iff]
theorem bit_on1 : ∀ n : Fin 32, decide (Int.tmod (Int.tdiv ((n.val : Nat) : Int) 2) 2 = 1) = on ((n.val : Nat) : Int) 1 := by decide
theorem bit_sel1 {fl : Int} (h0 : 0 ≤ fl) (h1 : fl ≤ 31) : (Int.tmod (wrap64 (Int.tdiv fl 2)) 2 = 1) ↔ on fl 1 = true := by
 have hd : 0 ≤ Int.tdiv fl 2 ∧ Int.tdiv fl 2 ≤ 31 := by
  rw [Int.tdiv_eq_ediv_of_nonneg h0]
  omega
 rw [wrap_id (by omega) (by omega)]
 have := bit_on1 ⟨fl.toNat, by omega⟩
 simp only [Int.toNat_of_nonneg h0] at this
 rw [← this, decide_eq_true_iff]
theorem bit_on2 : ∀ n : Fin 32, decide (Int.tmod (Int.tdiv ((n.val : Nat) : Int) 4) 2 = 1) = on ((n.val : Nat) : Int) 2 := by decide
theorem bit_sel2 {fl : Int} (h0 : 0 ≤ fl) (h1 : fl ≤ 31) : (Int.tmod (wrap64 (Int.tdiv fl 4)) 2 = 1) ↔ on fl 2 = true := by
 have hd : 0 ≤ Int.tdiv fl 4 ∧ Int.tdiv fl 4 ≤ 31 := by
  rw [Int.tdiv_eq_ediv_of_nonneg h0]
  omega
 rw [wrap_id (by omega) (by omega)]
 have := bit_on2 ⟨fl.toNat, by omega⟩
 simp only [Int.toNat_of_nonneg h0] at this
 rw [← this, decide_eq_true_iff]
theorem bit_on3 : ∀ n : Fin 32, decide (Int.tmod (Int.tdiv ((n.val : Nat) : Int) 8) 2 = 1) = on ((n.val : Nat) : Int) 3 := by decide
theorem bit_sel3 {fl : Int} (h0 : 0 ≤ fl) (h1 : fl ≤ 31) : (Int.tmod (wrap64 (Int.tdiv fl 8)) 2 = 1) ↔ on fl 3 = true := by
 have hd : 0 ≤ Int.tdiv fl 8 ∧ Int.tdiv fl 8 ≤ 31 := by
  rw [Int.tdiv_eq_ediv_of_nonneg h0]
  omega
 rw [wrap_id (by omega) (by omega)]
 have := bit_on3 ⟨fl.toNat, by omega⟩
 simp only [Int.toNat_of_nonneg h0] at this
 rw [← this, decide_eq_true_iff]
theorem bit_on4 : ∀ n : Fin 32, decide (Int.tmod (Int.tdiv ((n.val : Nat) : Int) 16) 2 = 1) = on ((n.val : Nat) : Int) 4 := by decide
theorem bit_sel4 {fl : Int} (h0 : 0 ≤ fl) (h1 : fl ≤ 31) : (Int.tmod (wrap64 (Int.tdiv fl 16)) 2 = 1) ↔ on fl 4 = true := by
 have hd : 0 ≤ Int.tdiv fl 16 ∧ Int.tdiv fl 16 ≤ 31 := by
  rw [Int.tdiv_eq_ediv_of_nonneg h0]
  omega
 rw [wrap_id (by omega) (by omega)]
 have := bit_on4 ⟨fl.toNat, by omega⟩
 simp only [Int.toNat_of_nonneg h0] at this
 rw [← this, decide_eq_true_iff]
/-- One flag. -/
theorem pr_step (x : List UInt8) (hx : x.length ≤ 1000) (j b : Int) (j0 : 0 ≤ j) (hj : j < 5) (c : UInt8) (hne : ¬ b = 0) (hc : (⟨#[45, 43, 32, 35, 48]⟩ : ByteArray).extract j.toNat (j + 1).toNat = ⟨#[c]⟩) (hb : q_bit.f 20 (bt ⟨#[45, 43, 32, 35, 48]⟩ j) = some b)
  (t : ByteArray) (v fl wk wd pk pr : Int) (hs : (Int.tmod (wrap64 (Int.tdiv fl b)) 2 = 1) ↔ on fl j = true) (r : ByteArray)
  (h : Ans (fun k => q_printed.l0 k ⟨(x ++ sel fl j c).toArray⟩ (j + 1) t v fl wk wd pk pr) r) : Ans (fun k => q_printed.l0 k ⟨x.toArray⟩ j t v fl wk wd pk pr) r := by
 have hw : wrap64 (j + 1) = j + 1 := wrap_id (by omega) (by omega)
 refine Ans.succ ?_
 simp only [q_printed.l0, if_pos (show j < 5 by omega), if_pos (show (0 : Int) ≤ j by omega), hw]
 refine Ans.bind (ref_bit 0 _ _ hb) ?_
 simp only [if_neg hne]
 unfold sel at h
 by_cases ho : on fl j = true
 ·rw [if_pos ho] at h
  have e1 : (⟨#[c]⟩ : ByteArray) = ⟨([c] : List UInt8).toArray⟩ := rfl
  have hfit : (⟨x.toArray⟩ : ByteArray).size + (⟨([c] : List UInt8).toArray⟩ : ByteArray).size ≤ 9223372036854775807 := by
   rw [ba_size, ba_size, List.length_singleton]
   omega
  simp only [if_pos (hs.2 ho), if_pos (show j ≤ j + 1 by omega), if_pos (show j + 1 ≤ 5 by omega), hc, e1, if_pos hfit, ba_app]
  exact h
 ·rw [if_neg ho, List.append_nil] at h
  have hn : ¬ (Int.tmod (wrap64 (Int.tdiv fl b)) 2 = 1) := fun e => ho (hs.1 e)
  simp only [if_neg hn]
  exact h
theorem bitv0 : q_bit.f 20 (bt ⟨#[45, 43, 32, 35, 48]⟩ (0)) = some 1 := by kernel_rfl
theorem bitv1 : q_bit.f 20 (bt ⟨#[45, 43, 32, 35, 48]⟩ (0 + 1)) = some 2 := by kernel_rfl
theorem bitv2 : q_bit.f 20 (bt ⟨#[45, 43, 32, 35, 48]⟩ (0 + 1 + 1)) = some 4 := by kernel_rfl
theorem bitv3 : q_bit.f 20 (bt ⟨#[45, 43, 32, 35, 48]⟩ (0 + 1 + 1 + 1)) = some 8 := by kernel_rfl
theorem bitv4 : q_bit.f 20 (bt ⟨#[45, 43, 32, 35, 48]⟩ (0 + 1 + 1 + 1 + 1)) = some 16 := by kernel_rfl
set_option maxHeartbeats 1000000 in
/-- The text of a directive. -/
theorem ref_dirL {t : ByteArray} {v fl wk wd pk pr : Int} (hv0 : v ≠ 0) (hv37 : v ≠ 37) (f0 : 0 ≤ fl) (f1 : fl ≤ 31) (hw : 0 ≤ wd ∧ wd ≤ 4096) (hp : 0 ≤ pr ∧ pr ≤ 4096) (hpk : pk = 1 ∨ pk = 0 ∨ pk = 2) : Ans (fun k => q_printed.f k t v fl wk wd pk pr) ⟨(dirL v fl wk wd pk pr).toArray⟩ := by
 unfold q_printed.f
 simp only [if_neg hv0, if_neg hv37]
 have e0 : (⟨#[37]⟩ : ByteArray) = ⟨([37] : List UInt8).toArray⟩ := rfl
 have s0 := sel_len fl 0 45
 have s1 := sel_len fl 1 43
 have s2 := sel_len fl 2 32
 have s3 := sel_len fl 3 35
 have s4 := sel_len fl 4 48
 have l1 := shL_len (kd := wk) hw.1 hw.2
 have l2 := shL_len (kd := pk) hp.1 hp.2
 rw [e0]
 refine pr_step [37] (by simp) (0) 1 (by decide) (by decide) 45 (by decide) (by decide) bitv0 t v fl wk wd pk pr (bit_sel0 f0 f1) _ ?_
 refine pr_step _ (by simp; omega) (0 + 1) 2 (by decide) (by decide) 43 (by decide) (by decide) bitv1 t v fl wk wd pk pr (bit_sel1 f0 f1) _ ?_
 refine pr_step _ (by simp; omega) (0 + 1 + 1) 4 (by decide) (by decide) 32 (by decide) (by decide) bitv2 t v fl wk wd pk pr (bit_sel2 f0 f1) _ ?_
 refine pr_step _ (by simp; omega) (0 + 1 + 1 + 1) 8 (by decide) (by decide) 35 (by decide) (by decide) bitv3 t v fl wk wd pk pr (bit_sel3 f0 f1) _ ?_
 refine pr_step _ (by simp; omega) (0 + 1 + 1 + 1 + 1) 16 (by decide) (by decide) 48 (by decide) (by decide) bitv4 t v fl wk wd pk pr (bit_sel4 f0 f1) _ ?_
 have efin : [37] ++ sel fl 0 45 ++ sel fl (0 + 1) 43 ++ sel fl (0 + 1 + 1) 32 ++ sel fl (0 + 1 + 1 + 1) 35 ++ sel fl (0 + 1 + 1 + 1 + 1) 48 = 37 :: FT fl := by
  unfold FT
  simp
 rw [efin]
 have lF := FT_len fl
 obtain ⟨F, hF⟩ : ∃ F, F = 37 :: FT fl := ⟨_, rfl⟩
 have lF' : F.length ≤ 6 := by rw [hF, List.length_cons]; omega
 have ev : strOfNums [v] = ⟨([v.toNat.toUInt8] : List UInt8).toArray⟩ := rfl
 have e42 : (⟨#[42]⟩ : ByteArray) = ⟨([42] : List UInt8).toArray⟩ := rfl
 have e46 : (⟨#[46]⟩ : ByteArray) = ⟨([46] : List UInt8).toArray⟩ := rfl
 have e4642 : (⟨#[46, 42]⟩ : ByteArray) = ⟨([46, 42] : List UInt8).toArray⟩ := rfl
 have j2 : ∀ y : List UInt8, y.length ≤ 1000 → Ans (fun k => q_printed.j2 k ⟨y.toArray⟩ t v fl wk wd pk pr) ⟨(y ++ ((if pk = 0 then [] else 46 :: shL pk pr) ++ [v.toNat.toUInt8])).toArray⟩ := by
  intro y hy
  refine Ans.succ ?_
  simp only [q_printed.j2]
  rcases hpk with e | e | e
  ·have l3 : (Lib.itoa pr).length ≤ 4 := by
    have := l2
    unfold shL at this
    rw [e, if_neg (by decide), if_pos rfl] at this
    exact this
   have eS : shL pk pr = Lib.itoa pr := by
    unfold shL
    rw [e, if_neg (by decide), if_pos rfl]
   rw [if_neg (show ¬ pk = 0 by omega), eS]
   simp only [if_pos e]
   refine Ans.bind (ref_decimal hp.1 hp.2) ?_
   simp only [if_neg (show ¬ pk = 2 by omega), e46, ba_app, ba_size]
   rw [if_pos (by omega), if_pos (by simp; omega)]
   refine Ans.bind (Ans.ret _) ?_
   simp only [ev, ba_app, ba_size]
   rw [if_pos (by simp; omega)]
   have el : y ++ ([46] ++ Lib.itoa pr) ++ [v.toNat.toUInt8] = y ++ (46 :: Lib.itoa pr ++ [v.toNat.toUInt8]) := by simp
   rw [el]
   exact Ans.ret _
  ·rw [if_pos e]
   simp only [if_neg (show ¬ pk = 1 by omega), if_neg (show ¬ pk = 2 by omega)]
   refine Ans.bind (Ans.ret _) ?_
   simp only [ev, ba_app, ba_size]
   rw [if_pos (by simp; omega)]
   exact Ans.ret _
  ·have eS : shL pk pr = [42] := by
    unfold shL
    rw [if_pos e]
   rw [if_neg (show ¬ pk = 0 by omega), eS]
   simp only [if_neg (show ¬ pk = 1 by omega), if_pos e, e4642, ba_app, ba_size]
   rw [if_pos (by omega)]
   refine Ans.bind (Ans.ret _) ?_
   simp only [ev, ba_app, ba_size]
   rw [if_pos (by simp; omega)]
   have el : y ++ [46, 42] ++ [v.toNat.toUInt8] = y ++ (46 :: [42] ++ [v.toNat.toUInt8]) := by simp
   rw [el]
   exact Ans.ret _
 unfold dirL
 rw [← List.cons_append, ← hF]
 refine Ans.succ ?_
 simp only [q_printed.l0, if_neg (show ¬ (0 + 1 + 1 + 1 + 1 + 1 : Int) < 5 by decide)]
 by_cases w1 : wk = 1
 ·have eS : shL wk wd = Lib.itoa wd := by
   unfold shL
   rw [w1, if_neg (by decide), if_pos rfl]
  rw [eS] at l1
  rw [eS]
  simp only [if_pos w1]
  refine Ans.bind (ref_decimal hw.1 hw.2) ?_
  simp only [ba_app, ba_size, if_pos (show F.length + (Lib.itoa wd).length ≤ 9223372036854775807 by omega)]
  refine Ans.succ ?_
  simp only [q_printed.j1, if_neg (show ¬ wk = 2 by omega)]
  have h := j2 (F ++ Lib.itoa wd) (by simp; omega)
  rw [List.append_assoc] at h
  exact h
 ·simp only [if_neg w1]
  refine Ans.succ ?_
  simp only [q_printed.j1]
  by_cases w2 : wk = 2
  ·have eS : shL wk wd = [42] := by
    unfold shL
    rw [if_pos w2]
   rw [eS]
   simp only [if_pos w2, e42, ba_app, ba_size, if_pos (show F.length + 1 ≤ 9223372036854775807 by omega)]
   have h := j2 (F ++ [42]) (by simp; omega)
   rw [List.append_assoc] at h
   exact h
  ·have eS : shL wk wd = [] := by
    unfold shL
    rw [if_neg w2, if_neg w1]
   rw [eS, List.nil_append]
   simp only [if_neg w2]
   exact j2 F (by omega)
theorem ref_text {q : S25} (h : OkP q) (hr : Rng q) : Ans (fun k => q_printed.f k q.f0 q.f1 q.f2 q.f3 q.f4 q.f5 q.f6) ⟨(pL q).toArray⟩ := by
 unfold pL
 by_cases h0 : q.f1 = 0
 ·rw [if_pos h0]
  refine Ans.of fun k => ?_
  unfold q_printed.f
  rw [if_pos h0]
 ·rw [if_neg h0]
  by_cases h37 : q.f1 = 37
  ·rw [if_pos h37]
   refine Ans.of fun k => ?_
   unfold q_printed.f
   rw [if_neg h0, if_pos h37]
  ·rw [if_neg h37]
   rcases h with h | h | h
   ·obtain ⟨f0, f1⟩ := flags_in hr.2.1 hr.2.2 h.2.2.2.1
    refine ref_dirL h0 h37 f0 f1 (cnt_range h.2.2.2.2.1 (by decide)) (cnt_range h.2.2.2.2.2 (by decide)) ?_
    rcases h.2.2.2.2.2 with ⟨e, _⟩ | ⟨e | e, _⟩
    ·exact .inl e
    ·exact .inr (.inl e)
    ·exact .inr (.inr e)
   ·unfold Pct at h
    rw [h] at h37
    exact absurd rfl h37
   ·exact absurd h.2.1 h0
end Go.Proofs.YtlmijjekaelhcaaDoor.Pl
end
section
set_option linter.unusedVariables false
set_option linter.unusedSimpArgs false
namespace Go.Proofs.YtlmijjekaelhcaaDoor.Pl
open Go.RowKit Go.Proofs.YtlmijjekaelhcaaDoorW.PrintWords Go.Proofs.YtlmijjekaelhcaaDoor.EDi Go.Proofs.YtlmijjekaelhcaaDoor.X
def pAns (l : List S25) : ByteArray × Int := if (cat l).length > 16777216 then (⟨#[]⟩, 3) else (⟨(cat l).toArray⟩, 0)
theorem dir_print (l : List S25) (hok : ∀ q ∈ l, OkP q) (hl : l.length ≤ 1099511627776) (hs : (cat l).length ≤ 140737488355328) : ∀ j, j ≤ (l.length : Int) → 0 ≤ j → ∀ n : Int, n + (cat (l.drop j.toNat)).length = (cat l).length → 0 ≤ n →
  Ans (fun k => d_Print.l0 k l n l (l.length : Int) j) (pAns l) := by
 refine left_ind fun j hj ih h0 n hn hn0 => ?_
 refine Ans.succ ?_
 simp only [d_Print.l0]
 by_cases h : j < (l.length : Int)
 ·have hd := rd_drop h0 h
  have hq := hok _ (rd_mem h0 h)
  simp only [if_pos h, if_pos h0]
  refine Ans.bind (check_ok hq) ?_
  simp only [if_true]
  refine Ans.bind (text_ok hq) ?_
  rw [hd, cat_cons, List.length_append] at hn
  simp only [ba_size]
  rw [wrap_id (x := n + ((pL (rd_T25 l j)).length : Int)) (by omega) (by omega), wrap_id (x := j + 1) (by omega) (by omega)]
  exact ih (j + 1) (by omega) (by omega) (by omega) _ (by omega) (by omega)
 ·rw [List.drop_eq_nil_of_le (by omega)] at hn
  have e0 : (cat ([] : List S25)).length = 0 := rfl
  rw [e0] at hn
  unfold pAns
  by_cases hb : (cat l).length > 16777216
  ·simp only [if_neg h, if_pos (show n > 16777216 by omega)]
   rw [if_pos hb]
   exact Ans.ret _
  ·simp only [if_neg h, if_neg (show ¬ n > 16777216 by omega)]
   rw [if_neg hb]
   exact print_l1 l hok (by omega) (by omega) 0 (by omega) (by omega) [] rfl
theorem dir_print_bad (l : List S25) (hl : l.length ≤ 1099511627776) (i : Int) (hi0 : 0 ≤ i) (hi : i < (l.length : Int)) (hb : ¬ OkP (rd_T25 l i)) (hok : ∀ j, 0 ≤ j → j < i → OkP (rd_T25 l j)) : ∀ j, j ≤ i → 0 ≤ j → ∀ n : Int,
  Ans (fun k => d_Print.l0 k l n l (l.length : Int) j) (⟨#[]⟩, 132) := by
 refine left_ind fun j hj ih h0 n => Ans.succ ?_
 by_cases h : j < i
 ·have hq := hok j h0 h
  simp only [d_Print.l0, if_pos (show j < (l.length : Int) by omega), if_pos h0]
  refine Ans.bind (check_ok hq) ?_
  simp only [if_true]
  refine Ans.bind (text_ok hq) ?_
  rw [wrap_id (x := j + 1) (by omega) (by omega)]
  exact ih (j + 1) (by omega) (by omega) (by omega) _
 ·have : j = i := by omega
  subst this
  simp only [d_Print.l0, if_pos hi, if_pos h0]
  refine Ans.bind (check_bad hb) ?_
  simp only [if_neg (show ¬ (132 : Int) = 0 by decide)]
  exact Ans.ret _
def numL (x : List UInt8) : List Int := x.map fun b => (b.toNat : Int)
theorem num_str (x : List UInt8) : strOfNums (numL x) = ⟨x.toArray⟩ := by
 unfold strOfNums numL
 rw [List.map_map]
 congr 2
 conv => rhs; rw [← List.map_id x]
 refine List.map_congr_left fun b _ => ?_
 simp
theorem num_bytes (x y : List UInt8) : numL x ++ bytesOf ⟨y.toArray⟩ = numL (x ++ y) := by
 unfold numL bytesOf
 simp
theorem num_len (x : List UInt8) : (numL x).length = x.length := by simp [numL]
theorem ref_print_l1 (l : List S25) (hok : ∀ q ∈ l, OkP q) (hr : ∀ q ∈ l, Rng q) (hl : l.length ≤ 1099511627776) (hs : (cat l).length ≤ 70368744177664) : ∀ j, j ≤ (l.length : Int) → 0 ≤ j → ∀ x : List UInt8, x ++ cat (l.drop j.toNat) = cat l → x.length ≤ 16777216 →
  Ans (fun k => q_Print.l1 k l (numL x) j) (pAns l) := by
 refine left_ind fun j hj ih h0 x hx hx2 => Ans.succ ?_
 simp only [q_Print.l1]
 by_cases h : j < (l.length : Int)
 ·have hd := rd_drop h0 h
  have hq := hok _ (rd_mem h0 h)
  simp only [if_pos h, if_pos h0]
  refine Ans.bind (ref_text hq (hr _ (rd_mem h0 h))) ?_
  rw [hd, cat_cons] at hx
  have hlen := congrArg List.length hx
  simp only [List.length_append] at hlen
  simp only [num_len, ba_size, if_pos (show x.length + (pL (rd_T25 l j)).length < 140737488355328 by omega)]
  refine Ans.bind (Ans.ret _) ?_
  simp only [num_bytes, num_len, List.length_append]
  by_cases hb : (((x.length + (pL (rd_T25 l j)).length : Nat) : Int)) > 16777216
  ·simp only [if_pos hb]
   unfold pAns
   rw [if_pos (by omega)]
   exact Ans.ret _
  ·simp only [if_neg hb]
   rw [wrap_id (x := j + 1) (by omega) (by omega)]
   exact ih (j + 1) (by omega) (by omega) (by omega) _ (by rw [List.append_assoc]; exact hx) (by rw [List.length_append]; omega)
 ·rw [List.drop_eq_nil_of_le (by omega)] at hx
  have : x = cat l := by simpa [cat] using hx
  subst this
  simp only [if_neg h, num_str]
  unfold pAns
  rw [if_neg (by omega)]
  exact Ans.ret _
theorem ref_print (l : List S25) (hok : ∀ q ∈ l, OkP q) (hr : ∀ q ∈ l, Rng q) (hz : ∀ q ∈ l, q.f0.size ≤ 1099511627776) (hl : l.length ≤ 1099511627776) (hs : (cat l).length ≤ 70368744177664) : ∀ j, j ≤ (l.length : Int) → 0 ≤ j →
  Ans (fun k => q_Print.l0 k l j) (pAns l) := by
 refine left_ind fun j hj ih h0 => Ans.succ ?_
 simp only [q_Print.l0]
 by_cases h : j < (l.length : Int)
 ·have hm := rd_mem h0 h
  simp only [if_pos h, if_pos h0]
  refine Ans.bind ((ref_check _ (hr _ hm) (hz _ hm)).1 (hok _ hm)) ?_
  simp only [if_true]
  rw [wrap_id (x := j + 1) (by omega) (by omega)]
  exact ih (j + 1) (by omega) (by omega) (by omega)
 ·simp only [if_neg h]
  exact ref_print_l1 l hok hr hl hs 0 (by omega) (by omega) [] rfl (by simp)
theorem ref_print_bad (l : List S25) (hr : ∀ q ∈ l, Rng q) (hz : ∀ q ∈ l, q.f0.size ≤ 1099511627776) (hl : l.length ≤ 1099511627776) (i : Int) (hi0 : 0 ≤ i) (hi : i < (l.length : Int)) (hb : ¬ OkP (rd_T25 l i)) (hok : ∀ j, 0 ≤ j → j < i → OkP (rd_T25 l j)) : ∀ j, j ≤ i → 0 ≤ j →
  Ans (fun k => q_Print.l0 k l j) (⟨#[]⟩, 132) := by
 refine left_ind fun j hj ih h0 => Ans.succ ?_
 have hm := rd_mem h0 (show j < (l.length : Int) by omega)
 simp only [q_Print.l0, if_pos (show j < (l.length : Int) by omega), if_pos h0]
 by_cases h : j < i
 ·refine Ans.bind ((ref_check _ (hr _ hm) (hz _ hm)).1 (hok j h0 h)) ?_
  simp only [if_true]
  rw [wrap_id (x := j + 1) (by omega) (by omega)]
  exact ih (j + 1) (by omega) (by omega) (by omega)
 ·have : j = i := by omega
  subst this
  refine Ans.bind ((ref_check _ (hr _ hm) (hz _ hm)).2 hb) ?_
  simp only [if_neg (show ¬ (132 : Int) = 0 by decide)]
  exact Ans.ret _
/-- The first that is no piece, or none. -/
theorem first_bad (l : List S25) : (∀ q ∈ l, OkP q) ∨ ∃ i : Int, 0 ≤ i ∧ i < (l.length : Int) ∧ ¬ OkP (rd_T25 l i) ∧ ∀ j, 0 ≤ j → j < i → OkP (rd_T25 l j) := by
 classical
 by_cases h : ∃ n : Nat, n < l.length ∧ ¬ OkP (rd_T25 l (n : Int))
 ·right
  obtain ⟨n, hn⟩ := h
  induction n using Nat.strongRecOn with
  | _ n ih =>
   by_cases h2 : ∃ m : Nat, m < n ∧ ¬ OkP (rd_T25 l (m : Int))
   ·obtain ⟨m, hm, hb⟩ := h2
    exact ih m hm ⟨by omega, hb⟩
   ·refine ⟨(n : Int), by omega, by omega, hn.2, fun j h0 h1 => ?_⟩
    by_cases hj : OkP (rd_T25 l j)
    ·exact hj
    ·exact absurd ⟨j.toNat, by omega, by rw [Int.toNat_of_nonneg h0]; exact hj⟩ h2
 ·left
  intro q hq
  obtain ⟨i, hi⟩ := List.getElem?_of_mem hq
  have hlt := (List.getElem?_eq_some_iff.1 hi).1
  by_cases hj : OkP q
  ·exact hj
  ·exact absurd ⟨i, hlt, by rw [rd_get hi]; exact hj⟩ h
theorem print_same (l : List S25) (hr : ∀ q ∈ l, Rng q) (hl : l.length ≤ 1099511627776) (ht : tot l ≤ 70368744177664) (hz : ∀ q ∈ l, q.f0.size ≤ 1099511627776) : ∃ r, Ans (fun k => d_Print.f k l) r ∧ Ans (fun k => q_Print.f k l) r := by
 rcases first_bad l with hok | ⟨i, h0, hi, hb, hok⟩
 ·have hc : (cat l).length ≤ tot l := cat_len l hok
  exact ⟨pAns l, dir_print l hok hl (by omega) 0 (by omega) (by omega) 0 (by simp) (by omega), ref_print l hok hr hz hl (by omega) 0 (by omega) (by omega)⟩
 ·exact ⟨(⟨#[]⟩, 132), dir_print_bad l hl i h0 hi hb hok 0 (by omega) (by omega) 0, ref_print_bad l hr hz hl i h0 hi hb hok 0 (by omega) (by omega)⟩
end Go.Proofs.YtlmijjekaelhcaaDoor.Pl
end
section
set_option linter.unusedVariables false
set_option linter.unusedSimpArgs false
namespace Go.Proofs.YtlmijjekaelhcaaDoor.Pl
open Go.RowKit Go.Proofs.YtlmijjekaelhcaaDoorW.PrintWords Go.Proofs.YtlmijjekaelhcaaDoor.EDi Go.Proofs.YtlmijjekaelhcaaDoor.X
theorem ref_number_l0 {T : ByteArray} (hT : T.size ≤ 1099511627776) (hd : ∀ c ∈ T.data.toList, isD c = true) : ∀ i, i ≤ (T.size : Int) → 0 ≤ i → ∀ n, 0 ≤ n → n ≤ 4097 → Ans (fun k => q_number.l0 k T n i) ((rest T i).foldl cap n) := by
 refine left_ind fun i hi ih h0 n hn0 hn1 => Ans.succ ?_
 simp only [q_number.l0]
 by_cases h : i < (T.size : Int)
 ·obtain ⟨c, hc, hb⟩ := rest_cons h0 h
  have hm : c ∈ T.data.toList := by
   have : c ∈ rest T i := by rw [hc]; simp
   exact List.mem_of_mem_drop this
  have hdc := hd c hm
  have hr : 48 ≤ cI c ∧ cI c ≤ 57 := by
   unfold isD at hdc
   simpa using hdc
  obtain ⟨c0, c1⟩ := cap_range c hdc hn0
  have ew : wrap64 ((wrap64 (10 * n)) + ((bt T i - 48) % 256)) = n * 10 + (cI c - 48) := by
   rw [hb, wrap_id (x := 10 * n) (by omega) (by omega), Int.emod_eq_of_lt (by omega) (by omega), wrap_id (by omega) (by omega)]
   omega
  have hw : wrap64 (i + 1) = i + 1 := wrap_id (by omega) (by omega)
  have hn := ih (i + 1) (by omega) (by omega) (by omega) (cap n c) c0 c1
  simp only [if_pos h, if_pos h0, ew, hw]
  rw [hc]
  by_cases g : n * 10 + (cI c - 48) > 4096
  ·have e : cap n c = 4097 := by
    unfold cap mn
    split <;> omega
   simp only [if_pos g]
   rw [List.foldl_cons]
   rw [e] at hn ⊢
   exact hn
  ·have e : cap n c = n * 10 + (cI c - 48) := by
    unfold cap mn
    split <;> omega
   simp only [if_neg g]
   rw [List.foldl_cons]
   rw [e] at hn ⊢
   exact hn
 ·simp only [if_neg h]
  rw [rest_nil (by omega)]
  exact Ans.ret _
theorem ref_number {T : ByteArray} (hT : T.size ≤ 1099511627776) (hd : ∀ c ∈ T.data.toList, isD c = true) : Ans (fun k => q_number.f k T) (T.data.toList.foldl cap 0) := by
 have h := ref_number_l0 hT hd 0 (by omega) (by omega) 0 (by omega) (by omega)
 have hr : rest T 0 = T.data.toList := by simp [rest]
 rw [hr] at h
 exact h
theorem ref_digit (c : UInt8) : q_digit.f (cI c) = some (isD c) := by
 unfold q_digit.f isD
 by_cases h : cI c ≥ 48
 ·rw [if_pos h, decide_eq_true (show 48 ≤ cI c from h)]
  simp
 ·rw [if_neg h, decide_eq_false (show ¬ 48 ≤ cI c from h)]
  simp
/-- The end of the run of p from the list's head. -/
def runN (p : UInt8 → Bool) : List UInt8 → Nat
 | [] => 0
 | c :: l => if p c = true then runN p l + 1 else 0
def isF (c : UInt8) : Bool := decide (0 ≤ Lib.indexByte fL c)
def endF (T : ByteArray) (i : Int) : Int := i + runN isF (rest T i)
def endD (T : ByteArray) (i : Int) : Int := i + runN isD (rest T i)
theorem runN_le (p : UInt8 → Bool) : ∀ l, runN p l ≤ l.length
 | [] => Nat.le_refl 0
 | c :: l => by
  have := runN_le p l
  simp only [runN, List.length_cons]
  split <;> omega
theorem end_step (p : UInt8 → Bool) {T : ByteArray} {i : Int} {c : UInt8} (hc : rest T i = c :: rest T (i + 1)) :
  i + (runN p (rest T i) : Int) = if p c = true then (i + 1) + (runN p (rest T (i + 1)) : Int) else i := by
 rw [hc]
 simp only [runN]
 split <;> omega
/-- Where a star or digits end. -/
def endN (T : ByteArray) (i : Int) : Int := if i < (T.size : Int) ∧ bt T i = 42 then i + 1 else endD T i
theorem end_le (p : UInt8 → Bool) {T : ByteArray} {i : Int} (h0 : 0 ≤ i) (h1 : i ≤ (T.size : Int)) : i ≤ i + (runN p (rest T i) : Int) ∧ i + (runN p (rest T i) : Int) ≤ T.size := by
 have := runN_le p (rest T i)
 have := rest_len h0 h1
 omega
theorem ref_l2 {T : ByteArray} (hT : T.size ≤ 1099511627776) (f w p : Int) : ∀ i, i ≤ (T.size : Int) → 0 ≤ i → Ans (fun k => q_marked.l2 k T i f w p) (f, w, endD T i) := by
 refine left_ind fun i hi ih h0 => Ans.succ ?_
 simp only [q_marked.l2]
 unfold endD
 by_cases h : i < (T.size : Int)
 ·obtain ⟨c, hc, hb⟩ := rest_cons h0 h
  have hw : wrap64 (i + 1) = i + 1 := wrap_id (by omega) (by omega)
  simp only [if_pos h, if_pos h0, hb, ref_digit, Option.bind_some, hw]
  rw [end_step isD hc]
  by_cases hd : isD c = true
  ·simp only [if_pos hd]
   exact ih (i + 1) (by omega) (by omega) (by omega)
  ·simp only [if_neg hd]
   exact Ans.ret _
 ·simp only [if_neg h]
  rw [rest_nil (by omega)]
  have : (i + ((runN isD [] : Nat) : Int)) = i := by simp [runN]
  rw [this]
  exact Ans.ret _
theorem mk_j6 {T : ByteArray} (hT : T.size ≤ 1099511627776) (f w p : Int) {i : Int} (h0 : 0 ≤ i) (hi : i ≤ (T.size : Int)) (b : Bool) (hb : b = true ↔ (i < (T.size : Int) ∧ bt T i = 42)) : Ans (fun k => q_marked.j6 k T i b f w p) (f, w, endN T i) := by
 refine Ans.succ ?_
 simp only [q_marked.j6]
 unfold endN
 cases b with
 | true =>
  rw [if_pos (hb.1 rfl)]
  simp only [if_true]
  rw [wrap_id (x := i + 1) (by omega) (by omega)]
  exact Ans.ret _
 | false =>
  rw [if_neg (fun h => absurd (hb.2 h) (by decide))]
  simp only [Bool.false_eq_true, if_false]
  exact ref_l2 hT f w p i hi h0
def tailN (T : ByteArray) (w : Int) : Int := if w < (T.size : Int) ∧ bt T w = 46 then endN T (w + 1) else w
theorem mk_j4 {T : ByteArray} (hT : T.size ≤ 1099511627776) (f w p : Int) {i : Int} (h0 : 0 ≤ i) (hi : i ≤ (T.size : Int)) : Ans (fun k => q_marked.j4 k T i f w p) (f, i, tailN T i) := by
 have hw : i < (T.size : Int) → wrap64 (i + 1) = i + 1 := fun h => wrap_id (by omega) (by omega)
 have j5 : ∀ b : Bool, (b = true ↔ (i < (T.size : Int) ∧ bt T i = 46)) → Ans (fun k => q_marked.j5 k T i b f i p) (f, i, tailN T i) := by
  intro b hb
  refine Ans.succ ?_
  simp only [q_marked.j5]
  unfold tailN
  cases b with
  | true =>
   obtain ⟨g1, g2⟩ := hb.1 rfl
   rw [if_pos ⟨g1, g2⟩]
   simp only [if_true, hw g1]
   by_cases g3 : i + 1 < (T.size : Int)
   ·simp only [if_pos g3, if_pos (show 0 ≤ i + 1 by omega)]
    exact mk_j6 hT f i p (by omega) (by omega) _ (by simp [g3])
   ·simp only [if_neg g3]
    exact mk_j6 hT f i p (by omega) (by omega) _ (by simp [g3])
  | false =>
   rw [if_neg (fun h => absurd (hb.2 h) (by decide))]
   simp only [Bool.false_eq_true, if_false]
   exact Ans.ret _
 refine Ans.succ ?_
 simp only [q_marked.j4]
 by_cases h : i < (T.size : Int)
 ·simp only [if_pos h, if_pos h0]
  exact j5 _ (by simp [h])
 ·simp only [if_neg h]
  exact j5 _ (by simp [h])
theorem mk_l1 {T : ByteArray} (hT : T.size ≤ 1099511627776) (f w p : Int) : ∀ i, i ≤ (T.size : Int) → 0 ≤ i → Ans (fun k => q_marked.l1 k T i f w p) (f, endD T i, tailN T (endD T i)) := by
 refine left_ind fun i hi ih h0 => Ans.succ ?_
 simp only [q_marked.l1]
 unfold endD
 by_cases h : i < (T.size : Int)
 ·obtain ⟨c, hc, hb⟩ := rest_cons h0 h
  have hw : wrap64 (i + 1) = i + 1 := wrap_id (by omega) (by omega)
  simp only [if_pos h, if_pos h0, hb, ref_digit, Option.bind_some, hw]
  rw [end_step isD hc]
  by_cases hd : isD c = true
  ·simp only [if_pos hd]
   exact ih (i + 1) (by omega) (by omega) (by omega)
  ·simp only [if_neg hd]
   exact mk_j4 hT f w p h0 (by omega)
 ·simp only [if_neg h]
  rw [rest_nil (by omega)]
  have : (i + ((runN isD [] : Nat) : Int)) = i := by simp [runN]
  rw [this]
  exact mk_j4 hT f w p h0 (by omega)
theorem mk_j1 {T : ByteArray} (hT : T.size ≤ 1099511627776) (f w p : Int) {i : Int} (h0 : 0 ≤ i) (hi : i ≤ (T.size : Int)) : Ans (fun k => q_marked.j1 k T i f w p) (i, endN T i, tailN T (endN T i)) := by
 have j2 : ∀ b : Bool, (b = true ↔ (i < (T.size : Int) ∧ bt T i = 42)) → Ans (fun k => q_marked.j2 k T i b i w p) (i, endN T i, tailN T (endN T i)) := by
  intro b hb
  refine Ans.succ ?_
  simp only [q_marked.j2]
  unfold endN
  cases b with
  | true =>
   have g := hb.1 rfl
   rw [if_pos g]
   simp only [if_true]
   rw [wrap_id (x := i + 1) (by omega) (by omega)]
   exact mk_j4 hT i w p (by omega) (by omega)
  | false =>
   rw [if_neg (fun h => absurd (hb.2 h) (by decide))]
   simp only [Bool.false_eq_true, if_false]
   exact mk_l1 hT i w p i hi h0
 refine Ans.succ ?_
 simp only [q_marked.j1]
 by_cases h : i < (T.size : Int)
 ·simp only [if_pos h, if_pos h0]
  exact j2 _ (by simp [h])
 ·simp only [if_neg h]
  exact j2 _ (by simp [h])
theorem mk_l0 {T : ByteArray} (hT : T.size ≤ 1099511627776) (f w p : Int) : ∀ i, i ≤ (T.size : Int) → 0 ≤ i → Ans (fun k => q_marked.l0 k T i f w p) (endF T i, endN T (endF T i), tailN T (endN T (endF T i))) := by
 refine left_ind fun i hi ih h0 => Ans.succ ?_
 simp only [q_marked.l0]
 unfold endF
 by_cases h : i < (T.size : Int)
 ·obtain ⟨c, hc, hb⟩ := rest_cons h0 h
  have hw : wrap64 (i + 1) = i + 1 := wrap_id (by omega) (by omega)
  have hat := ref_at (T := ⟨#[45, 43, 32, 35, 48]⟩) (by decide) c
  have hat' : Ans (fun k => q_at.f k ⟨#[45, 43, 32, 35, 48]⟩ (cI c)) (Lib.indexByte fL c) := hat
  simp only [if_pos h, if_pos h0, hb, hw]
  refine Ans.bind hat' ?_
  rw [end_step isF hc]
  by_cases hd : 0 ≤ Lib.indexByte fL c
  ·have e : isF c = true := decide_eq_true hd
   simp only [if_pos (show Lib.indexByte fL c ≥ 0 from hd)]
   rw [if_pos e]
   exact ih (i + 1) (by omega) (by omega) (by omega)
  ·have e : ¬ isF c = true := fun h => hd (of_decide_eq_true h)
   simp only [if_neg (show ¬ Lib.indexByte fL c ≥ 0 from hd)]
   rw [if_neg e]
   exact mk_j1 hT f w p h0 (by omega)
 ·simp only [if_neg h]
  rw [rest_nil (by omega)]
  have : (i + ((runN isF [] : Nat) : Int)) = i := by simp [runN]
  rw [this]
  exact mk_j1 hT f w p h0 (by omega)
/-- The document's three ends. -/
theorem ref_marked {T : ByteArray} (hT : T.size ≤ 1099511627776) {i : Int} (h0 : 0 ≤ i) (hi : i < (T.size : Int)) : Ans (fun k => q_marked.f k T i) (endF T (i + 1), endN T (endF T (i + 1)), tailN T (endN T (endF T (i + 1)))) := by
 unfold q_marked.f
 rw [wrap_id (x := i + 1) (by omega) (by omega)]
 exact mk_l0 hT 0 0 0 (i + 1) (by omega) (by omega)
end Go.Proofs.YtlmijjekaelhcaaDoor.Pl
end
section
set_option linter.unusedVariables false
set_option linter.unusedSimpArgs false
namespace Go.Proofs.YtlmijjekaelhcaaDoor.Pl
open Go.RowKit Go.Proofs.YtlmijjekaelhcaaDoorW.PrintWords Go.Proofs.YtlmijjekaelhcaaDoor.EDi Go.Proofs.YtlmijjekaelhcaaDoor.X
def orF (fl : Int) (c : UInt8) : Int := Go.bits .or .i64 fl (shl .i64 1 (Lib.indexByte fL c))
def accF (fl : Int) : List UInt8 → Int
 | [] => fl
 | c :: l => if isF c = true then accF (orF fl c) l else fl
/-- The machine over the flags. -/
theorem run_flags (ps : List S25) : ∀ (l : List UInt8) (fl p : Int), parseL (.flg ps fl) p l = parseL (.flg ps (accF fl l)) (p + runN isF l) (l.drop (runN isF l))
 | [], fl, p => by simp [accF, runN]
 | c :: l, fl, p => by
  by_cases h : isF c = true
  ·have hx : 0 ≤ Lib.indexByte fL c := of_decide_eq_true h
   have e1 : parseL (.flg ps fl) p (c :: l) = parseL (.flg ps (orF fl c)) (p + 1) l := by
    show parseL (stFlg ps fl p c) (p + 1) l = _
    unfold stFlg
    rw [if_pos hx]
    rfl
   rw [e1, run_flags ps l _ _]
   simp only [accF, runN, if_pos h, List.drop_succ_cons]
   congr 1
   omega
  ·simp only [accF, runN, if_neg h]
   simp
theorem or_all0 : ∀ n : Fin 32, (if Int.tmod (Int.tdiv ((n.val : Nat) : Int) 1) 2 = 0 then ((n.val : Nat) : Int) + 1 else ((n.val : Nat) : Int)) = Go.bits .or .i64 ((n.val : Nat) : Int) (shl .i64 1 0) := by decide
theorem or_all1 : ∀ n : Fin 32, (if Int.tmod (Int.tdiv ((n.val : Nat) : Int) 2) 2 = 0 then ((n.val : Nat) : Int) + 2 else ((n.val : Nat) : Int)) = Go.bits .or .i64 ((n.val : Nat) : Int) (shl .i64 1 1) := by decide
theorem or_all2 : ∀ n : Fin 32, (if Int.tmod (Int.tdiv ((n.val : Nat) : Int) 4) 2 = 0 then ((n.val : Nat) : Int) + 4 else ((n.val : Nat) : Int)) = Go.bits .or .i64 ((n.val : Nat) : Int) (shl .i64 1 2) := by decide
theorem or_all3 : ∀ n : Fin 32, (if Int.tmod (Int.tdiv ((n.val : Nat) : Int) 8) 2 = 0 then ((n.val : Nat) : Int) + 8 else ((n.val : Nat) : Int)) = Go.bits .or .i64 ((n.val : Nat) : Int) (shl .i64 1 3) := by decide
theorem or_all4 : ∀ n : Fin 32, (if Int.tmod (Int.tdiv ((n.val : Nat) : Int) 16) 2 = 0 then ((n.val : Nat) : Int) + 16 else ((n.val : Nat) : Int)) = Go.bits .or .i64 ((n.val : Nat) : Int) (shl .i64 1 4) := by decide
theorem or_range : ∀ n : Fin 32, ∀ j : Fin 5, 0 ≤ Go.bits .or .i64 ((n.val : Nat) : Int) (shl .i64 1 ((j.val : Nat) : Int)) ∧ Go.bits .or .i64 ((n.val : Nat) : Int) (shl .i64 1 ((j.val : Nat) : Int)) ≤ 31 := by decide
theorem isF_cases {c : UInt8} (h : isF c = true) : c = 45 ∨ c = 43 ∨ c = 32 ∨ c = 35 ∨ c = 48 := by
 obtain ⟨a, r, e, _, _⟩ := ix_pos _ _ (of_decide_eq_true h)
 have hm : c ∈ fL := by rw [e]; simp
 simpa [fL] using hm
/-- One flag, by the document. -/
theorem flag_one {fl : Int} (h0 : 0 ≤ fl) (h1 : fl ≤ 31) {c : UInt8} (h : isF c = true) : ∃ b : Int, ¬ b = 0 ∧ Ans (fun k => q_bit.f k (cI c)) b ∧ (if Int.tmod (wrap64 (Int.tdiv fl b)) 2 = 0 then wrap64 (fl + b) else fl) = orF fl c ∧ 0 ≤ orF fl c ∧ orF fl c ≤ 31 := by
 have hr : ∀ j : Fin 5, 0 ≤ Go.bits .or .i64 fl (shl .i64 1 ((j.val : Nat) : Int)) ∧ Go.bits .or .i64 fl (shl .i64 1 ((j.val : Nat) : Int)) ≤ 31 := by
  intro j
  have := or_range ⟨fl.toNat, by omega⟩ j
  simpa only [Int.toNat_of_nonneg h0] using this
 have hw : ∀ b : Int, 1 ≤ b → b ≤ 16 → wrap64 (Int.tdiv fl b) = Int.tdiv fl b ∧ wrap64 (fl + b) = fl + b := by
  intro b g0 g1
  have e : Int.tdiv fl b = fl / b := Int.tdiv_eq_ediv_of_nonneg h0
  have e0 : 0 ≤ fl / b := Int.ediv_nonneg h0 (by omega)
  have e1 : fl / b ≤ fl := Int.ediv_le_self b h0
  rw [e]
  exact ⟨wrap_id (by omega) (by omega), wrap_id (by omega) (by omega)⟩
 rcases isF_cases h with rfl | rfl | rfl | rfl | rfl
 ·refine ⟨1, by decide, ref_bit 0 _ _ bitv0, ?_, hr 0⟩
  rw [(hw 1 (by decide) (by decide)).1, (hw 1 (by decide) (by decide)).2]
  have := or_all0 ⟨fl.toNat, by omega⟩
  simp only [Int.toNat_of_nonneg h0] at this
  unfold orF
  rw [show Lib.indexByte fL 45 = 0 by decide]
  exact this
 ·refine ⟨2, by decide, ref_bit 0 _ _ bitv1, ?_, hr 1⟩
  rw [(hw 2 (by decide) (by decide)).1, (hw 2 (by decide) (by decide)).2]
  have := or_all1 ⟨fl.toNat, by omega⟩
  simp only [Int.toNat_of_nonneg h0] at this
  unfold orF
  rw [show Lib.indexByte fL 43 = 1 by decide]
  exact this
 ·refine ⟨4, by decide, ref_bit 0 _ _ bitv2, ?_, hr 2⟩
  rw [(hw 4 (by decide) (by decide)).1, (hw 4 (by decide) (by decide)).2]
  have := or_all2 ⟨fl.toNat, by omega⟩
  simp only [Int.toNat_of_nonneg h0] at this
  unfold orF
  rw [show Lib.indexByte fL 32 = 2 by decide]
  exact this
 ·refine ⟨8, by decide, ref_bit 0 _ _ bitv3, ?_, hr 3⟩
  rw [(hw 8 (by decide) (by decide)).1, (hw 8 (by decide) (by decide)).2]
  have := or_all3 ⟨fl.toNat, by omega⟩
  simp only [Int.toNat_of_nonneg h0] at this
  unfold orF
  rw [show Lib.indexByte fL 35 = 3 by decide]
  exact this
 ·refine ⟨16, by decide, ref_bit 0 _ _ bitv4, ?_, hr 4⟩
  rw [(hw 16 (by decide) (by decide)).1, (hw 16 (by decide) (by decide)).2]
  have := or_all4 ⟨fl.toNat, by omega⟩
  simp only [Int.toNat_of_nonneg h0] at this
  unfold orF
  rw [show Lib.indexByte fL 48 = 4 by decide]
  exact this
/-- The document's flags. -/
theorem ref_flags {T : ByteArray} (hT : T.size ≤ 1099511627776) (ps : List S25) (e w p : Int) (r : List S25 × Int × Int) : ∀ i, i ≤ (T.size : Int) → 0 ≤ i → e = endF T i → ∀ fl, 0 ≤ fl → fl ≤ 31 →
  Ans (fun k => q_Parse.l2 k T ps e e w p ⟨#[]⟩ 0 (accF fl (rest T i)) 0 0 0 0) r → Ans (fun k => q_Parse.l2 k T ps i e w p ⟨#[]⟩ 0 fl 0 0 0 0) r := by
 refine left_ind fun i hi ih h0 he fl f0 f1 h => ?_
 by_cases hlt : i < (T.size : Int)
 ·obtain ⟨c, hc, hb⟩ := rest_cons h0 hlt
  have hes := end_step isF hc
  have hw : wrap64 (i + 1) = i + 1 := wrap_id (by omega) (by omega)
  by_cases hf : isF c = true
  ·rw [if_pos hf] at hes
   obtain ⟨b, hb0, hbit, hor, o0, o1⟩ := flag_one f0 f1 hf
   have he1 : e = endF T (i + 1) := he.trans hes
   have hle := (end_le isF (T := T) (i := i + 1) (by omega) (by omega)).1
   have hie : i < e := by
    rw [he1]
    unfold endF
    omega
   have hacc : accF fl (rest T i) = accF (orF fl c) (rest T (i + 1)) := by
    rw [hc]
    simp only [accF, if_pos hf]
   rw [hacc] at h
   have hn := ih (i + 1) (by omega) (by omega) (by omega) he1 (orF fl c) o0 o1 h
   refine Ans.succ ?_
   simp only [q_Parse.l2, if_pos hie, if_pos h0, if_pos hlt, hb, hw]
   refine Ans.bind hbit ?_
   simp only [if_neg hb0]
   by_cases ht : Int.tmod (wrap64 (Int.tdiv fl b)) 2 = 0
   ·rw [if_pos ht] at hor
    simp only [if_pos ht, hor]
    exact hn
   ·rw [if_neg ht] at hor
    simp only [if_neg ht]
    rw [← hor] at hn
    exact hn
  ·rw [if_neg hf] at hes
   have hei : e = i := he.trans hes
   have hacc : accF fl (rest T i) = fl := by
    rw [hc]
    simp only [accF, if_neg hf]
   rw [hacc, hei] at h
   rw [hei]
   exact h
 ·have hr := rest_nil (T := T) (i := i) (by omega)
  have hei : e = i := by
   rw [he]
   unfold endF
   rw [hr]
   simp [runN]
  rw [hr, hei] at h
  rw [hei]
  exact h
end Go.Proofs.YtlmijjekaelhcaaDoor.Pl
end
section
set_option linter.unusedVariables false
set_option linter.unusedSimpArgs false
namespace Go.Proofs.YtlmijjekaelhcaaDoor.Pl
open Go.RowKit Go.Proofs.YtlmijjekaelhcaaDoorW.PrintWords Go.Proofs.YtlmijjekaelhcaaDoor.EDi Go.Proofs.YtlmijjekaelhcaaDoor.X
/-- The machine over digits. -/
theorem run_digits (F : Int → St) (hF : ∀ m p c, isD c = true → step p (F m) c = F (cap m c)) : ∀ (l : List UInt8) (n p : Int), parseL (F n) p l = parseL (F ((l.take (runN isD l)).foldl cap n)) (p + runN isD l) (l.drop (runN isD l))
 | [], n, p => by simp [runN]
 | c :: l, n, p => by
  by_cases h : isD c = true
  ·have e1 : parseL (F n) p (c :: l) = parseL (F (cap n c)) (p + 1) l := by
    show parseL (step p (F n) c) (p + 1) l = _
    rw [hF n p c h]
   rw [e1, run_digits F hF l _ _]
   simp only [runN, if_pos h, List.drop_succ_cons, List.take_succ_cons, List.foldl_cons]
   congr 1
   omega
  ·simp only [runN, if_neg h]
   simp
theorem runN_all (p : UInt8 → Bool) : ∀ (l : List UInt8) (c : UInt8), c ∈ l.take (runN p l) → p c = true
 | [], c, h => by simp at h
 | d :: l, c, h => by
  by_cases hd : p d = true
  ·simp only [runN, if_pos hd, List.take_succ_cons] at h
   rcases List.mem_cons.1 h with rfl | h
   ·exact hd
   ·exact runN_all p l c h
  ·simp only [runN, if_neg hd] at h
   simp at h
theorem runN_next (p : UInt8 → Bool) : ∀ (l : List UInt8) (c : UInt8) (r : List UInt8), l.drop (runN p l) = c :: r → ¬ p c = true
 | [], c, r, h => by simp at h
 | d :: l, c, r, h => by
  by_cases hd : p d = true
  ·simp only [runN, if_pos hd, List.drop_succ_cons] at h
   exact runN_next p l c r h
  ·simp only [runN, if_neg hd] at h
   injection h with h _
   rw [← h]
   exact hd
theorem rest_add {T : ByteArray} {i : Int} (h0 : 0 ≤ i) (n : Nat) : rest T (i + n) = (rest T i).drop n := by
 unfold rest
 rw [List.drop_drop, show (i + (n : Int)).toNat = i.toNat + n by omega]
theorem ext_run {T : ByteArray} {i : Int} (h0 : 0 ≤ i) (n : Nat) : (T.extract i.toNat (i + n).toNat).data.toList = (rest T i).take n := by
 rw [ByteArray.data_extract, Array.toList_extract, List.extract_eq_drop_take']
 unfold rest
 rw [List.drop_take, show (i + (n : Int)).toNat - i.toNat = n by omega]
/-- The number at a place, by the document. -/
theorem ref_digits {T : ByteArray} (hT : T.size ≤ 1099511627776) {i : Int} (h0 : 0 ≤ i) (hi : i ≤ (T.size : Int)) : Ans (fun k => q_number.f k (T.extract i.toNat (endD T i).toNat)) (((rest T i).take (runN isD (rest T i))).foldl cap 0) := by
 have e := ext_run (T := T) h0 (runN isD (rest T i))
 have h := ref_number (T := T.extract i.toNat (endD T i).toNat) (by
  have hl := congrArg List.length e
  have h2 : (T.extract i.toNat (endD T i).toNat).data.toList.length = (T.extract i.toNat (endD T i).toNat).size := tl_len _
  have h3 := rest_len h0 hi
  unfold endD at h2 ⊢
  rw [← h2, hl, List.length_take]
  omega) (by
  intro c hc
  unfold endD at hc
  rw [e] at hc
  exact runN_all isD _ c hc)
 unfold endD at h ⊢
 rw [e] at h
 exact h
/-- A width in digits, by the machine. -/
theorem flg_digits (ps : List S25) (fl p : Int) {c : UInt8} (r : List UInt8) (hf : ¬ isF c = true) (h : isD c = true) :
  parseL (.flg ps fl) p (c :: r) = parseL (.wid ps fl (((c :: r).take (runN isD (c :: r))).foldl cap 0) p) (p + runN isD (c :: r)) ((c :: r).drop (runN isD (c :: r))) := by
 have hx : ¬ 0 ≤ Lib.indexByte fL c := fun e => hf (decide_eq_true e)
 have e1 : parseL (.flg ps fl) p (c :: r) = parseL (.wid ps fl (cap 0 c) p) (p + 1) r := by
  show parseL (stFlg ps fl p c) (p + 1) r = _
  unfold stFlg
  rw [if_neg hx, if_pos h]
 rw [e1, run_digits (fun n => .wid ps fl n p) (fun m q d hd => by show (if isD d = true then _ else _) = _; rw [if_pos hd]) r (cap 0 c) (p + 1)]
 simp only [runN, if_pos h, List.take_succ_cons, List.drop_succ_cons, List.foldl_cons]
 congr 1
 omega
/-- A precision in digits, by the machine. -/
theorem pnt_digits (ps : List S25) (fl wk wd p : Int) {c : UInt8} (r : List UInt8) (h : isD c = true) :
  parseL (.pnt ps fl wk wd) p (c :: r) = parseL (.prc ps fl wk wd (((c :: r).take (runN isD (c :: r))).foldl cap 0) p) (p + runN isD (c :: r)) ((c :: r).drop (runN isD (c :: r))) := by
 have e1 : parseL (.pnt ps fl wk wd) p (c :: r) = parseL (.prc ps fl wk wd (cap 0 c) p) (p + 1) r := by
  show parseL (stPnt ps fl wk wd p c) (p + 1) r = _
  unfold stPnt
  rw [if_pos h]
 rw [e1, run_digits (fun n => .prc ps fl wk wd n p) (fun m q d hd => by show (if isD d = true then _ else _) = _; rw [if_pos hd]) r (cap 0 c) (p + 1)]
 simp only [runN, if_pos h, List.take_succ_cons, List.drop_succ_cons, List.foldl_cons]
 congr 1
 omega
end Go.Proofs.YtlmijjekaelhcaaDoor.Pl
end
section
set_option linter.unusedVariables false
set_option linter.unusedSimpArgs false
namespace Go.Proofs.YtlmijjekaelhcaaDoor.Pl
open Go.RowKit Go.Proofs.YtlmijjekaelhcaaDoorW.PrintWords Go.Proofs.YtlmijjekaelhcaaDoor.EDi Go.Proofs.YtlmijjekaelhcaaDoor.X
/-- What the machine answers of a verb at place p. -/
def verbA (T : ByteArray) (ps : List S25) (fl wk wd pk pr p : Int) : List S25 × Int × Int :=
 match rest T p with
 | [] => ([], p, 131)
 | c :: r => parseL (verbT ps fl wk wd pk pr p c) (p + 1) r
theorem bad_parse (a e : Int) (l : List UInt8) (p : Int) : parseL (.bad a e) p l = ([], a, e) := bad_run a e l p
/-- The document from the verb on. -/
theorem ref_verb {T : ByteArray} (hT : T.size ≤ 1099511627776) (ps : List S25) (hps : ps.length < 2199023255552) {f w p : Int} (h0 : 0 ≤ p) (hp : p ≤ (T.size : Int)) (fl wk wd pk pr : Int) (hpr : ¬ pr > 4096)
  (hnext : ∀ c, p < (T.size : Int) → bt T p = cI c → 0 ≤ Lib.indexByte vL c → Ans (fun k => q_Parse.l0 k T (ps ++ [⟨⟨#[]⟩, cI c, fl, wk, wd, pk, pr⟩]) (p + 1)) (parseL (.text (ps ++ [⟨⟨#[]⟩, cI c, fl, wk, wd, pk, pr⟩]) []) (p + 1) (rest T (p + 1)))) :
  Ans (fun k => q_Parse.j6 k T ps f w p ⟨#[]⟩ 0 fl wk wd pk pr) (verbA T ps fl wk wd pk pr p) := by
 refine Ans.succ ?_
 simp only [q_Parse.j6, if_neg hpr]
 unfold verbA
 by_cases he : p = (T.size : Int)
 ·have hr := rest_nil (T := T) (i := p) (by omega)
  rw [hr]
  simp only [if_pos he, ← he]
  exact Ans.ret _
 ·have hlt : p < (T.size : Int) := by omega
  obtain ⟨c, hc, hb⟩ := rest_cons h0 hlt
  rw [hc]
  have hat := ref_at (T := ⟨#[100, 105, 111, 117, 120, 88, 99, 115, 101, 69, 102, 70, 103, 71]⟩) (by decide) c
  have hat' : Ans (fun k => q_at.f k ⟨#[100, 105, 111, 117, 120, 88, 99, 115, 101, 69, 102, 70, 103, 71]⟩ (cI c)) (Lib.indexByte vL c) := hat
  simp only [if_neg he, if_pos h0, if_pos hlt, hb]
  refine Ans.bind hat' ?_
  show Ans _ (parseL (verbT ps fl wk wd pk pr p c) (p + 1) (rest T (p + 1)))
  unfold verbT
  by_cases hv : 0 ≤ Lib.indexByte vL c
  ·simp only [if_neg (show ¬ Lib.indexByte vL c < 0 by omega), if_pos hps]
   rw [if_pos hv, wrap_id (x := p + 1) (by omega) (by omega)]
   exact hnext c hlt hb hv
  ·simp only [if_pos (show Lib.indexByte vL c < 0 by omega)]
   rw [if_neg hv, bad_parse]
   exact Ans.ret _
end Go.Proofs.YtlmijjekaelhcaaDoor.Pl
end
section
set_option linter.unusedVariables false
set_option linter.unusedSimpArgs false
namespace Go.Proofs.YtlmijjekaelhcaaDoor.Pl
open Go.RowKit Go.Proofs.YtlmijjekaelhcaaDoorW.PrintWords Go.Proofs.YtlmijjekaelhcaaDoor.EDi Go.Proofs.YtlmijjekaelhcaaDoor.X
/-- The number's kind and value at f. -/
def wkN (T : ByteArray) (f : Int) : Int := if endN T f = f then 0 else if bt T f = 42 then 2 else 1
def wdN (T : ByteArray) (f : Int) : Int := if endN T f = f then 0 else if bt T f = 42 then 0 else ((rest T f).take (runN isD (rest T f))).foldl cap 0
def pkN (T : ByteArray) (w : Int) : Int := if tailN T w = w then 0 else if w + 1 < (T.size : Int) ∧ bt T (w + 1) = 42 then 2 else 1
def prN (T : ByteArray) (w : Int) : Int := if tailN T w = w then 0 else if w + 1 < (T.size : Int) ∧ bt T (w + 1) = 42 then 0 else ((rest T (w + 1)).take (runN isD (rest T (w + 1)))).foldl cap 0
/-- What the machine answers behind the width. -/
def awA (T : ByteArray) (ps : List S25) (fl wk wd w : Int) : List S25 × Int × Int :=
 match rest T w with
 | [] => ([], w, 131)
 | c :: r => parseL (stAw ps fl wk wd w c) (w + 1) r
theorem awA_is {T : ByteArray} {w : Int} (ps : List S25) (fl wk wd : Int) (s : St) (hs : ∀ c r, rest T w = c :: r → step w s c = stAw ps fl wk wd w c) (hf : fin w s = ([], w, 131)) :
  parseL s w (rest T w) = awA T ps fl wk wd w := by
 unfold awA
 cases h : rest T w with
 | nil => exact hf
 | cons c r =>
  show parseL (step w s c) (w + 1) r = _
  rw [hs c r h]
theorem verbA_is {T : ByteArray} {p : Int} (ps : List S25) (fl wk wd pk pr : Int) (s : St) (hs : ∀ c r, rest T p = c :: r → step p s c = verbT ps fl wk wd pk pr p c) (hf : fin p s = ([], p, 131)) :
  parseL s p (rest T p) = verbA T ps fl wk wd pk pr p := by
 unfold verbA
 cases h : rest T p with
 | nil => exact hf
 | cons c r =>
  show parseL (step p s c) (p + 1) r = _
  rw [hs c r h]
theorem endD_next {T : ByteArray} {f : Int} (h0 : 0 ≤ f) : ∀ c r, rest T (endD T f) = c :: r → isD c = false := by
 intro c r h
 unfold endD at h
 rw [rest_add h0] at h
 have := runN_next isD _ c r h
 cases hc : isD c
 ·rfl
 ·exact absurd hc this
theorem endD_byte {T : ByteArray} {f : Int} (h0 : 0 ≤ f) : ∀ c, endD T f < (T.size : Int) → bt T (endD T f) = cI c → isD c = false := by
 intro c hlt hb
 have h1 : 0 ≤ endD T f := by unfold endD; omega
 obtain ⟨d, hd, hbd⟩ := rest_cons h1 hlt
 have : c = d := cI_inj (hb.symm.trans hbd)
 rw [this]
 exact endD_next h0 d _ hd
theorem cI42 {c : UInt8} : cI c = 42 ↔ c = 42 := ⟨fun h => cI_inj h, fun h => by subst h; decide⟩
theorem cI46 {c : UInt8} : cI c = 46 ↔ c = 46 := ⟨fun h => cI_inj h, fun h => by subst h; decide⟩
theorem runN_pos {p : UInt8 → Bool} {c : UInt8} {l : List UInt8} (h : p c = true) : 0 < runN p (c :: l) := by
 simp only [runN, if_pos h]
 omega
theorem runN_zero {p : UInt8 → Bool} {c : UInt8} {l : List UInt8} (h : ¬ p c = true) : runN p (c :: l) = 0 := by
 simp only [runN, if_neg h]
theorem wid_mach (ps : List S25) (fl : Int) {T : ByteArray} {f : Int} (h0 : 0 ≤ f) (h1 : f ≤ (T.size : Int)) (hnf : ∀ c r, rest T f = c :: r → ¬ isF c = true) :
  parseL (.flg ps fl) f (rest T f) = if wdN T f > 4096 then ([], f, 6) else awA T ps fl (wkN T f) (wdN T f) (endN T f) := by
 by_cases h : f < (T.size : Int)
 ·obtain ⟨c, hc, hb⟩ := rest_cons h0 h
  have hx : ¬ 0 ≤ Lib.indexByte fL c := fun e => hnf c _ hc (decide_eq_true e)
  by_cases h42 : c = 42
  ·subst h42
   have hb' : bt T f = 42 := hb
   have e0 : endN T f = f + 1 := by
    unfold endN
    rw [if_pos ⟨h, hb'⟩]
   have e1 : wkN T f = 2 := by
    unfold wkN
    rw [e0, if_neg (by omega), if_pos hb']
   have e2 : wdN T f = 0 := by
    unfold wdN
    rw [e0, if_neg (by omega), if_pos hb']
   rw [e0, e1, e2, if_neg (by decide), hc]
   show parseL (stFlg ps fl f 42) (f + 1) (rest T (f + 1)) = _
   exact awA_is ps fl 2 0 (.aw ps fl 2 0) (fun c r _ => rfl) rfl
  ·have hb' : ¬ bt T f = 42 := fun e => h42 (cI42.1 (hb.symm.trans e))
   have e0 : endN T f = endD T f := by
    unfold endN
    rw [if_neg (fun e => hb' e.2)]
   by_cases hd : isD c = true
   ·have hp : 0 < runN isD (rest T f) := by
     rw [hc]
     exact runN_pos hd
    have e3 : ¬ endN T f = f := by
     rw [e0]
     unfold endD
     omega
    have e1 : wkN T f = 1 := by
     unfold wkN
     rw [if_neg e3, if_neg hb']
    have e2 : wdN T f = ((rest T f).take (runN isD (rest T f))).foldl cap 0 := by
     unfold wdN
     rw [if_neg e3, if_neg hb']
    have e4 : parseL (.flg ps fl) f (rest T f) = parseL (.wid ps fl (wdN T f) f) (endN T f) (rest T (endN T f)) := by
     rw [e2, e0]
     unfold endD
     rw [rest_add h0]
     conv => lhs; rw [hc]
     rw [flg_digits ps fl f (rest T (f + 1)) (hnf c _ hc) hd, ← hc]
    rw [e4, e1]
    by_cases hbig : wdN T f > 4096
    ·rw [if_pos hbig]
     refine doomed_wid (by rw [e0]; unfold endD; omega) ?_ ps fl _ f hbig
     rw [e0]
     exact endD_byte h0
    ·rw [if_neg hbig]
     refine awA_is ps fl 1 (wdN T f) _ (fun d r hr => ?_) ?_
     ·rw [e0] at hr
      show (if isD d = true then _ else if _ then _ else _) = _
      rw [endD_next h0 d r hr, if_neg (by decide), if_neg hbig]
     ·show (if _ then _ else _) = _
      rw [if_neg hbig]
   ·have er : runN isD (rest T f) = 0 := by
     rw [hc]
     exact runN_zero hd
    have e3 : endN T f = f := by
     rw [e0]
     unfold endD
     omega
    have e1 : wkN T f = 0 := by
     unfold wkN
     rw [if_pos e3]
    have e2 : wdN T f = 0 := by
     unfold wdN
     rw [if_pos e3]
    rw [e1, e2, e3, if_neg (by decide)]
    refine awA_is ps fl 0 0 _ (fun d r hr => ?_) rfl
    have : d = c := by
     rw [hc] at hr
     injection hr with hr _
     exact hr.symm
    subst this
    show stFlg ps fl f d = _
    unfold stFlg
    rw [if_neg hx, if_neg hd, if_neg h42]
 ·have hr := rest_nil (T := T) (i := f) (by omega)
  have e0 : endN T f = f := by
   unfold endN endD
   rw [if_neg (fun e => h e.1), hr]
   simp [runN]
  have e1 : wkN T f = 0 := by
   unfold wkN
   rw [if_pos e0]
  have e2 : wdN T f = 0 := by
   unfold wdN
   rw [if_pos e0]
  rw [e1, e2, e0, if_neg (by decide)]
  exact awA_is ps fl 0 0 _ (fun d r h' => by rw [hr] at h'; cases h') rfl
theorem prc_mach (ps : List S25) (fl wk wd : Int) {T : ByteArray} {w : Int} (h0 : 0 ≤ w) (h1 : w ≤ (T.size : Int)) :
  awA T ps fl wk wd w = if prN T w > 4096 then ([], w + 1, 6) else verbA T ps fl wk wd (pkN T w) (prN T w) (tailN T w) := by
 by_cases h : w < (T.size : Int)
 ·obtain ⟨c, hc, hb⟩ := rest_cons h0 h
  by_cases h46 : c = 46
  ·subst h46
   have hb' : bt T w = 46 := hb
   have ea : awA T ps fl wk wd w = parseL (.pnt ps fl wk wd) (w + 1) (rest T (w + 1)) := by
    unfold awA
    rw [hc]
    rfl
   have et : tailN T w = endN T (w + 1) := by
    unfold tailN
    rw [if_pos ⟨h, hb'⟩]
   have hen : w + 1 ≤ endN T (w + 1) := by
    unfold endN endD
    split <;> omega
   have e3 : ¬ tailN T w = w := by omega
   rw [ea]
   by_cases hst : w + 1 < (T.size : Int) ∧ bt T (w + 1) = 42
   ·obtain ⟨d, hd, hbd⟩ := rest_cons (by omega : 0 ≤ w + 1) hst.1
    have hd42 : d = 42 := cI42.1 (hbd.symm.trans hst.2)
    subst hd42
    have e0 : tailN T w = w + 1 + 1 := by
     rw [et]
     unfold endN
     rw [if_pos hst]
    have e1 : pkN T w = 2 := by
     unfold pkN
     rw [if_neg e3, if_pos hst]
    have e2 : prN T w = 0 := by
     unfold prN
     rw [if_neg e3, if_pos hst]
    rw [e0, e1, e2, if_neg (by decide), hd]
    show parseL (.ap ps fl wk wd 2 0) (w + 1 + 1) (rest T (w + 1 + 1)) = _
    exact verbA_is ps fl wk wd 2 0 _ (fun c r _ => rfl) rfl
   ·have e0 : tailN T w = endD T (w + 1) := by
     rw [et]
     unfold endN
     rw [if_neg hst]
    have e1 : pkN T w = 1 := by
     unfold pkN
     rw [if_neg e3, if_neg hst]
    have e2 : prN T w = ((rest T (w + 1)).take (runN isD (rest T (w + 1)))).foldl cap 0 := by
     unfold prN
     rw [if_neg e3, if_neg hst]
    rw [e1]
    by_cases hdg : ∃ d r, rest T (w + 1) = d :: r ∧ isD d = true
    ·obtain ⟨d, r, hd, hdd⟩ := hdg
     have e4 : parseL (.pnt ps fl wk wd) (w + 1) (rest T (w + 1)) = parseL (.prc ps fl wk wd (prN T w) (w + 1)) (tailN T w) (rest T (tailN T w)) := by
      rw [e2, e0]
      unfold endD
      rw [rest_add (by omega : 0 ≤ w + 1)]
      conv => lhs; rw [hd]
      rw [pnt_digits ps fl wk wd (w + 1) r hdd, ← hd]
     rw [e4]
     by_cases hbig : prN T w > 4096
     ·rw [if_pos hbig]
      refine doomed_prc (by rw [e0]; unfold endD; omega) ?_ ps fl wk wd _ (w + 1) hbig
      rw [e0]
      exact endD_byte (by omega)
     ·rw [if_neg hbig]
      refine verbA_is ps fl wk wd 1 (prN T w) _ (fun x y hr => ?_) ?_
      ·rw [e0] at hr
       show (if isD x = true then _ else if _ then _ else _) = _
       rw [endD_next (by omega) x y hr, if_neg (by decide), if_neg hbig]
      ·show (if _ then _ else _) = _
       rw [if_neg hbig]
    ·have er : runN isD (rest T (w + 1)) = 0 := by
      cases hh : rest T (w + 1) with
      | nil => rfl
      | cons d r => exact runN_zero (fun hd => hdg ⟨d, r, hh, hd⟩)
     have e5 : tailN T w = w + 1 := by
      rw [e0]
      unfold endD
      omega
     have e6 : prN T w = 0 := by
      rw [e2, er]
      rfl
     rw [e5, e6, if_neg (by decide)]
     refine verbA_is ps fl wk wd 1 0 _ (fun x y hr => ?_) rfl
     show stPnt ps fl wk wd (w + 1) x = _
     unfold stPnt
     have hlt : w + 1 < (T.size : Int) := by
      by_cases hh : w + 1 < (T.size : Int)
      ·exact hh
      ·rw [rest_nil (by omega)] at hr
       cases hr
     obtain ⟨d, hd, hbd⟩ := rest_cons (by omega : 0 ≤ w + 1) hlt
     have hxd : x = d := by
      rw [hd] at hr
      injection hr with hr _
      exact hr.symm
     subst hxd
     rw [if_neg (fun hh => hdg ⟨x, _, hd, hh⟩), if_neg (fun hh => hst ⟨hlt, by rw [hbd, hh]; rfl⟩)]
  ·have hb' : ¬ bt T w = 46 := fun e => h46 (cI46.1 (hb.symm.trans e))
   have e0 : tailN T w = w := by
    unfold tailN
    rw [if_neg (fun e => hb' e.2)]
   have e1 : pkN T w = 0 := by
    unfold pkN
    rw [if_pos e0]
   have e2 : prN T w = 0 := by
    unfold prN
    rw [if_pos e0]
   rw [e0, e1, e2, if_neg (by decide)]
   unfold awA verbA
   rw [hc]
   show parseL (stAw ps fl wk wd w c) _ _ = parseL (verbT ps fl wk wd 0 0 w c) _ _
   unfold stAw
   rw [if_neg h46]
 ·have hr := rest_nil (T := T) (i := w) (by omega)
  have e0 : tailN T w = w := by
   unfold tailN
   rw [if_neg (fun e => h e.1)]
  have e1 : pkN T w = 0 := by
   unfold pkN
   rw [if_pos e0]
  have e2 : prN T w = 0 := by
   unfold prN
   rw [if_pos e0]
  rw [e0, e1, e2, if_neg (by decide)]
  unfold awA verbA
  rw [hr]
end Go.Proofs.YtlmijjekaelhcaaDoor.Pl
end
