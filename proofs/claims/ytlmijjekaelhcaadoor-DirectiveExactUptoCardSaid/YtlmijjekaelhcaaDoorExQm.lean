/-
  Several texts of this session's own in one: Qj Qk Ql Qm.
-/
import Derived.Test.YtlmijjekaelhcaaDoorExQi
import Derived.Test.YtlmijjekaelhcaaDoorExEDpx51
import Derived.Test.YtlmijjekaelhcaaDoorExPa
section
set_option linter.unusedVariables false
set_option linter.unusedSimpArgs false
namespace Go.Proofs.YtlmijjekaelhcaaDoor.Pl
open Go.RowKit Go.Proofs.YtlmijjekaelhcaaDoorW.PrintWords Go.Proofs.YtlmijjekaelhcaaDoor.EDi Go.Proofs.YtlmijjekaelhcaaDoor.X
theorem endN_le {T : ByteArray} {f : Int} (h0 : 0 ≤ f) (h1 : f ≤ (T.size : Int)) : f ≤ endN T f ∧ endN T f ≤ T.size := by
 have := end_le isD (T := T) h0 h1
 unfold endN endD
 split <;> omega
theorem tailN_le {T : ByteArray} {w : Int} (h0 : 0 ≤ w) (h1 : w ≤ (T.size : Int)) : w ≤ tailN T w ∧ tailN T w ≤ T.size := by
 unfold tailN
 split
 ·rename_i h
  have := endN_le (T := T) (f := w + 1) (by omega) (by omega)
  omega
 ·omega
theorem wid_doc {T : ByteArray} (hT : T.size ≤ 1099511627776) (ps : List S25) {f p : Int} (h0 : 0 ≤ f) (h1 : f ≤ (T.size : Int)) (fl : Int) {r : List S25 × Int × Int}
  (h : Ans (fun k => q_Parse.j5 k T ps f (endN T f) p ⟨#[]⟩ 0 fl (wkN T f) (wdN T f) 0 0) r) : Ans (fun k => q_Parse.l2 k T ps f f (endN T f) p ⟨#[]⟩ 0 fl 0 0 0 0) r := by
 have hle := endN_le h0 h1
 refine Ans.succ ?_
 simp only [q_Parse.l2, if_neg (show ¬ f < f by omega)]
 by_cases hw : endN T f = f
 ·have e1 : wkN T f = 0 := by
   unfold wkN
   rw [if_pos hw]
  have e2 : wdN T f = 0 := by
   unfold wdN
   rw [if_pos hw]
  rw [e1, e2] at h
  simp only [if_neg (show ¬ endN T f > f by omega)]
  exact h
 ·have hlt : f < (T.size : Int) := by omega
  simp only [if_pos (show endN T f > f by omega), if_pos h0, if_pos hlt]
  by_cases hs : bt T f = 42
  ·have e1 : wkN T f = 2 := by
    unfold wkN
    rw [if_neg hw, if_pos hs]
   have e2 : wdN T f = 0 := by
    unfold wdN
    rw [if_neg hw, if_pos hs]
   rw [e1, e2] at h
   simp only [if_pos hs]
   exact h
  ·have e1 : wkN T f = 1 := by
    unfold wkN
    rw [if_neg hw, if_neg hs]
   have e2 : wdN T f = ((rest T f).take (runN isD (rest T f))).foldl cap 0 := by
    unfold wdN
    rw [if_neg hw, if_neg hs]
   have e0 : endN T f = endD T f := by
    unfold endN
    rw [if_neg (fun e => hs e.2)]
   rw [e1, e2] at h
   simp only [if_neg hs, if_pos hle.1, if_pos hle.2]
   have hn := ref_digits hT h0 h1
   rw [← e0] at hn
   exact Ans.bind hn h
theorem prc_doc {T : ByteArray} (hT : T.size ≤ 1099511627776) (ps : List S25) {f w : Int} (h0 : 0 ≤ w) (h1 : w ≤ (T.size : Int)) (fl wk wd : Int) (hwd : ¬ wd > 4096) {r : List S25 × Int × Int}
  (h : Ans (fun k => q_Parse.j6 k T ps f w (tailN T w) ⟨#[]⟩ 0 fl wk wd (pkN T w) (prN T w)) r) : Ans (fun k => q_Parse.j5 k T ps f w (tailN T w) ⟨#[]⟩ 0 fl wk wd 0 0) r := by
 have hle := tailN_le h0 h1
 refine Ans.succ ?_
 simp only [q_Parse.j5, if_neg hwd]
 by_cases hp : tailN T w = w
 ·have e1 : pkN T w = 0 := by
   unfold pkN
   rw [if_pos hp]
  have e2 : prN T w = 0 := by
   unfold prN
   rw [if_pos hp]
  rw [e1, e2] at h
  simp only [if_neg (show ¬ tailN T w > w by omega)]
  exact h
 ·have hdot : w < (T.size : Int) ∧ bt T w = 46 := by
   by_cases hd : w < (T.size : Int) ∧ bt T w = 46
   ·exact hd
   ·exact absurd (by unfold tailN; rw [if_neg hd]) hp
  have et : tailN T w = endN T (w + 1) := by
   unfold tailN
   rw [if_pos hdot]
  have hle2 := endN_le (T := T) (f := w + 1) (by omega) (by omega)
  have hww : wrap64 (w + 1) = w + 1 := wrap_id (by omega) (by omega)
  simp only [if_pos (show tailN T w > w by omega), hww]
  have nostar : ¬ (w + 1 < (T.size : Int) ∧ bt T (w + 1) = 42) → Ans (fun k => (q_number.f k (T.extract (w + 1).toNat (tailN T w).toNat)).bind fun t => q_Parse.j6 k T ps f w (tailN T w) ⟨#[]⟩ 0 fl wk wd 1 t) r := by
   intro hs
   have e1 : pkN T w = 1 := by
    unfold pkN
    rw [if_neg hp, if_neg hs]
   have e2 : prN T w = ((rest T (w + 1)).take (runN isD (rest T (w + 1)))).foldl cap 0 := by
    unfold prN
    rw [if_neg hp, if_neg hs]
   have e0 : tailN T w = endD T (w + 1) := by
    rw [et]
    unfold endN
    rw [if_neg hs]
   rw [e1, e2] at h
   have hn := ref_digits hT (i := w + 1) (by omega) (by omega)
   rw [← e0] at hn
   exact Ans.bind hn h
  by_cases hq : tailN T w = w + 1
  ·have hns : ¬ (w + 1 < (T.size : Int) ∧ bt T (w + 1) = 42) := by
    intro hs
    rw [et] at hq
    unfold endN at hq
    rw [if_pos hs] at hq
    omega
   have := nostar hns
   simp only [if_pos hq, if_pos (show 0 ≤ w + 1 by omega), if_pos (show w + 1 ≤ tailN T w by omega), if_pos hle.2]
   exact this
  ·have hlt : w + 1 < (T.size : Int) := by omega
   simp only [if_neg hq, if_pos (show 0 ≤ w + 1 by omega), if_pos hlt]
   by_cases hs : bt T (w + 1) = 42
   ·have e1 : pkN T w = 2 := by
     unfold pkN
     rw [if_neg hp, if_pos ⟨hlt, hs⟩]
    have e2 : prN T w = 0 := by
     unfold prN
     rw [if_neg hp, if_pos ⟨hlt, hs⟩]
    rw [e1, e2] at h
    simp only [if_pos hs]
    exact h
   ·have := nostar (fun e => hs e.2)
    simp only [if_neg hs, if_pos (show w + 1 ≤ tailN T w by omega), if_pos hle.2]
    exact this
/-- A directive from behind its flags on, by the document and by the machine. -/
theorem dir_doc {T : ByteArray} (hT : T.size ≤ 1099511627776) (ps : List S25) (hps : ps.length < 2199023255552) {f : Int} (h0 : 0 ≤ f) (h1 : f ≤ (T.size : Int)) (hnf : ∀ c r, rest T f = c :: r → ¬ isF c = true) (fl : Int)
  (hnext : ∀ (v wk wd pk pr p : Int), f ≤ p → p < (T.size : Int) → Ans (fun k => q_Parse.l0 k T (ps ++ [⟨⟨#[]⟩, v, fl, wk, wd, pk, pr⟩]) (p + 1)) (parseL (.text (ps ++ [⟨⟨#[]⟩, v, fl, wk, wd, pk, pr⟩]) []) (p + 1) (rest T (p + 1)))) :
  Ans (fun k => q_Parse.l2 k T ps f f (endN T f) (tailN T (endN T f)) ⟨#[]⟩ 0 fl 0 0 0 0) (parseL (.flg ps fl) f (rest T f)) := by
 have hle := endN_le h0 h1
 have hle2 := tailN_le (T := T) (w := endN T f) (by omega) hle.2
 rw [wid_mach ps fl h0 h1 hnf]
 refine wid_doc hT ps h0 h1 fl ?_
 by_cases hbig : wdN T f > 4096
 ·rw [if_pos hbig]
  refine Ans.succ ?_
  simp only [q_Parse.j5, if_pos hbig]
  exact Ans.ret _
 ·rw [if_neg hbig, prc_mach ps fl _ _ (by omega) hle.2]
  refine prc_doc hT ps (by omega) hle.2 fl _ _ hbig ?_
  by_cases hpr : prN T (endN T f) > 4096
  ·rw [if_pos hpr]
   refine Ans.succ ?_
   simp only [q_Parse.j6, if_pos hpr]
   rw [wrap_id (x := endN T f + 1) (by omega) (by omega)]
   exact Ans.ret _
  ·rw [if_neg hpr]
   exact ref_verb hT ps hps (by omega) hle2.2 fl _ _ _ _ hpr fun c hlt _ _ => hnext _ _ _ _ _ _ (by omega) hlt
def isT (c : UInt8) : Bool := decide (c ≠ 37)
def endT (T : ByteArray) (i : Int) : Int := i + runN isT (rest T i)
theorem ref_l1 {T : ByteArray} (hT : T.size ≤ 1099511627776) (ps : List S25) (i : Int) (r : List S25 × Int × Int) : ∀ q, q ≤ (T.size : Int) → 0 ≤ q → Ans (fun k => q_Parse.j2 k T ps i (endT T q)) r → Ans (fun k => q_Parse.l1 k T ps i q) r := by
 refine left_ind fun q hq ih h0 h => ?_
 refine Ans.succ ?_
 simp only [q_Parse.l1]
 by_cases hlt : q < (T.size : Int)
 ·obtain ⟨c, hc, hb⟩ := rest_cons h0 hlt
  have hw : wrap64 (q + 1) = q + 1 := wrap_id (by omega) (by omega)
  have hes := end_step isT hc
  simp only [if_pos hlt, if_pos h0, hb, hw]
  by_cases h37 : c = 37
  ·have hb37 : cI c = 37 := by rw [h37]; decide
   have hn : ¬ isT c = true := by unfold isT; simp [h37]
   rw [if_neg hn] at hes
   have e : endT T q = q := hes
   rw [e] at h
   simp only [if_pos hb37]
   exact h
  ·have hb37 : ¬ cI c = 37 := fun e => h37 (cI_inj (e.trans (by decide)))
   have hn : isT c = true := by unfold isT; simp [h37]
   rw [if_pos hn] at hes
   have e : endT T q = endT T (q + 1) := hes
   rw [e] at h
   simp only [if_neg hb37]
   exact ih (q + 1) (by omega) (by omega) (by omega) h
 ·have e : endT T q = q := by
   unfold endT
   rw [rest_nil (by omega)]
   simp [runN]
  rw [e] at h
  simp only [if_neg hlt]
  exact h
theorem ref_parse_l0 {T : ByteArray} (hT : T.size ≤ 1099511627776) : ∀ i, i ≤ (T.size : Int) → 0 ≤ i → ∀ ps : List S25, (ps.length : Int) + (T.size - i) < 2199023255552 →
  Ans (fun k => q_Parse.l0 k T ps i) (parseL (.text ps []) i (rest T i)) := by
 refine left_ind fun i h1 ih h0 ps hps => ?_
 refine Ans.succ ?_
 simp only [q_Parse.l0]
 by_cases h : i < (T.size : Int)
 ·simp only [if_pos h]
  have hle := end_le isT (T := T) h0 h1
  have hpl : ps.length < 2199023255552 := by omega
  refine ref_l1 hT ps i _ i h1 h0 ?_
  refine Ans.succ ?_
  simp only [q_Parse.j2]
  obtain ⟨c, hc, hb⟩ := rest_cons h0 h
  by_cases ht : endT T i > i
  ·have ha : ∀ x ∈ (rest T i).take (runN isT (rest T i)), x ≠ 37 := by
    intro x hx
    have := runN_all isT _ x hx
    unfold isT at this
    simpa using this
   have hd : rest T (endT T i) = (rest T i).drop (runN isT (rest T i)) := by
    unfold endT
    exact rest_add h0 _
   have el : ((rest T i).take (runN isT (rest T i))).length = runN isT (rest T i) := by
    rw [List.length_take]
    have := runN_le isT (rest T i)
    omega
   have e1 : T.extract i.toNat (endT T i).toNat = ⟨((rest T i).take (runN isT (rest T i))).toArray⟩ := by
    apply mk_of
    unfold endT
    exact ext_run h0 _
   have e2 : parseL (.text ps []) i (rest T i) = parseL (.text (ps ++ [tp ((rest T i).take (runN isT (rest T i)))]) []) (endT T i) (rest T (endT T i)) := by
    have e3 : parseL (.text ps []) i (rest T i) = parseL (.text ps ((rest T i).take (runN isT (rest T i)))) (endT T i) (rest T (endT T i)) := by
     have := text_run ps _ ha [] i ((rest T i).drop (runN isT (rest T i)))
     rw [List.take_append_drop, List.nil_append, el] at this
     rw [hd, this]
     rfl
    rw [e3]
    have hne : (rest T i).take (runN isT (rest T i)) ≠ [] := by
     intro he
     rw [he] at el
     unfold endT at ht
     simp at el
     omega
    cases hr : rest T (endT T i) with
    | nil =>
     show (ps ++ opt _, (0 : Int), (0 : Int)) = ((ps ++ [tp _]) ++ opt [], (0 : Int), (0 : Int))
     simp [opt, hne]
    | cons d r =>
     rw [hd] at hr
     have hn := runN_next isT _ d r hr
     have hd37 : d = 37 := by
      unfold isT at hn
      simpa using hn
     subst hd37
     show parseL (.pct (ps ++ opt _)) _ r = parseL (.pct ((ps ++ [tp _]) ++ opt [])) _ r
     simp [opt, hne]
   have hle' : endT T i ≤ (T.size : Int) := by unfold endT; exact hle.2
   rw [e2]
   simp only [if_pos ht, if_pos h0, if_pos (show i ≤ endT T i by omega), if_pos hle', if_pos hpl, e1]
   exact ih (endT T i) (by omega) hle' (by omega) _ (by rw [List.length_append]; simp; omega)
  ·have hc37 : c = 37 := by
    by_cases h37 : c = 37
    ·exact h37
    ·exfalso
     apply ht
     unfold endT
     rw [hc]
     have : isT c = true := by unfold isT; simp [h37]
     have := runN_pos (l := rest T (i + 1)) this
     omega
   subst hc37
   have ep : parseL (.text ps []) i (rest T i) = parseL (.pct ps) (i + 1) (rest T (i + 1)) := by
    rw [hc]
    show parseL (.pct (ps ++ opt [])) _ _ = _
    simp [opt]
   rw [ep]
   have hw : wrap64 (i + 1) = i + 1 := wrap_id (by omega) (by omega)
   simp only [if_neg ht, hw]
   have j3 : ∀ b : Bool, (b = true ↔ (i + 1 < (T.size : Int) ∧ bt T (i + 1) = 37)) → Ans (fun k => q_Parse.j3 k T ps i b) (parseL (.pct ps) (i + 1) (rest T (i + 1))) := by
    intro b hb'
    refine Ans.succ ?_
    simp only [q_Parse.j3]
    cases b with
    | true =>
     obtain ⟨g1, g2⟩ := hb'.1 rfl
     simp only [if_true, if_pos hpl]
     rw [wrap_id (x := i + 2) (by omega) (by omega)]
     obtain ⟨d, hd, hbd⟩ := rest_cons (by omega : 0 ≤ i + 1) g1
     have hd37 : d = 37 := cI_inj (by rw [← hbd, g2]; decide)
     subst hd37
     have hi := ih (i + 2) (by omega) (by omega) (by omega) (ps ++ [⟨⟨#[]⟩, 37, 0, 0, 0, 0, 0⟩]) (by rw [List.length_append]; simp; omega)
     have e2 : parseL (.pct ps) (i + 1) (rest T (i + 1)) = parseL (.text (ps ++ [⟨⟨#[]⟩, 37, 0, 0, 0, 0, 0⟩]) []) (i + 2) (rest T (i + 2)) := by
      rw [hd, show i + 1 + 1 = i + 2 by omega]
      show parseL (step (i + 1) (.pct ps) 37) (i + 1 + 1) _ = _
      rw [show i + 1 + 1 = i + 2 by omega]
      rfl
     rw [e2]
     exact hi
    | false =>
     have hno : ¬ (i + 1 < (T.size : Int) ∧ bt T (i + 1) = 37) := fun e => absurd (hb'.2 e) (by decide)
     simp only [Bool.false_eq_true, if_false]
     refine Ans.bind (ref_marked hT h0 h) ?_
     simp only [hw]
     have eflg : parseL (.pct ps) (i + 1) (rest T (i + 1)) = parseL (.flg ps 0) (i + 1) (rest T (i + 1)) := by
      by_cases g : i + 1 < (T.size : Int)
      ·obtain ⟨d, hd, hbd⟩ := rest_cons (by omega : 0 ≤ i + 1) g
       rw [hd]
       show parseL (step (i + 1) (.pct ps) d) _ _ = parseL (stFlg ps 0 (i + 1) d) _ _
       have : step (i + 1) (.pct ps) d = stFlg ps 0 (i + 1) d := by
        show (if d = 37 then _ else _) = _
        rw [if_neg (fun h37 => hno ⟨g, by rw [hbd, h37]; decide⟩)]
       rw [this]
      ·rw [rest_nil (by omega)]
       rfl
     have hfle := end_le isF (T := T) (i := i + 1) (by omega) (by omega)
     have e4 : parseL (.flg ps 0) (i + 1) (rest T (i + 1)) = parseL (.flg ps (accF 0 (rest T (i + 1)))) (endF T (i + 1)) (rest T (endF T (i + 1))) := by
      rw [run_flags]
      unfold endF
      rw [rest_add (by omega : 0 ≤ i + 1)]
     rw [eflg, e4]
     refine ref_flags hT ps (endF T (i + 1)) _ _ _ (i + 1) (by omega) (by omega) rfl 0 (by omega) (by omega) ?_
     refine dir_doc hT ps hpl (by unfold endF; omega) (by unfold endF; omega) ?_ _ ?_
     ·intro x r hx
      unfold endF at hx
      rw [rest_add (by omega : 0 ≤ i + 1)] at hx
      exact runN_next isF _ x r hx
     ·intro v wk wd pk pr p hp hlt
      have : i < p := by
       unfold endF at hp
       omega
      exact ih (p + 1) (by omega) (by omega) (by omega) _ (by rw [List.length_append]; simp; omega)
   by_cases g : i + 1 < (T.size : Int)
   ·simp only [if_pos g, if_pos (show 0 ≤ i + 1 by omega)]
    exact j3 _ (by simp [g])
   ·simp only [if_neg g]
    exact j3 _ (by simp [g])
 ·simp only [if_neg h]
  rw [rest_nil (by omega)]
  show Ans _ (ps ++ opt [], (0 : Int), (0 : Int))
  simp only [opt, if_true, List.append_nil]
  exact Ans.ret _
/-- What the document's Parse answers. -/
theorem ref_parse {T : ByteArray} (hT : T.size ≤ 1099511627776) : Ans (fun k => q_Parse.f k T) (parse T.data.toList) := by
 have := ref_parse_l0 hT 0 (by omega) (by omega) [] (by simp; omega)
 have e : rest T 0 = T.data.toList := rfl
 rw [e] at this
 exact this
end Go.Proofs.YtlmijjekaelhcaaDoor.Pl
end
section
set_option linter.unusedVariables false
set_option linter.unusedSimpArgs false
namespace Go.Proofs.YtlmijjekaelhcaaDoor.Pl
open Go.RowKit Go.Proofs.YtlmijjekaelhcaaDoorW.PrintWords Go.Proofs.YtlmijjekaelhcaaDoor.EDi Go.Proofs.YtlmijjekaelhcaaDoor.X
def InS (q : S25) : Prop := (TP q ∨ Dir q) ∧ Rng q
def szL (ps : List S25) : Nat := (ps.map fun q => q.f0.size + 1).sum
theorem szL_append (l m : List S25) : szL (l ++ m) = szL l + szL m := by simp [szL]
theorem szL_opt (c : List UInt8) : szL (opt c) ≤ 2 * c.length := by
 unfold opt
 split
 ·simp [szL]
 ·rename_i h
  have : 0 < c.length := List.length_pos_iff.2 h
  have e : szL [tp c] = c.length + 1 := by
   show (tp c).f0.size + 1 + 0 = _
   rw [show (tp c).f0.size = c.length from rfl]
  omega
def Fl (fl : Int) : Prop := 0 ≤ fl ∧ fl ≤ 31
def InvQ (n : Nat) : St → Prop
 | .text ps cur => (∀ q ∈ ps, InS q) ∧ (∀ c ∈ cur, c ≠ 37) ∧ szL ps + 2 * cur.length ≤ 2 * n
 | .pct ps => (∀ q ∈ ps, InS q) ∧ szL ps + 2 ≤ 2 * n
 | .flg ps fl => (∀ q ∈ ps, InS q) ∧ szL ps + 2 ≤ 2 * n ∧ Fl fl
 | .wid ps fl m _ => (∀ q ∈ ps, InS q) ∧ szL ps + 2 ≤ 2 * n ∧ Fl fl ∧ 1 ≤ m ∧ m ≤ 4097
 | .aw ps fl wk wd => (∀ q ∈ ps, InS q) ∧ szL ps + 2 ≤ 2 * n ∧ Fl fl ∧ Cnt wk wd 1
 | .pnt ps fl wk wd => (∀ q ∈ ps, InS q) ∧ szL ps + 2 ≤ 2 * n ∧ Fl fl ∧ Cnt wk wd 1
 | .prc ps fl wk wd m _ => (∀ q ∈ ps, InS q) ∧ szL ps + 2 ≤ 2 * n ∧ Fl fl ∧ Cnt wk wd 1 ∧ 0 ≤ m ∧ m ≤ 4097
 | .ap ps fl wk wd pk pr => (∀ q ∈ ps, InS q) ∧ szL ps + 2 ≤ 2 * n ∧ Fl fl ∧ Cnt wk wd 1 ∧ Cnt pk pr 0
 | .bad _ _ => True
theorem and_all : ∀ n : Fin 32, Go.bits .andNot .i64 ((n.val : Nat) : Int) 31 = 0 := by decide
theorem ins_app {ps : List S25} (h : ∀ q ∈ ps, InS q) {p : S25} (hp : InS p) : ∀ q ∈ ps ++ [p], InS q := by
 intro q hq
 rcases List.mem_append.1 hq with hq | hq
 ·exact h q hq
 ·rw [List.mem_singleton.1 hq]
  exact hp
theorem invq_verb {n : Nat} {ps : List S25} {fl wk wd pk pr : Int} (p : Int) (c : UInt8) (h : ∀ q ∈ ps, InS q) (hs : szL ps + 2 ≤ 2 * n) (hf : Fl fl) (hw : Cnt wk wd 1) (hp : Cnt pk pr 0) : InvQ (n + 1) (verbT ps fl wk wd pk pr p c) := by
 unfold verbT
 split
 ·rename_i hv
  refine ⟨ins_app h ⟨.inr ⟨by rw [Go.ByteArray.toList_eq], ?_, ?_, ?_, hw, hp⟩, cI_lt c, ?_⟩, by simp, ?_⟩
  ·intro h0
   have h00 : cI c = 0 := h0
   have : c = 0 := cI_inj (h00.trans (by decide))
   subst this
   exact absurd hv (by decide)
  ·show 0 ≤ Lib.indexByte verbL (cI c).toNat.toUInt8
   rw [cI_u8]
   exact hv
  ·have := and_all ⟨fl.toNat, by have := hf.1; have := hf.2; omega⟩
   simp only [Int.toNat_of_nonneg hf.1] at this
   exact this
  ·have := hf.1
   have := hf.2
   unfold I64
   show _ ≤ fl ∧ fl ≤ _
   omega
  ·rw [szL_append]
   have e : szL [(⟨⟨#[]⟩, cI c, fl, wk, wd, pk, pr⟩ : S25)] = 1 := rfl
   rw [e, List.length_nil]
   omega
 ·trivial
theorem cnt00 (n : Int) (hn : n = 0 ∨ n = 1) : Cnt 0 0 n := .inr ⟨.inl rfl, rfl⟩
theorem cnt20 (n : Int) : Cnt 2 0 n := .inr ⟨.inr rfl, rfl⟩
theorem invq_aw {n : Nat} {ps : List S25} {fl wk wd : Int} (p : Int) (c : UInt8) (h : ∀ q ∈ ps, InS q) (hs : szL ps + 2 ≤ 2 * n) (hf : Fl fl) (hw : Cnt wk wd 1) : InvQ (n + 1) (stAw ps fl wk wd p c) := by
 unfold stAw
 split
 ·exact ⟨h, by omega, hf, hw⟩
 ·exact invq_verb p c h hs hf hw (cnt00 0 (.inl rfl))
theorem invq_flg {n : Nat} {ps : List S25} {fl : Int} (p : Int) (c : UInt8) (h : ∀ q ∈ ps, InS q) (hs : szL ps + 2 ≤ 2 * n) (hf : Fl fl) : InvQ (n + 1) (stFlg ps fl p c) := by
 unfold stFlg
 split
 ·rename_i hx
  obtain ⟨b, _, _, _, h1, h2⟩ := flag_one hf.1 hf.2 (c := c) (decide_eq_true hx)
  exact ⟨h, by omega, h1, h2⟩
 ·rename_i hx
  split
  ·rename_i hd
   obtain ⟨c0, c1⟩ := cap_range (n := 0) c hd (by omega)
   refine ⟨h, by omega, hf, ?_, c1⟩
   have h48 : c ≠ 48 := by
    rintro rfl
    exact hx (by decide)
   have : cI c ≠ 48 := fun e => h48 (cI_inj (e.trans (by decide)))
   unfold isD at hd
   simp at hd
   unfold cap mn
   split <;> omega
  ·split
   ·exact ⟨h, by omega, hf, cnt20 1⟩
   ·exact invq_aw p c h hs hf (cnt00 1 (.inr rfl))
theorem invq_pnt {n : Nat} {ps : List S25} {fl wk wd : Int} (p : Int) (c : UInt8) (h : ∀ q ∈ ps, InS q) (hs : szL ps + 2 ≤ 2 * n) (hf : Fl fl) (hw : Cnt wk wd 1) : InvQ (n + 1) (stPnt ps fl wk wd p c) := by
 unfold stPnt
 split
 ·rename_i hd
  obtain ⟨c0, c1⟩ := cap_range (n := 0) c hd (by omega)
  exact ⟨h, by omega, hf, hw, c0, c1⟩
 ·split
  ·exact ⟨h, by omega, hf, hw, cnt20 0⟩
  ·exact invq_verb p c h hs hf hw (.inl ⟨rfl, by omega, by omega⟩)
theorem tp_in {q : S25} (h : TP q) : InS q := ⟨.inl h, tp_rng h⟩
theorem invq_step {n : Nat} (p : Int) (c : UInt8) : ∀ s, InvQ n s → InvQ (n + 1) (step p s c) := by
 intro s h
 cases s with
 | text ps cur =>
  obtain ⟨h1, h2, h3⟩ := h
  show InvQ (n + 1) (if c = 37 then _ else _)
  have h4 := szL_opt cur
  split
  ·refine ⟨fun q hq => ?_, ?_⟩
   ·rcases List.mem_append.1 hq with hq | hq
    ·exact h1 q hq
    ·exact tp_in (opt_tp h2 q hq)
   ·rw [szL_append]
    omega
  ·rename_i hc
   refine ⟨h1, fun d hd => ?_, ?_⟩
   ·rcases List.mem_append.1 hd with hd | hd
    ·exact h2 d hd
    ·rw [List.mem_singleton.1 hd]
     exact hc
   ·rw [List.length_append, List.length_singleton]
    omega
 | pct ps =>
  obtain ⟨h1, h2⟩ := h
  show InvQ (n + 1) (if c = 37 then _ else _)
  split
  ·refine ⟨ins_app h1 (tp_in (.inl rfl)), by simp, ?_⟩
   rw [szL_append]
   have e : szL [(⟨⟨#[]⟩, 37, 0, 0, 0, 0, 0⟩ : S25)] = 1 := rfl
   rw [e, List.length_nil]
   omega
  ·exact invq_flg p c h1 h2 ⟨by omega, by omega⟩
 | flg ps fl =>
  obtain ⟨h1, h2, h3⟩ := h
  exact invq_flg p c h1 h2 h3
 | wid ps fl m st =>
  obtain ⟨h1, h2, h3, h4, h5⟩ := h
  show InvQ (n + 1) (if isD c = true then _ else if m > 4096 then _ else _)
  split
  ·rename_i hd
   obtain ⟨c0, c1⟩ := cap_range (n := m) c hd (by omega)
   refine ⟨h1, by omega, h3, ?_, c1⟩
   unfold isD at hd
   simp at hd
   unfold cap mn
   split <;> omega
  ·split
   ·trivial
   ·exact invq_aw p c h1 h2 h3 (.inl ⟨rfl, by omega, by omega⟩)
 | aw ps fl wk wd =>
  obtain ⟨h1, h2, h3, h4⟩ := h
  exact invq_aw p c h1 h2 h3 h4
 | pnt ps fl wk wd =>
  obtain ⟨h1, h2, h3, h4⟩ := h
  exact invq_pnt p c h1 h2 h3 h4
 | prc ps fl wk wd m st =>
  obtain ⟨h1, h2, h3, h4, h5, h6⟩ := h
  show InvQ (n + 1) (if isD c = true then _ else if m > 4096 then _ else _)
  split
  ·rename_i hd
   obtain ⟨c0, c1⟩ := cap_range (n := m) c hd (by omega)
   exact ⟨h1, by omega, h3, h4, c0, c1⟩
  ·split
   ·trivial
   ·exact invq_verb p c h1 h2 h3 h4 (.inl ⟨rfl, by omega, by omega⟩)
 | ap ps fl wk wd pk pr =>
  obtain ⟨h1, h2, h3, h4, h5⟩ := h
  exact invq_verb p c h1 h2 h3 h4 h5
 | bad a e => trivial
theorem invq_fin {n : Nat} (p : Int) : ∀ s, InvQ n s → (∀ q ∈ (fin p s).1, InS q) ∧ szL (fin p s).1 ≤ 2 * n := by
 intro s h
 have no : ∀ a e : Int, (∀ q ∈ (([] : List S25), a, e).1, InS q) ∧ szL (([] : List S25), a, e).1 ≤ 2 * n := fun a e => ⟨fun q hq => (by cases hq), by simp [szL]⟩
 cases s with
 | text ps cur =>
  obtain ⟨h1, h2, h3⟩ := h
  have h4 := szL_opt cur
  refine ⟨fun q hq => ?_, ?_⟩
  ·rcases List.mem_append.1 (show q ∈ ps ++ opt cur from hq) with hq | hq
   ·exact h1 q hq
   ·exact tp_in (opt_tp h2 q hq)
  ·show szL (ps ++ opt cur) ≤ _
   rw [szL_append]
   omega
 | wid ps fl m st =>
  show (∀ q ∈ (if m > 4096 then (([] : List S25), st, (6 : Int)) else ([], p, 131)).1, InS q) ∧ szL (if m > 4096 then (([] : List S25), st, (6 : Int)) else ([], p, 131)).1 ≤ _
  split <;> exact no _ _
 | prc ps fl wk wd m st =>
  show (∀ q ∈ (if m > 4096 then (([] : List S25), st, (6 : Int)) else ([], p, 131)).1, InS q) ∧ szL (if m > 4096 then (([] : List S25), st, (6 : Int)) else ([], p, 131)).1 ≤ _
  split <;> exact no _ _
 | _ => exact no _ _
theorem invq_run : ∀ (l : List UInt8) (s : St) (p : Int) (n : Nat), InvQ n s → (∀ q ∈ (parseL s p l).1, InS q) ∧ szL (parseL s p l).1 ≤ 2 * (n + l.length)
 | [], s, p, n, h => invq_fin p s h
 | c :: l, s, p, n, h => by
  have := invq_run l (step p s c) (p + 1) (n + 1) (invq_step p c s h)
  rw [List.length_cons]
  refine ⟨this.1, ?_⟩
  have h2 := this.2
  show szL (parseL (step p s c) (p + 1) l).1 ≤ _
  omega
theorem parse_in (T : List UInt8) : (∀ q ∈ (parse T).1, InS q) ∧ szL (parse T).1 ≤ 2 * T.length := by
 have := invq_run T (.text [] []) 0 0 ⟨fun q hq => (by cases hq), by simp, by simp [szL]⟩
 rw [Nat.zero_add] at this
 exact this
theorem szL_len : ∀ l : List S25, l.length ≤ szL l ∧ (uL l).length ≤ szL l
 | [] => by simp [szL, uL]
 | q :: l => by
  obtain ⟨h1, h2⟩ := szL_len l
  have e1 : szL (q :: l) = q.f0.size + 1 + szL l := by simp [szL]
  have e2 : uL (q :: l) = uq q ++ uL l := by simp [uL]
  have e3 : (uq q).length ≤ q.f0.size + 1 := by
   unfold uq
   split
   ·simp
   ·have : q.f0.data.toList.length = q.f0.size := tl_len _
    omega
  rw [e1, e2, List.length_cons, List.length_append]
  omega
end Go.Proofs.YtlmijjekaelhcaaDoor.Pl
end
section
set_option linter.unusedVariables false
set_option linter.unusedSimpArgs false
namespace Go.Proofs.YtlmijjekaelhcaaDoor.Pl
open Go.RowKit Go.Proofs.YtlmijjekaelhcaaDoorW.PrintWords Go.Proofs.YtlmijjekaelhcaaDoor.EDi Go.Proofs.YtlmijjekaelhcaaDoor.X
theorem split_dir : ∀ L : List S25, (∀ q ∈ L, InS q) → (∀ q ∈ L, TP q) ∨ ∃ u p m, L = u ++ p :: m ∧ (∀ q ∈ u, TP q) ∧ Dir p ∧ Rng p ∧ (∀ q ∈ m, InS q)
 | [], _ => .inl fun q hq => by cases hq
 | q :: L, h => by
  obtain ⟨h1, h2⟩ := h q (by simp)
  rcases h1 with h1 | h1
  ·rcases split_dir L (fun x hx => h x (by simp [hx])) with h3 | ⟨u, p, m, e, hu, hp, hr, hm⟩
   ·left
    intro x hx
    rcases List.mem_cons.1 hx with rfl | hx
    ·exact h1
    ·exact h3 x hx
   ·right
    refine ⟨q :: u, p, m, by rw [e]; rfl, fun x hx => ?_, hp, hr, hm⟩
    rcases List.mem_cons.1 hx with rfl | hx
    ·exact h1
    ·exact hu x hx
  ·exact .inr ⟨[], q, L, rfl, fun x hx => (by cases hx), h1, h2, fun x hx => h x (by simp [hx])⟩
theorem ref_plain_l0 (L : List S25) (hL : L.length ≤ 1099511627776) (hp : ∀ q ∈ L, TP q) (hs : (uL L).length ≤ 70368744177664) : ∀ j, j ≤ (L.length : Int) → 0 ≤ j → ∀ x : List UInt8, x ++ uL (L.drop j.toNat) = uL L →
  Ans (fun k => q_plain.l0 k L (numL x) j) ⟨(uL L).toArray⟩ := by
 refine left_ind fun j hj ih h0 x hx => Ans.succ ?_
 simp only [q_plain.l0]
 by_cases h : j < (L.length : Int)
 ·obtain hd := rd_drop h0 h
  have hm := rd_mem h0 h
  have eu : uL (L.drop j.toNat) = uq (rd_T25 L j) ++ uL (L.drop (j + 1).toNat) := by rw [hd]; rfl
  rw [eu, ← List.append_assoc] at hx
  have hlen : x.length + (uq (rd_T25 L j)).length ≤ 70368744177664 := by
   have := congrArg List.length hx
   simp only [List.length_append] at this
   omega
  have hw : wrap64 (j + 1) = j + 1 := wrap_id (by omega) (by omega)
  have hn := ih (j + 1) (by omega) (by omega) (by omega) (x ++ uq (rd_T25 L j)) hx
  simp only [if_pos h, if_pos h0, hw]
  by_cases h37 : (rd_T25 L j).f1 = 37
  ·have e : uq (rd_T25 L j) = [37] := by
    unfold uq
    rw [if_pos h37]
   rw [e] at hn hlen
   have e2 : numL (x ++ [37]) = numL x ++ [37] := by
    unfold numL
    simp
   rw [e2] at hn
   simp only [if_pos h37, if_pos (show (numL x).length < 140737488355328 by rw [num_len]; simp at hlen; omega)]
   exact hn
  ·have e : uq (rd_T25 L j) = (rd_T25 L j).f0.data.toList := by
    unfold uq
    rw [if_neg h37]
   rw [e] at hn hlen
   have e2 : numL (x ++ (rd_T25 L j).f0.data.toList) = numL x ++ bytesOf (rd_T25 L j).f0 := by
    rw [← num_bytes]
   rw [e2] at hn
   rw [tl_len] at hlen
   simp only [if_neg h37, if_pos (show (numL x).length + (rd_T25 L j).f0.size < 140737488355328 by rw [num_len]; omega)]
   exact hn
 ·simp only [if_neg h]
  have e : L.drop j.toNat = [] := List.drop_eq_nil_of_le (by omega)
  rw [e] at hx
  have : uL ([] : List S25) = [] := rfl
  rw [this, List.append_nil] at hx
  rw [num_str, hx]
  exact Ans.ret _
theorem ref_plain (L : List S25) (hL : L.length ≤ 1099511627776) (hp : ∀ q ∈ L, TP q) (hs : (uL L).length ≤ 70368744177664) : Ans (fun k => q_plain.f k L) ⟨(uL L).toArray⟩ :=
 ref_plain_l0 L hL hp hs 0 (by omega) (by omega) [] rfl
abbrev R7 := ByteArray × Int × Int × Int × Int × ByteArray × Bool
theorem ref_seg (L : List S25) (hL : L.length ≤ 1099511627776) (n wh : Int) (r : R7) : ∀ (seg : List S25) (i : Int) (m : List S25), 0 ≤ i → L.drop i.toNat = seg ++ m → (∀ q ∈ seg, TP q) →
  Ans (fun k => q_Single.l0 k L n wh (i + seg.length)) r → Ans (fun k => q_Single.l0 k L n wh i) r
 | [], i, m, h0, hd, ht, h => by simpa using h
 | q :: seg, i, m, h0, hd, ht, h => by
  obtain ⟨hi, hq, hd'⟩ := drop_cons h0 hd
  have hw : wrap64 (i + 1) = i + 1 := wrap_id (by omega) (by omega)
  have hn : Ans (fun k => q_Single.l0 k L n wh (i + 1)) r := by
   refine ref_seg L hL n wh r seg (i + 1) m (by omega) hd' (fun x hx => ht x (by simp [hx])) ?_
   rw [show i + 1 + (seg.length : Int) = i + ((q :: seg).length : Int) by rw [List.length_cons]; omega]
   exact h
  refine Ans.succ ?_
  simp only [q_Single.l0, if_pos hi, if_pos h0, hq, hw]
  rcases ht q (by simp) with h1 | h1
  ·have e37 : q.f1 = 37 := by rw [h1]
   simp only [e37, if_neg (show ¬ (37 : Int) = 0 by decide), if_true]
   exact hn
  ·have e0 : q.f1 = 0 := h1.2.1
   simp only [e0, if_true]
   exact hn
theorem ref_dstep (L : List S25) (hL : L.length ≤ 1099511627776) {n wh i : Int} {p : S25} {m : List S25} (h0 : 0 ≤ i) (hd : L.drop i.toNat = p :: m) (hp : Dir p) (hn0 : 0 ≤ n) (hn : n ≤ i) (r : R7)
  (h : Ans (fun k => q_Single.l0 k L (n + 1) i (i + 1)) r) : Ans (fun k => q_Single.l0 k L n wh i) r := by
 obtain ⟨hi, hq, _⟩ := drop_cons h0 hd
 have e0 : ¬ p.f1 = 0 := hp.2.1
 have e37 : ¬ p.f1 = 37 := inF_not37 hp
 refine Ans.succ ?_
 simp only [q_Single.l0, if_pos hi, if_pos h0, hq, if_neg e0, if_neg e37]
 rw [wrap_id (x := n + 1) (by omega) (by omega), wrap_id (x := i + 1) (by omega) (by omega)]
 exact h
theorem ref_other (L : List S25) {n wh i : Int} (hi : i = (L.length : Int)) (hn : n ≠ 1) : Ans (fun k => q_Single.l0 k L n wh i) NA := by
 refine Ans.succ ?_
 simp only [q_Single.l0, if_neg (show ¬ i < (L.length : Int) by omega), if_neg hn]
 exact Ans.ret _
theorem ref_many (L : List S25) (hL : L.length ≤ 1099511627776) : ∀ (m : List S25) (i n wh : Int), 0 ≤ i → L.drop i.toNat = m → (∀ q ∈ m, InS q) → 2 ≤ n → n ≤ i → i ≤ (L.length : Int) → Ans (fun k => q_Single.l0 k L n wh i) NA
 | [], i, n, wh, h0, hd, hm, h2, hn, hi => by
  have : L.length ≤ i.toNat := by
   have := congrArg List.length hd
   rw [List.length_drop, List.length_nil] at this
   omega
  exact ref_other L (by omega) (by omega)
 | q :: m, i, n, wh, h0, hd, hm, h2, hn, hi => by
  obtain ⟨hi, hq, hd'⟩ := drop_cons h0 hd
  rcases (hm q (by simp)).1 with h1 | h1
  ·refine ref_seg L hL n wh NA [q] i m h0 hd (fun x hx => by rw [List.mem_singleton.1 hx]; exact h1) ?_
   exact ref_many L hL m (i + 1) n wh (by omega) hd' (fun x hx => hm x (by simp [hx])) h2 (by omega) (by omega)
  ·refine ref_dstep L hL h0 hd h1 (by omega) hn NA ?_
   exact ref_many L hL m (i + 1) (n + 1) i (by omega) hd' (fun x hx => hm x (by simp [hx])) (by omega) (by omega) (by omega)
theorem takes_dir {p : S25} (hp : Dir p) : (p.f3 = 2 ∨ p.f5 = 2 → (takes p != 1) = true) ∧ (p.f3 ≠ 2 → p.f5 ≠ 2 → (takes p != 1) = false) := by
 have e0 : ¬ p.f1 = 0 := hp.2.1
 have e37 : ¬ p.f1 = 37 := inF_not37 hp
 unfold takes
 rw [if_neg (fun h => h.elim e0 e37)]
 constructor
 ·rintro (h | h)
  ·rw [if_pos h]
   split <;> decide
  ·simp only [if_pos h]
   split <;> decide
 ·intro h3 h5
  rw [if_neg h3, if_neg h5]
  decide
theorem at_point (v : Int) (hv : 0 ≤ v ∧ v ≤ 255) : ∃ j, Ans (fun k => q_at.f k (⟨#[101, 69, 102, 70, 103, 71]⟩ : ByteArray) v) j ∧ (Point v → ¬ j < 0) ∧ (¬ Point v → j < 0) := by
 have hat := ref_at (T := ⟨#[101, 69, 102, 70, 103, 71]⟩) (by decide) v.toNat.toUInt8
 rw [← byte_cI hv] at hat
 refine ⟨_, hat, fun h => ?_, fun h => ?_⟩
 ·obtain ⟨j, hj, hn⟩ := point_yes h
  unfold xIndexByte.f at hj
  rw [Option.some.inj hj]
  exact hn
 ·obtain ⟨j, hj, hn⟩ := point_no hv h
  unfold xIndexByte.f at hj
  rw [Option.some.inj hj]
  exact hn
/-- One directive: the document's end. -/
theorem ref_end_bad (L : List S25) {wh i : Int} (hi : i = (L.length : Int)) (h0 : 0 ≤ wh) (hw : wh < (L.length : Int)) {p : S25} (hq : rd_T25 L wh = p) (hp : Dir p) (hr : Rng p) (h : ¬ Point p.f1 ∨ p.f3 = 2 ∨ p.f5 = 2) :
  Ans (fun k => q_Single.l0 k L 1 wh i) NA := by
 obtain ⟨j, hj, hy, hn⟩ := at_point p.f1 hr.1
 refine Ans.succ ?_
 simp only [q_Single.l0, if_neg (show ¬ i < (L.length : Int) by omega), if_true, if_pos h0, if_pos hw, hq]
 refine Ans.bind hj ?_
 have out : Ans (fun k => q_Single.j1 k L wh true p.f0 p.f1 p.f2 p.f3 p.f4 p.f5 p.f6) NA := by
  refine Ans.succ ?_
  simp only [q_Single.j1, if_true]
  exact Ans.ret _
 by_cases hpt : Point p.f1
 ·simp only [if_neg (hy hpt)]
  refine Ans.bind (ref_takes p) ?_
  have ht := (takes_dir hp).1 (h.elim (fun e => absurd hpt e) id)
  simp only [ht]
  exact out
 ·simp only [if_pos (hn hpt)]
  exact out
theorem ref_end_good (u m : List S25) (p : S25) (hL : (u ++ p :: m).length ≤ 1099511627776) (hu : ∀ q ∈ u, TP q) (hm : ∀ q ∈ m, TP q) (hs : (uL u).length ≤ 70368744177664) (hs2 : (uL m).length ≤ 70368744177664) {i : Int} (hi : i = ((u ++ p :: m).length : Int)) (hp : Dir p) (hr : Rng p) (h1 : Point p.f1) (h3 : p.f3 ≠ 2) (h5 : p.f5 ≠ 2) (W P : Int)
  (hset : Ans (fun k => q_Settle.f k p.f0 p.f1 p.f2 p.f3 p.f4 p.f5 p.f6 0 0) (p.f1, p.f2, W, P, 0)) :
  Ans (fun k => q_Single.l0 k (u ++ p :: m) 1 (u.length : Int) i) (⟨(uL u).toArray⟩, p.f1, p.f2, W, P, ⟨(uL m).toArray⟩, true) := by
 obtain ⟨j, hj, hy, hn⟩ := at_point p.f1 hr.1
 have hlt : ((u.length : Nat) : Int) < ((u ++ p :: m).length : Int) := by
  rw [List.length_append, List.length_cons]
  omega
 have hd : (u ++ p :: m).drop ((u.length : Nat) : Int).toNat = p :: m := by rw [Int.toNat_natCast, List.drop_left]
 obtain ⟨_, hq, hdm⟩ := drop_cons (by omega) hd
 have ht : (u ++ p :: m).take ((u.length : Nat) : Int).toNat = u := by rw [Int.toNat_natCast, List.take_left]
 have hw : wrap64 (((u.length : Nat) : Int) + 1) = ((u.length : Nat) : Int) + 1 := wrap_id (by omega) (by omega)
 refine Ans.succ ?_
 simp only [q_Single.l0, if_neg (show ¬ i < ((u ++ p :: m).length : Int) by omega), if_true, if_pos (show (0 : Int) ≤ ((u.length : Nat) : Int) by omega), if_pos hlt, hq]
 refine Ans.bind hj ?_
 simp only [if_neg (hy h1)]
 refine Ans.bind (ref_takes p) ?_
 simp only [(takes_dir hp).2 h3 h5]
 refine Ans.succ ?_
 simp only [q_Single.j1, Bool.false_eq_true, if_false]
 refine Ans.bind hset ?_
 have l1 : u.length ≤ 1099511627776 := by
  rw [List.length_append] at hL
  omega
 have l2 : m.length ≤ 1099511627776 := by
  rw [List.length_append, List.length_cons] at hL
  omega
 simp only [if_pos (show (0 : Int) ≤ ((u.length : Nat) : Int) by omega), if_pos (show ((u.length : Nat) : Int) ≤ ((u ++ p :: m).length : Int) by omega), ht, hw, hdm]
 refine Ans.bind (ref_plain u l1 hu hs) ?_
 simp only [if_pos (show (0 : Int) ≤ ((u.length : Nat) : Int) + 1 by omega), if_pos (show ((u.length : Nat) : Int) + 1 ≤ ((u ++ p :: m).length : Int) by omega)]
 refine Ans.bind (ref_plain m l2 hm hs2) ?_
 exact Ans.ret _
theorem uL_cons (q : S25) (l : List S25) : uL (q :: l) = uq q ++ uL l := rfl
theorem single_loop (L : List S25) (hin : ∀ q ∈ L, InS q) (hs : szL L ≤ 1099511627776) : ∃ r, Ans (fun k => d_Single.l0 k ⟨([] : List UInt8).toArray⟩ 0 L (L.length : Int) 0 ⟨([] : List UInt8).toArray⟩ 0 0 0 0) r ∧ Ans (fun k => q_Single.l0 k L 0 0 0) r := by
 classical
 obtain ⟨hl, hu⟩ := szL_len L
 have hLl : L.length ≤ 1099511627776 := by omega
 rcases split_dir L hin with ht | ⟨u, p, m, rfl, htu, hp, hr, hm⟩
 ·refine ⟨NA, ?_, ?_⟩
  ·exact seg_run L hLl 0 (.inl rfl) 0 0 0 0 NA L 0 [] [] [] (by omega) (by simp) ht (by simp; omega) (end_na L _ _ 0 0 0 0 (by omega))
  ·exact ref_seg L hLl 0 0 NA L 0 [] (by omega) (by simp) ht (ref_other L (by omega) (by omega))
 ·have hd : (u ++ p :: m).drop ((0 : Int) + ((u.length : Nat) : Int)).toNat = p :: m := by rw [show ((0 : Int) + ((u.length : Nat) : Int)).toNat = u.length by omega, List.drop_left]
  obtain ⟨hi, hq, hdm⟩ := drop_cons (by omega) hd
  have eL : (uL (u ++ p :: m)).length = (uL u).length + ((uq p).length + (uL m).length) := by
   rw [uL_append, uL_cons, List.length_append, List.length_append]
  have prog : ∀ r : R7, Ans (fun k => d_Single.l0 k ⟨(up1 0 [] (uL u)).toArray⟩ 0 (u ++ p :: m) ((u ++ p :: m).length : Int) (0 + ((u.length : Nat) : Int)) ⟨(up2 0 [] (uL u)).toArray⟩ 0 0 0 0) r → Ans (fun k => d_Single.l0 k ⟨([] : List UInt8).toArray⟩ 0 (u ++ p :: m) ((u ++ p :: m).length : Int) 0 ⟨([] : List UInt8).toArray⟩ 0 0 0 0) r := by
   intro r h
   exact seg_run (u ++ p :: m) hLl 0 (.inl rfl) 0 0 0 0 r u 0 [] [] (p :: m) (by omega) (by simp) htu (by simp; omega) h
  have doc : ∀ r : R7, Ans (fun k => q_Single.l0 k (u ++ p :: m) 1 ((u.length : Nat) : Int) (0 + ((u.length : Nat) : Int) + 1)) r → Ans (fun k => q_Single.l0 k (u ++ p :: m) 0 0 0) r := by
   intro r h
   refine ref_seg (u ++ p :: m) hLl 0 0 r u 0 (p :: m) (by omega) (by simp) htu ?_
   refine ref_dstep (u ++ p :: m) hLl (by omega) hd hp (by omega) (by omega) r ?_
   have e : (0 : Int) + ((u.length : Nat) : Int) = ((u.length : Nat) : Int) := by omega
   rw [e] at h ⊢
   exact h
  have many : ∀ (u2 : List S25) (p2 : S25) (m2 : List S25), m = u2 ++ p2 :: m2 → (∀ q ∈ u2, TP q) → Dir p2 → (∀ q ∈ m2, InS q) → Ans (fun k => q_Single.l0 k (u ++ p :: m) 0 0 0) NA := by
   intro u2 p2 m2 e ht2 hp2 hm2
   refine doc NA ?_
   have hdm' := hdm.trans e
   refine ref_seg (u ++ p :: m) hLl 1 _ NA u2 (0 + ((u.length : Nat) : Int) + 1) (p2 :: m2) (by omega) hdm' ht2 ?_
   have hd2 : (u ++ p :: m).drop (0 + ((u.length : Nat) : Int) + 1 + ((u2.length : Nat) : Int)).toNat = p2 :: m2 := by
    rw [show (0 + ((u.length : Nat) : Int) + 1 + ((u2.length : Nat) : Int)).toNat = (0 + ((u.length : Nat) : Int) + 1).toNat + u2.length by omega, ← List.drop_drop, hdm', List.drop_left]
   obtain ⟨hi2, _, hdm2⟩ := drop_cons (by omega) hd2
   refine ref_dstep (u ++ p :: m) hLl (by omega) hd2 hp2 (by omega) (by omega) NA ?_
   exact ref_many (u ++ p :: m) hLl m2 _ _ _ (by omega) hdm2 hm2 (by omega) (by omega) (by omega)
  by_cases hg : Point p.f1 ∧ p.f3 ≠ 2 ∧ p.f5 ≠ 2
  ·obtain ⟨h1, h3, h5⟩ := hg
   obtain ⟨W, P, hset⟩ := settle_good hp h3 h5
   have hset2 : Ans (fun k => q_Settle.f k p.f0 p.f1 p.f2 p.f3 p.f4 p.f5 p.f6 0 0) (p.f1, p.f2, W, P, 0) := by
    obtain ⟨r, a1, a2⟩ := settle_same p hr 0 0
    have : r = (p.f1, p.f2, W, P, 0) := Ans.uniq a1 hset
    rw [← this]
    exact a2
   rcases split_dir m hm with htm | ⟨u2, p2, m2, e2, htu2, hp2, hr2, hm2⟩
   ·refine ⟨(⟨(uL u).toArray⟩, p.f1, p.f2, W, P, ⟨(uL m).toArray⟩, true), prog _ ?_, doc _ ?_⟩
    ·refine dir_good (u ++ p :: m) _ _ 0 0 0 0 (by omega) hLl hd hp h1 h3 h5 W P hset _ ?_
     have e1 : up1 0 [] (uL u) = uL u := by simp [up1]
     have e2 : up2 0 [] (uL u) = [] := by simp [up2]
     rw [e1, e2]
     refine seg_run (u ++ p :: m) hLl 1 (.inr rfl) p.f1 p.f2 W P _ m _ (uL u) [] [] (by omega) (by rw [hdm]; simp) htm (by simp; omega) ?_
     have e3 : up1 1 (uL u) (uL m) = uL u := by simp [up1]
     have e4 : up2 1 [] (uL m) = uL m := by simp [up2]
     rw [e3, e4]
     exact end_ok (u ++ p :: m) _ _ p.f1 p.f2 W P (by rw [List.length_append, List.length_cons]; omega)
    ·refine ref_seg (u ++ p :: m) hLl 1 _ _ m (0 + ((u.length : Nat) : Int) + 1) [] (by omega) (by rw [hdm]; simp) htm ?_
     exact ref_end_good u m p hLl htu htm (by omega) (by omega) (by rw [List.length_append, List.length_cons]; omega) hp hr h1 h3 h5 W P hset2
   ·refine ⟨NA, prog _ ?_, many u2 p2 m2 e2 htu2 hp2 hm2⟩
    refine dir_good (u ++ p :: m) _ _ 0 0 0 0 (by omega) hLl hd hp h1 h3 h5 W P hset _ ?_
    have e1 : up1 0 [] (uL u) = uL u := by simp [up1]
    have e3 : up2 0 [] (uL u) = [] := by simp [up2]
    rw [e1, e3]
    have eL2 : (uL m).length = (uL u2).length + ((uq p2).length + (uL m2).length) := by
     rw [e2, uL_append, uL_cons, List.length_append, List.length_append]
    refine seg_run (u ++ p :: m) hLl 1 (.inr rfl) p.f1 p.f2 W P _ u2 _ (uL u) [] (p2 :: m2) (by omega) (by rw [hdm, e2]) htu2 (by simp; omega) ?_
    have hd2 : (u ++ p :: m).drop (0 + ((u.length : Nat) : Int) + 1 + ((u2.length : Nat) : Int)).toNat = p2 :: m2 := by
     rw [show (0 + ((u.length : Nat) : Int) + 1 + ((u2.length : Nat) : Int)).toNat = (0 + ((u.length : Nat) : Int) + 1).toNat + u2.length by omega, ← List.drop_drop, hdm, e2, List.drop_left]
    exact dir_na (u ++ p :: m) 1 _ _ p.f1 p.f2 W P (by omega) hd2 hp2 hr2.1 (.inl rfl)
  ·have hb : ¬ Point p.f1 ∨ p.f3 = 2 ∨ p.f5 = 2 := by
    by_cases a : Point p.f1
    ·by_cases b : p.f3 = 2
     ·exact .inr (.inl b)
     ·by_cases c : p.f5 = 2
      ·exact .inr (.inr c)
      ·exact absurd ⟨a, b, c⟩ hg
    ·exact .inl a
   refine ⟨NA, prog _ (dir_na (u ++ p :: m) 0 _ _ 0 0 0 0 (by omega) hd hp hr.1 (.inr hb)), ?_⟩
   rcases split_dir m hm with htm | ⟨u2, p2, m2, e2, htu2, hp2, hr2, hm2⟩
   ·refine doc _ (ref_seg (u ++ p :: m) hLl 1 _ _ m (0 + ((u.length : Nat) : Int) + 1) [] (by omega) (by rw [hdm]; simp) htm ?_)
    have hq' : rd_T25 (u ++ p :: m) ((u.length : Nat) : Int) = p := by
     have e : (0 : Int) + ((u.length : Nat) : Int) = ((u.length : Nat) : Int) := by omega
     rw [e] at hq
     exact hq
    exact ref_end_bad (u ++ p :: m) (by rw [List.length_append, List.length_cons]; omega) (by omega) (by omega) hq' hp hr hb
   ·exact many u2 p2 m2 e2 htu2 hp2 hm2
theorem single_same {T : ByteArray} (hT : T.size ≤ 549755813888) : ∃ r, Ans (fun k => d_Single.f k T) r ∧ Ans (fun k => q_Single.f k T) r := by
 obtain ⟨h1, h2⟩ := parse_in T.data.toList
 rw [tl_len] at h2
 have hp := parse_ans (T := T) (by omega)
 have hq := ref_parse (T := T) (by omega)
 unfold d_Single.f q_Single.f
 by_cases he : (parse T.data.toList).2.2 = 0
 ·obtain ⟨r, a1, a2⟩ := single_loop (parse T.data.toList).1 h1 (by omega)
  refine ⟨r, Ans.bind hp ?_, Ans.bind hq ?_⟩
  ·simp only [if_pos he]
   exact a1
  ·simp only [if_pos he]
   exact a2
 ·refine ⟨NA, Ans.bind hp ?_, Ans.bind hq ?_⟩
  ·simp only [if_neg he]
   exact Ans.ret _
  ·simp only [if_neg he]
   exact Ans.ret _
end Go.Proofs.YtlmijjekaelhcaaDoor.Pl
end
section
set_option linter.unusedVariables false
set_option linter.unusedSimpArgs false
namespace Go.Proofs.YtlmijjekaelhcaaDoor.Pl
open Go.RowKit Go.Proofs.YtlmijjekaelhcaaDoorW.PrintWords Go.Proofs.YtlmijjekaelhcaaDoor.EDi Go.Proofs.YtlmijjekaelhcaaDoor.X
structure CallOk (x : S43) : Prop where
 text : x.f1.size ≤ 274877906944
 piece : Rng x.f2
 psize : x.f2.f0.size ≤ 1099511627776
 rng : ∀ q ∈ x.f3, Rng q
 sizes : ∀ q ∈ x.f3, q.f0.size ≤ 1099511627776
 len : x.f3.length ≤ 1099511627776
 total : tot x.f3 ≤ 70368744177664
theorem copied_is (l : List S25) (h : l.length ≤ 1099511627776) : w_copied.f l = some l := by
 unfold w_copied.f
 rw [if_pos (by simp; omega), List.nil_append]
theorem right_true (x : S43) (h : CallOk x) : Ans (fun k => w_right.f k x.f0 x.f1 x.f2.f0 x.f2.f1 x.f2.f2 x.f2.f3 x.f2.f4 x.f2.f5 x.f2.f6 x.f3 x.f4 x.f5) true := by
 classical
 have hl := h.len
 have hx := h.text
 unfold w_right.f
 by_cases h1 : x.f0 = 1
 ·simp only [if_pos h1]
  refine Ans.bind (parse_ans (T := x.f1) (by omega)) (Ans.bind (ref_parse (T := x.f1) (by omega)) ?_)
  obtain ⟨_, hs⟩ := parse_in x.f1.data.toList
  have hn := (szL_len (parse x.f1.data.toList).1).1
  rw [tl_len] at hs
  refine Ans.bind (same_self _ (by omega)) ?_
  simp only [if_true, beq_self_eq_true]
  exact Ans.ret _
 ·simp only [if_neg h1]
  by_cases h2 : x.f0 = 2
  ·simp only [if_pos h2]
   obtain ⟨a1, a2⟩ := ref_check x.f2 h.piece h.psize
   by_cases hok : OkP x.f2
   ·refine Ans.bind (check_ok hok) (Ans.bind (a1 hok) ?_)
    simp only [beq_self_eq_true]
    exact Ans.ret _
   ·refine Ans.bind (check_bad hok) (Ans.bind (a2 hok) ?_)
    simp only [beq_self_eq_true]
    exact Ans.ret _
  ·simp only [if_neg h2]
   by_cases h3 : x.f0 = 3
   ·simp only [if_pos h3, copied_is _ hl, Option.bind_some]
    obtain ⟨r, a1, a2⟩ := print_same x.f3 h.rng hl h.total h.sizes
    refine Ans.bind a2 (Ans.bind a1 ?_)
    simp only [if_true, beq_self_eq_true]
    exact Ans.ret _
   ·simp only [if_neg h3]
    by_cases h4 : x.f0 = 4
    ·simp only [if_pos h4, copied_is _ hl, Option.bind_some]
     obtain ⟨r, a1, a2⟩ := wants_same x.f3 hl
     refine Ans.bind a2 (Ans.bind a1 ?_)
     simp only [beq_self_eq_true]
     exact Ans.ret _
    ·simp only [if_neg h4]
     by_cases h5 : x.f0 = 5
     ·simp only [if_pos h5]
      obtain ⟨r, a1, a2⟩ := settle_same x.f2 h.piece x.f4 x.f5
      refine Ans.bind a1 (Ans.bind a2 ?_)
      simp only [beq_self_eq_true, Bool.and_self, if_true]
      exact Ans.ret _
     ·simp only [if_neg h5]
      by_cases h6 : x.f0 = 6
      ·simp only [if_pos h6]
       obtain ⟨r, a1, a2⟩ := single_same (T := x.f1) (by omega)
       refine Ans.bind a1 (Ans.bind a2 ?_)
       simp only [beq_self_eq_true, Bool.and_self, if_true]
       exact Ans.ret _
      ·simp only [if_neg h6]
       exact Ans.ret _
theorem rd43_mem {l : List S43} {j : Int} (h0 : 0 ≤ j) (h : j < (l.length : Int)) : rd_T43 l j ∈ l := by
 have hj : j.toNat < l.length := by omega
 unfold rd_T43
 rw [List.getD_eq_getElem?_getD, List.getElem?_eq_getElem hj]
 exact List.getElem_mem hj
theorem exact_l0 (l : List S43) (hl : l.length ≤ 1099511627776) (H : ∀ x ∈ l, CallOk x) : ∀ j, j ≤ (l.length : Int) → 0 ≤ j → Ans (fun k => w_DirectiveExact.l0 k l j) true := by
 refine left_ind fun j hj ih h0 => Ans.succ ?_
 simp only [w_DirectiveExact.l0]
 by_cases h : j < (l.length : Int)
 ·have hx := H _ (rd43_mem h0 h)
  simp only [if_pos h, if_pos h0, copied_is _ hx.len, Option.bind_some]
  refine Ans.bind (right_true _ hx) ?_
  simp only [if_true]
  rw [wrap_id (x := j + 1) (by omega) (by omega)]
  exact ih (j + 1) (by omega) (by omega) (by omega)
 ·simp only [if_neg h]
  exact Ans.ret _
theorem directiveExact_true (l : List S43) (hl : l.length ≤ 1099511627776) (H : ∀ x ∈ l, CallOk x) : Ans (fun k => w_DirectiveExact.f k l) true := by
 unfold w_DirectiveExact.f
 refine Ans.bind awake_ans ?_
 simp only [if_true]
 exact exact_l0 l hl H 0 (by omega) (by omega)
end Go.Proofs.YtlmijjekaelhcaaDoor.Pl
end
