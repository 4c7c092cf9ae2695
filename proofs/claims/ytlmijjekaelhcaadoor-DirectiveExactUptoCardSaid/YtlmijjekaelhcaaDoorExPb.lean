/-
  Plain laws of the directive statements: what Parse answers, told byte by byte (a machine of states). Conditions: the format's bytes are at most 2^24.
-/
import Derived.Test.YtlmijjekaelhcaaDoorExPa
import Derived.Test.YtlmijjekaelhcaaDoorExEDix22
set_option linter.unusedVariables false
set_option linter.unusedSimpArgs false
namespace Go.Proofs.YtlmijjekaelhcaaDoor.Pl
open Go.RowKit Go.Proofs.YtlmijjekaelhcaaDoorW.PrintWords Go.Proofs.YtlmijjekaelhcaaDoor.EDi Go.Proofs.YtlmijjekaelhcaaDoor.X
def tp (c : List UInt8) : S25 := ⟨⟨c.toArray⟩, 0, 0, 0, 0, 0, 0⟩
def opt (c : List UInt8) : List S25 := if c = [] then [] else [tp c]
inductive St where
 | text (ps : List S25) (cur : List UInt8)
 | pct (ps : List S25)
 | flg (ps : List S25) (fl : Int)
 | wid (ps : List S25) (fl n st : Int)
 | aw (ps : List S25) (fl wk wd : Int)
 | pnt (ps : List S25) (fl wk wd : Int)
 | prc (ps : List S25) (fl wk wd n st : Int)
 | ap (ps : List S25) (fl wk wd pk pr : Int)
 | bad (at_ e : Int)
def cI (c : UInt8) : Int := (c.toNat : Int)
def isD (c : UInt8) : Bool := decide (48 ≤ cI c) && decide (cI c ≤ 57)
def fL : List UInt8 := [45, 43, 32, 35, 48]
def vL : List UInt8 := [100, 105, 111, 117, 120, 88, 99, 115, 101, 69, 102, 70, 103, 71]
def cap (n : Int) (c : UInt8) : Int := mn (n * 10 + (cI c - 48)) 4097
def verbT (ps : List S25) (fl wk wd pk pr p : Int) (c : UInt8) : St :=
 if 0 ≤ Lib.indexByte vL c then .text (ps ++ [⟨⟨#[]⟩, cI c, fl, wk, wd, pk, pr⟩]) [] else .bad p 130
def stAw (ps : List S25) (fl wk wd p : Int) (c : UInt8) : St := if c = 46 then .pnt ps fl wk wd else verbT ps fl wk wd 0 0 p c
def stFlg (ps : List S25) (fl p : Int) (c : UInt8) : St :=
 if 0 ≤ Lib.indexByte fL c then .flg ps (Go.bits .or .i64 fl (shl .i64 1 (Lib.indexByte fL c)))
 else if isD c = true then .wid ps fl (cap 0 c) p else if c = 42 then .aw ps fl 2 0 else stAw ps fl 0 0 p c
def stPnt (ps : List S25) (fl wk wd p : Int) (c : UInt8) : St :=
 if isD c = true then .prc ps fl wk wd (cap 0 c) p else if c = 42 then .ap ps fl wk wd 2 0 else verbT ps fl wk wd 1 0 p c
def step (p : Int) (s : St) (c : UInt8) : St :=
 match s with
 | .text ps cur => if c = 37 then .pct (ps ++ opt cur) else .text ps (cur ++ [c])
 | .pct ps => if c = 37 then .text (ps ++ [⟨⟨#[]⟩, 37, 0, 0, 0, 0, 0⟩]) [] else stFlg ps 0 p c
 | .flg ps fl => stFlg ps fl p c
 | .wid ps fl n st => if isD c = true then .wid ps fl (cap n c) st else if n > 4096 then .bad st 6 else stAw ps fl 1 n p c
 | .aw ps fl wk wd => stAw ps fl wk wd p c
 | .pnt ps fl wk wd => stPnt ps fl wk wd p c
 | .prc ps fl wk wd n st => if isD c = true then .prc ps fl wk wd (cap n c) st else if n > 4096 then .bad st 6 else verbT ps fl wk wd 1 n p c
 | .ap ps fl wk wd pk pr => verbT ps fl wk wd pk pr p c
 | .bad a e => .bad a e
def fin (p : Int) (s : St) : List S25 × Int × Int :=
 match s with
 | .text ps cur => (ps ++ opt cur, 0, 0)
 | .wid _ _ n st => if n > 4096 then ([], st, 6) else ([], p, 131)
 | .prc _ _ _ _ n st => if n > 4096 then ([], st, 6) else ([], p, 131)
 | .bad a e => ([], a, e)
 | _ => ([], p, 131)
def parseL (s : St) (p : Int) : List UInt8 → List S25 × Int × Int
 | [] => fin p s
 | c :: l => parseL (step p s c) (p + 1) l
def rest (T : ByteArray) (i : Int) : List UInt8 := T.data.toList.drop i.toNat
theorem rest_nil {T : ByteArray} {i : Int} (h : (T.size : Int) ≤ i) : rest T i = [] := by
 unfold rest
 apply List.drop_eq_nil_of_le
 have : T.data.toList.length = T.size := by simp
 omega
theorem rest_cons {T : ByteArray} {i : Int} (h0 : 0 ≤ i) (h : i < (T.size : Int)) : ∃ c, rest T i = c :: rest T (i + 1) ∧ bt T i = cI c := by
 have hl : T.data.toList.length = T.size := by simp
 have hi : i.toNat < T.data.toList.length := by omega
 refine ⟨T.data.toList[i.toNat], ?_, ?_⟩
 ·unfold rest
  rw [show (i + 1).toNat = i.toNat + 1 by omega]
  exact List.drop_eq_getElem_cons hi
 ·unfold bt cI
  rw [dif_pos (by omega)]
  rfl
theorem cI_u8 (c : UInt8) : (cI c).toNat.toUInt8 = c := by
 unfold cI
 simp
theorem cI_lt (c : UInt8) : 0 ≤ cI c ∧ cI c ≤ 255 := by
 unfold cI
 have := c.toNat_lt
 omega
theorem cI_inj {a b : UInt8} (h : cI a = cI b) : a = b := by
 rw [← cI_u8 a, ← cI_u8 b, h]
theorem ixb (c : UInt8) (l : ByteArray) : xIndexByte.f l (cI c) = some (Lib.indexByte l.data.toList c) := by
 unfold xIndexByte.f
 rw [cI_u8]
theorem now_in {T : ByteArray} {at_ : Int} (h0 : 0 ≤ at_) (h : at_ < (T.size : Int)) (f e : Int) (t : ByteArray) (a b c d g i : Int) :
  d_reader_now.f T at_ f e t a b c d g i = some (bt T at_, T, at_, f, e, t, a, b, c, d, g, i) := by
 unfold d_reader_now.f
 rw [if_pos h, if_pos h0]
theorem now_out {T : ByteArray} {at_ : Int} (h : (T.size : Int) ≤ at_) (f e : Int) (t : ByteArray) (a b c d g i : Int) :
  d_reader_now.f T at_ f e t a b c d g i = some (0, T, at_, f, e, t, a, b, c, d, g, i) := by
 unfold d_reader_now.f
 rw [if_neg (by omega)]
theorem digit_f (c : UInt8) : d_digit.f (cI c) = some (isD c) := by
 unfold d_digit.f isD
 by_cases h : 48 ≤ cI c
 ·rw [if_pos h, decide_eq_true h, Bool.true_and]
 ·rw [if_neg h, decide_eq_false h, Bool.false_and]
theorem digit_0 : d_digit.f 0 = some false := rfl
/-- Which part stands at a byte. -/
def partOf (c : UInt8) : Int := if 0 ≤ Lib.indexByte fL c then 0 else if isD c = true ∨ c = 42 then 1 else if c = 46 then 2 else 3
theorem begins_in {T : ByteArray} {at_ : Int} (h0 : 0 ≤ at_) (h : at_ < (T.size : Int)) (c : UInt8) (hc : bt T at_ = cI c) (f e : Int) (t : ByteArray) (a b w d g i : Int) (k : Nat) :
  d_reader_begins.f (k + 2) T at_ f e t a b w d g i = some (partOf c, T, at_, f, e, t, a, b, w, d, g, i) := by
 have e42 : (cI c == 42) = decide (c = 42) := by
  by_cases h : c = 42
  ·subst h
   decide
  ·rw [decide_eq_false h]
   exact beq_eq_false_iff_ne.2 fun h' => h (cI_inj h')
 have e46 : (cI c = 46) ↔ c = 46 := ⟨fun h => cI_inj h, fun h => by subst h; decide⟩
 have j1 : ∀ x : Bool, d_reader_begins.j1 (k + 1) (cI c) x T at_ f e t a b w d g i = some (if x = true then 1 else if c = 46 then 2 else 3, T, at_, f, e, t, a, b, w, d, g, i) := by
  intro x
  simp only [d_reader_begins.j1]
  cases x
  ·by_cases h : c = 46
   ·rw [if_neg (by decide), if_pos (e46.2 h)]
    simp [h]
   ·rw [if_neg (by decide), if_neg (fun h' => h (e46.1 h'))]
    simp [h]
  ·simp
 have j0 : ∀ x : Bool, d_reader_begins.j0 (k + 2) (cI c) x T at_ f e t a b w d g i = some (if x = true then 0 else if isD c = true ∨ c = 42 then 1 else if c = 46 then 2 else 3, T, at_, f, e, t, a, b, w, d, g, i) := by
  intro x
  cases x
  ·simp only [d_reader_begins.j0, Bool.false_eq_true, if_false]
   rw [digit_f]
   simp only [Option.bind_some]
   cases hd : isD c
   ·rw [if_neg (by simp), j1, e42]
    by_cases h : c = 42
    ·simp [h]
    ·simp [h]
   ·rw [if_pos rfl, j1]
    simp
  ·simp [d_reader_begins.j0]
 unfold d_reader_begins.f
 rw [now_in h0 h, hc]
 simp only [Option.bind_some]
 unfold partOf
 by_cases hz : cI c = 0
 ·rw [if_pos hz, j0]
  have : c = 0 := cI_inj hz
  subst this
  rfl
 ·rw [if_neg hz, ixb]
  simp only [Option.bind_some]
  rw [j0]
  by_cases hx : 0 ≤ Lib.indexByte fL c
  ·have : decide (Lib.indexByte (⟨#[45, 43, 32, 35, 48]⟩ : ByteArray).data.toList c ≥ 0) = true := decide_eq_true hx
   rw [this]
   simp [hx]
  ·have : decide (Lib.indexByte (⟨#[45, 43, 32, 35, 48]⟩ : ByteArray).data.toList c ≥ 0) = false := decide_eq_false hx
   rw [this]
   simp [hx]
theorem begins_out {T : ByteArray} {at_ : Int} (h : (T.size : Int) ≤ at_) (f e : Int) (t : ByteArray) (a b w d g i : Int) (k : Nat) :
  d_reader_begins.f (k + 2) T at_ f e t a b w d g i = some (3, T, at_, f, e, t, a, b, w, d, g, i) := by
 unfold d_reader_begins.f
 rw [now_out h]
 rfl
theorem bad_run (a e : Int) : ∀ (l : List UInt8) (q : Int), parseL (.bad a e) q l = ([], a, e)
 | [], _ => rfl
 | _ :: l, q => bad_run a e l (q + 1)
abbrev T11 := ByteArray × Int × Int × Int × ByteArray × Int × Int × Int × Int × Int × Int
def RdRel (ps : List S25) (T : ByteArray) (s : St) (at_ : Int) (R : T11) : Prop :=
 (R.2.2.2.1 = 0 → at_ < R.2.1 ∧ R.2.1 ≤ (T.size : Int) ∧ parseL s at_ (rest T at_) = parseL (.text (ps ++ [⟨R.2.2.2.2.1, R.2.2.2.2.2.1, R.2.2.2.2.2.2.1, R.2.2.2.2.2.2.2.1, R.2.2.2.2.2.2.2.2.1, R.2.2.2.2.2.2.2.2.2.1, R.2.2.2.2.2.2.2.2.2.2⟩]) []) R.2.1 (rest T R.2.1)) ∧
 (R.2.2.2.1 ≠ 0 → parseL s at_ (rest T at_) = ([], R.2.2.1, R.2.2.2.1))
theorem verb_rel (ps : List S25) {T : ByteArray} {s : St} {at_ : Int} (h0 : 0 ≤ at_) (h1 : at_ ≤ (T.size : Int)) (hT : T.size ≤ 1099511627776) (f vb fl wk wd pk pr : Int)
  (hs : ∀ c, at_ < (T.size : Int) → bt T at_ = cI c → step at_ s c = verbT ps fl wk wd pk pr at_ c) (hf : fin at_ s = ([], at_, 131)) :
  ∃ R, d_reader_verb.f T at_ f 0 ⟨#[]⟩ vb fl wk wd pk pr = some R ∧ RdRel ps T s at_ R := by
 have hw : wrap64 (at_ + 1) = at_ + 1 := wrap_id (by omega) (by omega)
 unfold d_reader_verb.f
 by_cases h : at_ < (T.size : Int)
 ·obtain ⟨c, hc, hb⟩ := rest_cons h0 h
  rw [now_in h0 h, hb]
  simp only [Option.bind_some]
  rw [if_neg (by omega), ixb]
  simp only [Option.bind_some]
  have e : parseL s at_ (rest T at_) = parseL (verbT ps fl wk wd pk pr at_ c) (at_ + 1) (rest T (at_ + 1)) := by rw [hc, ← hs c h hb]; rfl
  by_cases hv : 0 ≤ Lib.indexByte vL c
  ·have hv' : ¬ Lib.indexByte (⟨#[100, 105, 111, 117, 120, 88, 99, 115, 101, 69, 102, 70, 103, 71]⟩ : ByteArray).data.toList c < 0 := by
    show ¬ Lib.indexByte vL c < 0
    omega
   rw [if_neg hv']
   refine ⟨_, rfl, fun _ => ⟨?_, ?_, ?_⟩, fun h => absurd rfl h⟩
   ·show at_ < wrap64 (at_ + 1)
    omega
   ·show wrap64 (at_ + 1) ≤ _
    omega
   ·rw [e]
    unfold verbT
    rw [if_pos hv]
    simp only [hw]
  ·have hv' : Lib.indexByte (⟨#[100, 105, 111, 117, 120, 88, 99, 115, 101, 69, 102, 70, 103, 71]⟩ : ByteArray).data.toList c < 0 := by
    show Lib.indexByte vL c < 0
    omega
   rw [if_pos hv']
   refine ⟨_, rfl, fun h => absurd (show (130 : Int) = 0 from h) (by decide), fun _ => ?_⟩
   rw [e]
   unfold verbT
   rw [if_neg hv]
   exact bad_run at_ 130 _ _
 ·rw [now_out (by omega)]
  simp only [Option.bind_some]
  rw [if_pos (by omega)]
  refine ⟨_, rfl, fun h => absurd (show (131 : Int) = 0 from h) (by decide), fun _ => ?_⟩
  rw [rest_nil (by omega)]
  exact hf
theorem verb_bad (ps : List S25) {T : ByteArray} {s : St} {at_ a2 : Int} (h0 : 0 ≤ at_) (f e vb fl wk wd pk pr : Int) (he : e ≠ 0) (hp : parseL s a2 (rest T a2) = ([], f, e)) :
  ∃ R, d_reader_verb.f T at_ f e ⟨#[]⟩ vb fl wk wd pk pr = some R ∧ RdRel ps T s a2 R := by
 have fin_ : ∀ a v, RdRel ps T s a2 (T, a, f, e, ⟨#[]⟩, v, fl, wk, wd, pk, pr) := fun a v => ⟨fun h => absurd h he, fun _ => hp⟩
 have hst : ∀ (a : Int) v x y, d_reader_stop.f T a f e ⟨#[]⟩ v fl wk wd pk pr x y = some (T, a, f, e, ⟨#[]⟩, v, fl, wk, wd, pk, pr) := by
  intro a v x y
  unfold d_reader_stop.f
  rw [if_neg he]
 unfold d_reader_verb.f
 by_cases h : at_ < (T.size : Int)
 ·obtain ⟨c, hc, hb⟩ := rest_cons h0 h
  rw [now_in h0 h, hb]
  simp only [Option.bind_some]
  rw [if_neg (by omega), ixb]
  simp only [Option.bind_some, hst]
  split
  ·exact ⟨_, rfl, fin_ _ _⟩
  ·exact ⟨_, rfl, fin_ _ _⟩
 ·rw [now_out (by omega)]
  simp only [Option.bind_some]
  rw [if_pos (by omega), hst]
  exact ⟨_, rfl, fin_ _ _⟩
theorem cap_range {n : Int} (c : UInt8) (h : isD c = true) (h0 : 0 ≤ n) : 0 ≤ cap n c ∧ cap n c ≤ 4097 := by
 unfold isD at h
 simp at h
 unfold cap mn
 omega
theorem cap_is {n : Int} (c : UInt8) (h : isD c = true) (h0 : 0 ≤ n) (h1 : n ≤ 4097) : mn (wrap64 ((wrap64 (n * 10)) + ((cI c - 48) % 256))) 4097 = cap n c := by
 unfold isD at h
 simp at h
 unfold cap wrap64
 congr 1
 omega
/-- What number answers behind its digits. -/
def numR (none_ from_ n : Int) (T : ByteArray) (at_ f e : Int) (t : ByteArray) (vb fl wk wd pk pr : Int) : Int × Int × T11 :=
 if at_ = from_ then (none_, 0, T, at_, f, e, t, vb, fl, wk, wd, pk, pr)
 else if n > 4096 ∧ e = 0 then (1, n, T, at_, from_, 6, t, vb, fl, wk, wd, pk, pr) else (1, n, T, at_, f, e, t, vb, fl, wk, wd, pk, pr)
theorem number_l0 {T : ByteArray} (hT : T.size ≤ 1099511627776) (none_ from_ f e : Int) (t : ByteArray) (vb fl wk wd pk pr : Int) : ∀ at_, at_ ≤ (T.size : Int) → 0 ≤ from_ → from_ ≤ at_ → ∀ n, 0 ≤ n → n ≤ 4097 →
  ∃ a n', at_ ≤ a ∧ a ≤ (T.size : Int) ∧ (∀ c, a < (T.size : Int) → bt T a = cI c → isD c = false) ∧ 0 ≤ n' ∧ n' ≤ 4097 ∧ (a = at_ → n' = n) ∧
   (at_ < a → ∃ c, bt T at_ = cI c ∧ isD c = true) ∧
   (∀ F : Int → St, (∀ m p c, isD c = true → step p (F m) c = F (cap m c)) → parseL (F n) at_ (rest T at_) = parseL (F n') a (rest T a)) ∧
   (∀ F : Int → St, ∀ s, (∀ m p c, isD c = true → step p (F m) c = F (cap m c)) → (∀ c, at_ < (T.size : Int) → bt T at_ = cI c → isD c = true → step at_ s c = F (cap n c)) → at_ < a → parseL s at_ (rest T at_) = parseL (F n') a (rest T a)) ∧
   Ans (fun k => d_reader_number.l0 k none_ from_ n T at_ f e t vb fl wk wd pk pr) (numR none_ from_ n' T a f e t vb fl wk wd pk pr) := by
 refine left_ind fun at_ hat ih hf0 hfa n hn0 hn1 => ?_
 have stop : (∀ c, at_ < (T.size : Int) → bt T at_ = cI c → isD c = false) → Ans (fun k => d_reader_number.l0 k none_ from_ n T at_ f e t vb fl wk wd pk pr) (numR none_ from_ n T at_ f e t vb fl wk wd pk pr) := by
  intro hd
  refine Ans.succ (Ans.of fun k => ?_)
  have key : ∀ b : Int, (d_reader_now.f T at_ f e t vb fl wk wd pk pr = some (b, T, at_, f, e, t, vb, fl, wk, wd, pk, pr)) → d_digit.f b = some false → d_reader_number.l0 (k + 1) none_ from_ n T at_ f e t vb fl wk wd pk pr = some (numR none_ from_ n T at_ f e t vb fl wk wd pk pr) := by
   intro b hb hdb
   simp only [d_reader_number.l0]
   rw [hb]
   simp only [Option.bind_some]
   rw [hdb]
   simp only [Option.bind_some, Bool.false_eq_true, if_false]
   unfold numR
   by_cases h1 : at_ = from_
   ·rw [if_pos h1, if_pos h1]
   ·rw [if_neg h1, if_neg h1]
    by_cases h2 : n > 4096
    ·rw [if_pos h2]
     unfold d_reader_stop.f
     by_cases h3 : e = 0
     ·rw [if_pos h3, if_pos ⟨h2, h3⟩]
      rfl
     ·rw [if_neg h3, if_neg (fun h => h3 h.2)]
      rfl
    ·rw [if_neg h2, if_neg (fun h => h2 h.1)]
  by_cases h : at_ < (T.size : Int)
  ·obtain ⟨c, hc, hb⟩ := rest_cons (by omega) h
   exact key _ (now_in (by omega) h _ _ _ _ _ _ _ _ _) (by rw [hb, digit_f, hd c h hb])
  ·exact key 0 (now_out (by omega) _ _ _ _ _ _ _ _ _) digit_0
 by_cases h : at_ < (T.size : Int)
 ·obtain ⟨c, hc, hb⟩ := rest_cons (by omega) h
  have uq : ∀ d, bt T at_ = cI d → d = c := fun d hd => cI_inj (hd.symm.trans hb)
  cases hd : isD c
  ·refine ⟨at_, n, by omega, hat, fun d h1 h2 => by rw [uq d h2]; exact hd, hn0, hn1, fun _ => rfl, fun h => absurd h (by omega), fun F hF => rfl, fun F s hF hs h => absurd h (by omega), stop fun d h1 h2 => by rw [uq d h2]; exact hd⟩
  ·obtain ⟨c0, c1⟩ := cap_range (n := n) c hd hn0
   obtain ⟨a, n', g1, g2, g3, g4, g5, g6, g7, g8, g9, g10⟩ := ih (at_ + 1) (by omega) (by omega) hf0 (by omega) (cap n c) c0 c1
   refine ⟨a, n', by omega, g2, g3, g4, g5, fun h => absurd h (by omega), fun _ => ⟨c, hb, hd⟩, fun F hF => ?_, fun F s hF hs _ => ?_, ?_⟩
   ·rw [hc]
    show parseL (step at_ (F n) c) (at_ + 1) _ = _
    rw [hF n at_ c hd]
    exact g8 F hF
   ·rw [hc]
    show parseL (step at_ s c) (at_ + 1) _ = _
    rw [hs c h hb hd]
    exact g8 F hF
   ·refine Ans.succ ?_
    refine Ans.congr g10 fun k => ?_
    simp only [d_reader_number.l0]
    rw [now_in (by omega) h, hb]
    simp only [Option.bind_some]
    rw [digit_f, hd]
    simp only [Option.bind_some, if_true]
    rw [now_in (by omega) h, hb]
    simp only [Option.bind_some]
    rw [cap_is c hd hn0 hn1, wrap_id (x := at_ + 1) (by omega) (by omega)]
 ·exact ⟨at_, n, by omega, hat, fun d h1 => absurd h1 h, hn0, hn1, fun _ => rfl, fun h => absurd h (by omega), fun F hF => rfl, fun F s hF hs h => absurd h (by omega), stop fun d h1 => absurd h1 h⟩
theorem number_star {T : ByteArray} {at_ : Int} (h0 : 0 ≤ at_) (h : at_ < (T.size : Int)) (hb : bt T at_ = 42) (k : Nat) (f e : Int) (t : ByteArray) (vb fl wk wd pk pr none_ : Int) :
  d_reader_number.f k T at_ f e t vb fl wk wd pk pr none_ = some (2, 0, T, wrap64 (at_ + 1), f, e, t, vb, fl, wk, wd, pk, pr) := by
 unfold d_reader_number.f
 rw [now_in h0 h, hb]
 rfl
theorem number_else {T : ByteArray} {at_ : Int} (h0 : 0 ≤ at_) (hb : at_ < (T.size : Int) → bt T at_ ≠ 42) (k : Nat) (f e : Int) (t : ByteArray) (vb fl wk wd pk pr none_ : Int) :
  d_reader_number.f k T at_ f e t vb fl wk wd pk pr none_ = d_reader_number.l0 k none_ at_ 0 T at_ f e t vb fl wk wd pk pr := by
 unfold d_reader_number.f
 by_cases h : at_ < (T.size : Int)
 ·rw [now_in h0 h]
  simp only [Option.bind_some]
  rw [if_neg (hb h)]
 ·rw [now_out (by omega)]
  rfl
theorem RdRel.back {ps : List S25} {T : ByteArray} {s s' : St} {a a' : Int} {R : T11} (h : RdRel ps T s' a' R) (e : parseL s a (rest T a) = parseL s' a' (rest T a')) (hle : a ≤ a') : RdRel ps T s a R := by
 refine ⟨fun h0 => ?_, fun h0 => e.trans (h.2 h0)⟩
 obtain ⟨h1, h2, h3⟩ := h.1 h0
 exact ⟨by omega, h2, e.trans h3⟩
/-- A number that is too wide, behind its digits. -/
theorem doomed_prc {T : ByteArray} {a : Int} (ha : 0 ≤ a) (hd : ∀ c, a < (T.size : Int) → bt T a = cI c → isD c = false) (ps : List S25) (fl wk wd n st : Int) (hn : n > 4096) :
  parseL (.prc ps fl wk wd n st) a (rest T a) = ([], st, 6) := by
 by_cases h : a < (T.size : Int)
 ·obtain ⟨c, hc, hb⟩ := rest_cons ha h
  rw [hc]
  show parseL (step a (.prc ps fl wk wd n st) c) _ _ = _
  have : step a (.prc ps fl wk wd n st) c = .bad st 6 := by
   show (if isD c = true then _ else if n > 4096 then _ else _) = _
   rw [hd c h hb, if_neg (by decide), if_pos hn]
  rw [this]
  exact bad_run _ _ _ _
 ·rw [rest_nil (by omega)]
  show (if n > 4096 then _ else _) = _
  rw [if_pos hn]
theorem doomed_wid {T : ByteArray} {a : Int} (ha : 0 ≤ a) (hd : ∀ c, a < (T.size : Int) → bt T a = cI c → isD c = false) (ps : List S25) (fl n st : Int) (hn : n > 4096) :
  parseL (.wid ps fl n st) a (rest T a) = ([], st, 6) := by
 by_cases h : a < (T.size : Int)
 ·obtain ⟨c, hc, hb⟩ := rest_cons ha h
  rw [hc]
  show parseL (step a (.wid ps fl n st) c) _ _ = _
  have : step a (.wid ps fl n st) c = .bad st 6 := by
   show (if isD c = true then _ else if n > 4096 then _ else _) = _
   rw [hd c h hb, if_neg (by decide), if_pos hn]
  rw [this]
  exact bad_run _ _ _ _
 ·rw [rest_nil (by omega)]
  show (if n > 4096 then _ else _) = _
  rw [if_pos hn]
theorem j1_rel (ps : List S25) {T : ByteArray} {s : St} {at_ : Int} (h0 : 0 ≤ at_) (h1 : at_ ≤ (T.size : Int)) (hT : T.size ≤ 1099511627776) (f fl wk wd : Int)
  (hs : ∀ c, at_ < (T.size : Int) → bt T at_ = cI c → step at_ s c = stAw ps fl wk wd at_ c) (hf : fin at_ s = ([], at_, 131)) :
  ∃ R, Ans (fun k => d_reader_read.j1 k T at_ f 0 ⟨#[]⟩ 0 fl wk wd 0 0) R ∧ RdRel ps T s at_ R := by
 by_cases hdot : at_ < (T.size : Int) ∧ bt T at_ = 46
 ·obtain ⟨h, hb⟩ := hdot
  have hq : wrap64 (at_ + 1) = at_ + 1 := wrap_id (by omega) (by omega)
  obtain ⟨c, hc, hbc⟩ := rest_cons h0 h
  have hc46 : c = 46 := cI_inj (by rw [← hbc, hb]; decide)
  subst hc46
  have e1 : parseL s at_ (rest T at_) = parseL (.pnt ps fl wk wd) (at_ + 1) (rest T (at_ + 1)) := by
   rw [hc]
   show parseL (step at_ s 46) (at_ + 1) _ = _
   rw [hs 46 h hbc]
   rfl
  -- what follows the number
  have fin_ : ∀ (N : Int × Int × T11), Ans (fun k => d_reader_number.f k T (at_ + 1) f 0 ⟨#[]⟩ 0 fl wk wd 0 0 1) N → N.2.2.1 = T → N.2.2.2.2.2.2.1 = ⟨#[]⟩ →
    (∃ R, d_reader_verb.f N.2.2.1 N.2.2.2.1 N.2.2.2.2.1 N.2.2.2.2.2.1 N.2.2.2.2.2.2.1 N.2.2.2.2.2.2.2.1 N.2.2.2.2.2.2.2.2.1 N.2.2.2.2.2.2.2.2.2.1 N.2.2.2.2.2.2.2.2.2.2.1 N.1 N.2.1 = some R ∧ RdRel ps T (.pnt ps fl wk wd) (at_ + 1) R) →
    ∃ R, Ans (fun k => d_reader_read.j1 k T at_ f 0 ⟨#[]⟩ 0 fl wk wd 0 0) R ∧ RdRel ps T s at_ R := by
   rintro N hN _ _ ⟨R, hR, hrel⟩
   refine ⟨R, Ans.succ ?_, hrel.back e1 (by omega)⟩
   obtain ⟨n0, hn0⟩ := hN
   refine ⟨n0, fun k hk => ?_⟩
   show d_reader_read.j1 (k + 1) T at_ f 0 ⟨#[]⟩ 0 fl wk wd 0 0 = _
   simp only [d_reader_read.j1]
   rw [now_in h0 h, hb]
   simp only [Option.bind_some, if_true]
   have e3 : d_reader_number.f k T (at_ + 1) f 0 ⟨#[]⟩ 0 fl wk wd 0 0 1 = some N := hn0 k hk
   rw [hq, e3]
   simp only [Option.bind_some]
   rw [hR]
   rfl
  by_cases hst : at_ + 1 < (T.size : Int) ∧ bt T (at_ + 1) = 42
  ·obtain ⟨h', hb'⟩ := hst
   obtain ⟨c, hc', hbc'⟩ := rest_cons (by omega : 0 ≤ at_ + 1) h'
   have hc42 : c = 42 := cI_inj (by rw [← hbc', hb']; decide)
   subst hc42
   refine fin_ (2, 0, T, wrap64 (at_ + 1 + 1), f, 0, ⟨#[]⟩, 0, fl, wk, wd, 0, 0) (Ans.of fun k => number_star (by omega) h' hb' k f 0 ⟨#[]⟩ 0 fl wk wd 0 0 1) rfl rfl ?_
   rw [wrap_id (x := at_ + 1 + 1) (by omega) (by omega)]
   obtain ⟨R, hR, hrel⟩ := verb_rel ps (s := .ap ps fl wk wd 2 0) (at_ := at_ + 1 + 1) (by omega) (by omega) hT f 0 fl wk wd 2 0 (fun _ _ _ => rfl) rfl
   refine ⟨R, hR, hrel.back ?_ (by omega)⟩
   rw [hc']
   rfl
  ·have hne : at_ + 1 < (T.size : Int) → bt T (at_ + 1) ≠ 42 := fun a b => hst ⟨a, b⟩
   obtain ⟨a, n', g1, g2, g3, g4, g5, g6, g7, g8, g9, g10⟩ := number_l0 hT 1 (at_ + 1) f 0 ⟨#[]⟩ 0 fl wk wd 0 0 (at_ + 1) (by omega) (by omega) (by omega) 0 (by omega) (by omega)
   have hN : Ans (fun k => d_reader_number.f k T (at_ + 1) f 0 ⟨#[]⟩ 0 fl wk wd 0 0 1) (numR 1 (at_ + 1) n' T a f 0 ⟨#[]⟩ 0 fl wk wd 0 0) := Ans.congr g10 fun k => number_else (by omega) hne k f 0 ⟨#[]⟩ 0 fl wk wd 0 0 1
   unfold numR at hN
   by_cases ha : a = at_ + 1
   ·subst ha
    rw [if_pos rfl] at hN
    refine fin_ _ hN rfl rfl ?_
    refine verb_rel ps (by omega) g2 hT f 0 fl wk wd 1 0 (fun c hlt hbt => ?_) rfl
    show stPnt ps fl wk wd (at_ + 1) c = _
    unfold stPnt
    rw [g3 c hlt hbt, if_neg (by decide), if_neg (fun h42 => hne hlt (by rw [hbt, h42]; decide))]
   ·rw [if_neg ha] at hN
    have e2 : parseL (.pnt ps fl wk wd) (at_ + 1) (rest T (at_ + 1)) = parseL (.prc ps fl wk wd n' (at_ + 1)) a (rest T a) := by
     refine g9 (fun m => .prc ps fl wk wd m (at_ + 1)) _ (fun m p c hc => ?_) (fun c _ _ hc => ?_) (by omega)
     ·show (if isD c = true then _ else _) = _
      rw [if_pos hc]
     ·show stPnt ps fl wk wd (at_ + 1) c = _
      unfold stPnt
      rw [if_pos hc]
    by_cases hbig : n' > 4096
    ·rw [if_pos ⟨hbig, rfl⟩] at hN
     refine fin_ _ hN rfl rfl ?_
     exact verb_bad ps (show (0 : Int) ≤ a by omega) (at_ + 1) 6 0 fl wk wd 1 n' (by decide) (e2.trans (doomed_prc (by omega) g3 ps fl wk wd n' (at_ + 1) hbig))
    ·rw [if_neg (fun h => hbig h.1)] at hN
     refine fin_ _ hN rfl rfl ?_
     obtain ⟨R, hR, hrel⟩ := verb_rel ps (s := .prc ps fl wk wd n' (at_ + 1)) (at_ := a) (by omega) g2 hT f 0 fl wk wd 1 n' (fun c hlt hbt => by
      show (if isD c = true then _ else if n' > 4096 then _ else _) = _
      rw [g3 c hlt hbt, if_neg (by decide), if_neg hbig]) (by
      show (if n' > 4096 then _ else _) = _
      rw [if_neg hbig])
     exact ⟨R, hR, hrel.back e2 (by omega)⟩
 ·have hne : ∀ c, at_ < (T.size : Int) → bt T at_ = cI c → c ≠ 46 := fun c a b h => hdot ⟨a, by rw [b, h]; decide⟩
  obtain ⟨R, hR, hrel⟩ := verb_rel ps h0 h1 hT f 0 fl wk wd 0 0 (s := s) (fun c hlt hbt => by
   rw [hs c hlt hbt]
   unfold stAw
   rw [if_neg (hne c hlt hbt)]) hf
  refine ⟨R, Ans.succ (Ans.of fun k => ?_), hrel⟩
  simp only [d_reader_read.j1]
  by_cases h : at_ < (T.size : Int)
  ·rw [now_in h0 h]
   simp only [Option.bind_some]
   rw [if_neg (fun hb => hdot ⟨h, hb⟩), hR]
   rfl
  ·rw [now_out (by omega)]
   simp only [Option.bind_some]
   rw [if_neg (by decide), hR]
   rfl
theorem j1_bad (ps : List S25) {T : ByteArray} {s : St} {at_ a2 : Int} (h0 : 0 ≤ at_) (h1 : at_ ≤ (T.size : Int)) (hT : T.size ≤ 1099511627776) (f e fl wk wd : Int) (he : e ≠ 0) (hp : parseL s a2 (rest T a2) = ([], f, e)) :
  ∃ R, Ans (fun k => d_reader_read.j1 k T at_ f e ⟨#[]⟩ 0 fl wk wd 0 0) R ∧ RdRel ps T s a2 R := by
 by_cases hdot : at_ < (T.size : Int) ∧ bt T at_ = 46
 ·obtain ⟨h, hb⟩ := hdot
  have hq : wrap64 (at_ + 1) = at_ + 1 := wrap_id (by omega) (by omega)
  have hN : ∃ (kd n a : Int), 0 ≤ a ∧ Ans (fun k => d_reader_number.f k T (at_ + 1) f e ⟨#[]⟩ 0 fl wk wd 0 0 1) (kd, n, T, a, f, e, ⟨#[]⟩, 0, fl, wk, wd, 0, 0) := by
   by_cases hst : at_ + 1 < (T.size : Int) ∧ bt T (at_ + 1) = 42
   ·exact ⟨2, 0, wrap64 (at_ + 1 + 1), by rw [wrap_id (by omega) (by omega)]; omega, Ans.of fun k => number_star (by omega) hst.1 hst.2 k f e ⟨#[]⟩ 0 fl wk wd 0 0 1⟩
   ·have hne : at_ + 1 < (T.size : Int) → bt T (at_ + 1) ≠ 42 := fun a b => hst ⟨a, b⟩
    obtain ⟨a, n', g1, g2, g3, g4, g5, g6, g7, g8, g9, g10⟩ := number_l0 hT 1 (at_ + 1) f e ⟨#[]⟩ 0 fl wk wd 0 0 (at_ + 1) (by omega) (by omega) (by omega) 0 (by omega) (by omega)
    have hN : Ans (fun k => d_reader_number.f k T (at_ + 1) f e ⟨#[]⟩ 0 fl wk wd 0 0 1) (numR 1 (at_ + 1) n' T a f e ⟨#[]⟩ 0 fl wk wd 0 0) := Ans.congr g10 fun k => number_else (by omega) hne k f e ⟨#[]⟩ 0 fl wk wd 0 0 1
    unfold numR at hN
    rw [if_neg (fun h : n' > 4096 ∧ e = 0 => he h.2)] at hN
    by_cases ha : a = at_ + 1
    ·rw [if_pos ha] at hN
     exact ⟨_, _, _, by omega, hN⟩
    ·rw [if_neg ha] at hN
     exact ⟨_, _, _, by omega, hN⟩
  obtain ⟨kd, n, a, ha, n0, hn0⟩ := hN
  obtain ⟨R, hR, hrel⟩ := verb_bad ps ha f e 0 fl wk wd kd n he hp
  refine ⟨R, Ans.succ ⟨n0, fun k hk => ?_⟩, hrel⟩
  simp only [d_reader_read.j1]
  rw [now_in h0 h, hb]
  simp only [Option.bind_some, if_true]
  have e3 : d_reader_number.f k T (at_ + 1) f e ⟨#[]⟩ 0 fl wk wd 0 0 1 = some (kd, n, T, a, f, e, ⟨#[]⟩, 0, fl, wk, wd, 0, 0) := hn0 k hk
  rw [hq, e3]
  simp only [Option.bind_some]
  rw [hR]
  rfl
 ·obtain ⟨R, hR, hrel⟩ := verb_bad ps h0 f e 0 fl wk wd 0 0 he hp
  refine ⟨R, Ans.succ (Ans.of fun k => ?_), hrel⟩
  simp only [d_reader_read.j1]
  by_cases h : at_ < (T.size : Int)
  ·rw [now_in h0 h]
   simp only [Option.bind_some]
   rw [if_neg (fun hb => hdot ⟨h, hb⟩), hR]
   rfl
  ·rw [now_out (by omega)]
   simp only [Option.bind_some]
   rw [if_neg (by decide), hR]
   rfl
theorem wid_rel (ps : List S25) {T : ByteArray} {s : St} {at_ : Int} (h0 : 0 ≤ at_) (h1 : at_ ≤ (T.size : Int)) (hT : T.size ≤ 1099511627776) (f fl : Int)
  (hs : ∀ c, at_ < (T.size : Int) → bt T at_ = cI c → step at_ s c = stFlg ps fl at_ c) (hn : ∀ c, at_ < (T.size : Int) → bt T at_ = cI c → ¬ 0 ≤ Lib.indexByte fL c) (hf : fin at_ s = ([], at_, 131)) :
  ∃ R, Ans (fun k => (d_reader_number.f k T at_ f 0 ⟨#[]⟩ 0 fl 0 0 0 0 0).bind fun b => d_reader_read.j1 k b.2.2.1 b.2.2.2.1 b.2.2.2.2.1 b.2.2.2.2.2.1 b.2.2.2.2.2.2.1 b.2.2.2.2.2.2.2.1 b.2.2.2.2.2.2.2.2.1 b.1 b.2.1 b.2.2.2.2.2.2.2.2.2.2.2.1 b.2.2.2.2.2.2.2.2.2.2.2.2) R ∧ RdRel ps T s at_ R := by
 by_cases hst : at_ < (T.size : Int) ∧ bt T at_ = 42
 ·obtain ⟨h, hb⟩ := hst
  obtain ⟨c, hc, hbc⟩ := rest_cons h0 h
  have hc42 : c = 42 := cI_inj (by rw [← hbc, hb]; decide)
  subst hc42
  obtain ⟨R, hR, hrel⟩ := j1_rel ps (s := .aw ps fl 2 0) (at_ := at_ + 1) (by omega) (by omega) hT f fl 2 0 (fun _ _ _ => rfl) rfl
  refine ⟨R, Ans.bind (a := (2, 0, T, at_ + 1, f, 0, ⟨#[]⟩, 0, fl, 0, 0, 0, 0)) (Ans.of fun k => ?_) hR, hrel.back ?_ (by omega)⟩
  ·rw [number_star h0 h hb, wrap_id (by omega) (by omega)]
  ·rw [hc]
   show parseL (step at_ s 42) (at_ + 1) _ = _
   rw [hs 42 h hbc]
   rfl
 ·have hne : at_ < (T.size : Int) → bt T at_ ≠ 42 := fun a b => hst ⟨a, b⟩
  obtain ⟨a, n', g1, g2, g3, g4, g5, g6, g7, g8, g9, g10⟩ := number_l0 hT 0 at_ f 0 ⟨#[]⟩ 0 fl 0 0 0 0 at_ h1 h0 (by omega) 0 (by omega) (by omega)
  have hN : Ans (fun k => d_reader_number.f k T at_ f 0 ⟨#[]⟩ 0 fl 0 0 0 0 0) (numR 0 at_ n' T a f 0 ⟨#[]⟩ 0 fl 0 0 0 0) := Ans.congr g10 fun k => number_else h0 hne k f 0 ⟨#[]⟩ 0 fl 0 0 0 0 0
  unfold numR at hN
  by_cases ha : a = at_
  ·subst ha
   rw [if_pos rfl] at hN
   obtain ⟨R, hR, hrel⟩ := j1_rel ps h0 g2 hT f fl 0 0 (s := s) (fun c hlt hbt => by
    rw [hs c hlt hbt]
    unfold stFlg
    rw [if_neg (hn c hlt hbt), g3 c hlt hbt, if_neg (by decide), if_neg (fun h42 => hne hlt (by rw [hbt, h42]; decide))]) hf
   exact ⟨R, Ans.bind hN hR, hrel⟩
  ·rw [if_neg ha] at hN
   have e2 : parseL s at_ (rest T at_) = parseL (.wid ps fl n' at_) a (rest T a) := by
    refine g9 (fun m => .wid ps fl m at_) _ (fun m p c hc => ?_) (fun c hlt hbt hc => ?_) (by omega)
    ·show (if isD c = true then _ else _) = _
     rw [if_pos hc]
    ·rw [hs c hlt hbt]
     unfold stFlg
     rw [if_neg (hn c hlt hbt), if_pos hc]
   by_cases hbig : n' > 4096
   ·rw [if_pos ⟨hbig, rfl⟩] at hN
    obtain ⟨R, hR, hrel⟩ := j1_bad ps (s := s) (at_ := a) (a2 := at_) (by omega) g2 hT at_ 6 fl 1 n' (by decide) (e2.trans (doomed_wid (by omega) g3 ps fl n' at_ hbig))
    exact ⟨R, Ans.bind hN hR, hrel⟩
   ·rw [if_neg (fun h => hbig h.1)] at hN
    obtain ⟨R, hR, hrel⟩ := j1_rel ps (s := .wid ps fl n' at_) (at_ := a) (by omega) g2 hT f fl 1 n' (fun c hlt hbt => by
     show (if isD c = true then _ else if n' > 4096 then _ else _) = _
     rw [g3 c hlt hbt, if_neg (by decide), if_neg hbig]) (by
     show (if n' > 4096 then _ else _) = _
     rw [if_neg hbig])
    exact ⟨R, Ans.bind hN hR, hrel.back e2 (by omega)⟩
theorem begins_ans {T : ByteArray} {at_ : Int} (h0 : 0 ≤ at_) (h : at_ < (T.size : Int)) (c : UInt8) (hc : bt T at_ = cI c) (f e : Int) (t : ByteArray) (a b w d g i : Int) :
  Ans (fun k => d_reader_begins.f k T at_ f e t a b w d g i) (partOf c, T, at_, f, e, t, a, b, w, d, g, i) := by
 refine ⟨2, fun k hk => ?_⟩
 obtain ⟨m, rfl⟩ : ∃ m, k = m + 2 := ⟨k - 2, by omega⟩
 exact begins_in h0 h c hc f e t a b w d g i m
theorem begins_end {T : ByteArray} {at_ : Int} (h : (T.size : Int) ≤ at_) (f e : Int) (t : ByteArray) (a b w d g i : Int) :
  Ans (fun k => d_reader_begins.f k T at_ f e t a b w d g i) (3, T, at_, f, e, t, a, b, w, d, g, i) := by
 refine ⟨2, fun k hk => ?_⟩
 obtain ⟨m, rfl⟩ : ∃ m, k = m + 2 := ⟨k - 2, by omega⟩
 exact begins_out h f e t a b w d g i m
theorem part_flag {c : UInt8} (h : partOf c = 0) : 0 ≤ Lib.indexByte fL c := by
 unfold partOf at h
 by_cases hx : 0 ≤ Lib.indexByte fL c
 ·exact hx
 ·rw [if_neg hx] at h
  split at h
  ·omega
  ·split at h <;> omega
theorem part_not {c : UInt8} (h : partOf c ≠ 0) : ¬ 0 ≤ Lib.indexByte fL c := by
 intro hx
 unfold partOf at h
 rw [if_pos hx] at h
 exact h rfl
theorem l0_rel (ps : List S25) {T : ByteArray} (hT : T.size ≤ 1099511627776) (f : Int) : ∀ at_, at_ ≤ (T.size : Int) → 0 ≤ at_ → ∀ fl,
  ∃ R, Ans (fun k => d_reader_read.l0 k T at_ f 0 ⟨#[]⟩ 0 fl 0 0 0 0) R ∧ RdRel ps T (.flg ps fl) at_ R := by
 refine left_ind fun at_ h1 ih h0 fl => ?_
 -- no flag stands there
 have go : ∀ b : Int, b ≠ 0 → Ans (fun k => d_reader_begins.f k T at_ f 0 ⟨#[]⟩ 0 fl 0 0 0 0) (b, T, at_, f, 0, ⟨#[]⟩, 0, fl, 0, 0, 0, 0) → (∀ c, at_ < (T.size : Int) → bt T at_ = cI c → ¬ 0 ≤ Lib.indexByte fL c) →
   ∃ R, Ans (fun k => d_reader_read.l0 k T at_ f 0 ⟨#[]⟩ 0 fl 0 0 0 0) R ∧ RdRel ps T (.flg ps fl) at_ R := by
  intro b hb0 hb hn
  obtain ⟨R, hR, hrel⟩ := wid_rel ps (s := .flg ps fl) h0 h1 hT f fl (fun c _ _ => rfl) hn rfl
  refine ⟨R, Ans.succ ?_, hrel⟩
  simp only [d_reader_read.l0]
  refine Ans.bind hb ?_
  simp only [if_neg hb0]
  exact hR
 by_cases h : at_ < (T.size : Int)
 ·obtain ⟨c, hc, hb⟩ := rest_cons h0 h
  have hbg := begins_ans h0 h c hb f 0 ⟨#[]⟩ 0 fl 0 0 0 0
  by_cases hp : partOf c = 0
  ·have hx := part_flag hp
   obtain ⟨R, hR, hrel⟩ := ih (at_ + 1) (by omega) (by omega) (by omega) (Go.bits .or .i64 fl (shl .i64 1 (Lib.indexByte fL c)))
   refine ⟨R, Ans.succ ?_, hrel.back ?_ (by omega)⟩
   ·simp only [d_reader_read.l0]
    refine Ans.bind hbg ?_
    simp only [hp, if_true]
    refine Ans.congr hR fun k => ?_
    rw [now_in h0 h, hb]
    simp only [Option.bind_some]
    rw [ixb]
    simp only [Option.bind_some]
    have hx' : 0 ≤ Lib.indexByte (⟨#[45, 43, 32, 35, 48]⟩ : ByteArray).data.toList c := hx
    rw [if_pos hx', wrap_id (x := at_ + 1) (by omega) (by omega)]
    rfl
   ·rw [hc]
    show parseL (stFlg ps fl at_ c) (at_ + 1) _ = _
    unfold stFlg
    rw [if_pos hx]
  ·exact go _ hp hbg fun d _ hd => by
    have : d = c := cI_inj (hd.symm.trans hb)
    rw [this]
    exact part_not hp
 ·exact go 3 (by decide) (begins_end (by omega) f 0 ⟨#[]⟩ 0 fl 0 0 0 0) fun d hd => absurd hd h
theorem read_rel (ps : List S25) {T : ByteArray} (hT : T.size ≤ 1099511627776) {at_ : Int} (h0 : 0 ≤ at_) (h1 : at_ ≤ (T.size : Int)) (hne : at_ < (T.size : Int) → bt T at_ ≠ 37) :
  ∃ R, Ans (fun k => d_reader_read.f k T at_ 0 0 ⟨#[]⟩ 0 0 0 0 0 0) R ∧ RdRel ps T (.pct ps) at_ R := by
 have hpct : ∀ c, at_ < (T.size : Int) → bt T at_ = cI c → step at_ (.pct ps) c = stFlg ps 0 at_ c := by
  intro c hlt hbt
  show (if c = 37 then _ else _) = _
  rw [if_neg (fun h37 => hne hlt (by rw [hbt, h37]; decide))]
 by_cases h : at_ < (T.size : Int)
 ·obtain ⟨c, hc, hb⟩ := rest_cons h0 h
  have uq : ∀ d, bt T at_ = cI d → d = c := fun d hd => cI_inj (hd.symm.trans hb)
  have hbg := begins_ans h0 h c hb 0 0 ⟨#[]⟩ 0 0 0 0 0 0
  by_cases p0 : partOf c = 0
  ·obtain ⟨R, hR, hrel⟩ := l0_rel ps hT 0 at_ h1 h0 0
   refine ⟨R, ?_, hrel.back ?_ (by omega)⟩
   ·unfold d_reader_read.f
    refine Ans.bind hbg ?_
    simp only [p0, if_true]
    exact hR
   ·rw [hc]
    show parseL (step at_ (.pct ps) c) _ _ = parseL (step at_ (.flg ps 0) c) _ _
    rw [hpct c h hb]
    rfl
  ·have hn := part_not p0
   by_cases p1 : partOf c = 1
   ·obtain ⟨R, hR, hrel⟩ := wid_rel ps (s := .pct ps) h0 h1 hT 0 0 hpct (fun d _ hd => by rw [uq d hd]; exact hn) rfl
    refine ⟨R, ?_, hrel⟩
    unfold d_reader_read.f
    refine Ans.bind hbg ?_
    simp only [p1, if_true, if_neg (show ¬ (1 : Int) = 0 by decide)]
    exact hR
   ·have hnd : ¬ (isD c = true ∨ c = 42) := by
     intro hd
     apply p1
     unfold partOf
     rw [if_neg hn, if_pos hd]
    have hd0 : isD c = false := by
     cases hh : isD c
     ·rfl
     ·exact absurd (.inl hh) hnd
    have hflg : stFlg ps 0 at_ c = stAw ps 0 0 0 at_ c := by
     unfold stFlg
     rw [if_neg hn, hd0, if_neg (by decide), if_neg (fun h => hnd (.inr h))]
    by_cases p2 : partOf c = 2
    ·obtain ⟨R, hR, hrel⟩ := j1_rel ps (s := .pct ps) h0 h1 hT 0 0 0 0 (fun d hlt hd => by
      rw [hpct d hlt hd, uq d hd]
      exact hflg) rfl
     refine ⟨R, ?_, hrel⟩
     unfold d_reader_read.f
     refine Ans.bind hbg ?_
     simp only [p2, if_true, if_neg (show ¬ (2 : Int) = 0 by decide), if_neg (show ¬ (2 : Int) = 1 by decide)]
     exact hR
    ·have h46 : c ≠ 46 := by
      intro h46
      apply p2
      unfold partOf
      rw [if_neg hn, if_neg hnd, if_pos h46]
     obtain ⟨R, hR, hrel⟩ := verb_rel ps (s := .pct ps) h0 h1 hT 0 0 0 0 0 0 0 (fun d hlt hd => by
      rw [hpct d hlt hd, uq d hd, hflg]
      unfold stAw
      rw [if_neg h46]) rfl
     refine ⟨R, ?_, hrel⟩
     unfold d_reader_read.f
     refine Ans.bind hbg ?_
     refine Ans.of fun k => ?_
     simp only [if_neg p0, if_neg p1, if_neg p2]
     rw [hR]
     rfl
 ·obtain ⟨R, hR, hrel⟩ := verb_rel ps (s := .pct ps) h0 h1 hT 0 0 0 0 0 0 0 (fun d hlt => absurd hlt h) rfl
  refine ⟨R, ?_, hrel⟩
  unfold d_reader_read.f
  refine Ans.bind (begins_end (by omega) 0 0 ⟨#[]⟩ 0 0 0 0 0 0) ?_
  refine Ans.of fun k => ?_
  show (d_reader_verb.f T at_ 0 0 ⟨#[]⟩ 0 0 0 0 0 0).bind _ = _
  rw [hR]
  rfl
theorem ext_rest {T : ByteArray} {i : Int} : (T.extract i.toNat T.size).data.toList = rest T i := by
 unfold rest
 have hl : T.data.toList.length = T.size := by simp
 rw [ByteArray.data_extract, Array.toList_extract]
 unfold List.extract
 apply List.take_of_length_le
 rw [List.length_drop]
 omega
theorem rest_len {T : ByteArray} {i : Int} (h0 : 0 ≤ i) (h1 : i ≤ (T.size : Int)) : ((rest T i).length : Int) = T.size - i := by
 unfold rest
 have hl : T.data.toList.length = T.size := by simp
 rw [List.length_drop]
 omega
theorem ext_size_i {T : ByteArray} {i : Int} (h0 : 0 ≤ i) (h1 : i ≤ (T.size : Int)) : ((T.extract i.toNat T.size).size : Int) = T.size - i := by
 rw [ByteArray.size_extract]
 omega
theorem mk_of {x : ByteArray} {l : List UInt8} (h : x.data.toList = l) : x = ⟨l.toArray⟩ := by
 subst h
 rfl
theorem ix_neg (c : UInt8) : ∀ l, Lib.indexByte l c < 0 → ∀ x ∈ l, x ≠ c
 | [], _, _, hx => by cases hx
 | b :: l, h, x, hx => by
  simp only [Lib.indexByte] at h
  by_cases hb : (b == c) = true
  ·rw [if_pos hb] at h
   omega
  ·rw [if_neg hb] at h
   have hbc : b ≠ c := fun e => hb (by rw [e]; exact beq_self_eq_true c)
   have hlo : Lib.indexByte l c < 0 := by
    by_cases h1 : (Lib.indexByte l c == -1) = true
    ·have := eq_of_beq h1
     omega
    ·rw [if_neg h1] at h
     omega
   rcases List.mem_cons.1 hx with rfl | hx
   ·exact hbc
   ·exact ix_neg c l hlo x hx
theorem ix_pos (c : UInt8) : ∀ l, 0 ≤ Lib.indexByte l c → ∃ a r, l = a ++ c :: r ∧ (a.length : Int) = Lib.indexByte l c ∧ ∀ x ∈ a, x ≠ c
 | [], h => by simp [Lib.indexByte] at h
 | b :: l, h => by
  simp only [Lib.indexByte] at h ⊢
  by_cases hb : (b == c) = true
  ·rw [if_pos hb]
   have := eq_of_beq hb
   subst this
   exact ⟨[], l, rfl, rfl, fun x hx => by cases hx⟩
  ·rw [if_neg hb] at h ⊢
   have hbc : b ≠ c := fun e => hb (by rw [e]; exact beq_self_eq_true c)
   by_cases h1 : (Lib.indexByte l c == -1) = true
   ·rw [if_pos h1] at h
    omega
   ·rw [if_neg h1] at h ⊢
    have hlo : 0 ≤ Lib.indexByte l c := by
     have : Lib.indexByte l c ≠ -1 := fun e => h1 (by rw [e]; rfl)
     omega
    obtain ⟨a, r, e, hl, hx⟩ := ix_pos c l hlo
    refine ⟨b :: a, r, by rw [e]; rfl, by rw [List.length_cons]; omega, fun x hm => ?_⟩
    rcases List.mem_cons.1 hm with rfl | hm
    ·exact hbc
    ·exact hx x hm
theorem text_run (ps : List S25) : ∀ (a : List UInt8), (∀ x ∈ a, x ≠ 37) → ∀ cur p r, parseL (.text ps cur) p (a ++ r) = parseL (.text ps (cur ++ a)) (p + a.length) r
 | [], _, cur, p, r => by simp
 | b :: a, h, cur, p, r => by
  show parseL (step p (.text ps cur) b) (p + 1) (a ++ r) = _
  have : step p (.text ps cur) b = .text ps (cur ++ [b]) := by
   show (if b = 37 then _ else _) = _
   rw [if_neg (h b (by simp))]
  rw [this, text_run ps a (fun x hx => h x (by simp [hx]))]
  rw [List.append_assoc, List.length_cons]
  congr 1
  omega
theorem prefix_law {T : ByteArray} {i : Int} (h0 : 0 ≤ i) (h : i < (T.size : Int)) (hb : bt T i = 37) :
  strings_HasPrefix.f (T.extract i.toNat T.size) ⟨#[37, 37]⟩ = some (decide (i + 1 < (T.size : Int) ∧ bt T (i + 1) = 37)) := by
 have hs := ext_size_i h0 (by omega : i ≤ (T.size : Int))
 obtain ⟨c, hc, hbc⟩ := rest_cons h0 h
 have hc37 : c = 37 := cI_inj (by rw [← hbc, hb]; decide)
 subst hc37
 unfold strings_HasPrefix.f stringslite_HasPrefix.f
 have h2 : (((⟨#[37, 37]⟩ : ByteArray).size : Nat) : Int) = 2 := rfl
 rw [h2]
 by_cases hl : i + 1 < (T.size : Int)
 ·rw [if_pos (by omega), if_pos (by decide), if_pos (by omega)]
  simp only [Option.bind_some]
  congr 1
  obtain ⟨d, hd, hbd⟩ := rest_cons (by omega : 0 ≤ i + 1) hl
  have e : ((T.extract i.toNat T.size).extract 0 ((2 : Int) : Int).toNat).toList = [37, d] := by
   rw [Go.ByteArray.toList_eq, ByteArray.data_extract, Array.toList_extract, ext_rest, hc, hd]
   rfl
  have e2 : (⟨#[37, 37]⟩ : ByteArray).toList = [37, 37] := by rw [Go.ByteArray.toList_eq]
  rw [e, e2]
  by_cases hd37 : d = 37
  ·subst hd37
   rw [decide_eq_true ⟨hl, by rw [hbd]; decide⟩]
   rfl
  ·rw [decide_eq_false (fun h => hd37 (cI_inj (by rw [← hbd, h.2]; decide)))]
   exact beq_eq_false_iff_ne.2 (fun h => hd37 (by simpa using h))
 ·rw [if_neg (by omega)]
  simp only [Option.bind_some]
  rw [decide_eq_false (fun h => hl h.1)]
theorem parse_l0 {T : ByteArray} (hT : T.size ≤ 1099511627776) : ∀ i, i ≤ (T.size : Int) → 0 ≤ i → ∀ ps : List S25, (ps.length : Int) + (T.size - i) < 2199023255552 →
  Ans (fun k => d_Parse.l0 k T ps i) (parseL (.text ps []) i (rest T i)) := by
 refine left_ind fun i h1 ih h0 ps hps => ?_
 refine Ans.succ ?_
 simp only [d_Parse.l0]
 by_cases h : i < (T.size : Int)
 ·have h37 : ((37 : Int).toNat.toUInt8) = (37 : UInt8) := rfl
  have hx : xIndexByte.f (T.extract i.toNat T.size) 37 = some (Lib.indexByte (rest T i) 37) := by
   unfold xIndexByte.f
   rw [ext_rest, h37]
  have hsz := ext_size_i h0 h1
  have hlen := rest_len h0 h1
  have hpl : ps.length < 2199023255552 := by omega
  rw [hx]
  simp only [Option.bind_some, if_pos h, if_pos h0, if_pos h1]
  by_cases hn : Lib.indexByte (rest T i) 37 < 0
  ·simp only [if_pos hn]
   have a1 : (0 : Int) ≤ ((T.extract i.toNat T.size).size : Int) := by omega
   have a2 : ((T.extract i.toNat T.size).size : Int) ≤ ((T.extract i.toNat T.size).size : Int) := by omega
   simp only [if_pos a1, if_pos a2, if_pos hpl]
   have e1 : (T.extract i.toNat T.size).extract 0 (((T.extract i.toNat T.size).size : Int) : Int).toNat = ⟨(rest T i).toArray⟩ := by
    apply mk_of
    rw [Int.toNat_natCast, ByteArray.data_extract, Array.toList_extract]
    unfold List.extract
    rw [ext_rest, List.drop_zero]
    apply List.take_of_length_le
    omega
   rw [e1, wrap_id (x := i + ((T.extract i.toNat T.size).size : Int)) (by omega) (by omega), hsz, show i + ((T.size : Int) - i) = T.size by omega]
   have hi := ih (T.size : Int) h (by omega) (by omega) (ps ++ [tp (rest T i)]) (by rw [List.length_append]; simp; omega)
   rw [rest_nil (by omega : (T.size : Int) ≤ T.size)] at hi
   have e2 : parseL (.text ps []) i (rest T i) = parseL (.text (ps ++ [tp (rest T i)]) []) (T.size : Int) [] := by
    have := text_run ps (rest T i) (ix_neg 37 _ hn) [] i []
    rw [List.append_nil] at this
    rw [this, List.nil_append]
    show (ps ++ opt (rest T i), (0 : Int), (0 : Int)) = ((ps ++ [tp (rest T i)]) ++ opt [], (0 : Int), (0 : Int))
    have hne : rest T i ≠ [] := by
     intro he
     rw [he] at hlen
     simp at hlen
     omega
    simp [opt, hne]
   rw [e2]
   exact hi
  ·simp only [if_neg hn]
   obtain ⟨a, r, ea, ha, hax⟩ := ix_pos 37 (rest T i) (by omega)
   have hal : i + (a.length : Int) < T.size := by
    rw [ea] at hlen
    simp at hlen
    omega
   have hr2 : rest T (i + a.length) = 37 :: r := by
    have : rest T (i + a.length) = (rest T i).drop a.length := by
     unfold rest
     rw [List.drop_drop, show (i + (a.length : Int)).toNat = i.toNat + a.length by omega]
    rw [this, ea]
    simp
   by_cases hp : Lib.indexByte (rest T i) 37 > 0
   ·simp only [if_pos hp]
    have a1 : (0 : Int) ≤ Lib.indexByte (rest T i) 37 := by omega
    have a2 : Lib.indexByte (rest T i) 37 ≤ ((T.extract i.toNat T.size).size : Int) := by omega
    simp only [if_pos a1, if_pos a2, if_pos hpl]
    have e1 : (T.extract i.toNat T.size).extract 0 (Lib.indexByte (rest T i) 37).toNat = ⟨a.toArray⟩ := by
     apply mk_of
     rw [← ha, Int.toNat_natCast, ByteArray.data_extract, Array.toList_extract]
     unfold List.extract
     rw [ext_rest, List.drop_zero, ea]
     simp
    rw [e1, ← ha, wrap_id (x := i + (a.length : Int)) (by omega) (by omega)]
    have hi := ih (i + a.length) (by omega) (by omega) (by omega) (ps ++ [tp a]) (by rw [List.length_append]; simp; omega)
    have e2 : parseL (.text ps []) i (rest T i) = parseL (.text (ps ++ [tp a]) []) (i + a.length) (rest T (i + a.length)) := by
     rw [hr2, ea, text_run ps a hax, List.nil_append]
     show parseL (.pct (ps ++ opt a)) _ r = parseL (.pct ((ps ++ [tp a]) ++ opt [])) _ r
     have hne : a ≠ [] := by
      rintro rfl
      simp at ha
      omega
     simp [opt, hne]
    rw [e2]
    exact hi
   ·have ha0 : a = [] := by
     have : a.length = 0 := by omega
     exact List.length_eq_zero_iff.1 this
    subst ha0
    simp only [List.nil_append] at ea
    simp only [if_neg hp]
    obtain ⟨c, hc, hb⟩ := rest_cons h0 h
    have hc37 : c = 37 := by
     rw [ea] at hc
     injection hc with h1 _
     exact h1.symm
    subst hc37
    have hb37 : bt T i = 37 := by rw [hb]; decide
    rw [prefix_law h0 h hb37]
    simp only [Option.bind_some]
    have ep : parseL (.text ps []) i (rest T i) = parseL (.pct ps) (i + 1) (rest T (i + 1)) := by
     rw [hc]
     show parseL (.pct (ps ++ opt [])) _ _ = _
     simp [opt]
    rw [ep]
    by_cases hpp : i + 1 < (T.size : Int) ∧ bt T (i + 1) = 37
    ·simp only [decide_eq_true hpp, if_true, if_pos hpl]
     rw [wrap_id (x := i + 2) (by omega) (by omega)]
     obtain ⟨d, hd, hbd⟩ := rest_cons (by omega : 0 ≤ i + 1) hpp.1
     have hd37 : d = 37 := cI_inj (by rw [← hbd, hpp.2]; decide)
     subst hd37
     have hi := ih (i + 2) (by omega) (by omega) (by omega) (ps ++ [⟨⟨#[]⟩, 37, 0, 0, 0, 0, 0⟩]) (by rw [List.length_append]; simp; omega)
     have e2 : parseL (.pct ps) (i + 1) (rest T (i + 1)) = parseL (.text (ps ++ [⟨⟨#[]⟩, 37, 0, 0, 0, 0, 0⟩]) []) (i + 2) (rest T (i + 2)) := by
      rw [hd, show i + 1 + 1 = i + 2 by omega]
      show parseL (step (i + 1) (.pct ps) 37) (i + 1 + 1) _ = _
      rw [show i + 1 + 1 = i + 2 by omega]
      rfl
     rw [e2]
     exact hi
    ·simp only [decide_eq_false hpp, Bool.false_eq_true, if_false, xReader.f, Option.bind_some]
     rw [wrap_id (x := i + 1) (by omega) (by omega)]
     obtain ⟨R, hR, hrel⟩ := read_rel ps hT (at_ := i + 1) (by omega) (by omega) (fun hlt hbt => hpp ⟨hlt, hbt⟩)
     refine Ans.bind hR ?_
     by_cases he : R.2.2.2.1 = 0
     ·simp only [if_pos he, if_pos hpl]
      obtain ⟨g1, g2, g3⟩ := hrel.1 he
      rw [g3]
      exact ih R.2.1 (by omega) g2 (by omega) _ (by rw [List.length_append]; simp; omega)
     ·simp only [if_neg he]
      rw [hrel.2 he]
      exact Ans.ret _
 ·simp only [if_neg h]
  rw [rest_nil (by omega)]
  show Ans _ (ps ++ opt [], (0 : Int), (0 : Int))
  simp only [opt, if_true, List.append_nil]
  exact Ans.ret _
/-- What Parse answers. -/
def parse (T : List UInt8) : List S25 × Int × Int := parseL (.text [] []) 0 T
theorem parse_ans {T : ByteArray} (hT : T.size ≤ 1099511627776) : Ans (fun k => d_Parse.f k T) (parse T.data.toList) := by
 have := parse_l0 hT 0 (by omega) (by omega) [] (by simp; omega)
 have e : rest T 0 = T.data.toList := rfl
 rw [e] at this
 exact this
end Go.Proofs.YtlmijjekaelhcaaDoor.Pl
