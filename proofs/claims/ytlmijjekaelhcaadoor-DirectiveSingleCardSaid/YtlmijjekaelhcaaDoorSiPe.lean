/-
  Plain laws of the directive statements: the text of a piece, and that it is read back. Conditions: those in the statements.
-/
import Derived.Test.YtlmijjekaelhcaaDoorSiPa
import Derived.Test.YtlmijjekaelhcaaDoorSiPd
import Derived.Test.YtlmijjekaelhcaaDoorSiEDix26
import Derived.Lib.ItoaMem
set_option linter.unusedVariables false
set_option linter.unusedSimpArgs false
namespace Go.Proofs.YtlmijjekaelhcaaDoor.Pl
open Go.RowKit Go.Proofs.YtlmijjekaelhcaaDoorW.PrintWords Go.Proofs.YtlmijjekaelhcaaDoor.EDi Go.Proofs.YtlmijjekaelhcaaDoor.X
theorem dd_cap (u : Nat) (hu : u ≤ 4096) : Lib.decDigits u ≠ [] ∧ (∀ c ∈ Lib.decDigits u, isD c = true) ∧ (Lib.decDigits u).foldl cap 0 = (u : Int) ∧ (1 ≤ u → ∀ c r, Lib.decDigits u = c :: r → c ≠ 48) := by
  induction u using Nat.strongRecOn with
  | _ u ih =>
    have dg : ∀ d : Nat, d < 10 → isD (UInt8.ofNat (48 + d)) = true ∧ cI (UInt8.ofNat (48 + d)) = 48 + d := by
      intro d hd
      have : (UInt8.ofNat (48 + d)).toNat = 48 + d := by
        simp
        omega
      unfold isD cI
      rw [this]
      exact ⟨by simp; omega, by omega⟩
    by_cases h : u < 10
    · rw [Lib.decDigits_one h]
      obtain ⟨h1, h2⟩ := dg u h
      refine ⟨by simp, fun c hc => ?_, ?_, fun hu1 c r hc => ?_⟩
      · rw [List.mem_singleton.1 hc]
        exact h1
      · show cap 0 _ = _
        unfold cap mn
        rw [h2]
        omega
      · injection hc with hc _
        intro h48
        rw [← hc] at h48
        rw [h48] at h2
        have : cI 48 = 48 := by decide
        omega
    · obtain ⟨g1, g2, g3, g4⟩ := ih (u / 10) (by omega) (by omega)
      obtain ⟨h1, h2⟩ := dg (u % 10) (by omega)
      have e : Lib.decDigits u = Lib.decDigits (u / 10) ++ [UInt8.ofNat (48 + u % 10)] := by
        conv => lhs; rw [Lib.decDigits]
        rw [dif_neg h]
      rw [e]
      refine ⟨by simp, fun c hc => ?_, ?_, fun _ c r hc => ?_⟩
      · rcases List.mem_append.1 hc with hc | hc
        · exact g2 c hc
        · rw [List.mem_singleton.1 hc]
          exact h1
      · rw [List.foldl_append, g3]
        show cap _ _ = _
        unfold cap mn
        rw [h2]
        omega
      · cases hd : Lib.decDigits (u / 10) with
        | nil => exact absurd hd g1
        | cons a r' =>
          rw [hd] at hc
          injection hc with hc _
          rw [← hc]
          exact g4 (by omega) a r' hd
theorem dd_len (u : Nat) (hu : u ≤ 4096) : (Lib.decDigits u).length ≤ 4 := by
  by_cases h1 : u < 10
  · rw [Lib.decDigits_one h1]; simp
  · rw [Lib.decDigits, dif_neg h1, List.length_append]
    by_cases h2 : u / 10 < 10
    · rw [Lib.decDigits_one h2]; simp
    · rw [Lib.decDigits, dif_neg h2, List.length_append]
      by_cases h3 : u / 10 / 10 < 10
      · rw [Lib.decDigits_one h3]; simp
      · rw [Lib.decDigits, dif_neg h3, List.length_append]
        rw [Lib.decDigits_one (by omega)]; simp
theorem dig_run (F : Int → St) (hF : ∀ m p c, isD c = true → step p (F m) c = F (cap m c)) : ∀ (l : List UInt8), (∀ c ∈ l, isD c = true) → ∀ n p, runL (F n) p l = F (l.foldl cap n)
  | [], _, n, p => rfl
  | c :: l, h, n, p => by
    show runL (step p (F n) c) (p + 1) l = _
    rw [hF n p c (h c (by simp))]
    exact dig_run F hF l (fun x hx => h x (by simp [hx])) _ _
def on (fl j : Int) : Bool := Go.bits .and .i64 (shr .i64 fl j) 1 == 1
def sel (fl j : Int) (c : UInt8) : List UInt8 := if on fl j = true then [c] else []
def FT (fl : Int) : List UInt8 := sel fl 0 45 ++ (sel fl 1 43 ++ (sel fl 2 32 ++ (sel fl 3 35 ++ sel fl 4 48)))
def shL (kd n : Int) : List UInt8 := if kd = 2 then [42] else if kd = 1 then Lib.itoa n else []
def dirL (v fl wk wd pk pr : Int) : List UInt8 := 37 :: (FT fl ++ (shL wk wd ++ ((if pk = 0 then [] else 46 :: shL pk pr) ++ [v.toNat.toUInt8])))
theorem sel_len (fl j : Int) (c : UInt8) : (sel fl j c).length ≤ 1 := by
  unfold sel
  split <;> simp
theorem FT_len (fl : Int) : (FT fl).length ≤ 5 := by
  have := sel_len fl 0 45
  have := sel_len fl 1 43
  have := sel_len fl 2 32
  have := sel_len fl 3 35
  have := sel_len fl 4 48
  unfold FT
  simp only [List.length_append]
  omega
theorem shL_len {kd n : Int} (h0 : 0 ≤ n) (h1 : n ≤ 4096) : (shL kd n).length ≤ 4 := by
  unfold shL
  split
  · simp
  · split
    · have := dd_len n.toNat (by omega)
      unfold Lib.itoa
      rw [if_neg (by omega)]
      exact this
    · simp
theorem shown_law {kd n : Int} (h0 : -9223372036854775808 ≤ n) (h1 : n ≤ 9223372036854775807) : directive_shown.f kd n = some ⟨(shL kd n).toArray⟩ := by
  unfold directive_shown.f shL
  by_cases h2 : kd = 2
  · rw [if_pos h2, if_pos h2]
  · rw [if_neg h2, if_neg h2]
    by_cases h3 : kd = 1
    · rw [if_pos h3, if_pos h3]
      unfold xItoa.f
      rw [if_pos ⟨h0, h1⟩]
      rfl
    · rw [if_neg h3, if_neg h3]
theorem ba_app (a b : List UInt8) : (⟨a.toArray⟩ : ByteArray) ++ ⟨b.toArray⟩ = ⟨(a ++ b).toArray⟩ := by
  apply ByteArray.ext
  rw [ByteArray.data_append]
  simp
theorem ba_size (a : List UInt8) : (⟨a.toArray⟩ : ByteArray).size = a.length := rfl
theorem text_step (k : Nat) (x : List UInt8) (hx : x.length ≤ 100) {j : Int} (c : UInt8) (h0 : 0 ≤ j) (h5 : j < 5) (hc : (⟨#[45, 43, 32, 35, 48]⟩ : ByteArray).extract j.toNat (j + 1).toNat = ⟨#[c]⟩) (t : ByteArray) (v fl wk wd pk pr : Int) :
    directive_text.l0 (k + 1) ⟨x.toArray⟩ j t v fl wk wd pk pr = directive_text.l0 k ⟨(x ++ sel fl j c).toArray⟩ (j + 1) t v fl wk wd pk pr := by
  have hw : wrap64 (j + 1) = j + 1 := wrap_id (by omega) (by omega)
  simp only [directive_text.l0, if_pos h5, if_pos h0, hw]
  unfold sel on
  by_cases h : Go.bits .and .i64 (shr .i64 fl j) 1 = 1
  · have e1 : (⟨#[c]⟩ : ByteArray) = ⟨([c] : List UInt8).toArray⟩ := rfl
    rw [if_pos h, if_pos (by omega), if_pos (by omega), hc, e1, ba_size, ba_size, if_pos (by simp; omega), ba_app, if_pos (beq_iff_eq.2 h)]
  · rw [if_neg h, if_neg (by intro h'; exact h (eq_of_beq h')), List.append_nil]
theorem text_dir {t : ByteArray} {v fl wk wd pk pr : Int} (hv0 : v ≠ 0) (hv37 : v ≠ 37) (hw : 0 ≤ wd ∧ wd ≤ 4096) (hp : 0 ≤ pr ∧ pr ≤ 4096) : Ans (fun k => directive_text.f k t v fl wk wd pk pr) ⟨(dirL v fl wk wd pk pr).toArray⟩ := by
  refine ⟨6, fun k hk => ?_⟩
  obtain ⟨k, rfl⟩ : ∃ m, k = m + 6 := ⟨k - 6, by omega⟩
  unfold directive_text.f
  simp only [if_neg hv0, if_neg hv37]
  have e0 : (⟨#[37]⟩ : ByteArray) = ⟨([37] : List UInt8).toArray⟩ := rfl
  have s0 := sel_len fl 0 45
  have s1 := sel_len fl 1 43
  have s2 := sel_len fl 2 32
  have s3 := sel_len fl 3 35
  have s4 := sel_len fl 4 48
  rw [e0, text_step (k + 5) [37] (by simp) (j := 0) 45 (by omega) (by omega) (by decide)]
  rw [text_step (k + 4) _ (by simp; omega) (j := 0 + 1) 43 (by omega) (by omega) (by decide)]
  rw [text_step (k + 3) _ (by simp; omega) (j := 0 + 1 + 1) 32 (by omega) (by omega) (by decide)]
  rw [text_step (k + 2) _ (by simp; omega) (j := 0 + 1 + 1 + 1) 35 (by omega) (by omega) (by decide)]
  rw [text_step (k + 1) _ (by simp; omega) (j := 0 + 1 + 1 + 1 + 1) 48 (by omega) (by omega) (by decide)]
  have lw := shL_len (kd := wk) hw.1 hw.2
  have lp := shL_len (kd := pk) hp.1 hp.2
  simp only [directive_text.l0]
  rw [if_neg (by decide), shown_law (by omega) (by omega)]
  simp only [Option.bind_some, ba_size]
  rw [if_pos (by simp; omega)]
  have ev : strOfNums [v] = ⟨([v.toNat.toUInt8] : List UInt8).toArray⟩ := rfl
  have efin : ∀ z : List UInt8, 37 :: (FT fl ++ z) = [37] ++ sel fl 0 45 ++ sel fl (0 + 1) 43 ++ sel fl (0 + 1 + 1) 32 ++ sel fl (0 + 1 + 1 + 1) 35 ++ sel fl (0 + 1 + 1 + 1 + 1) 48 ++ z := by
    intro z
    unfold FT
    simp
  unfold dirL
  by_cases hpk : pk = 0
  · rw [if_pos hpk, if_pos hpk, ev, ba_app, ba_size, ba_size, if_pos (by simp; omega), ba_app, efin]
    simp
  · rw [if_neg hpk, if_neg hpk, shown_law (by omega) (by omega)]
    have e46 : (⟨#[46]⟩ : ByteArray) = ⟨([46] : List UInt8).toArray⟩ := rfl
    simp only [Option.bind_some, e46, ev, ba_app, ba_size]
    rw [if_pos (by omega), if_pos (by simp; omega), if_pos (by simp; omega), efin]
    simp
def acc (fl a j : Int) : Int := if on fl j = true then Go.bits .or .i64 a (shl .i64 1 j) else a
theorem acc_all : ∀ n : Fin 32, acc ((n.val : Nat) : Int) (acc ((n.val : Nat) : Int) (acc ((n.val : Nat) : Int) (acc ((n.val : Nat) : Int) (acc ((n.val : Nat) : Int) 0 0) 1) 2) 3) 4 = ((n.val : Nat) : Int) := by decide
theorem acc_eq {fl : Int} (h0 : 0 ≤ fl) (h1 : fl ≤ 31) : acc fl (acc fl (acc fl (acc fl (acc fl 0 0) 1) 2) 3) 4 = fl := by
  have := acc_all ⟨fl.toNat, by omega⟩
  have e : ((fl.toNat : Nat) : Int) = fl := by omega
  simp only [e] at this
  exact this
/-- Behind a % and flags worth f. -/
def Q (ps : List S25) (f : Int) (s : St) : Prop := (s = .pct ps ∧ f = 0) ∨ s = .flg ps f
theorem q_step {ps : List S25} {f : Int} {s : St} (h : Q ps f s) (p : Int) {c : UInt8} (hc : c ≠ 37) : step p s c = stFlg ps f p c := by
  rcases h with ⟨rfl, rfl⟩ | rfl
  · show (if c = 37 then _ else _) = _
    rw [if_neg hc]
  · rfl
theorem q_sel {ps : List S25} {f fl : Int} {s : St} (h : Q ps f s) (p j : Int) (c : UInt8) (hc : c ≠ 37) (hx : Lib.indexByte fL c = j) (hj : 0 ≤ j) : Q ps (acc fl f j) (runL s p (sel fl j c)) := by
  unfold sel acc
  by_cases hon : on fl j = true
  · rw [if_pos hon, if_pos hon]
    show Q ps _ (step p s c)
    rw [q_step h p hc]
    unfold stFlg
    rw [hx, if_pos hj]
    exact .inr rfl
  · rw [if_neg hon, if_neg hon]
    exact h
theorem q_flags {ps : List S25} {fl : Int} (h0 : 0 ≤ fl) (h1 : fl ≤ 31) (p : Int) : Q ps fl (runL (.pct ps) p (FT fl)) := by
  unfold FT
  simp only [runL_append]
  have a0 : Q ps 0 (.pct ps) := .inl ⟨rfl, rfl⟩
  have a1 := q_sel (fl := fl) a0 p 0 45 (by decide) (by decide) (by decide)
  have a2 := q_sel (fl := fl) a1 (p + (sel fl 0 45).length) 1 43 (by decide) (by decide) (by decide)
  have a3 := q_sel (fl := fl) a2 (p + (sel fl 0 45).length + (sel fl 1 43).length) 2 32 (by decide) (by decide) (by decide)
  have a4 := q_sel (fl := fl) a3 (p + (sel fl 0 45).length + (sel fl 1 43).length + (sel fl 2 32).length) 3 35 (by decide) (by decide) (by decide)
  have this := q_sel (fl := fl) a4 (p + (sel fl 0 45).length + (sel fl 1 43).length + (sel fl 2 32).length + (sel fl 3 35).length) 4 48 (by decide) (by decide) (by decide)
  rw [acc_eq h0 h1] at this
  exact this
/-- No percent, flag, digit, star. -/
def Plain (c : UInt8) : Prop := c ≠ 37 ∧ ¬ 0 ≤ Lib.indexByte fL c ∧ isD c = false ∧ c ≠ 42
theorem plain_46 : Plain 46 := ⟨by decide, by decide, by decide, by decide⟩
theorem verb_plain {c : UInt8} (h : 0 ≤ Lib.indexByte vL c) : Plain c ∧ c ≠ 46 := by
  obtain ⟨a, r, e, _, _⟩ := ix_pos c vL h
  have hm : c ∈ vL := by rw [e]; simp
  have all : ∀ c ∈ vL, (c ≠ 37 ∧ ¬ 0 ≤ Lib.indexByte fL c ∧ isD c = false ∧ c ≠ 42) ∧ c ≠ 46 := by decide
  exact all c hm
theorem dig_flag {c : UInt8} (h : isD c = true) (h48 : c ≠ 48) : ¬ 0 ≤ Lib.indexByte fL c ∧ c ≠ 37 := by
  refine ⟨fun hx => ?_, fun h37 => ?_⟩
  · obtain ⟨a, r, e, _, _⟩ := ix_pos c fL hx
    have hm : c ∈ fL := by rw [e]; simp
    have all : ∀ c ∈ fL, isD c = true → c = 48 := by decide
    exact h48 (all c hm h)
  · subst h37
    exact absurd h (by decide)
theorem itoa_nat {n : Int} (h0 : 0 ≤ n) : Lib.itoa n = Lib.decDigits n.toNat := by
  unfold Lib.itoa
  rw [if_neg (by omega)]
/-- Behind the width. -/
theorem wid_run {ps : List S25} {fl : Int} {s : St} (h : Q ps fl s) (p : Int) {wk wd : Int} (hw : Cnt wk wd 1) :
    ∀ q c, Plain c → step q (runL s p (shL wk wd)) c = stAw ps fl wk wd q c := by
  unfold shL
  rcases hw with ⟨rfl, h1, h2⟩ | ⟨rfl | rfl, rfl⟩
  · rw [if_neg (by decide), if_pos rfl, itoa_nat (by omega)]
    obtain ⟨g1, g2, g3, g4⟩ := dd_cap wd.toNat (by omega)
    cases hd : Lib.decDigits wd.toNat with
    | nil => exact absurd hd g1
    | cons a r =>
      rw [hd] at g2 g3
      have ha := g2 a (by simp)
      have h48 := g4 (by omega) a r hd
      obtain ⟨f1, f2⟩ := dig_flag ha h48
      have e : runL s p (a :: r) = .wid ps fl wd p := by
        show runL (step p s a) (p + 1) r = _
        rw [q_step h p f2]
        unfold stFlg
        rw [if_neg f1, if_pos ha]
        rw [dig_run (fun m => .wid ps fl m p) (fun m q c hc => by show (if isD c = true then _ else _) = _; rw [if_pos hc]) r (fun c hc => g2 c (by simp [hc]))]
        have g3' : r.foldl cap (cap 0 a) = (wd.toNat : Int) := g3
        rw [g3']
        congr 1
        omega
      rw [e]
      intro q c hc
      show (if isD c = true then _ else if wd > 4096 then _ else _) = _
      rw [hc.2.2.1, if_neg (by decide), if_neg (by omega)]
  · rw [if_neg (by decide), if_neg (by decide)]
    intro q c hc
    show step q s c = _
    rw [q_step h q hc.1]
    unfold stFlg
    rw [if_neg hc.2.1, hc.2.2.1, if_neg (by decide), if_neg hc.2.2.2]
  · rw [if_pos rfl]
    have e : runL s p [42] = .aw ps fl 2 0 := by
      show step p s 42 = _
      rw [q_step h p (by decide)]
      rfl
    rw [e]
    intro q c hc
    rfl
/-- Behind the precision. -/
theorem prc_run {ps : List S25} {fl wk wd : Int} {s : St} (h : ∀ q c, Plain c → step q s c = stAw ps fl wk wd q c) (p : Int) {pk pr : Int} (hp : Cnt pk pr 0) :
    ∀ q c, Plain c → c ≠ 46 → step q (runL s p (if pk = 0 then [] else 46 :: shL pk pr)) c = verbT ps fl wk wd pk pr q c := by
  have e0 : ∀ z, runL s p (46 :: z) = runL (.pnt ps fl wk wd) (p + 1) z := by
    intro z
    show runL (step p s 46) (p + 1) z = _
    rw [h p 46 plain_46]
    rfl
  unfold shL
  rcases hp with ⟨rfl, h1, h2⟩ | ⟨rfl | rfl, rfl⟩
  · rw [if_neg (by decide), if_neg (by decide), if_pos rfl, e0, itoa_nat (by omega)]
    obtain ⟨g1, g2, g3, g4⟩ := dd_cap pr.toNat (by omega)
    cases hd : Lib.decDigits pr.toNat with
    | nil => exact absurd hd g1
    | cons a r =>
      rw [hd] at g2 g3
      have ha := g2 a (by simp)
      have e : runL (.pnt ps fl wk wd) (p + 1) (a :: r) = .prc ps fl wk wd pr (p + 1) := by
        show runL (stPnt ps fl wk wd (p + 1) a) (p + 1 + 1) r = _
        unfold stPnt
        rw [if_pos ha]
        rw [dig_run (fun m => .prc ps fl wk wd m (p + 1)) (fun m q c hc => by show (if isD c = true then _ else _) = _; rw [if_pos hc]) r (fun c hc => g2 c (by simp [hc]))]
        have g3' : r.foldl cap (cap 0 a) = (pr.toNat : Int) := g3
        rw [g3']
        congr 1
        omega
      rw [e]
      intro q c hc _
      show (if isD c = true then _ else if pr > 4096 then _ else _) = _
      rw [hc.2.2.1, if_neg (by decide), if_neg (by omega)]
  · rw [if_pos rfl]
    intro q c hc h46
    show step q s c = _
    rw [h q c hc]
    unfold stAw
    rw [if_neg h46]
  · rw [if_neg (by decide), if_pos rfl, e0]
    intro q c hc h46
    rfl
theorem dir_run {t : ByteArray} {v fl wk wd pk pr : Int} (h : InF t v fl wk wd pk pr) (h2 : I64 fl) (hv : 0 ≤ v ∧ v ≤ 255) (ps : List S25) (cur : List UInt8) (p : Int) :
    runL (.text ps cur) p (dirL v fl wk wd pk pr) = .text ((ps ++ opt cur) ++ [⟨t, v, fl, wk, wd, pk, pr⟩]) [] := by
  obtain ⟨g1, g2, g3, g4, g5, g6⟩ := h
  obtain ⟨f0, f1⟩ := flags_in h2.1 h2.2 g4
  have et : t = ⟨#[]⟩ := by
    rw [Go.ByteArray.toList_eq] at g1
    exact mk_of g1
  have ev : cI v.toNat.toUInt8 = v := by
    unfold cI
    have : (v.toNat.toUInt8).toNat = v.toNat := by
      simp
      omega
    rw [this]
    omega
  have hx : 0 ≤ Lib.indexByte vL v.toNat.toUInt8 := g3
  obtain ⟨pl, p46⟩ := verb_plain hx
  unfold dirL
  show runL (step p (.text ps cur) 37) (p + 1) _ = _
  have e1 : step p (.text ps cur) 37 = .pct (ps ++ opt cur) := rfl
  rw [e1, runL_append, runL_append, runL_append]
  have q1 := q_flags (ps := ps ++ opt cur) f0 f1 (p + 1)
  have q2 := wid_run q1 (p + 1 + (FT fl).length) g5
  have q3 := prc_run q2 (p + 1 + (FT fl).length + (shL wk wd).length) g6
  show step _ _ v.toNat.toUInt8 = _
  rw [q3 _ _ pl p46]
  unfold verbT
  rw [if_pos hx, ev, et]
def Pct (q : S25) : Prop := q = ⟨⟨#[]⟩, 37, 0, 0, 0, 0, 0⟩
def Txt (q : S25) : Prop := q.f0.toList ≠ ([] : List UInt8) ∧ q.f1 = 0 ∧ q.f2 = 0 ∧ q.f3 = 0 ∧ q.f4 = 0 ∧ q.f5 = 0 ∧ q.f6 = 0 ∧ Lib.indexByte q.f0.data.toList 37 < 0
def Dir (q : S25) : Prop := InF q.f0 q.f1 q.f2 q.f3 q.f4 q.f5 q.f6
def OkP (q : S25) : Prop := Dir q ∨ Pct q ∨ Txt q
theorem check_law (q : S25) (k : Nat) : (OkP q → directive_Check.f (k + 1) q.f0 q.f1 q.f2 q.f3 q.f4 q.f5 q.f6 = some 0) ∧ (¬ OkP q → directive_Check.f (k + 1) q.f0 q.f1 q.f2 q.f3 q.f4 q.f5 q.f6 = some 132) := by
  classical
  by_cases hd : Dir q
  · exact ⟨fun _ => check_yes hd k, fun h => absurd (.inl hd) h⟩
  · have base : directive_Check.f (k + 1) q.f0 q.f1 q.f2 q.f3 q.f4 q.f5 q.f6 = some (if Pct q ∨ Txt q then 0 else 132) := by
      unfold directive_Check.f
      rw [inForm_no hd]
      simp only [Option.bind_some, Bool.false_eq_true, if_false, directive_Check.j0]
      have e37 : ((37 : Int).toNat.toUInt8) = (37 : UInt8) := rfl
      by_cases h1 : (q.f0.toList == ([] : List UInt8) && (q.f1 == 37 && (q.f2 == 0 && (q.f3 == 0 && (q.f4 == 0 && (q.f5 == 0 && (q.f6 == 0))))))) = true
      · rw [if_pos h1]
        have hp : Pct q := by
          simp at h1
          obtain ⟨a, b, c, d, e, f, g⟩ := h1
          obtain ⟨x0, x1, x2, x3, x4, x5, x6⟩ := q
          simp only at a b c d e f g
          unfold Pct
          subst b c d e f g
          rw [Go.ByteArray.toList_eq] at a
          rw [mk_of a]
        rw [if_pos (.inl hp)]
      · rw [if_neg h1]
        have hnp : ¬ Pct q := by
          intro hp
          apply h1
          unfold Pct at hp
          rw [hp]
          have : (⟨#[]⟩ : ByteArray).toList = ([] : List UInt8) := by rw [Go.ByteArray.toList_eq]
          simp [this]
        by_cases h2 : q.f0.toList = ([] : List UInt8)
        · rw [if_pos h2, if_neg (fun h => h.elim hnp fun h => h.1 h2)]
        · rw [if_neg h2]
          by_cases h3 : (q.f1 == 0 && (q.f2 == 0 && (q.f3 == 0 && (q.f4 == 0 && (q.f5 == 0 && (q.f6 == 0)))))) = true
          · rw [if_pos h3]
            simp at h3
            obtain ⟨a, b, c, d, e, f⟩ := h3
            show (if Lib.indexByte q.f0.data.toList (37 : Int).toNat.toUInt8 < 0 then some (0 : Int) else some 132) = _
            rw [e37]
            by_cases h4 : Lib.indexByte q.f0.data.toList 37 < 0
            · rw [if_pos h4, if_pos (.inr ⟨h2, a, b, c, d, e, f, h4⟩)]
            · rw [if_neg h4, if_neg (fun h => h.elim hnp fun h => h4 h.2.2.2.2.2.2.2)]
          · rw [if_neg h3, if_neg (fun h => h.elim hnp fun h => h3 (by simp [h.2.1, h.2.2.1, h.2.2.2.1, h.2.2.2.2.1, h.2.2.2.2.2.1, h.2.2.2.2.2.2.1]))]
    by_cases h : Pct q ∨ Txt q
    · rw [if_pos h] at base
      exact ⟨fun _ => base, fun hn => absurd (.inr h) hn⟩
    · rw [if_neg h] at base
      exact ⟨fun ho => absurd ho (fun ho => ho.elim hd h), fun _ => base⟩
theorem check_ok {q : S25} (h : OkP q) : Ans (fun k => directive_Check.f k q.f0 q.f1 q.f2 q.f3 q.f4 q.f5 q.f6) 0 := Ans.succ (Ans.of fun k => (check_law q k).1 h)
theorem check_bad {q : S25} (h : ¬ OkP q) : Ans (fun k => directive_Check.f k q.f0 q.f1 q.f2 q.f3 q.f4 q.f5 q.f6) 132 := Ans.succ (Ans.of fun k => (check_law q k).2 h)
/-- The bytes of a piece's text. -/
def pL (q : S25) : List UInt8 := if q.f1 = 0 then q.f0.data.toList else if q.f1 = 37 then [37, 37] else dirL q.f1 q.f2 q.f3 q.f4 q.f5 q.f6
theorem cnt_range {k n l : Int} (h : Cnt k n l) (hl : 0 ≤ l) : 0 ≤ n ∧ n ≤ 4096 := by
  rcases h with ⟨_, h1, h2⟩ | ⟨_, h⟩ <;> omega
theorem text_ok {q : S25} (h : OkP q) : Ans (fun k => directive_text.f k q.f0 q.f1 q.f2 q.f3 q.f4 q.f5 q.f6) ⟨(pL q).toArray⟩ := by
  unfold pL
  by_cases h0 : q.f1 = 0
  · rw [if_pos h0]
    refine Ans.of fun k => ?_
    unfold directive_text.f
    rw [if_pos h0]
  · rw [if_neg h0]
    by_cases h37 : q.f1 = 37
    · rw [if_pos h37]
      refine Ans.of fun k => ?_
      unfold directive_text.f
      rw [if_neg h0, if_pos h37]
    · rw [if_neg h37]
      rcases h with h | h | h
      · exact text_dir h0 h37 (cnt_range h.2.2.2.2.1 (by decide)) (cnt_range h.2.2.2.2.2 (by decide))
      · unfold Pct at h
        rw [h] at h37
        exact absurd rfl h37
      · exact absurd h.2.1 h0
theorem pL_len {q : S25} (h : OkP q) : (pL q).length ≤ q.f0.size + 20 := by
  unfold pL
  by_cases h0 : q.f1 = 0
  · rw [if_pos h0, tl_len]
    omega
  · rw [if_neg h0]
    by_cases h37 : q.f1 = 37
    · rw [if_pos h37]
      show 2 ≤ _
      omega
    · rw [if_neg h37]
      rcases h with h | h | h
      · have l1 := FT_len q.f2
        have c1 := cnt_range h.2.2.2.2.1 (by decide)
        have c2 := cnt_range h.2.2.2.2.2 (by decide)
        have l2 := shL_len (kd := q.f3) c1.1 c1.2
        have l3 := shL_len (kd := q.f5) c2.1 c2.2
        have l4 : (if q.f5 = 0 then ([] : List UInt8) else 46 :: shL q.f5 q.f6).length ≤ 5 := by
          split
          · simp
          · rw [List.length_cons]
            omega
        unfold dirL
        rw [List.length_cons, List.length_append, List.length_append, List.length_append, List.length_singleton]
        omega
      · unfold Pct at h
        rw [h] at h37
        exact absurd rfl h37
      · exact absurd h.2.1 h0
def Rng (q : S25) : Prop := (0 ≤ q.f1 ∧ q.f1 ≤ 255) ∧ I64 q.f2
/-- A piece's text, read. -/
theorem piece_run {q : S25} (h : OkP q) (hr : Rng q) (ps : List S25) (cur : List UInt8) (hc : q.f1 = 0 → cur = []) (p : Int) :
    ∃ ps' cur', runL (.text ps cur) p (pL q) = .text ps' cur' ∧ ps' ++ opt cur' = (ps ++ opt cur) ++ [q] ∧ (q.f1 ≠ 0 → cur' = []) := by
  rcases h with h | h | h
  · have h0 : q.f1 ≠ 0 := h.2.1
    have h37 : q.f1 ≠ 37 := inF_not37 h
    have e : pL q = dirL q.f1 q.f2 q.f3 q.f4 q.f5 q.f6 := by
      unfold pL
      rw [if_neg h0, if_neg h37]
    rw [e, dir_run h hr.2 hr.1 ps cur p]
    refine ⟨_, _, rfl, ?_, fun _ => rfl⟩
    have e2 : opt ([] : List UInt8) = [] := rfl
    rw [e2, List.append_nil]
  · unfold Pct at h
    subst h
    refine ⟨(ps ++ opt cur) ++ [⟨⟨#[]⟩, 37, 0, 0, 0, 0, 0⟩], [], rfl, ?_, fun _ => rfl⟩
    have e2 : opt ([] : List UInt8) = [] := rfl
    rw [e2, List.append_nil]
  · have h0 : q.f1 = 0 := h.2.1
    have hc' := hc h0
    subst hc'
    have e : pL q = q.f0.data.toList := by
      unfold pL
      rw [if_pos h0]
    have hne : q.f0.data.toList ≠ [] := by
      have := h.1
      rwa [Go.ByteArray.toList_eq] at this
    have run : ∀ (a : List UInt8), (∀ x ∈ a, x ≠ 37) → ∀ (c : List UInt8) p, runL (.text ps c) p a = .text ps (c ++ a) := by
      intro a
      induction a with
      | nil => intro _ c p; simp [runL]
      | cons b a ih =>
        intro hx c p
        show runL (step p (.text ps c) b) (p + 1) a = _
        have : step p (.text ps c) b = .text ps (c ++ [b]) := by
          show (if b = 37 then _ else _) = _
          rw [if_neg (hx b (by simp))]
        rw [this, ih (fun x hm => hx x (by simp [hm]))]
        simp
    refine ⟨ps, q.f0.data.toList, ?_, ?_, fun h => absurd h0 h⟩
    · rw [e, run _ (ix_neg 37 _ h.2.2.2.2.2.2.2)]
      rfl
    · have e1 : opt ([] : List UInt8) = [] := rfl
      have e2 : opt q.f0.data.toList = [tp q.f0.data.toList] := by simp [opt, hne]
      rw [e1, e2, List.append_nil]
      congr 2
      obtain ⟨x0, x1, x2, x3, x4, x5, x6⟩ := q
      obtain ⟨_, a, b, c, d, e5, e6, _⟩ := h
      simp only at a b c d e5 e6 ⊢
      subst a b c d e5 e6
      rfl
def cat (l : List S25) : List UInt8 := (l.map pL).flatten
theorem cat_cons (q : S25) (l : List S25) : cat (q :: l) = pL q ++ cat l := rfl
theorem print_l1 (l : List S25) (hok : ∀ q ∈ l, OkP q) (hl : l.length ≤ 9223372036854775806) (hs : (cat l).length ≤ 140737488355328) : ∀ j, j ≤ (l.length : Int) → 0 ≤ j → ∀ x : List UInt8, x ++ cat (l.drop j.toNat) = cat l →
    Ans (fun k => directive_Print.l1 k ⟨x.toArray⟩ l (l.length : Int) j) (⟨(cat l).toArray⟩, 0) := by
  refine left_ind fun j hj ih h0 x hx => ?_
  refine Ans.succ ?_
  simp only [directive_Print.l1]
  by_cases h : j < (l.length : Int)
  · have hd := rd_drop h0 h
    have hq := hok _ (rd_mem h0 h)
    simp only [if_pos h, if_pos h0]
    refine Ans.bind (text_ok hq) ?_
    rw [hd, cat_cons] at hx
    have hlen := congrArg List.length hx
    simp only [List.length_append] at hlen
    have hfit : (⟨x.toArray⟩ : ByteArray).size + (⟨(pL (rd_T25 l j)).toArray⟩ : ByteArray).size ≤ 140737488355328 := by
      rw [ba_size, ba_size]
      omega
    simp only [if_pos hfit, ba_app]
    rw [wrap_id (x := j + 1) (by omega) (by omega)]
    refine ih (j + 1) (by omega) (by omega) (by omega) _ ?_
    rw [List.append_assoc]
    exact hx
  · rw [List.drop_eq_nil_of_le (by omega)] at hx
    have : x = cat l := by simpa [cat] using hx
    subst this
    simp only [if_neg h]
    exact Ans.ret _
theorem print_l0 (l : List S25) (hok : ∀ q ∈ l, OkP q) (hl : l.length ≤ 9223372036854775806) (hs : (cat l).length ≤ 16777216) : ∀ j, j ≤ (l.length : Int) → 0 ≤ j → ∀ n : Int, n + (cat (l.drop j.toNat)).length = (cat l).length → 0 ≤ n →
    Ans (fun k => directive_Print.l0 k l n l (l.length : Int) j) (⟨(cat l).toArray⟩, 0) := by
  refine left_ind fun j hj ih h0 n hn hn0 => ?_
  refine Ans.succ ?_
  simp only [directive_Print.l0]
  by_cases h : j < (l.length : Int)
  · have hd := rd_drop h0 h
    have hq := hok _ (rd_mem h0 h)
    simp only [if_pos h, if_pos h0]
    refine Ans.bind (check_ok hq) ?_
    simp only [if_true]
    refine Ans.bind (text_ok hq) ?_
    rw [hd, cat_cons, List.length_append] at hn
    simp only [ba_size]
    rw [wrap_id (x := n + ((pL (rd_T25 l j)).length : Int)) (by omega) (by omega), wrap_id (x := j + 1) (by omega) (by omega)]
    exact ih (j + 1) (by omega) (by omega) (by omega) _ (by omega) (by omega)
  · rw [List.drop_eq_nil_of_le (by omega)] at hn
    have e0 : (cat ([] : List S25)).length = 0 := rfl
    rw [e0] at hn
    simp only [if_neg h, if_neg (show ¬ n > 16777216 by omega)]
    exact print_l1 l hok hl (by omega) 0 (by omega) (by omega) [] rfl
/-- A piece that is none. -/
theorem print_bad (l : List S25) (hl : l.length ≤ 9223372036854775806) (i : Int) (hi0 : 0 ≤ i) (hi : i < (l.length : Int)) (hb : ¬ OkP (rd_T25 l i)) (hok : ∀ j, 0 ≤ j → j < i → OkP (rd_T25 l j)) : ∀ j, j ≤ i → 0 ≤ j → ∀ n : Int,
    ∃ t, Ans (fun k => directive_Print.l0 k l n l (l.length : Int) j) (t, 132) := by
  refine left_ind fun j hj ih h0 n => ?_
  by_cases h : j < i
  · have hq := hok j h0 h
    obtain ⟨t, ht⟩ := ih (j + 1) (by omega) (by omega) (by omega) (wrap64 (n + ((pL (rd_T25 l j)).length : Int)))
    refine ⟨t, Ans.succ ?_⟩
    simp only [directive_Print.l0, if_pos (show j < (l.length : Int) by omega), if_pos h0]
    refine Ans.bind (check_ok hq) ?_
    simp only [if_true]
    refine Ans.bind (text_ok hq) ?_
    simp only [ba_size]
    rw [wrap_id (x := j + 1) (by omega) (by omega)]
    exact ht
  · have : j = i := by omega
    subst this
    refine ⟨⟨#[]⟩, Ans.succ ?_⟩
    simp only [directive_Print.l0, if_pos hi, if_pos h0]
    refine Ans.bind (check_bad hb) ?_
    simp only [if_neg (show ¬ (132 : Int) = 0 by decide)]
    exact Ans.ret _
/-- No two texts side by side. -/
def Adj (l : List S25) : Prop := ∀ (i : Nat) a b, l[i]? = some a → l[i + 1]? = some b → ¬ (a.f1 = 0 ∧ b.f1 = 0)
theorem cat_run : ∀ (l : List S25), (∀ q ∈ l, OkP q) → (∀ q ∈ l, Rng q) → Adj l → ∀ ps cur p, (∀ q, l.head? = some q → q.f1 = 0 → cur = []) →
    ∃ ps' cur', runL (.text ps cur) p (cat l) = .text ps' cur' ∧ ps' ++ opt cur' = (ps ++ opt cur) ++ l
  | [], _, _, _, ps, cur, p, _ => ⟨ps, cur, rfl, by simp⟩
  | q :: l, hok, hr, ha, ps, cur, p, hc => by
    obtain ⟨ps1, cur1, h1, h2, h3⟩ := piece_run (hok q (by simp)) (hr q (by simp)) ps cur (hc q rfl) p
    obtain ⟨ps2, cur2, h4, h5⟩ := cat_run l (fun x hx => hok x (by simp [hx])) (fun x hx => hr x (by simp [hx])) (fun i a b hi hi' => ha (i + 1) a b hi hi') ps1 cur1 (p + (pL q).length) (fun x hx hx0 => by
      apply h3
      intro hq0
      cases l with
      | nil => cases hx
      | cons y l' =>
        injection hx with hx
        subst hx
        exact ha 0 q y rfl rfl ⟨hq0, hx0⟩)
    refine ⟨ps2, cur2, ?_, ?_⟩
    · rw [cat_cons, runL_append, h1]
      exact h4
    · rw [h5, h2]
      simp
theorem parse_cat {l : List S25} (hok : ∀ q ∈ l, OkP q) (hr : ∀ q ∈ l, Rng q) (ha : Adj l) : parse (cat l) = (l, 0, 0) := by
  obtain ⟨ps, cur, h1, h2⟩ := cat_run l hok hr ha [] [] 0 (fun _ _ _ => rfl)
  unfold parse
  rw [parseL_fin, h1]
  show (ps ++ opt cur, (0 : Int), (0 : Int)) = _
  rw [h2]
  rfl
theorem rd_get {l : List S25} {i : Nat} {a : S25} (h : l[i]? = some a) : rd_T25 l (i : Int) = a := by
  unfold rd_T25
  rw [List.getD_eq_getElem?_getD, Int.toNat_natCast, h]
  rfl
end Go.Proofs.YtlmijjekaelhcaaDoor.Pl
