/-
  Plain laws of the directive statements: a format behind another, same and Wants of one list, and DirectiveChain. Conditions: the texts' bytes are at most 2^38.
-/
import Derived.Test.YtlmijjekaelhcaaDoorChPc
import Derived.Test.YtlmijjekaelhcaaDoorChEDix28
set_option linter.unusedVariables false
set_option linter.unusedSimpArgs false
namespace Go.Proofs.YtlmijjekaelhcaaDoor.Pl
open Go.RowKit Go.Proofs.YtlmijjekaelhcaaDoorW.PrintWords Go.Proofs.YtlmijjekaelhcaaDoor.EDi Go.Proofs.YtlmijjekaelhcaaDoor.X
def merge (l m : List S25) : List S25 := match l.getLast?, m with
  | some a, b :: m' => if a.f1 = 0 ∧ b.f1 = 0 then l.dropLast ++ (⟨a.f0 ++ b.f0, b.f1, b.f2, b.f3, b.f4, b.f5, b.f6⟩ : S25) :: m' else l ++ b :: m'
  | _, m => l ++ m
theorem merge_nil (l : List S25) : merge l [] = l := by
  unfold merge
  split
  · rename_i h
    cases h
  · simp
theorem merge_no {l : List S25} {b : S25} {m : List S25} (h : ∀ a, l.getLast? = some a → ¬ (a.f1 = 0 ∧ b.f1 = 0)) : merge l (b :: m) = l ++ b :: m := by
  unfold merge
  split
  · rename_i a b' m' h1 h2
    injection h2 with h2 h3
    subst h2 h3
    rw [if_neg (h a h1)]
  · rfl
theorem merge_yes {l : List S25} {a b : S25} {m : List S25} (h1 : l.getLast? = some a) (h : a.f1 = 0 ∧ b.f1 = 0) :
    merge l (b :: m) = l.dropLast ++ (⟨a.f0 ++ b.f0, b.f1, b.f2, b.f3, b.f4, b.f5, b.f6⟩ : S25) :: m := by
  unfold merge
  rw [h1]
  simp only [if_pos h]
theorem merge_snoc (L ps : List S25) (p : S25) (h : ps ≠ [] ∨ p.f1 ≠ 0) : merge L (ps ++ [p]) = merge L ps ++ [p] := by
  cases ps with
  | nil =>
    have hp : p.f1 ≠ 0 := h.elim (fun h => absurd rfl h) id
    rw [List.nil_append, merge_nil, merge_no (fun a _ h => hp h.2)]
  | cons b m =>
    rw [List.cons_append]
    by_cases h1 : ∃ a, L.getLast? = some a ∧ a.f1 = 0 ∧ b.f1 = 0
    · obtain ⟨a, h1, h2⟩ := h1
      rw [merge_yes h1 h2, merge_yes h1 h2]
      simp
    · rw [merge_no (fun a h2 h3 => h1 ⟨a, h2, h3⟩), merge_no (fun a h2 h3 => h1 ⟨a, h2, h3⟩)]
      simp
def Ok (ps : List S25) : Prop := ∀ a, ps.getLast? = some a → a.f1 ≠ 0
theorem tp_append (a b : List UInt8) : (⟨(tp a).f0 ++ (tp b).f0, (tp b).f1, (tp b).f2, (tp b).f3, (tp b).f4, (tp b).f5, (tp b).f6⟩ : S25) = tp (a ++ b) := by
  unfold tp
  simp only [S25.mk.injEq, and_true]
  apply ByteArray.ext
  rw [ByteArray.data_append]
  simp
theorem merge_opt {ls : List S25} (hok : Ok ls) (cur c : List UInt8) : merge (ls ++ opt cur) (opt c) = ls ++ opt (cur ++ c) := by
  by_cases hc : c = []
  · subst hc
    simp [opt, merge_nil]
  · have ec : opt c = [tp c] := by simp [opt, hc]
    have ecc : opt (cur ++ c) = [tp (cur ++ c)] := by simp [opt, hc]
    rw [ec, ecc]
    by_cases hcur : cur = []
    · subst hcur
      simp only [opt, if_true, List.append_nil, List.nil_append]
      exact merge_no fun a ha h => hok a ha h.1
    · have e1 : opt cur = [tp cur] := by simp [opt, hcur]
      rw [e1, merge_yes (a := tp cur) (by simp) ⟨rfl, rfl⟩]
      simp [tp_append]
section
variable (ls : List S25) (cur : List UInt8) (d : Int)
def mg (ps : List S25) : List S25 := merge (ls ++ opt cur) ps
def Sh (s s' : St) : Prop := match s with
  | .text ps c => (ps = [] ∧ s' = .text ls (cur ++ c)) ∨ (ps ≠ [] ∧ s' = .text (mg ls cur ps) c)
  | .pct ps => s' = .pct (mg ls cur ps)
  | .flg ps fl => s' = .flg (mg ls cur ps) fl
  | .wid ps fl n st => s' = .wid (mg ls cur ps) fl n (st + d)
  | .aw ps fl wk wd => s' = .aw (mg ls cur ps) fl wk wd
  | .pnt ps fl wk wd => s' = .pnt (mg ls cur ps) fl wk wd
  | .prc ps fl wk wd n st => s' = .prc (mg ls cur ps) fl wk wd n (st + d)
  | .ap ps fl wk wd pk pr => s' = .ap (mg ls cur ps) fl wk wd pk pr
  | .bad a e => e ≠ 0 ∧ s' = .bad (a + d) e
end
theorem verb_ne {c : UInt8} (h : 0 ≤ Lib.indexByte vL c) : cI c ≠ 0 := by
  intro h0
  have : c = 0 := cI_inj h0
  subst this
  exact absurd h (by decide)
theorem sh_verbT {ls : List S25} {cur : List UInt8} {d : Int} (ps : List S25) (fl wk wd pk pr p : Int) (c : UInt8) : Sh ls cur d (verbT ps fl wk wd pk pr p c) (verbT (mg ls cur ps) fl wk wd pk pr (p + d) c) := by
  unfold verbT
  by_cases h : 0 ≤ Lib.indexByte vL c
  · rw [if_pos h, if_pos h]
    refine .inr ⟨by simp, ?_⟩
    unfold mg
    rw [merge_snoc _ _ _ (.inr (verb_ne h))]
  · rw [if_neg h, if_neg h]
    exact ⟨by decide, rfl⟩
theorem sh_stAw {ls : List S25} {cur : List UInt8} {d : Int} (ps : List S25) (fl wk wd p : Int) (c : UInt8) : Sh ls cur d (stAw ps fl wk wd p c) (stAw (mg ls cur ps) fl wk wd (p + d) c) := by
  unfold stAw
  by_cases h : c = 46
  · rw [if_pos h, if_pos h]
    rfl
  · rw [if_neg h, if_neg h]
    exact sh_verbT _ _ _ _ _ _ _ _
theorem sh_stFlg {ls : List S25} {cur : List UInt8} {d : Int} (ps : List S25) (fl p : Int) (c : UInt8) : Sh ls cur d (stFlg ps fl p c) (stFlg (mg ls cur ps) fl (p + d) c) := by
  unfold stFlg
  by_cases h : 0 ≤ Lib.indexByte fL c
  · rw [if_pos h, if_pos h]
    rfl
  · rw [if_neg h, if_neg h]
    by_cases h2 : isD c = true
    · rw [if_pos h2, if_pos h2]
      rfl
    · rw [if_neg h2, if_neg h2]
      by_cases h3 : c = 42
      · rw [if_pos h3, if_pos h3]
        rfl
      · rw [if_neg h3, if_neg h3]
        exact sh_stAw _ _ _ _ _ _
theorem sh_stPnt {ls : List S25} {cur : List UInt8} {d : Int} (ps : List S25) (fl wk wd p : Int) (c : UInt8) : Sh ls cur d (stPnt ps fl wk wd p c) (stPnt (mg ls cur ps) fl wk wd (p + d) c) := by
  unfold stPnt
  by_cases h2 : isD c = true
  · rw [if_pos h2, if_pos h2]
    rfl
  · rw [if_neg h2, if_neg h2]
    by_cases h3 : c = 42
    · rw [if_pos h3, if_pos h3]
      rfl
    · rw [if_neg h3, if_neg h3]
      exact sh_verbT _ _ _ _ _ _ _ _
theorem sh_step {ls : List S25} (hok : Ok ls) {cur : List UInt8} {d : Int} {s s' : St} (h : Sh ls cur d s s') (p : Int) (c : UInt8) : Sh ls cur d (step p s c) (step (p + d) s' c) := by
  cases s with
  | text ps t =>
    rcases h with ⟨rfl, rfl⟩ | ⟨hne, rfl⟩
    · show Sh ls cur d (if c = 37 then _ else _) (if c = 37 then _ else _)
      by_cases hc : c = 37
      · rw [if_pos hc, if_pos hc]
        show _ = _
        unfold mg
        rw [List.nil_append, merge_opt hok]
      · rw [if_neg hc, if_neg hc]
        exact .inl ⟨rfl, by rw [List.append_assoc]⟩
    · show Sh ls cur d (if c = 37 then _ else _) (if c = 37 then _ else _)
      by_cases hc : c = 37
      · rw [if_pos hc, if_pos hc]
        show _ = _
        unfold mg
        by_cases ht : t = []
        · simp [opt, ht]
        · have : opt t = [tp t] := by simp [opt, ht]
          rw [this, merge_snoc _ _ _ (.inl hne)]
      · rw [if_neg hc, if_neg hc]
        exact .inr ⟨hne, rfl⟩
  | pct ps =>
    obtain rfl : s' = _ := h
    show Sh ls cur d (if c = 37 then _ else _) (if c = 37 then _ else _)
    by_cases hc : c = 37
    · rw [if_pos hc, if_pos hc]
      refine .inr ⟨by simp, ?_⟩
      unfold mg
      rw [merge_snoc _ _ _ (.inr (by decide))]
    · rw [if_neg hc, if_neg hc]
      exact sh_stFlg _ _ _ _
  | flg ps fl =>
    obtain rfl : s' = _ := h
    exact sh_stFlg _ _ _ _
  | wid ps fl n st =>
    obtain rfl : s' = _ := h
    show Sh ls cur d (if isD c = true then _ else if n > 4096 then _ else _) (if isD c = true then _ else if n > 4096 then _ else _)
    by_cases h2 : isD c = true
    · rw [if_pos h2, if_pos h2]
      rfl
    · rw [if_neg h2, if_neg h2]
      by_cases h3 : n > 4096
      · rw [if_pos h3, if_pos h3]
        exact ⟨by decide, rfl⟩
      · rw [if_neg h3, if_neg h3]
        exact sh_stAw _ _ _ _ _ _
  | aw ps fl wk wd =>
    obtain rfl : s' = _ := h
    exact sh_stAw _ _ _ _ _ _
  | pnt ps fl wk wd =>
    obtain rfl : s' = _ := h
    exact sh_stPnt _ _ _ _ _ _
  | prc ps fl wk wd n st =>
    obtain rfl : s' = _ := h
    show Sh ls cur d (if isD c = true then _ else if n > 4096 then _ else _) (if isD c = true then _ else if n > 4096 then _ else _)
    by_cases h2 : isD c = true
    · rw [if_pos h2, if_pos h2]
      rfl
    · rw [if_neg h2, if_neg h2]
      by_cases h3 : n > 4096
      · rw [if_pos h3, if_pos h3]
        exact ⟨by decide, rfl⟩
      · rw [if_neg h3, if_neg h3]
        exact sh_verbT _ _ _ _ _ _ _ _
  | ap ps fl wk wd pk pr =>
    obtain rfl : s' = _ := h
    exact sh_verbT _ _ _ _ _ _ _ _
  | bad a e =>
    obtain ⟨h1, rfl⟩ := h
    exact ⟨h1, rfl⟩
def FinRel (L : List S25) (d : Int) (x y : List S25 × Int × Int) : Prop :=
  (x.2.2 = 0 → y = (merge L x.1, 0, 0)) ∧ (x.2.2 ≠ 0 → y = ([], x.2.1 + d, x.2.2))
theorem sh_fin {ls : List S25} (hok : Ok ls) {cur : List UInt8} {d : Int} {s s' : St} (h : Sh ls cur d s s') (p : Int) : FinRel (ls ++ opt cur) d (fin p s) (fin (p + d) s') := by
  have num : ∀ (n st : Int), FinRel (ls ++ opt cur) d (if n > 4096 then ([], st, 6) else ([], p, 131)) (if n > 4096 then ([], st + d, 6) else ([], p + d, 131)) := by
    intro n st
    by_cases hn : n > 4096
    · rw [if_pos hn, if_pos hn]
      exact ⟨fun h => absurd (show (6 : Int) = 0 from h) (by decide), fun _ => rfl⟩
    · rw [if_neg hn, if_neg hn]
      exact ⟨fun h => absurd (show (131 : Int) = 0 from h) (by decide), fun _ => rfl⟩
  have opn : FinRel (ls ++ opt cur) d ([], p, 131) ([], p + d, 131) := ⟨fun h => absurd (show (131 : Int) = 0 from h) (by decide), fun _ => rfl⟩
  cases s with
  | text ps t =>
    refine ⟨fun _ => ?_, fun h => absurd rfl h⟩
    rcases h with ⟨rfl, rfl⟩ | ⟨hne, rfl⟩
    · show (ls ++ opt (cur ++ t), (0 : Int), (0 : Int)) = (merge (ls ++ opt cur) ([] ++ opt t), 0, 0)
      rw [List.nil_append, merge_opt hok]
    · show (mg ls cur ps ++ opt t, (0 : Int), (0 : Int)) = (merge (ls ++ opt cur) (ps ++ opt t), 0, 0)
      unfold mg
      by_cases ht : t = []
      · simp [opt, ht]
      · have : opt t = [tp t] := by simp [opt, ht]
        rw [this, merge_snoc _ _ _ (.inl hne)]
  | wid ps fl n st =>
    obtain rfl : s' = _ := h
    exact num n st
  | prc ps fl wk wd n st =>
    obtain rfl : s' = _ := h
    exact num n st
  | bad a e =>
    obtain ⟨h1, rfl⟩ := h
    exact ⟨fun h => absurd h h1, fun _ => rfl⟩
  | pct ps =>
    obtain rfl : s' = _ := h
    exact opn
  | flg ps fl =>
    obtain rfl : s' = _ := h
    exact opn
  | aw ps fl wk wd =>
    obtain rfl : s' = _ := h
    exact opn
  | pnt ps fl wk wd =>
    obtain rfl : s' = _ := h
    exact opn
  | ap ps fl wk wd pk pr =>
    obtain rfl : s' = _ := h
    exact opn
theorem sh_run {ls : List S25} (hok : Ok ls) {cur : List UInt8} {d : Int} : ∀ (l : List UInt8) {s s' : St}, Sh ls cur d s s' → ∀ p, FinRel (ls ++ opt cur) d (parseL s p l) (parseL s' (p + d) l)
  | [], s, s', h, p => sh_fin hok h p
  | c :: l, s, s', h, p => by
    have := sh_run hok l (sh_step hok h p c) (p + 1)
    rw [show p + 1 + d = p + d + 1 by omega] at this
    exact this
def Inv (s : St) : Prop := match s with
  | .text ps _ => Ok ps
  | _ => True
theorem ok_snoc (ps : List S25) {p : S25} (h : p.f1 ≠ 0) : Ok (ps ++ [p]) := by
  intro a ha
  simp at ha
  rw [← ha]
  exact h
theorem inv_verbT (ps : List S25) (fl wk wd pk pr p : Int) (c : UInt8) : Inv (verbT ps fl wk wd pk pr p c) := by
  unfold verbT
  split
  · rename_i h
    exact ok_snoc _ (verb_ne h)
  · trivial
theorem inv_stAw (ps : List S25) (fl wk wd p : Int) (c : UInt8) : Inv (stAw ps fl wk wd p c) := by
  unfold stAw
  split
  · trivial
  · exact inv_verbT _ _ _ _ _ _ _ _
theorem inv_stFlg (ps : List S25) (fl p : Int) (c : UInt8) : Inv (stFlg ps fl p c) := by
  unfold stFlg
  split
  · trivial
  · split
    · trivial
    · split
      · trivial
      · exact inv_stAw _ _ _ _ _ _
theorem inv_stPnt (ps : List S25) (fl wk wd p : Int) (c : UInt8) : Inv (stPnt ps fl wk wd p c) := by
  unfold stPnt
  split
  · trivial
  · split
    · trivial
    · exact inv_verbT _ _ _ _ _ _ _ _
theorem inv_step (p : Int) (s : St) (c : UInt8) (h : Inv s) : Inv (step p s c) := by
  cases s with
  | text ps t =>
    show Inv (if c = 37 then _ else _)
    split
    · trivial
    · exact h
  | pct ps =>
    show Inv (if c = 37 then _ else _)
    split
    · exact ok_snoc _ (by decide)
    · exact inv_stFlg _ _ _ _
  | flg ps fl => exact inv_stFlg _ _ _ _
  | wid ps fl n st =>
    show Inv (if isD c = true then _ else if n > 4096 then _ else _)
    split
    · trivial
    · split
      · trivial
      · exact inv_stAw _ _ _ _ _ _
  | aw ps fl wk wd => exact inv_stAw _ _ _ _ _ _
  | pnt ps fl wk wd => exact inv_stPnt _ _ _ _ _ _
  | prc ps fl wk wd n st =>
    show Inv (if isD c = true then _ else if n > 4096 then _ else _)
    split
    · trivial
    · split
      · trivial
      · exact inv_verbT _ _ _ _ _ _ _ _
  | ap ps fl wk wd pk pr => exact inv_verbT _ _ _ _ _ _ _ _
  | bad a e => trivial
theorem inv_run : ∀ (u : List UInt8) (s : St) (p : Int), Inv s → Inv (runL s p u)
  | [], s, p, h => h
  | c :: u, s, p, h => inv_run u _ _ (inv_step p s c h)
theorem taken {A : List UInt8} (h : (parse A).2.2 = 0) : ∃ ls cur, runL (.text [] []) 0 A = .text ls cur ∧ Ok ls ∧ parse A = (ls ++ opt cur, 0, 0) := by
  have e : parse A = fin (A.length : Int) (runL (.text [] []) 0 A) := by
    unfold parse
    rw [parseL_fin, Int.zero_add]
  have e3 := bad_e A (.text [] []) 0 (fun h => h)
  have hi := inv_run A (.text [] []) 0 (by intro a ha; simp at ha)
  rw [e] at h ⊢
  generalize runL (.text [] []) 0 A = s at h e3 hi ⊢
  cases s with
  | text ls cur => exact ⟨ls, cur, rfl, hi, rfl⟩
  | bad a b =>
    have h0' : b = 0 := h
    have := e3 a b rfl
    omega
  | wid ps fl m st =>
    have h' : ((if m > 4096 then ([], st, 6) else ([], (A.length : Int), 131) : List S25 × Int × Int)).2.2 = 0 := h
    by_cases hm : m > 4096
    · rw [if_pos hm] at h'
      exact absurd (show (6 : Int) = 0 from h') (by decide)
    · rw [if_neg hm] at h'
      exact absurd (show (131 : Int) = 0 from h') (by decide)
  | prc ps fl wk wd m st =>
    have h' : ((if m > 4096 then ([], st, 6) else ([], (A.length : Int), 131) : List S25 × Int × Int)).2.2 = 0 := h
    by_cases hm : m > 4096
    · rw [if_pos hm] at h'
      exact absurd (show (6 : Int) = 0 from h') (by decide)
    · rw [if_neg hm] at h'
      exact absurd (show (131 : Int) = 0 from h') (by decide)
  | _ => exact absurd (show (131 : Int) = 0 from h) (by decide)
theorem parse_append {A B : List UInt8} (h : (parse A).2.2 = 0) : FinRel (parse A).1 A.length (parse B) (parse (A ++ B)) := by
  obtain ⟨ls, cur, h1, h2, h3⟩ := taken h
  rw [h3]
  have := sh_run h2 (cur := cur) (d := (A.length : Int)) B (s := .text [] []) (s' := .text ls cur) (.inl ⟨rfl, by rw [List.append_nil]⟩) 0
  have e : parse (A ++ B) = parseL (.text ls cur) (0 + A.length) B := by
    unfold parse
    rw [parseL_append, h1]
  rw [e]
  exact this
def sz (s : St) : Nat := match s with
  | .text ps t => ps.length + (opt t).length
  | .pct ps => ps.length
  | .flg ps _ => ps.length
  | .wid ps _ _ _ => ps.length
  | .aw ps _ _ _ => ps.length
  | .pnt ps _ _ _ => ps.length
  | .prc ps _ _ _ _ _ => ps.length
  | .ap ps _ _ _ _ _ => ps.length
  | .bad _ _ => 0
theorem opt_len (t : List UInt8) : (opt t).length ≤ 1 := by
  unfold opt
  split <;> simp
theorem sz_verbT (ps : List S25) (fl wk wd pk pr p : Int) (c : UInt8) : sz (verbT ps fl wk wd pk pr p c) ≤ ps.length + 1 := by
  unfold verbT
  split
  · simp [sz, opt]
  · simp [sz]
theorem sz_stAw (ps : List S25) (fl wk wd p : Int) (c : UInt8) : sz (stAw ps fl wk wd p c) ≤ ps.length + 1 := by
  unfold stAw
  split
  · simp [sz]
  · exact sz_verbT _ _ _ _ _ _ _ _
theorem sz_stFlg (ps : List S25) (fl p : Int) (c : UInt8) : sz (stFlg ps fl p c) ≤ ps.length + 1 := by
  unfold stFlg
  split
  · simp [sz]
  · split
    · simp [sz]
    · split
      · simp [sz]
      · exact sz_stAw _ _ _ _ _ _
theorem sz_stPnt (ps : List S25) (fl wk wd p : Int) (c : UInt8) : sz (stPnt ps fl wk wd p c) ≤ ps.length + 1 := by
  unfold stPnt
  split
  · simp [sz]
  · split
    · simp [sz]
    · exact sz_verbT _ _ _ _ _ _ _ _
theorem sz_step (p : Int) (s : St) (c : UInt8) : sz (step p s c) ≤ sz s + 1 := by
  cases s with
  | text ps t =>
    show sz (if c = 37 then _ else _) ≤ _
    split
    · simp [sz]
    · have := opt_len (t ++ [c])
      show ps.length + (opt (t ++ [c])).length ≤ _
      simp only [sz]
      omega
  | pct ps =>
    show sz (if c = 37 then _ else _) ≤ _
    split
    · simp [sz, opt]
    · exact sz_stFlg _ _ _ _
  | flg ps fl => exact sz_stFlg _ _ _ _
  | wid ps fl n st =>
    show sz (if isD c = true then _ else if n > 4096 then _ else _) ≤ _
    split
    · simp [sz]
    · split
      · simp [sz]
      · exact sz_stAw _ _ _ _ _ _
  | aw ps fl wk wd => exact sz_stAw _ _ _ _ _ _
  | pnt ps fl wk wd => exact sz_stPnt _ _ _ _ _ _
  | prc ps fl wk wd n st =>
    show sz (if isD c = true then _ else if n > 4096 then _ else _) ≤ _
    split
    · simp [sz]
    · split
      · simp [sz]
      · exact sz_verbT _ _ _ _ _ _ _ _
  | ap ps fl wk wd pk pr => exact sz_verbT _ _ _ _ _ _ _ _
  | bad a e => simp [sz, step]
theorem sz_run : ∀ (l : List UInt8) (s : St) (p : Int), (parseL s p l).1.length ≤ sz s + l.length
  | [], s, p => by
    show (fin p s).1.length ≤ _
    cases s <;> simp only [fin, sz, List.length_nil]
    all_goals first | (split <;> simp; done) | (simp; done) | skip
  | c :: l, s, p => by
    have h1 := sz_run l (step p s c) (p + 1)
    have h2 := sz_step p s c
    show (parseL (step p s c) (p + 1) l).1.length ≤ _
    rw [List.length_cons]
    omega
theorem parse_len (T : List UInt8) : (parse T).1.length ≤ T.length := by
  have := sz_run T (.text [] []) 0
  simpa [parse, sz, opt] using this
def All (b : Nat) (ps : List S25) : Prop := ∀ q ∈ ps, q.f0.size ≤ b
theorem All.mono {b b' : Nat} {ps : List S25} (h : All b ps) (hb : b ≤ b') : All b' ps := fun q hq => Nat.le_trans (h q hq) hb
theorem All.snoc {b : Nat} {ps : List S25} {q : S25} (h : All b ps) (hq : q.f0.size ≤ b) : All b (ps ++ [q]) := by
  intro x hx
  rcases List.mem_append.1 hx with hx | hx
  · exact h x hx
  · rw [List.mem_singleton.1 hx]
    exact hq
theorem All.opt {b : Nat} {ps : List S25} {t : List UInt8} (h : All b ps) (ht : t.length ≤ b) : All b (ps ++ opt t) := by
  unfold Pl.opt
  split
  · rw [List.append_nil]
    exact h
  · exact h.snoc (by show (⟨t.toArray⟩ : ByteArray).size ≤ b; exact ht)
def Gd (b : Nat) (s : St) : Prop := match s with
  | .text ps t => All b ps ∧ t.length ≤ b
  | .pct ps => All b ps
  | .flg ps _ => All b ps
  | .wid ps _ _ _ => All b ps
  | .aw ps _ _ _ => All b ps
  | .pnt ps _ _ _ => All b ps
  | .prc ps _ _ _ _ _ => All b ps
  | .ap ps _ _ _ _ _ => All b ps
  | .bad _ _ => True
theorem gd_verbT {b : Nat} {ps : List S25} (h : All b ps) (fl wk wd pk pr p : Int) (c : UInt8) : Gd b (verbT ps fl wk wd pk pr p c) := by
  unfold verbT
  split
  · exact ⟨h.snoc (Nat.zero_le _), Nat.zero_le _⟩
  · trivial
theorem gd_stAw {b : Nat} {ps : List S25} (h : All b ps) (fl wk wd p : Int) (c : UInt8) : Gd b (stAw ps fl wk wd p c) := by
  unfold stAw
  split
  · exact h
  · exact gd_verbT h _ _ _ _ _ _ _
theorem gd_stFlg {b : Nat} {ps : List S25} (h : All b ps) (fl p : Int) (c : UInt8) : Gd b (stFlg ps fl p c) := by
  unfold stFlg
  split
  · exact h
  · split
    · exact h
    · split
      · exact h
      · exact gd_stAw h _ _ _ _ _
theorem gd_stPnt {b : Nat} {ps : List S25} (h : All b ps) (fl wk wd p : Int) (c : UInt8) : Gd b (stPnt ps fl wk wd p c) := by
  unfold stPnt
  split
  · exact h
  · split
    · exact h
    · exact gd_verbT h _ _ _ _ _ _ _
theorem gd_step {b : Nat} {s : St} (h : Gd b s) (p : Int) (c : UInt8) : Gd (b + 1) (step p s c) := by
  cases s with
  | text ps t =>
    show Gd (b + 1) (if c = 37 then _ else _)
    split
    · exact (h.1.opt h.2).mono (Nat.le_succ b)
    · refine ⟨h.1.mono (Nat.le_succ b), ?_⟩
      have := h.2
      rw [List.length_append]
      simp
      omega
  | pct ps =>
    have h' : All (b + 1) ps := All.mono h (Nat.le_succ b)
    show Gd (b + 1) (if c = 37 then _ else _)
    split
    · exact ⟨h'.snoc (Nat.zero_le _), Nat.zero_le _⟩
    · exact gd_stFlg h' _ _ _
  | flg ps fl => exact gd_stFlg (All.mono h (Nat.le_succ b)) _ _ _
  | wid ps fl n st =>
    have h' : All (b + 1) ps := All.mono h (Nat.le_succ b)
    show Gd (b + 1) (if isD c = true then _ else if n > 4096 then _ else _)
    split
    · exact h'
    · split
      · trivial
      · exact gd_stAw h' _ _ _ _ _
  | aw ps fl wk wd => exact gd_stAw (All.mono h (Nat.le_succ b)) _ _ _ _ _
  | pnt ps fl wk wd => exact gd_stPnt (All.mono h (Nat.le_succ b)) _ _ _ _ _
  | prc ps fl wk wd n st =>
    have h' : All (b + 1) ps := All.mono h (Nat.le_succ b)
    show Gd (b + 1) (if isD c = true then _ else if n > 4096 then _ else _)
    split
    · exact h'
    · split
      · trivial
      · exact gd_verbT h' _ _ _ _ _ _ _
  | ap ps fl wk wd pk pr => exact gd_verbT (All.mono h (Nat.le_succ b)) _ _ _ _ _ _ _
  | bad a e => trivial
theorem gd_run : ∀ (l : List UInt8) {b : Nat} {s : St} (p : Int), Gd b s → All (b + l.length) (parseL s p l).1
  | [], b, s, p, h => by
    show All _ (fin p s).1
    cases s with
    | text ps t => exact h.1.opt h.2
    | wid ps fl n st =>
      show All _ (if n > 4096 then _ else _ : List S25 × Int × Int).1
      split
      · intro q hq
        cases hq
      · intro q hq
        cases hq
    | prc ps fl wk wd n st =>
      show All _ (if n > 4096 then _ else _ : List S25 × Int × Int).1
      split
      · intro q hq
        cases hq
      · intro q hq
        cases hq
    | _ =>
      intro q hq
      cases hq
  | c :: l, b, s, p, h => by
    have := gd_run l (p + 1) (gd_step h p c)
    show All _ (parseL (step p s c) (p + 1) l).1
    rw [List.length_cons, show b + (l.length + 1) = b + 1 + l.length by omega]
    exact this
theorem parse_all (T : List UInt8) : All T.length (parse T).1 := by
  have := gd_run T (b := 0) (s := .text [] []) 0 ⟨fun q hq => (by cases hq), Nat.le_refl _⟩
  rw [Nat.zero_add] at this
  exact this
theorem rd_mem {l : List S25} {j : Int} (h0 : 0 ≤ j) (h : j < (l.length : Int)) : rd_T25 l j ∈ l := by
  have hj : j.toNat < l.length := by omega
  unfold rd_T25
  rw [List.getD_eq_getElem?_getD, List.getElem?_eq_getElem hj]
  exact List.getElem_mem hj
theorem same_l0 (l : List S25) (hl : l.length ≤ 9223372036854775806) : ∀ j, j ≤ (l.length : Int) → 0 ≤ j → Ans (fun k => abacuslaw13_same.l0 k l l j) true := by
  refine left_ind fun j hj ih h0 => ?_
  refine Ans.succ ?_
  simp only [abacuslaw13_same.l0]
  by_cases h : j < (l.length : Int)
  · simp only [if_pos h, if_pos h0, beq_self_eq_true, Bool.not_true, Bool.or_false, Bool.false_eq_true, if_false]
    rw [wrap_id (x := j + 1) (by omega) (by omega)]
    exact ih (j + 1) (by omega) (by omega) (by omega)
  · simp only [if_neg h]
    exact Ans.ret _
theorem same_self (l : List S25) (hl : l.length ≤ 9223372036854775806) : Ans (fun k => abacuslaw13_same.f k l l) true := by
  unfold abacuslaw13_same.f
  simp only [if_true]
  exact same_l0 l hl 0 (by omega) (by omega)
theorem wants_l0 (l : List S25) (hl : l.length ≤ 9223372036854775806) : ∀ j, j ≤ (l.length : Int) → 0 ≤ j → ∀ n, ∃ r, Ans (fun k => directive_Wants.l0 k n l (l.length : Int) j) r := by
  refine left_ind fun j hj ih h0 n => ?_
  by_cases h : j < (l.length : Int)
  · have hw : wrap64 (j + 1) = j + 1 := wrap_id (by omega) (by omega)
    have nx : ∀ n, ∃ r, Ans (fun k => directive_Wants.l0 k n l (l.length : Int) (wrap64 (j + 1))) r := by
      rw [hw]
      exact ih (j + 1) (by omega) (by omega) (by omega)
    have j1 : ∀ b t v f wk w pk p, ∃ r, Ans (fun k => directive_Wants.j1 k n l (l.length : Int) j b t v f wk w pk p) r := by
      intro b t v f wk w pk p
      cases b
      · by_cases h1 : wk = 2
        · by_cases h2 : pk = 2
          · obtain ⟨r, hr⟩ := nx (wrap64 (wrap64 (wrap64 (n + 1) + 1) + 1))
            refine ⟨r, Ans.succ ?_⟩
            simp only [directive_Wants.j1, Bool.false_eq_true, if_false, if_pos h1, if_pos h2]
            exact hr
          · obtain ⟨r, hr⟩ := nx (wrap64 (wrap64 (n + 1) + 1))
            refine ⟨r, Ans.succ ?_⟩
            simp only [directive_Wants.j1, Bool.false_eq_true, if_false, if_pos h1, if_neg h2]
            exact hr
        · by_cases h2 : pk = 2
          · obtain ⟨r, hr⟩ := nx (wrap64 (wrap64 (n + 1) + 1))
            refine ⟨r, Ans.succ ?_⟩
            simp only [directive_Wants.j1, Bool.false_eq_true, if_false, if_neg h1, if_pos h2]
            exact hr
          · obtain ⟨r, hr⟩ := nx (wrap64 (n + 1))
            refine ⟨r, Ans.succ ?_⟩
            simp only [directive_Wants.j1, Bool.false_eq_true, if_false, if_neg h1, if_neg h2]
            exact hr
      · obtain ⟨r, hr⟩ := nx n
        refine ⟨r, Ans.succ ?_⟩
        simp only [directive_Wants.j1, if_true]
        exact hr
    by_cases hv : (rd_T25 l j).f1 = 0
    · obtain ⟨r, hr⟩ := j1 true (rd_T25 l j).f0 (rd_T25 l j).f1 (rd_T25 l j).f2 (rd_T25 l j).f3 (rd_T25 l j).f4 (rd_T25 l j).f5 (rd_T25 l j).f6
      refine ⟨r, Ans.succ ?_⟩
      simp only [directive_Wants.l0, if_pos h, if_pos h0, if_pos hv]
      exact hr
    · obtain ⟨r, hr⟩ := j1 ((rd_T25 l j).f1 == 37) (rd_T25 l j).f0 (rd_T25 l j).f1 (rd_T25 l j).f2 (rd_T25 l j).f3 (rd_T25 l j).f4 (rd_T25 l j).f5 (rd_T25 l j).f6
      refine ⟨r, Ans.succ ?_⟩
      simp only [directive_Wants.l0, if_pos h, if_pos h0, if_neg hv]
      exact hr
  · refine ⟨n, Ans.succ ?_⟩
    simp only [directive_Wants.l0, if_neg h]
    exact Ans.ret _
theorem wants_ans (l : List S25) (hl : l.length ≤ 9223372036854775806) : ∃ r, Ans (fun k => directive_Wants.f k l) r := by
  unfold directive_Wants.f
  exact wants_l0 l hl 0 (by omega) (by omega) 0
theorem rd_drop {l : List S25} {j : Int} (h0 : 0 ≤ j) (h : j < (l.length : Int)) : l.drop j.toNat = rd_T25 l j :: l.drop (j + 1).toNat := by
  have hj : j.toNat < l.length := by omega
  rw [List.drop_eq_getElem_cons hj, show (j + 1).toNat = j.toNat + 1 by omega]
  unfold rd_T25
  rw [List.getD_eq_getElem?_getD, List.getElem?_eq_getElem hj]
  rfl
theorem chain_l0 (m both : List S25) (hb : both.length < 2199023255552) (hm : m.length < 2199023255552) : ∀ j, j ≤ (m.length : Int) → 0 ≤ j → ∀ x, x ++ m.drop j.toNat = both → Ans (fun k => abacuslaw13_DirectiveChain.l0 k x m both 0 0 j) true := by
  refine left_ind fun j hj ih h0 x hx => ?_
  refine Ans.succ ?_
  simp only [abacuslaw13_DirectiveChain.l0]
  by_cases h : j < (m.length : Int)
  · have hd := rd_drop h0 h
    have hlen : x.length < 2199023255552 := by
      have := congrArg List.length hx
      rw [List.length_append] at this
      omega
    simp only [if_pos h, if_pos h0, if_pos hlen]
    rw [wrap_id (x := j + 1) (by omega) (by omega)]
    refine ih (j + 1) (by omega) (by omega) (by omega) _ ?_
    rw [← hx, hd]
    simp
  · have hx' : x = both := by
      rw [← hx, List.drop_eq_nil_of_le (by omega), List.append_nil]
    subst hx'
    simp only [if_neg h, if_true]
    refine Ans.bind (same_self x (by omega)) ?_
    simp only [if_true]
    obtain ⟨r, hr⟩ := wants_ans x (by omega)
    refine Ans.bind hr (Ans.bind hr (Ans.of fun k => ?_))
    simp
theorem chain_j1 (x m both : List S25) (hb : both.length < 2199023255552) (hx : x ++ m = both) : Ans (fun k => abacuslaw13_DirectiveChain.j1 k x m both 0 0) true := by
  refine Ans.succ ?_
  simp only [abacuslaw13_DirectiveChain.j1]
  have hm : m.length < 2199023255552 := by
    have := congrArg List.length hx
    rw [List.length_append] at this
    omega
  exact chain_l0 m both hb hm 0 (by omega) (by omega) x hx
theorem rd_last {l : List S25} (h : 0 < l.length) : l.getLast? = some (rd_T25 l ((l.length : Int) - 1)) := by
  unfold rd_T25
  rw [List.getLast?_eq_getElem?, List.getD_eq_getElem?_getD, show ((l.length : Int) - 1).toNat = l.length - 1 by omega, List.getElem?_eq_getElem (by omega : l.length - 1 < l.length)]
  rfl
theorem directiveChain_true (A B : ByteArray) (hA : A.size ≤ 274877906944) (hB : B.size ≤ 274877906944) : Ans (fun k => abacuslaw13_DirectiveChain.f k A B) true := by
  have lA := tl_len A
  have lB := tl_len B
  unfold abacuslaw13_DirectiveChain.f
  refine Ans.bind awake_ans' ?_
  simp only [if_true]
  refine Ans.bind (parse_ans (by omega : A.size ≤ 1099511627776)) ?_
  by_cases ha : (parse A.data.toList).2.2 = 0
  · simp only [if_pos ha]
    refine Ans.bind (parse_ans (by omega : B.size ≤ 1099511627776)) ?_
    simp only [if_pos (show A.size + B.size ≤ 9223372036854775807 by omega)]
    have hc := parse_ans (T := A ++ B) (by rw [ByteArray.size_append]; omega)
    rw [ByteArray.data_append, Array.toList_append] at hc
    refine Ans.bind hc ?_
    have rel := parse_append (B := B.data.toList) ha
    have len := parse_len (A.data.toList ++ B.data.toList)
    rw [List.length_append, lA, lB] at len
    have lenA := parse_len A.data.toList
    have lenB := parse_len B.data.toList
    rw [lA] at lenA rel
    rw [lB] at lenB
    have allA := parse_all A.data.toList
    have allB := parse_all B.data.toList
    rw [lA] at allA
    rw [lB] at allB
    have atB : (parse B.data.toList).2.2 ≠ 0 → 0 ≤ (parse B.data.toList).2.1 ∧ (parse B.data.toList).2.1 ≤ B.size := by
      intro h
      obtain ⟨_, hl | hr⟩ := fault_split B.data.toList (.text [] []) 0 (parse B.data.toList).1 (parse B.data.toList).2.1 (parse B.data.toList).2.2 (fun h => h) rfl h
      · obtain ⟨u, v, e1, e2, _⟩ := hl
        have := congrArg List.length e1
        rw [List.length_append, lB] at this
        omega
      · exact hr.1.elim
    generalize parse A.data.toList = pa at ha rel lenA allA ⊢
    generalize parse B.data.toList = pb at rel lenB atB allB ⊢
    generalize parse (A.data.toList ++ B.data.toList) = pc at rel len ⊢
    by_cases hb : pb.2.2 = 0
    · have epc := rel.1 hb
      subst epc
      simp only [if_pos hb]
      have plain : ∀ n, merge pa.1 pb.1 = pa.1 ++ pb.1 → Ans (fun k => abacuslaw13_DirectiveChain.j0 k pa.1 pb.1 (merge pa.1 pb.1) 0 0 n false) true := by
        intro n e
        refine Ans.succ ?_
        simp only [abacuslaw13_DirectiveChain.j0, Bool.false_eq_true, if_false]
        exact chain_j1 _ _ _ (show (merge pa.1 pb.1).length < 2199023255552 by have : (merge pa.1 pb.1).length ≤ _ := len; omega) e.symm
      by_cases h1 : (pa.1.length : Int) > 0
      · simp only [if_pos h1]
        by_cases h2 : (pb.1.length : Int) > 0
        · have hw : wrap64 ((pa.1.length : Int) - 1) = (pa.1.length : Int) - 1 := wrap_id (by omega) (by omega)
          simp only [if_pos h2, hw, if_pos (show (0 : Int) ≤ (pa.1.length : Int) - 1 by omega), if_pos (show (pa.1.length : Int) - 1 < (pa.1.length : Int) by omega)]
          have hlast := rd_last (l := pa.1) (by omega)
          have hm0 := rd_drop (l := pb.1) (j := 0) (by omega) (by omega)
          have em : pb.1 = rd_T25 pb.1 0 :: pb.1.drop 1 := hm0
          by_cases h3 : (rd_T25 pa.1 ((pa.1.length : Int) - 1)).f1 = 0
          · simp only [if_pos h3, if_pos (show (0 : Int) < (pb.1.length : Int) by omega)]
            by_cases h4 : (rd_T25 pb.1 0).f1 = 0
            · have e0 : ((rd_T25 pb.1 0).f1 == 0) = true := beq_iff_eq.2 h4
              simp only [e0]
              have emg : merge pa.1 pb.1 = pa.1.dropLast ++ (⟨(rd_T25 pa.1 ((pa.1.length : Int) - 1)).f0 ++ (rd_T25 pb.1 0).f0, (rd_T25 pb.1 0).f1, (rd_T25 pb.1 0).f2, (rd_T25 pb.1 0).f3, (rd_T25 pb.1 0).f4, (rd_T25 pb.1 0).f5, (rd_T25 pb.1 0).f6⟩ : S25) :: pb.1.drop 1 := by
                rw [em]
                exact merge_yes hlast ⟨h3, h4⟩
              have s1 := allA _ (rd_mem (l := pa.1) (j := (pa.1.length : Int) - 1) (by omega) (by omega))
              have s2 := allB _ (rd_mem (l := pb.1) (j := 0) (by omega) (by omega))
              refine Ans.succ ?_
              simp only [abacuslaw13_DirectiveChain.j0, if_true, hw, if_pos (show (0 : Int) ≤ (pa.1.length : Int) - 1 by omega), if_pos (show (pa.1.length : Int) - 1 < (pa.1.length : Int) by omega), if_pos (show (0 : Int) < (pb.1.length : Int) by omega),
                if_pos (show (rd_T25 pa.1 ((pa.1.length : Int) - 1)).f0.size + (rd_T25 pb.1 0).f0.size ≤ 9223372036854775807 by omega), if_pos (show (pa.1.length : Int) - 1 ≤ (pa.1.length : Int) by omega)]
              refine chain_j1 _ _ _ (show (merge pa.1 pb.1).length < 2199023255552 by have : (merge pa.1 pb.1).length ≤ _ := len; omega) ?_
              rw [emg, List.dropLast_eq_take, show ((pa.1.length : Int) - 1).toNat = pa.1.length - 1 by omega]
              congr 1
              have e5 : ∀ q, pb.1.set (0 : Int).toNat q = q :: pb.1.drop 1 := by
                intro q
                rw [em]
                rfl
              exact e5 _
            · have e0 : ((rd_T25 pb.1 0).f1 == 0) = false := beq_eq_false_iff_ne.2 h4
              simp only [e0]
              refine plain _ ?_
              rw [em]
              refine merge_no fun a h5 h6 => h4 h6.2
          · simp only [if_neg h3]
            refine plain _ ?_
            rw [em]
            refine merge_no fun a h5 h6 => ?_
            rw [hlast] at h5
            injection h5 with h5
            rw [← h5] at h6
            exact h3 h6.1
        · simp only [if_neg h2]
          refine plain _ ?_
          have : pb.1 = [] := List.length_eq_zero_iff.1 (by omega)
          rw [this, merge_nil, List.append_nil]
      · simp only [if_neg h1]
        refine plain _ ?_
        have : pa.1 = [] := List.length_eq_zero_iff.1 (by omega)
        rw [this]
        cases pb.1 with
        | nil => rw [merge_nil]; rfl
        | cons b m => exact merge_no fun a h => by cases h
    · have epc := rel.2 hb
      subst epc
      have := atB hb
      simp only [if_neg hb, if_true]
      rw [wrap_id (x := pb.2.1 + (A.size : Int)) (by omega) (by omega)]
      simp only [if_true]
      exact Ans.of fun k => by simp
  · simp only [if_neg ha]
    exact Ans.ret _
end Go.Proofs.YtlmijjekaelhcaaDoor.Pl
