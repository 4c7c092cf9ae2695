/-
  Plain laws of the directive statements: where the first fault of a format stands, what its beginnings answer, and DirectiveFault. Conditions: the texts' bytes are at most 2^39.
-/
import Derived.Test.YtlmijjekaelhcaaDoorChPb
import Derived.Test.YtlmijjekaelhcaaDoorChEDix27
set_option linter.unusedVariables false
set_option linter.unusedSimpArgs false
namespace Go.Proofs.YtlmijjekaelhcaaDoor.Pl
open Go.RowKit Go.Proofs.YtlmijjekaelhcaaDoorW.PrintWords Go.Proofs.YtlmijjekaelhcaaDoor.EDi Go.Proofs.YtlmijjekaelhcaaDoor.X
theorem awake_true' : abacuslaw13_awake.f 40 = some true := by kernel_rfl
theorem awake_ans' : Ans (fun k => abacuslaw13_awake.f k) true := by
  refine ⟨40, fun k hk => ?_⟩
  obtain ⟨d, rfl⟩ := Nat.exists_eq_add_of_le hk
  induction d with
  | zero => exact awake_true'
  | succ d ih => exact abacuslaw13_awake.mono (40 + d) _ (ih (by omega))
def runL (s : St) (p : Int) : List UInt8 → St
  | [] => s
  | c :: l => runL (step p s c) (p + 1) l
theorem parseL_append : ∀ (u v : List UInt8) (s : St) (p : Int), parseL s p (u ++ v) = parseL (runL s p u) (p + u.length) v
  | [], v, s, p => by simp [runL]
  | c :: u, v, s, p => by
    show parseL (step p s c) (p + 1) (u ++ v) = parseL (runL (step p s c) (p + 1) u) _ v
    rw [parseL_append u v, List.length_cons]
    congr 1
    omega
theorem parseL_fin (l : List UInt8) (s : St) (p : Int) : parseL s p l = fin (p + l.length) (runL s p l) := by
  have := parseL_append l [] s p
  rw [List.append_nil] at this
  exact this
def Open (s : St) : Prop := ∀ p, fin p s = ([], p, 131)
def Num (s : St) (st : Int) : Prop := match s with
  | .wid _ _ _ a => a = st
  | .prc _ _ _ _ _ a => a = st
  | _ => False
def Doom (s : St) (st : Int) : Prop := match s with
  | .wid _ _ n a => n > 4096 ∧ a = st
  | .prc _ _ _ _ n a => n > 4096 ∧ a = st
  | _ => False
def Bad (s : St) : Prop := match s with
  | .bad _ _ => True
  | _ => False
def Calm (s : St) : Prop := ¬ Bad s ∧ ∀ st, ¬ Num s st
theorem verbT_cases (ps : List S25) (fl wk wd pk pr p : Int) (c : UInt8) : verbT ps fl wk wd pk pr p c = .bad p 130 ∨ Calm (verbT ps fl wk wd pk pr p c) := by
  unfold verbT
  split
  · exact .inr ⟨fun h => h, fun _ h => h⟩
  · exact .inl rfl
theorem stAw_cases (ps : List S25) (fl wk wd p : Int) (c : UInt8) : stAw ps fl wk wd p c = .bad p 130 ∨ Calm (stAw ps fl wk wd p c) := by
  unfold stAw
  split
  · exact .inr ⟨fun h => h, fun _ h => h⟩
  · exact verbT_cases _ _ _ _ _ _ _ _
theorem stFlg_cases (ps : List S25) (fl p : Int) (c : UInt8) : stFlg ps fl p c = .bad p 130 ∨ Calm (stFlg ps fl p c) ∨ (isD c = true ∧ stFlg ps fl p c = .wid ps fl (cap 0 c) p) := by
  unfold stFlg
  split
  · exact .inr (.inl ⟨fun h => h, fun _ h => h⟩)
  · split
    · exact .inr (.inr ⟨by assumption, rfl⟩)
    · split
      · exact .inr (.inl ⟨fun h => h, fun _ h => h⟩)
      · exact (stAw_cases _ _ _ _ _ _).elim .inl fun h => .inr (.inl h)
theorem stPnt_cases (ps : List S25) (fl wk wd p : Int) (c : UInt8) : stPnt ps fl wk wd p c = .bad p 130 ∨ Calm (stPnt ps fl wk wd p c) ∨ (isD c = true ∧ stPnt ps fl wk wd p c = .prc ps fl wk wd (cap 0 c) p) := by
  unfold stPnt
  split
  · exact .inr (.inr ⟨by assumption, rfl⟩)
  · split
    · exact .inr (.inl ⟨fun h => h, fun _ h => h⟩)
    · exact (verbT_cases _ _ _ _ _ _ _ _).elim .inl fun h => .inr (.inl h)
/-- What a step may come to. -/
theorem step_cases (p : Int) (s : St) (c : UInt8) (hs : ¬ Bad s) :
    (step p s c = .bad p 130 ∧ Open s) ∨ (∃ st, step p s c = .bad st 6 ∧ Doom s st ∧ isD c = false) ∨
    (¬ Bad (step p s c) ∧ ∀ st, Num (step p s c) st → (Num s st ∧ isD c = true) ∨ (st = p ∧ isD c = true ∧ Open s)) := by
  have calm : ∀ s' : St, Calm s' → ¬ Bad s' ∧ ∀ st, Num s' st → (Num s st ∧ isD c = true) ∨ (st = p ∧ isD c = true ∧ Open s) := fun s' h => ⟨h.1, fun st hn => absurd hn (h.2 st)⟩
  cases s with
  | text ps cur =>
    refine .inr (.inr (calm _ ?_))
    show Calm (if c = 37 then _ else _)
    split
    · exact ⟨fun h => h, fun _ h => h⟩
    · exact ⟨fun h => h, fun _ h => h⟩
  | pct ps =>
    show (((if c = 37 then _ else _) : St) = _ ∧ _) ∨ (∃ st, ((if c = 37 then _ else _) : St) = _ ∧ _) ∨ (¬ Bad (if c = 37 then _ else _) ∧ ∀ st, Num (if c = 37 then _ else _) st → _)
    by_cases h37 : c = 37
    · simp only [if_pos h37]
      exact .inr (.inr ⟨fun h => h, fun st hn => hn.elim⟩)
    · simp only [if_neg h37]
      rcases stFlg_cases ps 0 p c with h | h | ⟨hd, h⟩
      · exact .inl ⟨h, fun _ => rfl⟩
      · exact .inr (.inr (calm _ h))
      · rw [h]
        exact .inr (.inr ⟨fun h => h, fun st hn => .inr ⟨hn.symm, hd, fun _ => rfl⟩⟩)
  | flg ps fl =>
    show ((stFlg ps fl p c) = _ ∧ _) ∨ (∃ st, (stFlg ps fl p c) = _ ∧ _) ∨ (¬ Bad (stFlg ps fl p c) ∧ ∀ st, Num (stFlg ps fl p c) st → _)
    rcases stFlg_cases ps fl p c with h | h | ⟨hd, h⟩
    · exact .inl ⟨h, fun _ => rfl⟩
    · exact .inr (.inr (calm _ h))
    · rw [h]
      exact .inr (.inr ⟨fun h => h, fun st hn => .inr ⟨hn.symm, hd, fun _ => rfl⟩⟩)
  | wid ps fl n a =>
    show (((if isD c = true then _ else if n > 4096 then _ else _) : St) = _ ∧ _) ∨ (∃ st, ((if isD c = true then _ else if n > 4096 then _ else _) : St) = _ ∧ _) ∨ (¬ Bad (if isD c = true then _ else if n > 4096 then _ else _) ∧ ∀ st, Num (if isD c = true then _ else if n > 4096 then _ else _) st → _)
    cases hd : isD c
    · simp only [Bool.false_eq_true, if_false]
      by_cases hn : n > 4096
      · simp only [if_pos hn]
        exact .inr (.inl ⟨a, rfl, ⟨hn, rfl⟩, trivial⟩)
      · simp only [if_neg hn]
        rcases stAw_cases ps fl 1 n p c with h | h
        · exact .inl ⟨h, fun q => by show (if n > 4096 then _ else _) = _; rw [if_neg hn]⟩
        · refine .inr (.inr ⟨h.1, fun st hx => absurd hx (h.2 st)⟩)
    · simp only [if_true]
      exact .inr (.inr ⟨fun h => h, fun st hn => .inl ⟨hn, trivial⟩⟩)
  | aw ps fl wk wd =>
    rcases stAw_cases ps fl wk wd p c with h | h
    · exact .inl ⟨h, fun _ => rfl⟩
    · exact .inr (.inr (calm _ h))
  | pnt ps fl wk wd =>
    show ((stPnt ps fl wk wd p c) = _ ∧ _) ∨ (∃ st, (stPnt ps fl wk wd p c) = _ ∧ _) ∨ (¬ Bad (stPnt ps fl wk wd p c) ∧ ∀ st, Num (stPnt ps fl wk wd p c) st → _)
    rcases stPnt_cases ps fl wk wd p c with h | h | ⟨hd, h⟩
    · exact .inl ⟨h, fun _ => rfl⟩
    · exact .inr (.inr (calm _ h))
    · rw [h]
      exact .inr (.inr ⟨fun h => h, fun st hn => .inr ⟨hn.symm, hd, fun _ => rfl⟩⟩)
  | prc ps fl wk wd n a =>
    show (((if isD c = true then _ else if n > 4096 then _ else _) : St) = _ ∧ _) ∨ (∃ st, ((if isD c = true then _ else if n > 4096 then _ else _) : St) = _ ∧ _) ∨ (¬ Bad (if isD c = true then _ else if n > 4096 then _ else _) ∧ ∀ st, Num (if isD c = true then _ else if n > 4096 then _ else _) st → _)
    cases hd : isD c
    · simp only [Bool.false_eq_true, if_false]
      by_cases hn : n > 4096
      · simp only [if_pos hn]
        exact .inr (.inl ⟨a, rfl, ⟨hn, rfl⟩, trivial⟩)
      · simp only [if_neg hn]
        rcases verbT_cases ps fl wk wd 1 n p c with h | h
        · exact .inl ⟨h, fun q => by show (if n > 4096 then _ else _) = _; rw [if_neg hn]⟩
        · refine .inr (.inr ⟨h.1, fun st hx => absurd hx (h.2 st)⟩)
    · simp only [if_true]
      exact .inr (.inr ⟨fun h => h, fun st hn => .inl ⟨hn, trivial⟩⟩)
  | ap ps fl wk wd pk pr =>
    rcases verbT_cases ps fl wk wd pk pr p c with h | h
    · exact .inl ⟨h, fun _ => rfl⟩
    · exact .inr (.inr (calm _ h))
  | bad a e => exact absurd trivial hs
def Tail (v : List UInt8) : Prop := ∀ c r, v = c :: r → isD c = false
def Left (s : St) (p : Int) (l : List UInt8) (at_ e : Int) : Prop :=
  ∃ u v, l = u ++ v ∧ at_ = p + u.length ∧ Open (runL s p u) ∧
    ((e = 131 ∧ v = []) ∨ (e = 130 ∧ ∃ c v', v = c :: v' ∧ step at_ (runL s p u) c = .bad at_ 130) ∨
     (e = 6 ∧ ∃ d ds v', v = d :: (ds ++ v') ∧ isD d = true ∧ (∀ c ∈ ds, isD c = true) ∧ Tail v' ∧ Doom (runL (runL s p u) at_ (d :: ds)) at_))
def Right (s : St) (p : Int) (l : List UInt8) (at_ e : Int) : Prop :=
  Num s at_ ∧ e = 6 ∧ ∃ ds v', l = ds ++ v' ∧ (∀ c ∈ ds, isD c = true) ∧ Tail v' ∧ Doom (runL s p ds) at_
theorem fin_cases (p : Int) (s : St) : (fin p s).2.2 = 0 ∨ Open s ∨ (∃ st, Doom s st ∧ Num s st ∧ fin p s = ([], st, 6)) ∨ Bad s := by
  cases s with
  | text ps cur => exact .inl rfl
  | wid ps fl n st =>
    by_cases hn : n > 4096
    · exact .inr (.inr (.inl ⟨st, ⟨hn, rfl⟩, rfl, by show (if n > 4096 then _ else _) = _; rw [if_pos hn]⟩))
    · exact .inr (.inl fun q => by show (if n > 4096 then _ else _) = _; rw [if_neg hn])
  | prc ps fl wk wd n st =>
    by_cases hn : n > 4096
    · exact .inr (.inr (.inl ⟨st, ⟨hn, rfl⟩, rfl, by show (if n > 4096 then _ else _) = _; rw [if_pos hn]⟩))
    · exact .inr (.inl fun q => by show (if n > 4096 then _ else _) = _; rw [if_neg hn])
  | bad a e => exact .inr (.inr (.inr trivial))
  | _ => exact .inr (.inl fun _ => rfl)
theorem fault_split : ∀ (l : List UInt8) (s : St) (p : Int) (x : List S25) (at_ e : Int), ¬ Bad s → parseL s p l = (x, at_, e) → e ≠ 0 → x = [] ∧ (Left s p l at_ e ∨ Right s p l at_ e)
  | [], s, p, x, at_, e, hs, h, he => by
    have h' : fin p s = (x, at_, e) := h
    rcases fin_cases p s with h0 | h0 | ⟨st, hD, hN, h0⟩ | h0
    · rw [h'] at h0
      exact absurd h0 he
    · rw [h0 p] at h'
      simp only [Prod.mk.injEq] at h'
      obtain ⟨rfl, rfl, rfl⟩ := h'
      exact ⟨rfl, .inl ⟨[], [], rfl, by simp, h0, .inl ⟨rfl, rfl⟩⟩⟩
    · rw [h0] at h'
      simp only [Prod.mk.injEq] at h'
      obtain ⟨rfl, rfl, rfl⟩ := h'
      exact ⟨rfl, .inr ⟨hN, rfl, [], [], rfl, fun c hc => (by cases hc), fun c r h => (by cases h), hD⟩⟩
    · exact absurd h0 hs
  | c :: l, s, p, x, at_, e, hs, h, he => by
    have h' : parseL (step p s c) (p + 1) l = (x, at_, e) := h
    rcases step_cases p s c hs with ⟨h1, h2⟩ | ⟨st, h1, h2, h3⟩ | ⟨h1, h2⟩
    · rw [h1, bad_run] at h'
      simp only [Prod.mk.injEq] at h'
      obtain ⟨rfl, rfl, rfl⟩ := h'
      exact ⟨rfl, .inl ⟨[], c :: l, rfl, by simp, h2, .inr (.inl ⟨rfl, c, l, rfl, h1⟩)⟩⟩
    · rw [h1, bad_run] at h'
      simp only [Prod.mk.injEq] at h'
      obtain ⟨rfl, rfl, rfl⟩ := h'
      refine ⟨rfl, .inr ⟨?_, rfl, [], c :: l, rfl, fun c hc => (by cases hc), fun d r h => ?_, h2⟩⟩
      · cases s <;> simp only [Doom, Num] at h2 ⊢
        · exact h2.2
        · exact h2.2
      · injection h with h _
        rw [← h]
        exact h3
    · obtain ⟨hx, h4⟩ := fault_split l (step p s c) (p + 1) x at_ e h1 h' he
      refine ⟨hx, ?_⟩
      rcases h4 with ⟨u, v, e1, e2, e3, e4⟩ | ⟨g1, g2, ds, v', g3, g4, g5, g6⟩
      · refine .inl ⟨c :: u, v, by rw [e1]; rfl, by rw [List.length_cons, e2]; omega, e3, ?_⟩
        exact e4
      · rcases h2 at_ g1 with ⟨k1, k2⟩ | ⟨k1, k2, k3⟩
        · refine .inr ⟨k1, g2, c :: ds, v', by rw [g3]; rfl, fun d hd => ?_, g5, g6⟩
          rcases List.mem_cons.1 hd with rfl | hd
          · exact k2
          · exact g4 d hd
        · subst k1
          exact .inl ⟨[], c :: l, rfl, by simp, k3, .inr (.inr ⟨g2, c, ds, v', by rw [g3], k2, g4, g5, g6⟩)⟩
theorem run_bad (a e : Int) : ∀ (l : List UInt8) (p : Int), runL (.bad a e) p l = .bad a e
  | [], _ => rfl
  | _ :: l, p => run_bad a e l (p + 1)
theorem bad_e : ∀ (u : List UInt8) (s : St) (p : Int), ¬ Bad s → ∀ a e, runL s p u = .bad a e → e = 130 ∨ e = 6
  | [], s, p, hs, a, e, h => by
    have h' : s = .bad a e := h
    rw [h'] at hs
    exact absurd trivial hs
  | c :: u, s, p, hs, a, e, h => by
    have h' : runL (step p s c) (p + 1) u = .bad a e := h
    rcases step_cases p s c hs with ⟨h1, _⟩ | ⟨st, h1, _⟩ | ⟨h1, _⟩
    · rw [h1, run_bad] at h'
      injection h' with _ h'
      exact .inl h'.symm
    · rw [h1, run_bad] at h'
      injection h' with _ h'
      exact .inr h'.symm
    · exact bad_e u _ _ h1 a e h'
theorem tl_len (T : ByteArray) : T.data.toList.length = T.size := by simp
end Go.Proofs.YtlmijjekaelhcaaDoor.Pl
