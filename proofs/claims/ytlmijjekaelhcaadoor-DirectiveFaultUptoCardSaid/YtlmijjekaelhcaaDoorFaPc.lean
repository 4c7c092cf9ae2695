/-
  Plain laws of the directive statements: where the first fault of a format stands, what its beginnings answer, and DirectiveFault. Conditions: the texts' bytes are at most 2^39.
-/
import Derived.Test.YtlmijjekaelhcaaDoorFaPb
import Derived.Test.YtlmijjekaelhcaaDoorFaEDix27
set_option linter.unusedVariables false
set_option linter.unusedSimpArgs false
namespace Go.Proofs.YtlmijjekaelhcaaDoor.Pl
open Go.RowKit Go.Proofs.YtlmijjekaelhcaaDoorW.PrintWords Go.Proofs.YtlmijjekaelhcaaDoor.EDi Go.Proofs.YtlmijjekaelhcaaDoor.X
theorem awake_true' : abacuslaw13_awake.f 40 = some true := by kernel_rfl
theorem awake_ans' : Ans (fun k => abacuslaw13_awake.f k) true := by
  refine ⟨40, fun k hk => ?_⟩
  obtain ⟨d, rfl⟩ := Nat.exists_eq_add_of_le hk
  induction d with
  | zero => exact awake_true'
  | succ d ih => exact abacuslaw13_awake.mono (40 + d) _ (ih (by omega))
def runL (s : St) (p : Int) : List UInt8 → St
  | [] => s
  | c :: l => runL (step p s c) (p + 1) l
theorem parseL_append : ∀ (u v : List UInt8) (s : St) (p : Int), parseL s p (u ++ v) = parseL (runL s p u) (p + u.length) v
  | [], v, s, p => by simp [runL]
  | c :: u, v, s, p => by
    show parseL (step p s c) (p + 1) (u ++ v) = parseL (runL (step p s c) (p + 1) u) _ v
    rw [parseL_append u v, List.length_cons]
    congr 1
    omega
theorem parseL_fin (l : List UInt8) (s : St) (p : Int) : parseL s p l = fin (p + l.length) (runL s p l) := by
  have := parseL_append l [] s p
  rw [List.append_nil] at this
  exact this
def Open (s : St) : Prop := ∀ p, fin p s = ([], p, 131)
def Num (s : St) (st : Int) : Prop := match s with
  | .wid _ _ _ a => a = st
  | .prc _ _ _ _ _ a => a = st
  | _ => False
def Doom (s : St) (st : Int) : Prop := match s with
  | .wid _ _ n a => n > 4096 ∧ a = st
  | .prc _ _ _ _ n a => n > 4096 ∧ a = st
  | _ => False
def Bad (s : St) : Prop := match s with
  | .bad _ _ => True
  | _ => False
theorem cap_big {n : Int} {c : UInt8} (h : isD c = true) (hn : n > 4096) : cap n c > 4096 := by
  unfold isD at h
  simp at h
  unfold cap mn
  omega
theorem doom_run {st : Int} : ∀ (l : List UInt8) (s : St) (p : Int), Doom s st → parseL s p l = ([], st, 6)
  | [], s, p, h => by
    cases s <;> simp only [Doom] at h
    · obtain ⟨h1, rfl⟩ := h
      show (if _ then _ else _) = _
      rw [if_pos h1]
    · obtain ⟨h1, rfl⟩ := h
      show (if _ then _ else _) = _
      rw [if_pos h1]
  | c :: l, s, p, h => by
    show parseL (step p s c) (p + 1) l = _
    cases s with
    | wid ps fl n a =>
      obtain ⟨h1, rfl⟩ := h
      cases hd : isD c
      · have : step p (.wid ps fl n a) c = .bad a 6 := by
          show (if isD c = true then _ else if n > 4096 then _ else _) = _
          rw [hd, if_neg (by decide), if_pos h1]
        rw [this]
        exact bad_run _ _ _ _
      · have : step p (.wid ps fl n a) c = .wid ps fl (cap n c) a := by
          show (if isD c = true then _ else if n > 4096 then _ else _) = _
          rw [if_pos hd]
        rw [this]
        exact doom_run l _ _ ⟨cap_big hd h1, rfl⟩
    | prc ps fl wk wd n a =>
      obtain ⟨h1, rfl⟩ := h
      cases hd : isD c
      · have : step p (.prc ps fl wk wd n a) c = .bad a 6 := by
          show (if isD c = true then _ else if n > 4096 then _ else _) = _
          rw [hd, if_neg (by decide), if_pos h1]
        rw [this]
        exact bad_run _ _ _ _
      · have : step p (.prc ps fl wk wd n a) c = .prc ps fl wk wd (cap n c) a := by
          show (if isD c = true then _ else if n > 4096 then _ else _) = _
          rw [if_pos hd]
        rw [this]
        exact doom_run l _ _ ⟨cap_big hd h1, rfl⟩
    | _ => exact h.elim
def Calm (s : St) : Prop := ¬ Bad s ∧ ∀ st, ¬ Num s st
theorem verbT_cases (ps : List S25) (fl wk wd pk pr p : Int) (c : UInt8) : verbT ps fl wk wd pk pr p c = .bad p 130 ∨ Calm (verbT ps fl wk wd pk pr p c) := by
  unfold verbT
  split
  · exact .inr ⟨fun h => h, fun _ h => h⟩
  · exact .inl rfl
theorem stAw_cases (ps : List S25) (fl wk wd p : Int) (c : UInt8) : stAw ps fl wk wd p c = .bad p 130 ∨ Calm (stAw ps fl wk wd p c) := by
  unfold stAw
  split
  · exact .inr ⟨fun h => h, fun _ h => h⟩
  · exact verbT_cases _ _ _ _ _ _ _ _
theorem stFlg_cases (ps : List S25) (fl p : Int) (c : UInt8) : stFlg ps fl p c = .bad p 130 ∨ Calm (stFlg ps fl p c) ∨ (isD c = true ∧ stFlg ps fl p c = .wid ps fl (cap 0 c) p) := by
  unfold stFlg
  split
  · exact .inr (.inl ⟨fun h => h, fun _ h => h⟩)
  · split
    · exact .inr (.inr ⟨by assumption, rfl⟩)
    · split
      · exact .inr (.inl ⟨fun h => h, fun _ h => h⟩)
      · exact (stAw_cases _ _ _ _ _ _).elim .inl fun h => .inr (.inl h)
theorem stPnt_cases (ps : List S25) (fl wk wd p : Int) (c : UInt8) : stPnt ps fl wk wd p c = .bad p 130 ∨ Calm (stPnt ps fl wk wd p c) ∨ (isD c = true ∧ stPnt ps fl wk wd p c = .prc ps fl wk wd (cap 0 c) p) := by
  unfold stPnt
  split
  · exact .inr (.inr ⟨by assumption, rfl⟩)
  · split
    · exact .inr (.inl ⟨fun h => h, fun _ h => h⟩)
    · exact (verbT_cases _ _ _ _ _ _ _ _).elim .inl fun h => .inr (.inl h)
/-- What a step may come to. -/
theorem step_cases (p : Int) (s : St) (c : UInt8) (hs : ¬ Bad s) :
    (step p s c = .bad p 130 ∧ Open s) ∨ (∃ st, step p s c = .bad st 6 ∧ Doom s st ∧ isD c = false) ∨
    (¬ Bad (step p s c) ∧ ∀ st, Num (step p s c) st → (Num s st ∧ isD c = true) ∨ (st = p ∧ isD c = true ∧ Open s)) := by
  have calm : ∀ s' : St, Calm s' → ¬ Bad s' ∧ ∀ st, Num s' st → (Num s st ∧ isD c = true) ∨ (st = p ∧ isD c = true ∧ Open s) := fun s' h => ⟨h.1, fun st hn => absurd hn (h.2 st)⟩
  cases s with
  | text ps cur =>
    refine .inr (.inr (calm _ ?_))
    show Calm (if c = 37 then _ else _)
    split
    · exact ⟨fun h => h, fun _ h => h⟩
    · exact ⟨fun h => h, fun _ h => h⟩
  | pct ps =>
    show (((if c = 37 then _ else _) : St) = _ ∧ _) ∨ (∃ st, ((if c = 37 then _ else _) : St) = _ ∧ _) ∨ (¬ Bad (if c = 37 then _ else _) ∧ ∀ st, Num (if c = 37 then _ else _) st → _)
    by_cases h37 : c = 37
    · simp only [if_pos h37]
      exact .inr (.inr ⟨fun h => h, fun st hn => hn.elim⟩)
    · simp only [if_neg h37]
      rcases stFlg_cases ps 0 p c with h | h | ⟨hd, h⟩
      · exact .inl ⟨h, fun _ => rfl⟩
      · exact .inr (.inr (calm _ h))
      · rw [h]
        exact .inr (.inr ⟨fun h => h, fun st hn => .inr ⟨hn.symm, hd, fun _ => rfl⟩⟩)
  | flg ps fl =>
    show ((stFlg ps fl p c) = _ ∧ _) ∨ (∃ st, (stFlg ps fl p c) = _ ∧ _) ∨ (¬ Bad (stFlg ps fl p c) ∧ ∀ st, Num (stFlg ps fl p c) st → _)
    rcases stFlg_cases ps fl p c with h | h | ⟨hd, h⟩
    · exact .inl ⟨h, fun _ => rfl⟩
    · exact .inr (.inr (calm _ h))
    · rw [h]
      exact .inr (.inr ⟨fun h => h, fun st hn => .inr ⟨hn.symm, hd, fun _ => rfl⟩⟩)
  | wid ps fl n a =>
    show (((if isD c = true then _ else if n > 4096 then _ else _) : St) = _ ∧ _) ∨ (∃ st, ((if isD c = true then _ else if n > 4096 then _ else _) : St) = _ ∧ _) ∨ (¬ Bad (if isD c = true then _ else if n > 4096 then _ else _) ∧ ∀ st, Num (if isD c = true then _ else if n > 4096 then _ else _) st → _)
    cases hd : isD c
    · simp only [Bool.false_eq_true, if_false]
      by_cases hn : n > 4096
      · simp only [if_pos hn]
        exact .inr (.inl ⟨a, rfl, ⟨hn, rfl⟩, trivial⟩)
      · simp only [if_neg hn]
        rcases stAw_cases ps fl 1 n p c with h | h
        · exact .inl ⟨h, fun q => by show (if n > 4096 then _ else _) = _; rw [if_neg hn]⟩
        · refine .inr (.inr ⟨h.1, fun st hx => absurd hx (h.2 st)⟩)
    · simp only [if_true]
      exact .inr (.inr ⟨fun h => h, fun st hn => .inl ⟨hn, trivial⟩⟩)
  | aw ps fl wk wd =>
    rcases stAw_cases ps fl wk wd p c with h | h
    · exact .inl ⟨h, fun _ => rfl⟩
    · exact .inr (.inr (calm _ h))
  | pnt ps fl wk wd =>
    show ((stPnt ps fl wk wd p c) = _ ∧ _) ∨ (∃ st, (stPnt ps fl wk wd p c) = _ ∧ _) ∨ (¬ Bad (stPnt ps fl wk wd p c) ∧ ∀ st, Num (stPnt ps fl wk wd p c) st → _)
    rcases stPnt_cases ps fl wk wd p c with h | h | ⟨hd, h⟩
    · exact .inl ⟨h, fun _ => rfl⟩
    · exact .inr (.inr (calm _ h))
    · rw [h]
      exact .inr (.inr ⟨fun h => h, fun st hn => .inr ⟨hn.symm, hd, fun _ => rfl⟩⟩)
  | prc ps fl wk wd n a =>
    show (((if isD c = true then _ else if n > 4096 then _ else _) : St) = _ ∧ _) ∨ (∃ st, ((if isD c = true then _ else if n > 4096 then _ else _) : St) = _ ∧ _) ∨ (¬ Bad (if isD c = true then _ else if n > 4096 then _ else _) ∧ ∀ st, Num (if isD c = true then _ else if n > 4096 then _ else _) st → _)
    cases hd : isD c
    · simp only [Bool.false_eq_true, if_false]
      by_cases hn : n > 4096
      · simp only [if_pos hn]
        exact .inr (.inl ⟨a, rfl, ⟨hn, rfl⟩, trivial⟩)
      · simp only [if_neg hn]
        rcases verbT_cases ps fl wk wd 1 n p c with h | h
        · exact .inl ⟨h, fun q => by show (if n > 4096 then _ else _) = _; rw [if_neg hn]⟩
        · refine .inr (.inr ⟨h.1, fun st hx => absurd hx (h.2 st)⟩)
    · simp only [if_true]
      exact .inr (.inr ⟨fun h => h, fun st hn => .inl ⟨hn, trivial⟩⟩)
  | ap ps fl wk wd pk pr =>
    rcases verbT_cases ps fl wk wd pk pr p c with h | h
    · exact .inl ⟨h, fun _ => rfl⟩
    · exact .inr (.inr (calm _ h))
  | bad a e => exact absurd trivial hs
def Tail (v : List UInt8) : Prop := ∀ c r, v = c :: r → isD c = false
def Left (s : St) (p : Int) (l : List UInt8) (at_ e : Int) : Prop :=
  ∃ u v, l = u ++ v ∧ at_ = p + u.length ∧ Open (runL s p u) ∧
    ((e = 131 ∧ v = []) ∨ (e = 130 ∧ ∃ c v', v = c :: v' ∧ step at_ (runL s p u) c = .bad at_ 130) ∨
     (e = 6 ∧ ∃ d ds v', v = d :: (ds ++ v') ∧ isD d = true ∧ (∀ c ∈ ds, isD c = true) ∧ Tail v' ∧ Doom (runL (runL s p u) at_ (d :: ds)) at_))
def Right (s : St) (p : Int) (l : List UInt8) (at_ e : Int) : Prop :=
  Num s at_ ∧ e = 6 ∧ ∃ ds v', l = ds ++ v' ∧ (∀ c ∈ ds, isD c = true) ∧ Tail v' ∧ Doom (runL s p ds) at_
theorem fin_cases (p : Int) (s : St) : (fin p s).2.2 = 0 ∨ Open s ∨ (∃ st, Doom s st ∧ Num s st ∧ fin p s = ([], st, 6)) ∨ Bad s := by
  cases s with
  | text ps cur => exact .inl rfl
  | wid ps fl n st =>
    by_cases hn : n > 4096
    · exact .inr (.inr (.inl ⟨st, ⟨hn, rfl⟩, rfl, by show (if n > 4096 then _ else _) = _; rw [if_pos hn]⟩))
    · exact .inr (.inl fun q => by show (if n > 4096 then _ else _) = _; rw [if_neg hn])
  | prc ps fl wk wd n st =>
    by_cases hn : n > 4096
    · exact .inr (.inr (.inl ⟨st, ⟨hn, rfl⟩, rfl, by show (if n > 4096 then _ else _) = _; rw [if_pos hn]⟩))
    · exact .inr (.inl fun q => by show (if n > 4096 then _ else _) = _; rw [if_neg hn])
  | bad a e => exact .inr (.inr (.inr trivial))
  | _ => exact .inr (.inl fun _ => rfl)
theorem fault_split : ∀ (l : List UInt8) (s : St) (p : Int) (x : List S25) (at_ e : Int), ¬ Bad s → parseL s p l = (x, at_, e) → e ≠ 0 → x = [] ∧ (Left s p l at_ e ∨ Right s p l at_ e)
  | [], s, p, x, at_, e, hs, h, he => by
    have h' : fin p s = (x, at_, e) := h
    rcases fin_cases p s with h0 | h0 | ⟨st, hD, hN, h0⟩ | h0
    · rw [h'] at h0
      exact absurd h0 he
    · rw [h0 p] at h'
      simp only [Prod.mk.injEq] at h'
      obtain ⟨rfl, rfl, rfl⟩ := h'
      exact ⟨rfl, .inl ⟨[], [], rfl, by simp, h0, .inl ⟨rfl, rfl⟩⟩⟩
    · rw [h0] at h'
      simp only [Prod.mk.injEq] at h'
      obtain ⟨rfl, rfl, rfl⟩ := h'
      exact ⟨rfl, .inr ⟨hN, rfl, [], [], rfl, fun c hc => (by cases hc), fun c r h => (by cases h), hD⟩⟩
    · exact absurd h0 hs
  | c :: l, s, p, x, at_, e, hs, h, he => by
    have h' : parseL (step p s c) (p + 1) l = (x, at_, e) := h
    rcases step_cases p s c hs with ⟨h1, h2⟩ | ⟨st, h1, h2, h3⟩ | ⟨h1, h2⟩
    · rw [h1, bad_run] at h'
      simp only [Prod.mk.injEq] at h'
      obtain ⟨rfl, rfl, rfl⟩ := h'
      exact ⟨rfl, .inl ⟨[], c :: l, rfl, by simp, h2, .inr (.inl ⟨rfl, c, l, rfl, h1⟩)⟩⟩
    · rw [h1, bad_run] at h'
      simp only [Prod.mk.injEq] at h'
      obtain ⟨rfl, rfl, rfl⟩ := h'
      refine ⟨rfl, .inr ⟨?_, rfl, [], c :: l, rfl, fun c hc => (by cases hc), fun d r h => ?_, h2⟩⟩
      · cases s <;> simp only [Doom, Num] at h2 ⊢
        · exact h2.2
        · exact h2.2
      · injection h with h _
        rw [← h]
        exact h3
    · obtain ⟨hx, h4⟩ := fault_split l (step p s c) (p + 1) x at_ e h1 h' he
      refine ⟨hx, ?_⟩
      rcases h4 with ⟨u, v, e1, e2, e3, e4⟩ | ⟨g1, g2, ds, v', g3, g4, g5, g6⟩
      · refine .inl ⟨c :: u, v, by rw [e1]; rfl, by rw [List.length_cons, e2]; omega, e3, ?_⟩
        exact e4
      · rcases h2 at_ g1 with ⟨k1, k2⟩ | ⟨k1, k2, k3⟩
        · refine .inr ⟨k1, g2, c :: ds, v', by rw [g3]; rfl, fun d hd => ?_, g5, g6⟩
          rcases List.mem_cons.1 hd with rfl | hd
          · exact k2
          · exact g4 d hd
        · subst k1
          exact .inl ⟨[], c :: l, rfl, by simp, k3, .inr (.inr ⟨g2, c, ds, v', by rw [g3], k2, g4, g5, g6⟩)⟩
theorem run_bad (a e : Int) : ∀ (l : List UInt8) (p : Int), runL (.bad a e) p l = .bad a e
  | [], _ => rfl
  | _ :: l, p => run_bad a e l (p + 1)
theorem bad_e : ∀ (u : List UInt8) (s : St) (p : Int), ¬ Bad s → ∀ a e, runL s p u = .bad a e → e = 130 ∨ e = 6
  | [], s, p, hs, a, e, h => by
    have h' : s = .bad a e := h
    rw [h'] at hs
    exact absurd trivial hs
  | c :: u, s, p, hs, a, e, h => by
    have h' : runL (step p s c) (p + 1) u = .bad a e := h
    rcases step_cases p s c hs with ⟨h1, _⟩ | ⟨st, h1, _⟩ | ⟨h1, _⟩
    · rw [h1, run_bad] at h'
      injection h' with _ h'
      exact .inl h'.symm
    · rw [h1, run_bad] at h'
      injection h' with _ h'
      exact .inr h'.symm
    · exact bad_e u _ _ h1 a e h'
theorem pre_law {T : List UInt8} (h0 : (parse T).2.2 = 0) {n : Nat} (hn : n ≤ T.length) :
    ((parse (T.take n)).2.2 = 0 ∧ (parse (T.take n)).2.1 = 0) ∨ ((parse (T.take n)).2.2 = 131 ∧ (parse (T.take n)).2.1 = n) := by
  have hl : (T.take n).length = n := by rw [List.length_take]; omega
  have e : parse (T.take n) = fin n (runL (.text [] []) 0 (T.take n)) := by
    unfold parse
    rw [parseL_fin, hl, Int.zero_add]
  have e2 : parse T = parseL (runL (.text [] []) 0 (T.take n)) n (T.drop n) := by
    unfold parse
    have := parseL_append (T.take n) (T.drop n) (.text [] []) 0
    rw [List.take_append_drop, hl, Int.zero_add] at this
    exact this
  have e3 := bad_e (T.take n) (.text [] []) 0 (fun h => h)
  rw [e]
  generalize runL (.text [] []) 0 (T.take n) = s at e2 e3
  rcases fin_cases n s with h | h | ⟨st, hD, _, h⟩ | h
  · refine .inl ⟨h, ?_⟩
    cases s with
    | text ps cur => rfl
    | bad a b =>
      rw [e2, bad_run] at h0
      have h0' : b = 0 := h0
      have := e3 a b rfl
      omega
    | wid ps fl m st =>
      have h' : ((if m > 4096 then ([], st, 6) else ([], (n : Int), 131) : List S25 × Int × Int)).2.2 = 0 := h
      by_cases hm : m > 4096
      · rw [if_pos hm] at h'
        exact absurd (show (6 : Int) = 0 from h') (by decide)
      · rw [if_neg hm] at h'
        exact absurd (show (131 : Int) = 0 from h') (by decide)
    | prc ps fl wk wd m st =>
      have h' : ((if m > 4096 then ([], st, 6) else ([], (n : Int), 131) : List S25 × Int × Int)).2.2 = 0 := h
      by_cases hm : m > 4096
      · rw [if_pos hm] at h'
        exact absurd (show (6 : Int) = 0 from h') (by decide)
      · rw [if_neg hm] at h'
        exact absurd (show (131 : Int) = 0 from h') (by decide)
    | _ => exact absurd (show (131 : Int) = 0 from h) (by decide)
  · rw [h n]
    exact .inr ⟨rfl, rfl⟩
  · rw [e2, doom_run _ _ _ hD] at h0
    exact absurd (show (6 : Int) = 0 from h0) (by decide)
  · cases s with
    | bad a b =>
      rw [e2, bad_run] at h0
      have h0' : b = 0 := h0
      have := e3 a b rfl
      omega
    | _ => exact h.elim
theorem ext_take (T : ByteArray) (n : Int) : (T.extract 0 n.toNat).data.toList = T.data.toList.take n.toNat := by
  rw [ByteArray.data_extract, Array.toList_extract]
  unfold List.extract
  rw [List.drop_zero, Nat.sub_zero]
theorem tl_len (T : ByteArray) : T.data.toList.length = T.size := by simp
theorem parse_take {T : ByteArray} (hT : T.size ≤ 1099511627776) (n : Int) : Ans (fun k => directive_Parse.f k (T.extract 0 n.toNat)) (parse (T.data.toList.take n.toNat)) := by
  rw [← ext_take]
  exact parse_ans (by rw [ByteArray.size_extract]; omega)
/-- What stands behind the last look. -/
theorem fault_end {T O : ByteArray} (hT : T.size ≤ 549755813888) (hO : O.size ≤ 549755813888) {at_ e j : Int} (h0 : 0 ≤ j) (h1 : j ≤ (T.size : Int)) (hp : ∀ l, parse (T.data.toList.take j.toNat ++ l) = ([], at_, e)) :
    Ans (fun k => if (T.extract 0 j.toNat).size + O.size ≤ 9223372036854775807 then ((directive_Parse.f k ((T.extract 0 j.toNat) ++ O)).bind fun b => (if b.2.2 = e then (some (b.2.1 == at_)) else (some false))) else (none)) true := by
  have hs : (T.extract 0 j.toNat).size ≤ T.size := by rw [ByteArray.size_extract]; omega
  simp only [if_pos (show (T.extract 0 j.toNat).size + O.size ≤ 9223372036854775807 by omega)]
  have ha : Ans (fun k => directive_Parse.f k ((T.extract 0 j.toNat) ++ O)) ([], at_, e) := by
    have := parse_ans (T := (T.extract 0 j.toNat) ++ O) (by rw [ByteArray.size_append]; omega)
    rw [ByteArray.data_append, Array.toList_append, ext_take, hp] at this
    exact this
  refine Ans.bind ha (Ans.of fun k => ?_)
  simp
theorem fault_l0 {T O : ByteArray} (hT : T.size ≤ 549755813888) (hO : O.size ≤ 549755813888) {at_ : Int} (h0 : 0 ≤ at_) {E : Int} (hE : E ≤ (T.size : Int)) (hstop : E < (T.size : Int) → ∀ c, bt T E = cI c → isD c = false)
    (hp : ∀ l, parse (T.data.toList.take E.toNat ++ l) = ([], at_, 6)) : ∀ j, j ≤ E → at_ < j → (∀ i, j ≤ i → i < E → ∃ c, bt T i = cI c ∧ isD c = true) → Ans (fun k => abacuslaw13_DirectiveFault.l0 k T O at_ 6 j) true := by
  refine left_ind fun j hj ih hat hd => ?_
  refine Ans.succ ?_
  simp only [abacuslaw13_DirectiveFault.l0, if_true]
  have j0 : 0 ≤ j := by omega
  by_cases h : j < E
  · obtain ⟨c, hc, hdc⟩ := hd j (by omega) h
    have hlt : j < (T.size : Int) := by omega
    have d1 : bt T j ≥ 48 ∧ bt T j ≤ 57 := by
      rw [hc]
      unfold isD at hdc
      simp at hdc
      exact hdc
    simp only [if_pos hlt, if_pos j0, if_pos d1.1, if_pos d1.2]
    rw [wrap_id (x := j + 1) (by omega) (by omega)]
    exact ih (j + 1) (by omega) (by omega) (by omega) fun i h1 h2 => hd i (by omega) h2
  · have hjE : j = E := by omega
    subst hjE
    have fe := fault_end hT hO j0 hE hp
    by_cases hlt : j < (T.size : Int)
    · simp only [if_pos hlt, if_pos j0]
      obtain ⟨c, _, hbc⟩ := rest_cons j0 hlt
      have hnd := hstop hlt c hbc
      unfold isD at hnd
      rw [← hbc] at hnd
      by_cases h48 : bt T j ≥ 48
      · have h57 : ¬ bt T j ≤ 57 := by
          intro h
          rw [decide_eq_true (show 48 ≤ bt T j from h48), decide_eq_true h] at hnd
          exact absurd hnd (by decide)
        simp only [if_pos h48, if_neg h57, if_pos hE]
        exact fe
      · simp only [if_neg h48, if_pos hE]
        exact fe
    · simp only [if_neg hlt, if_pos j0, if_pos hE]
      exact fe
theorem bt_get {T : ByteArray} {i : Nat} {c : UInt8} (h : T.data.toList[i]? = some c) : bt T (i : Int) = cI c := by
  have hl := tl_len T
  obtain ⟨hi, hc⟩ := List.getElem?_eq_some_iff.1 h
  unfold bt cI
  rw [dif_pos (show (i : Int).toNat < T.size by omega)]
  have : T[(i : Int).toNat] = c := by
    rw [← hc]
    rfl
  rw [this]
theorem directiveFault_true (T O : ByteArray) (hT : T.size ≤ 549755813888) (hO : O.size ≤ 549755813888) : Ans (fun k => abacuslaw13_DirectiveFault.f k T O) true := by
  have hl := tl_len T
  unfold abacuslaw13_DirectiveFault.f
  refine Ans.bind awake_ans' ?_
  simp only [if_true]
  refine Ans.bind (parse_ans (by omega : T.size ≤ 1099511627776)) ?_
  by_cases he : (parse T.data.toList).2.2 = 0
  · simp only [if_pos he]
    have pre : ∀ n : Nat, n ≤ T.size → Ans (fun k => (directive_Parse.f k (T.extract 0 ((n : Int) : Int).toNat)).bind fun b => (if b.2.2 = 0 then (if b.2.1 = 0 then (some true) else (if b.2.2 = 131 then (some (b.2.1 == (n : Int))) else (some false))) else (if b.2.2 = 131 then (some (b.2.1 == (n : Int))) else (some false)))) true := by
      intro n hn
      refine Ans.bind (parse_take (by omega) (n : Int)) ?_
      rw [Int.toNat_natCast]
      rcases pre_law he (n := n) (by omega) with ⟨h1, h2⟩ | ⟨h1, h2⟩
      · simp only [h1, h2, if_true]
        exact Ans.ret _
      · simp only [h1, h2, if_neg (show ¬ (131 : Int) = 0 by decide), if_true]
        exact Ans.of fun k => by simp
    by_cases hc : (O.size : Int) > (T.size : Int)
    · simp only [if_pos hc, if_pos (show (0 : Int) ≤ (T.size : Int) by omega), if_pos (Int.le_refl (T.size : Int))]
      exact pre T.size (Nat.le_refl _)
    · simp only [if_neg hc, if_pos (show (0 : Int) ≤ (O.size : Int) by omega), if_pos (show (O.size : Int) ≤ (T.size : Int) by omega)]
      exact pre O.size (by omega)
  · simp only [if_neg he]
    have hfs := fun x at_ e (hq : parse T.data.toList = (x, at_, e)) (h : e ≠ 0) => fault_split T.data.toList (.text [] []) 0 x at_ e (fun h => h) hq h
    generalize parse T.data.toList = q at he hfs ⊢
    obtain ⟨x, at_, e⟩ := q
    obtain ⟨hx, hlr⟩ := hfs x at_ e rfl he
    subst hx
    rcases hlr with ⟨u, v, e1, e2, e3, e4⟩ | hR
    · have hat : at_ = (u.length : Int) := by omega
      have hlen : u.length + v.length = T.size := by rw [← hl, e1, List.length_append]
      have hpu : parse u = ([], at_, 131) := by
        unfold parse
        rw [parseL_fin, e3, hat, Int.zero_add]
      have htk : T.data.toList.take at_.toNat = u := by
        rw [e1, hat, Int.toNat_natCast]
        simp
      have a0 : 0 ≤ at_ := by omega
      have a1 : at_ ≤ (T.size : Int) := by omega
      simp only [List.length_nil, Int.natCast_zero, if_true, if_neg (show ¬ at_ < 0 by omega), decide_eq_false (show ¬ at_ > (T.size : Int) by omega)]
      refine Ans.succ ?_
      simp only [abacuslaw13_DirectiveFault.j0, Bool.false_eq_true, if_false, if_pos a0, if_pos a1]
      have hpt := parse_take (T := T) (by omega) at_
      rw [htk, hpu] at hpt
      refine Ans.bind hpt ?_
      simp only [if_true, bne_self_eq_false]
      refine Ans.succ ?_
      simp only [abacuslaw13_DirectiveFault.j1, Bool.false_eq_true, if_false]
      have hw : wrap64 (at_ + 1) = at_ + 1 := wrap_id (by omega) (by omega)
      rcases e4 with ⟨h1, h2⟩ | ⟨h1, c, v', h2, h3⟩ | ⟨h1, d, ds, v', h2, h3, h4, h5, h6⟩
      · subst h2
        simp only [if_pos h1]
        refine Ans.of fun k => ?_
        simp at hlen
        rw [hat, ← hlen]
        simp
      · subst h1
        subst h2
        simp only [if_neg (show ¬ (130 : Int) = 131 by decide)]
        rw [hw]
        simp at hlen
        have hp : ∀ l, parse (T.data.toList.take (at_ + 1).toNat ++ l) = ([], at_, 130) := by
          intro l
          have ht : T.data.toList.take (at_ + 1).toNat = u ++ [c] := by
            rw [e1, hat, show ((u.length : Int) + 1).toNat = u.length + 1 by omega]
            rw [show u ++ c :: v' = (u ++ [c]) ++ v' by simp, List.take_append_of_le_length (by simp)]
            apply List.take_of_length_le
            simp
          rw [ht, List.append_assoc]
          unfold parse
          rw [parseL_append]
          show parseL (step _ _ c) _ l = _
          rw [Int.zero_add, ← hat, h3, bad_run]
        refine Ans.succ ?_
        simp only [abacuslaw13_DirectiveFault.l0, if_neg (show ¬ (130 : Int) = 6 by decide), if_pos (show (0 : Int) ≤ at_ + 1 by omega), if_pos (show at_ + 1 ≤ (T.size : Int) by omega)]
        exact fault_end hT hO (by omega) (by omega) hp
      · subst h1
        simp only [if_neg (show ¬ (6 : Int) = 131 by decide)]
        rw [hw]
        have hvl : v.length = 1 + ds.length + v'.length := by rw [h2]; simp; omega
        have e1' : T.data.toList = (u ++ d :: ds) ++ v' := by rw [e1, h2]; simp
        refine fault_l0 hT hO a0 (E := at_ + 1 + ds.length) (by omega) (fun hlt c hc => ?_) (fun l => ?_) (at_ + 1) (by omega) (by omega) (fun i h7 h8 => ?_)
        · cases hv' : v' with
          | nil =>
            rw [hv'] at hvl
            simp at hvl
            omega
          | cons b r =>
            have hg : T.data.toList[u.length + 1 + ds.length]? = some b := by
              rw [e1', hv', List.getElem?_append_right (by simp; omega)]
              simp
              rw [show u.length + 1 + ds.length - (u.length + (ds.length + 1)) = 0 by omega]
              rfl
            have := bt_get hg
            rw [show ((u.length + 1 + ds.length : Nat) : Int) = at_ + 1 + ds.length by omega] at this
            have : c = b := cI_inj (hc.symm.trans this)
            rw [this]
            exact h5 b r hv'
        · have ht : T.data.toList.take (at_ + 1 + ds.length).toNat = u ++ d :: ds := by
            rw [e1', List.take_append_of_le_length (by simp; omega)]
            apply List.take_of_length_le
            simp
            omega
          rw [ht, List.append_assoc]
          unfold parse
          rw [parseL_append, parseL_append, Int.zero_add, ← hat]
          exact doom_run _ _ _ h6
        · obtain ⟨m, hm⟩ : ∃ m, i.toNat = u.length + (m + 1) := ⟨i.toNat - u.length - 1, by omega⟩
          have hi : m < ds.length := by omega
          have hg : T.data.toList[i.toNat]? = some ds[m] := by
            rw [e1', List.getElem?_append_left (by simp; omega), List.getElem?_append_right (by omega), hm, Nat.add_sub_cancel_left, List.getElem?_cons_succ]
            exact List.getElem?_eq_getElem hi
          have := bt_get hg
          rw [show ((i.toNat : Nat) : Int) = i by omega] at this
          exact ⟨_, this, h4 _ (List.getElem_mem hi)⟩
    · exact hR.1.elim
end Go.Proofs.YtlmijjekaelhcaaDoor.Pl
