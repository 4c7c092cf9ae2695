/-
  line's contract: the bytes that it writes behind a Builder's (its walk: ECmx1) are those that it would write behind none. Conditions: those in the statements.
-/
import Derived.Test.YtdkejcadoepnnaaDoorTuECmx1
set_option linter.unusedVariables false
set_option linter.unusedSimpArgs false
namespace Go.Proofs.YtdkejcadoepnnaaDoor.X
open Go.RowKit Go.Proofs.YtdkejcadoepnnaaDoorW.PrintWords Go.Proofs.YtdkejcadoepnnaaDoor.ECc
theorem of_if {α : Type} {c : Prop} [Decidable c] {a : Option α} {r : α} (h : (if c then a else none) = some r) : c ∧ a = some r := by
  split at h
  · exact ⟨by assumption, h⟩
  · cases h
/-- r is a with bytes behind it, and F writes the same behind any longer row. -/
def Sh (F : List Int → Option (List Int)) (a r : List Int) : Prop := ∃ s, r = a ++ s ∧ (∀ d ∈ s, 0 ≤ d ∧ d < 256) ∧ 1 ≤ s.length ∧ ∀ xs : List Int, xs.length + r.length ≤ 140737488355328 → F (xs ++ a) = some (xs ++ r)
theorem bytesOf_range (t : ByteArray) : ∀ d ∈ bytesOf t, 0 ≤ d ∧ d < 256 := by
  intro d hd
  unfold bytesOf at hd
  obtain ⟨b, _, rfl⟩ := List.mem_map.1 hd
  have := b.toNat_lt
  omega
theorem Sh.cons {F G : List Int → Option (List Int)} {a p r : List Int} (h : Sh G (a ++ p) r) (hp : ∀ d ∈ p, 0 ≤ d ∧ d < 256) (hF : ∀ xs : List Int, (xs ++ a).length + p.length < 140737488355328 → F (xs ++ a) = G ((xs ++ a) ++ p)) : Sh F a r := by
  obtain ⟨s, e, hs, h1, hx⟩ := h
  refine ⟨p ++ s, by rw [e, List.append_assoc], fun d hd => ?_, by rw [List.length_append]; omega, fun xs hl => ?_⟩
  · rcases List.mem_append.1 hd with hd | hd
    · exact hp d hd
    · exact hs d hd
  · have hl2 : (xs ++ a).length + p.length < 140737488355328 := by
      have := congrArg List.length e
      simp only [List.length_append] at this ⊢
      omega
    rw [hF xs hl2, List.append_assoc, hx xs hl]
theorem Sh.last {F : List Int → Option (List Int)} {a p r : List Int} (e : a ++ p = r) (h1 : 1 ≤ p.length) (hp : ∀ d ∈ p, 0 ≤ d ∧ d < 256) (hF : ∀ xs : List Int, (xs ++ a).length + p.length ≤ 140737488355328 → F (xs ++ a) = some ((xs ++ a) ++ p)) : Sh F a r := by
  subst e
  refine ⟨p, rfl, hp, h1, fun xs hl => ?_⟩
  rw [hF xs (by simp only [List.length_append] at hl ⊢; omega), List.append_assoc]
theorem Sh.same {F G : List Int → Option (List Int)} {a r : List Int} (h : Sh G a r) (hF : ∀ xs : List Int, F (xs ++ a) = G (xs ++ a)) : Sh F a r := by
  obtain ⟨s, e, hs, h1, hx⟩ := h
  exact ⟨s, e, hs, h1, fun xs hl => (hF xs).trans (hx xs hl)⟩
theorem r10 : ∀ d ∈ ([10] : List Int), 0 ≤ d ∧ d < 256 := by decide
theorem r32 : ∀ d ∈ ([32] : List Int), 0 ≤ d ∧ d < 256 := by decide
theorem l0_shift (n0 : List S41) (n1 : List Int) (n2 : List ByteArray) (i0 i1 i2 : Int) : ∀ (k : Nat) (x : Int) (a r : List Int), code_line.l0 k x a n0 n1 n2 i0 i1 i2 = some r → Sh (fun y => code_line.l0 k x y n0 n1 n2 i0 i1 i2) a r
  | 0, x, a, r, h => by simp [code_line.l0] at h
  | k + 1, x, a, r, h => by
    rw [code_line.l0] at h
    by_cases c1 : x ≥ 0
    · rw [if_pos c1] at h
      obtain ⟨c2, h⟩ := of_if h
      obtain ⟨c3, h⟩ := of_if h
      obtain ⟨c4, h⟩ := of_if h
      obtain ⟨c5, h⟩ := of_if h
      obtain ⟨c6, h⟩ := of_if h
      obtain ⟨c7, h⟩ := of_if h
      refine (l0_shift n0 n1 n2 i0 i1 i2 k _ _ _ h).cons ?_ (fun xs hl => ?_)
      · intro d hd
        rw [List.mem_singleton] at hd
        subst hd
        exact ⟨(bt_range _ _).1, by have := (bt_range (⟨#[48, 49, 50, 51, 52, 53, 54, 55, 56, 57, 97, 98, 99, 100, 101, 102]⟩ : ByteArray) (Go.bits .and .u64 (shr .u64 (rd n1 i1) x) 15)).2; omega⟩
      · show code_line.l0 (k + 1) x (xs ++ a) n0 n1 n2 i0 i1 i2 = _
        rw [code_line.l0, if_pos c1, if_pos c2, if_pos c3, if_pos c4, if_pos c5, if_pos c6, if_pos (by simp only [List.length_singleton] at hl; omega)]
    · rw [if_neg c1] at h
      obtain ⟨c2, h⟩ := of_if h
      refine Sh.last (Option.some.inj h) (by simp) r10 (fun xs hl => ?_)
      show code_line.l0 (k + 1) x (xs ++ a) n0 n1 n2 i0 i1 i2 = _
      rw [code_line.l0, if_neg c1, if_pos (by simp only [List.length_singleton] at hl; omega)]
theorem j1_shift (n0 : List S41) (n1 : List Int) (n2 : List ByteArray) (i0 i1 i2 : Int) (q0 : ByteArray) (q1 q2 q3 q4 : Int) : ∀ (k : Nat) (a r : List Int), code_line.j1 k a n0 n1 n2 i0 i1 i2 q0 q1 q2 q3 q4 = some r → Sh (fun y => code_line.j1 k y n0 n1 n2 i0 i1 i2 q0 q1 q2 q3 q4) a r
  | 0, a, r, h => by simp [code_line.j1] at h
  | k + 1, a, r, h => by
    rw [code_line.j1] at h
    by_cases c1 : q1 = 1
    · rw [if_pos c1] at h
      obtain ⟨c2, h⟩ := of_if h
      refine (l0_shift n0 n1 n2 i0 i1 i2 k _ _ _ h).cons r32 (fun xs hl => ?_)
      show code_line.j1 (k + 1) (xs ++ a) n0 n1 n2 i0 i1 i2 q0 q1 q2 q3 q4 = _
      rw [code_line.j1, if_pos c1, if_pos (by simp only [List.length_singleton] at hl; omega)]
    · rw [if_neg c1] at h
      by_cases c3 : q1 = 2
      · rw [if_pos c3] at h
        obtain ⟨c4, h⟩ := of_if h
        rw [Option.bind_some] at h
        obtain ⟨c5, h⟩ := of_if h
        obtain ⟨c6, h⟩ := of_if h
        obtain ⟨t, ht, h⟩ := Option.bind_eq_some_iff.1 h
        obtain ⟨c7, h⟩ := of_if h
        rw [Option.bind_some] at h
        obtain ⟨c8, h⟩ := of_if h
        have e : a ++ ([32] ++ bytesOf t ++ [10]) = r := by rw [← Option.some.inj h]; simp
        refine Sh.last e (by simp) ?_ (fun xs hl => ?_)
        · intro d hd
          simp only [List.mem_append] at hd
          rcases hd with (hd | hd) | hd
          · exact r32 d hd
          · exact bytesOf_range t d hd
          · exact r10 d hd
        · show code_line.j1 (k + 1) (xs ++ a) n0 n1 n2 i0 i1 i2 q0 q1 q2 q3 q4 = _
          simp only [List.length_append, List.length_singleton, bytesOf_length] at hl
          rw [code_line.j1, if_neg c1, if_pos c3, if_pos (by rw [List.length_append]; omega), Option.bind_some, if_pos c5, if_pos c6, ht, Option.bind_some, if_pos (by simp only [List.length_append, List.length_singleton]; omega), Option.bind_some, if_pos (by simp only [List.length_append, List.length_singleton, bytesOf_length]; omega)]
          simp
      · rw [if_neg c3] at h
        obtain ⟨c2, h⟩ := of_if h
        refine Sh.last (Option.some.inj h) (by simp) r10 (fun xs hl => ?_)
        show code_line.j1 (k + 1) (xs ++ a) n0 n1 n2 i0 i1 i2 q0 q1 q2 q3 q4 = _
        rw [code_line.j1, if_neg c1, if_neg c3, if_pos (by simp only [List.length_singleton] at hl; omega)]
theorem j0_shift (n0 : List S41) (n1 : List Int) (n2 : List ByteArray) (i0 i1 i2 : Int) (q0 : ByteArray) (q1 q2 q3 q4 : Int) : ∀ (k : Nat) (a r : List Int), code_line.j0 k a n0 n1 n2 i0 i1 i2 q0 q1 q2 q3 q4 = some r → Sh (fun y => code_line.j0 k y n0 n1 n2 i0 i1 i2 q0 q1 q2 q3 q4) a r
  | 0, a, r, h => by simp [code_line.j0] at h
  | k + 1, a, r, h => by
    rw [code_line.j0] at h
    by_cases c1 : q2 = 0
    · rw [if_pos c1] at h
      refine (j1_shift n0 n1 n2 i0 i1 i2 q0 q1 q2 q3 q4 k _ _ h).same (fun xs => ?_)
      show code_line.j0 (k + 1) (xs ++ a) n0 n1 n2 i0 i1 i2 q0 q1 q2 q3 q4 = _
      rw [code_line.j0, if_pos c1]
    · rw [if_neg c1] at h
      obtain ⟨t, ht, h⟩ := Option.bind_eq_some_iff.1 h
      obtain ⟨c2, h⟩ := of_if h
      obtain ⟨c3, h⟩ := of_if h
      refine (j1_shift n0 n1 n2 i0 i1 i2 q0 q1 q2 q3 q4 k _ _ h).cons (bytesOf_range _) (fun xs hl => ?_)
      rw [bytesOf_length] at hl
      show code_line.j0 (k + 1) (xs ++ a) n0 n1 n2 i0 i1 i2 q0 q1 q2 q3 q4 = _
      rw [code_line.j0, if_neg c1, ht, Option.bind_some, if_pos c2, if_pos hl]
theorem f_shift (l1 : List S72) (n0 : List S41) (n1 : List Int) (n2 : List ByteArray) (i : Int) (k : Nat) (a r : List Int) (h : code_line.f k a l1 n0 n1 n2 i = some r) : Sh (fun y => code_line.f k y l1 n0 n1 n2 i) a r := by
  unfold code_line.f at h
  obtain ⟨c1, h⟩ := of_if h
  obtain ⟨c2, h⟩ := of_if h
  obtain ⟨c3, h⟩ := of_if h
  obtain ⟨c4, h⟩ := of_if h
  obtain ⟨t, ht, h⟩ := Option.bind_eq_some_iff.1 h
  obtain ⟨c5, h⟩ := of_if h
  obtain ⟨c6, h⟩ := of_if h
  obtain ⟨c7, h⟩ := of_if h
  rw [Option.bind_some] at h
  by_cases c8 : (rd_T72 l1 ((rd_T41 n0 i).f0)).f1 = 0
  · rw [if_pos c8] at h
    refine (j0_shift _ _ _ _ _ _ _ _ _ _ _ k _ _ h).cons (bytesOf_range _) (fun xs hl => ?_)
    rw [bytesOf_length] at hl
    show code_line.f k (xs ++ a) l1 n0 n1 n2 i = _
    unfold code_line.f
    rw [if_pos c1, if_pos c2, if_pos c3, if_pos c4, ht, Option.bind_some, if_pos c5, if_pos c6, if_pos hl, Option.bind_some, if_pos c8]
  · rw [if_neg c8] at h
    obtain ⟨t2, ht2, h⟩ := Option.bind_eq_some_iff.1 h
    obtain ⟨c9, h⟩ := of_if h
    obtain ⟨c10, h⟩ := of_if h
    rw [List.append_assoc] at h
    refine (j0_shift _ _ _ _ _ _ _ _ _ _ _ k _ _ h).cons (fun d hd => (List.mem_append.1 hd).elim (bytesOf_range _ d) (bytesOf_range _ d)) (fun xs hl => ?_)
    simp only [List.length_append, bytesOf_length] at hl
    show code_line.f k (xs ++ a) l1 n0 n1 n2 i = _
    unfold code_line.f
    rw [if_pos c1, if_pos c2, if_pos c3, if_pos c4, ht, Option.bind_some, if_pos c5, if_pos c6, if_pos (by simp only [List.length_append]; omega), Option.bind_some, if_neg c8, ht2, Option.bind_some, if_pos c9, if_pos (by simp only [List.length_append, bytesOf_length]; omega), List.append_assoc (xs ++ a)]
/-- line's text. -/
def xLine.f (l1 : List S72) (n0 : List S41) (n1 : List Int) (n2 : List ByteArray) (i : Int) : Option ByteArray := (code_line.f 40 [] tabL n0 n1 n2 i).map strOfNums
theorem xLine.calls (w0 : World) (gbb : Nat) (w : World) (xs : List Int) (adT_ : Addr) (gT : Nat) (A0 : Option Addr) (c0 : Nat) (n0 : List S41) (A1 : Option Addr) (c1 : Nat) (n1 : List Int) (A2 : Option Addr) (c2 : Nat) (n2 : List ByteArray) (i : Int) (t : ByteArray)
    (HF : BR w w0.heap.size gbb xs) (HB : Below w0.heap.size w0 w) (hadT_ : adT_ = ⟨gT, 0, none⟩) (hT : w.heap[gT]? = some (.cells tabC 73 (0, 0))) (h0 : Kd.C k41 w0 A0 n0.length n0) (hc0 : n0.length ≤ c0) (h1 : Kd.C (Kd.int .u64) w0 A1 n1.length n1) (hc1 : n1.length ≤ c1) (h2 : Kd.C Kd.string w0 A2 n2.length n2) (hc2 : n2.length ≤ c2) (hG : GW w0)
    (hlen : xs.length + t.size ≤ 140737488355328) (h : xLine.f tabL n0 n1 n2 i = some t) :
    Calls Tryd.prog 30 #[.pointer (some ⟨gbb, 0, none⟩), .pointer (some adT_), .agg #[.slice A0 n0.length c0, .slice A1 n1.length c1, .slice A2 n2.length c2], .int .i64 i] w fun e w' => e = .returned (.tuple #[]) ∧ BR w' w0.heap.size gbb (xs ++ bytesOf t) ∧ LB w0 w gbb w' := by
  unfold xLine.f at h
  obtain ⟨r, hr, rfl⟩ := Option.map_eq_some_iff.1 h
  obtain ⟨s, e, hs, _, hx⟩ := f_shift tabL n0 n1 n2 i 40 [] r hr
  rw [List.nil_append] at e
  subst e
  have hb := numsBytes r hs
  have hz : (strOfNums r).size = r.length := by
    have := congrArg List.length hb
    rw [bytesOf_length] at this
    exact this
  rw [hz] at hlen
  have hf := hx xs hlen
  rw [List.append_nil] at hf
  rw [hb]
  exact code_line.calls 40 xs adT_ gT A0 c0 n0 A1 c1 n1 A2 c2 n2 i _ w0 gbb w HF HB hadT_ hT h0 hc0 h1 hc1 h2 hc2 hG hf
def BRr (w : World) (B b : Nat) (xs : List Int) : Prop := BR w B b xs ∧ ∀ d ∈ xs, 0 ≤ d ∧ d < 256
theorem BRr.below {B b : Nat} {xs : List Int} {w w1 : World} (h : BRr w B b xs) (hb : Below w.heap.size w w1) : BRr w1 B b xs := ⟨h.1.below hb, h.2⟩
theorem BRr.alloc {B b : Nat} {xs : List Int} {w : World} (o : Obj) (h : BRr w B b xs) : BRr (w.alloc o) B b xs := ⟨h.1.alloc o, h.2⟩
theorem BRr.drew {B b : Nat} {xs : List Int} {w : World} (h : BRr w B b xs) : BRr w.drew B b xs := ⟨h.1.drew, h.2⟩
theorem BRr.drewN {B b : Nat} {xs : List Int} {w : World} (m : Nat) (h : BRr w B b xs) : BRr (w.drewN m) B b xs := ⟨h.1.drewN m, h.2⟩
theorem BRr.ne {B b g : Nat} {xs : List Int} {w : World} {cs : Array Value} {t : TypeId} (h : BRr w B b xs) (hg : w.heap[g]? = some (.cells cs t (0, 0))) (ht : t ≠ 5 ∧ t ≠ 84) : g ≠ b ∧ t ≠ 5 := h.1.ne hg ht
theorem BRr.len {B b : Nat} {xs : List Int} {w : World} (h : BRr w B b xs) : Calls Tryd.prog 31 #[.pointer (some ⟨b, 0, none⟩)] w fun e w' => e = .returned (.int .i64 xs.length) ∧ w' = w := h.1.len
theorem BRr.text {B b : Nat} {xs : List Int} {w : World} (h : BRr w B b xs) (hBw : B ≤ w.heap.size) : Calls Tryd.prog 32 #[.pointer (some ⟨b, 0, none⟩)] w fun e w' => e = .returned (.string (strOfNums xs)) ∧ Below B w w' := by
  have hb : nums .u8 xs = Lib.byteCells (strOfNums xs).data.toList := by
    have h1 := numsBytes xs h.2
    rw [← h1]
    conv => rhs; rw [h1]
    simp only [nums, bytesOf, Lib.byteCells, List.map_map]
    rfl
  have h2 := h.1.1
  rw [hb] at h2
  exact (Tryd.Builder_String_any_f B b _ w h2 hBw).mono fun e w' ⟨h1, _, h3⟩ => ⟨h1, h3⟩
theorem BRr.line (w0 : World) (gbb : Nat) (w : World) (xs : List Int) (adT_ : Addr) (gT : Nat) (A0 : Option Addr) (c0 : Nat) (n0 : List S41) (A1 : Option Addr) (c1 : Nat) (n1 : List Int) (A2 : Option Addr) (c2 : Nat) (n2 : List ByteArray) (i : Int) (t : ByteArray)
    (HF : BRr w w0.heap.size gbb xs) (HB : Below w0.heap.size w0 w) (hadT_ : adT_ = ⟨gT, 0, none⟩) (hT : w.heap[gT]? = some (.cells tabC 73 (0, 0))) (h0 : Kd.C k41 w0 A0 n0.length n0) (hc0 : n0.length ≤ c0) (h1 : Kd.C (Kd.int .u64) w0 A1 n1.length n1) (hc1 : n1.length ≤ c1) (h2 : Kd.C Kd.string w0 A2 n2.length n2) (hc2 : n2.length ≤ c2) (hG : GW w0)
    (hlen : xs.length + t.size ≤ 140737488355328) (h : xLine.f tabL n0 n1 n2 i = some t) :
    Calls Tryd.prog 30 #[.pointer (some ⟨gbb, 0, none⟩), .pointer (some adT_), .agg #[.slice A0 n0.length c0, .slice A1 n1.length c1, .slice A2 n2.length c2], .int .i64 i] w fun e w' => e = .returned (.tuple #[]) ∧ BRr w' w0.heap.size gbb (xs ++ bytesOf t) ∧ LB w0 w gbb w' :=
  (xLine.calls w0 gbb w xs adT_ gT A0 c0 n0 A1 c1 n1 A2 c2 n2 i t HF.1 HB hadT_ hT h0 hc0 h1 hc1 h2 hc2 hG hlen h).mono fun e w' ⟨h1, h2, h3⟩ => ⟨h1, ⟨h2, fun d hd => (List.mem_append.1 hd).elim (HF.2 d) (bytesOf_range t d)⟩, h3⟩
section
variable {ops : Array Oper} {rest : List Oper} {o : Oper} {a : Act} {Q : Exit → Act → World → Prop}
theorem BRr.new {W : World} (base : Nat) (hgd : o.guard = none) {N : Tmp} (hd : o.dst = some N) (ho : o.op = .alloc 84) (hbase : base ≤ W.heap.size)
    (h : ∀ g w1, BRr w1 base g [] → Below W.heap.size W w1 → wpList Tryd.prog ops Q rest (a.put o.dst (.pointer (some ⟨g, 0, none⟩))) w1) : wpList Tryd.prog ops Q (o :: rest) a W := by
  have hrun : (execOp a.eval o).run Tryd.prog W = .ok (.value (.pointer (some ⟨W.heap.size, 0, none⟩))) (W.alloc (.cells #[.pointer none, .slice none 0 0] 84)) := by
    simp only [execOp, ho]
    go_simp
  refine Kd.event_run hgd hrun (h _ _ ⟨⟨?_, by simp⟩, fun d hd => by cases hd⟩ (below_alloc (Below.refl _ _) _))
  refine .inl ⟨hbase, .slice none 0 0, ?_, World.ownsRowF_nil _ _ _ _, by simp [Value.ownBlock]⟩
  show (W.heap.push _)[W.heap.size]? = _
  simp
end
end Go.Proofs.YtdkejcadoepnnaaDoor.X
