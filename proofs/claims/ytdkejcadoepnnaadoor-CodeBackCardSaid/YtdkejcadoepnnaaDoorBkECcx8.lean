/-
  Several texts of this session's own in one: XLine XMk XMl XNum ECcx1 ECcx8.
-/
import Derived.Test.YtdkejcadoepnnaaDoorBkECmx1
import Derived.Test.YtdkejcadoepnnaaDoorBkX
import Derived.Test.YtdkejcadoepnnaaDoorBkWTab
import Derived.Test.YtdkejcadoepnnaaDoorBkECnx0
import Derived.Lib.SlBytesConst
import Derived.Test.YtdkejcadoepnnaaDoorBkECcx0
import Derived.Test.YtdkejcadoepnnaaDoorBkA0
import Derived.Test.YtdkejcadoepnnaaDoorBkECrx4
import Derived.Test.YtdkejcadoepnnaaDoorBkECcx6
import Derived.Test.YtdkejcadoepnnaaDoorBkECcx7
section
set_option linter.unusedVariables false
set_option linter.unusedSimpArgs false
namespace Go.Proofs.YtdkejcadoepnnaaDoor.X
open Go.RowKit Go.Proofs.YtdkejcadoepnnaaDoorW.PrintWords Go.Proofs.YtdkejcadoepnnaaDoor.ECc
theorem of_if {α : Type} {c : Prop} [Decidable c] {a : Option α} {r : α} (h : (if c then a else none) = some r) : c ∧ a = some r := by
 split at h
 ·exact ⟨by assumption, h⟩
 ·cases h
/-- r is a with bytes behind it, and F writes the same behind any longer row. -/
def Sh (F : List Int → Option (List Int)) (a r : List Int) : Prop := ∃ s, r = a ++ s ∧ (∀ d ∈ s, 0 ≤ d ∧ d < 256) ∧ 1 ≤ s.length ∧ ∀ xs : List Int, xs.length + r.length ≤ 140737488355328 → F (xs ++ a) = some (xs ++ r)
theorem bytesOf_range (t : ByteArray) : ∀ d ∈ bytesOf t, 0 ≤ d ∧ d < 256 := by
 intro d hd
 unfold bytesOf at hd
 obtain ⟨b, _, rfl⟩ := List.mem_map.1 hd
 have := b.toNat_lt
 omega
theorem Sh.cons {F G : List Int → Option (List Int)} {a p r : List Int} (h : Sh G (a ++ p) r) (hp : ∀ d ∈ p, 0 ≤ d ∧ d < 256) (hF : ∀ xs : List Int, (xs ++ a).length + p.length < 140737488355328 → F (xs ++ a) = G ((xs ++ a) ++ p)) : Sh F a r := by
 obtain ⟨s, e, hs, h1, hx⟩ := h
 refine ⟨p ++ s, by rw [e, List.append_assoc], fun d hd => ?_, by rw [List.length_append]; omega, fun xs hl => ?_⟩
 ·rcases List.mem_append.1 hd with hd | hd
  ·exact hp d hd
  ·exact hs d hd
 ·have hl2 : (xs ++ a).length + p.length < 140737488355328 := by
   have := congrArg List.length e
   simp only [List.length_append] at this ⊢
   omega
  rw [hF xs hl2, List.append_assoc, hx xs hl]
theorem Sh.last {F : List Int → Option (List Int)} {a p r : List Int} (e : a ++ p = r) (h1 : 1 ≤ p.length) (hp : ∀ d ∈ p, 0 ≤ d ∧ d < 256) (hF : ∀ xs : List Int, (xs ++ a).length + p.length ≤ 140737488355328 → F (xs ++ a) = some ((xs ++ a) ++ p)) : Sh F a r := by
 subst e
 refine ⟨p, rfl, hp, h1, fun xs hl => ?_⟩
 rw [hF xs (by simp only [List.length_append] at hl ⊢; omega), List.append_assoc]
theorem Sh.same {F G : List Int → Option (List Int)} {a r : List Int} (h : Sh G a r) (hF : ∀ xs : List Int, F (xs ++ a) = G (xs ++ a)) : Sh F a r := by
 obtain ⟨s, e, hs, h1, hx⟩ := h
 exact ⟨s, e, hs, h1, fun xs hl => (hF xs).trans (hx xs hl)⟩
theorem r10 : ∀ d ∈ ([10] : List Int), 0 ≤ d ∧ d < 256 := by decide
theorem r32 : ∀ d ∈ ([32] : List Int), 0 ≤ d ∧ d < 256 := by decide
theorem l0_shift (n0 : List S41) (n1 : List Int) (n2 : List ByteArray) (i0 i1 i2 : Int) : ∀ (k : Nat) (x : Int) (a r : List Int), c_line.l0 k x a n0 n1 n2 i0 i1 i2 = some r → Sh (fun y => c_line.l0 k x y n0 n1 n2 i0 i1 i2) a r
 | 0, x, a, r, h => by simp [c_line.l0] at h
 | k + 1, x, a, r, h => by
  rw [c_line.l0] at h
  by_cases c1 : x ≥ 0
  ·rw [if_pos c1] at h
   obtain ⟨c2, h⟩ := of_if h
   obtain ⟨c3, h⟩ := of_if h
   obtain ⟨c4, h⟩ := of_if h
   obtain ⟨c5, h⟩ := of_if h
   obtain ⟨c6, h⟩ := of_if h
   obtain ⟨c7, h⟩ := of_if h
   refine (l0_shift n0 n1 n2 i0 i1 i2 k _ _ _ h).cons ?_ (fun xs hl => ?_)
   ·intro d hd
    rw [List.mem_singleton] at hd
    subst hd
    exact ⟨(bt_range _ _).1, by have := (bt_range (⟨#[48, 49, 50, 51, 52, 53, 54, 55, 56, 57, 97, 98, 99, 100, 101, 102]⟩ : ByteArray) (Go.bits .and .u64 (shr .u64 (rd n1 i1) x) 15)).2; omega⟩
   ·show c_line.l0 (k + 1) x (xs ++ a) n0 n1 n2 i0 i1 i2 = _
    rw [c_line.l0, if_pos c1, if_pos c2, if_pos c3, if_pos c4, if_pos c5, if_pos c6, if_pos (by simp only [List.length_singleton] at hl; omega)]
  ·rw [if_neg c1] at h
   obtain ⟨c2, h⟩ := of_if h
   refine Sh.last (Option.some.inj h) (by simp) r10 (fun xs hl => ?_)
   show c_line.l0 (k + 1) x (xs ++ a) n0 n1 n2 i0 i1 i2 = _
   rw [c_line.l0, if_neg c1, if_pos (by simp only [List.length_singleton] at hl; omega)]
theorem j1_shift (n0 : List S41) (n1 : List Int) (n2 : List ByteArray) (i0 i1 i2 : Int) (q0 : ByteArray) (q1 q2 q3 q4 : Int) : ∀ (k : Nat) (a r : List Int), c_line.j1 k a n0 n1 n2 i0 i1 i2 q0 q1 q2 q3 q4 = some r → Sh (fun y => c_line.j1 k y n0 n1 n2 i0 i1 i2 q0 q1 q2 q3 q4) a r
 | 0, a, r, h => by simp [c_line.j1] at h
 | k + 1, a, r, h => by
  rw [c_line.j1] at h
  by_cases c1 : q1 = 1
  ·rw [if_pos c1] at h
   obtain ⟨c2, h⟩ := of_if h
   refine (l0_shift n0 n1 n2 i0 i1 i2 k _ _ _ h).cons r32 (fun xs hl => ?_)
   show c_line.j1 (k + 1) (xs ++ a) n0 n1 n2 i0 i1 i2 q0 q1 q2 q3 q4 = _
   rw [c_line.j1, if_pos c1, if_pos (by simp only [List.length_singleton] at hl; omega)]
  ·rw [if_neg c1] at h
   by_cases c3 : q1 = 2
   ·rw [if_pos c3] at h
    obtain ⟨c4, h⟩ := of_if h
    rw [Option.bind_some] at h
    obtain ⟨c5, h⟩ := of_if h
    obtain ⟨c6, h⟩ := of_if h
    obtain ⟨t, ht, h⟩ := Option.bind_eq_some_iff.1 h
    obtain ⟨c7, h⟩ := of_if h
    rw [Option.bind_some] at h
    obtain ⟨c8, h⟩ := of_if h
    have e : a ++ ([32] ++ bytesOf t ++ [10]) = r := by rw [← Option.some.inj h]; simp
    refine Sh.last e (by simp) ?_ (fun xs hl => ?_)
    ·intro d hd
     simp only [List.mem_append] at hd
     rcases hd with (hd | hd) | hd
     ·exact r32 d hd
     ·exact bytesOf_range t d hd
     ·exact r10 d hd
    ·show c_line.j1 (k + 1) (xs ++ a) n0 n1 n2 i0 i1 i2 q0 q1 q2 q3 q4 = _
     simp only [List.length_append, List.length_singleton, bytesOf_length] at hl
     rw [c_line.j1, if_neg c1, if_pos c3, if_pos (by rw [List.length_append]; omega), Option.bind_some, if_pos c5, if_pos c6, ht, Option.bind_some, if_pos (by simp only [List.length_append, List.length_singleton]; omega), Option.bind_some, if_pos (by simp only [List.length_append, List.length_singleton, bytesOf_length]; omega)]
     simp
   ·rw [if_neg c3] at h
    obtain ⟨c2, h⟩ := of_if h
    refine Sh.last (Option.some.inj h) (by simp) r10 (fun xs hl => ?_)
    show c_line.j1 (k + 1) (xs ++ a) n0 n1 n2 i0 i1 i2 q0 q1 q2 q3 q4 = _
    rw [c_line.j1, if_neg c1, if_neg c3, if_pos (by simp only [List.length_singleton] at hl; omega)]
theorem j0_shift (n0 : List S41) (n1 : List Int) (n2 : List ByteArray) (i0 i1 i2 : Int) (q0 : ByteArray) (q1 q2 q3 q4 : Int) : ∀ (k : Nat) (a r : List Int), c_line.j0 k a n0 n1 n2 i0 i1 i2 q0 q1 q2 q3 q4 = some r → Sh (fun y => c_line.j0 k y n0 n1 n2 i0 i1 i2 q0 q1 q2 q3 q4) a r
 | 0, a, r, h => by simp [c_line.j0] at h
 | k + 1, a, r, h => by
  rw [c_line.j0] at h
  by_cases c1 : q2 = 0
  ·rw [if_pos c1] at h
   refine (j1_shift n0 n1 n2 i0 i1 i2 q0 q1 q2 q3 q4 k _ _ h).same (fun xs => ?_)
   show c_line.j0 (k + 1) (xs ++ a) n0 n1 n2 i0 i1 i2 q0 q1 q2 q3 q4 = _
   rw [c_line.j0, if_pos c1]
  ·rw [if_neg c1] at h
   obtain ⟨t, ht, h⟩ := Option.bind_eq_some_iff.1 h
   obtain ⟨c2, h⟩ := of_if h
   obtain ⟨c3, h⟩ := of_if h
   refine (j1_shift n0 n1 n2 i0 i1 i2 q0 q1 q2 q3 q4 k _ _ h).cons (bytesOf_range _) (fun xs hl => ?_)
   rw [bytesOf_length] at hl
   show c_line.j0 (k + 1) (xs ++ a) n0 n1 n2 i0 i1 i2 q0 q1 q2 q3 q4 = _
   rw [c_line.j0, if_neg c1, ht, Option.bind_some, if_pos c2, if_pos hl]
theorem f_shift (l1 : List S72) (n0 : List S41) (n1 : List Int) (n2 : List ByteArray) (i : Int) (k : Nat) (a r : List Int) (h : c_line.f k a l1 n0 n1 n2 i = some r) : Sh (fun y => c_line.f k y l1 n0 n1 n2 i) a r := by
 unfold c_line.f at h
 obtain ⟨c1, h⟩ := of_if h
 obtain ⟨c2, h⟩ := of_if h
 obtain ⟨c3, h⟩ := of_if h
 obtain ⟨c4, h⟩ := of_if h
 obtain ⟨t, ht, h⟩ := Option.bind_eq_some_iff.1 h
 obtain ⟨c5, h⟩ := of_if h
 obtain ⟨c6, h⟩ := of_if h
 obtain ⟨c7, h⟩ := of_if h
 rw [Option.bind_some] at h
 by_cases c8 : (rd_T72 l1 ((rd_T41 n0 i).f0)).f1 = 0
 ·rw [if_pos c8] at h
  refine (j0_shift _ _ _ _ _ _ _ _ _ _ _ k _ _ h).cons (bytesOf_range _) (fun xs hl => ?_)
  rw [bytesOf_length] at hl
  show c_line.f k (xs ++ a) l1 n0 n1 n2 i = _
  unfold c_line.f
  rw [if_pos c1, if_pos c2, if_pos c3, if_pos c4, ht, Option.bind_some, if_pos c5, if_pos c6, if_pos hl, Option.bind_some, if_pos c8]
 ·rw [if_neg c8] at h
  obtain ⟨t2, ht2, h⟩ := Option.bind_eq_some_iff.1 h
  obtain ⟨c9, h⟩ := of_if h
  obtain ⟨c10, h⟩ := of_if h
  rw [List.append_assoc] at h
  refine (j0_shift _ _ _ _ _ _ _ _ _ _ _ k _ _ h).cons (fun d hd => (List.mem_append.1 hd).elim (bytesOf_range _ d) (bytesOf_range _ d)) (fun xs hl => ?_)
  simp only [List.length_append, bytesOf_length] at hl
  show c_line.f k (xs ++ a) l1 n0 n1 n2 i = _
  unfold c_line.f
  rw [if_pos c1, if_pos c2, if_pos c3, if_pos c4, ht, Option.bind_some, if_pos c5, if_pos c6, if_pos (by simp only [List.length_append]; omega), Option.bind_some, if_neg c8, ht2, Option.bind_some, if_pos c9, if_pos (by simp only [List.length_append, bytesOf_length]; omega), List.append_assoc (xs ++ a)]
/-- line's text. -/
def xLine.f (l1 : List S72) (n0 : List S41) (n1 : List Int) (n2 : List ByteArray) (i : Int) : Option ByteArray := (c_line.f 40 [] tabL n0 n1 n2 i).map strOfNums
theorem xLine.calls (w0 : World) (gbb : Nat) (w : World) (xs : List Int) (adT_ : Addr) (gT : Nat) (A0 : Option Addr) (c0 : Nat) (n0 : List S41) (A1 : Option Addr) (c1 : Nat) (n1 : List Int) (A2 : Option Addr) (c2 : Nat) (n2 : List ByteArray) (i : Int) (t : ByteArray)
  (HF : BR w w0.heap.size gbb xs) (HB : Below w0.heap.size w0 w) (hadT_ : adT_ = ⟨gT, 0, none⟩) (hT : w.heap[gT]? = some (.cells tabC 73 (0, 0))) (h0 : Kd.C k41 w0 A0 n0.length n0) (hc0 : n0.length ≤ c0) (h1 : Kd.C (Kd.int .u64) w0 A1 n1.length n1) (hc1 : n1.length ≤ c1) (h2 : Kd.C Kd.string w0 A2 n2.length n2) (hc2 : n2.length ≤ c2) (hG : GW w0)
  (hlen : xs.length + t.size ≤ 140737488355328) (h : xLine.f tabL n0 n1 n2 i = some t) :
  Calls Tryd.prog 30 #[.pointer (some ⟨gbb, 0, none⟩), .pointer (some adT_), .agg #[.slice A0 n0.length c0, .slice A1 n1.length c1, .slice A2 n2.length c2], .int .i64 i] w fun e w' => e = .returned (.tuple #[]) ∧ BR w' w0.heap.size gbb (xs ++ bytesOf t) ∧ LB w0 w gbb w' := by
 unfold xLine.f at h
 obtain ⟨r, hr, rfl⟩ := Option.map_eq_some_iff.1 h
 obtain ⟨s, e, hs, _, hx⟩ := f_shift tabL n0 n1 n2 i 40 [] r hr
 rw [List.nil_append] at e
 subst e
 have hb := numsBytes r hs
 have hz : (strOfNums r).size = r.length := by
  have := congrArg List.length hb
  rw [bytesOf_length] at this
  exact this
 rw [hz] at hlen
 have hf := hx xs hlen
 rw [List.append_nil] at hf
 rw [hb]
 exact c_line.calls 40 xs adT_ gT A0 c0 n0 A1 c1 n1 A2 c2 n2 i _ w0 gbb w HF HB hadT_ hT h0 hc0 h1 hc1 h2 hc2 hG hf
def BRr (w : World) (B b : Nat) (xs : List Int) : Prop := BR w B b xs ∧ ∀ d ∈ xs, 0 ≤ d ∧ d < 256
theorem BRr.below {B b : Nat} {xs : List Int} {w w1 : World} (h : BRr w B b xs) (hb : Below w.heap.size w w1) : BRr w1 B b xs := ⟨h.1.below hb, h.2⟩
theorem BRr.alloc {B b : Nat} {xs : List Int} {w : World} (o : Obj) (h : BRr w B b xs) : BRr (w.alloc o) B b xs := ⟨h.1.alloc o, h.2⟩
theorem BRr.drew {B b : Nat} {xs : List Int} {w : World} (h : BRr w B b xs) : BRr w.drew B b xs := ⟨h.1.drew, h.2⟩
theorem BRr.drewN {B b : Nat} {xs : List Int} {w : World} (m : Nat) (h : BRr w B b xs) : BRr (w.drewN m) B b xs := ⟨h.1.drewN m, h.2⟩
theorem BRr.ne {B b g : Nat} {xs : List Int} {w : World} {cs : Array Value} {t : TypeId} (h : BRr w B b xs) (hg : w.heap[g]? = some (.cells cs t (0, 0))) (ht : t ≠ 5 ∧ t ≠ 84) : g ≠ b ∧ t ≠ 5 := h.1.ne hg ht
theorem BRr.len {B b : Nat} {xs : List Int} {w : World} (h : BRr w B b xs) : Calls Tryd.prog 31 #[.pointer (some ⟨b, 0, none⟩)] w fun e w' => e = .returned (.int .i64 xs.length) ∧ w' = w := h.1.len
theorem BRr.text {B b : Nat} {xs : List Int} {w : World} (h : BRr w B b xs) (hBw : B ≤ w.heap.size) : Calls Tryd.prog 32 #[.pointer (some ⟨b, 0, none⟩)] w fun e w' => e = .returned (.string (strOfNums xs)) ∧ Below B w w' := by
 have hb : nums .u8 xs = Lib.byteCells (strOfNums xs).data.toList := by
  have h1 := numsBytes xs h.2
  rw [← h1]
  conv => rhs; rw [h1]
  simp only [nums, bytesOf, Lib.byteCells, List.map_map]
  rfl
 have h2 := h.1.1
 rw [hb] at h2
 exact (Tryd.Builder_String_any_f B b _ w h2 hBw).mono fun e w' ⟨h1, _, h3⟩ => ⟨h1, h3⟩
theorem BRr.line (w0 : World) (gbb : Nat) (w : World) (xs : List Int) (adT_ : Addr) (gT : Nat) (A0 : Option Addr) (c0 : Nat) (n0 : List S41) (A1 : Option Addr) (c1 : Nat) (n1 : List Int) (A2 : Option Addr) (c2 : Nat) (n2 : List ByteArray) (i : Int) (t : ByteArray)
  (HF : BRr w w0.heap.size gbb xs) (HB : Below w0.heap.size w0 w) (hadT_ : adT_ = ⟨gT, 0, none⟩) (hT : w.heap[gT]? = some (.cells tabC 73 (0, 0))) (h0 : Kd.C k41 w0 A0 n0.length n0) (hc0 : n0.length ≤ c0) (h1 : Kd.C (Kd.int .u64) w0 A1 n1.length n1) (hc1 : n1.length ≤ c1) (h2 : Kd.C Kd.string w0 A2 n2.length n2) (hc2 : n2.length ≤ c2) (hG : GW w0)
  (hlen : xs.length + t.size ≤ 140737488355328) (h : xLine.f tabL n0 n1 n2 i = some t) :
  Calls Tryd.prog 30 #[.pointer (some ⟨gbb, 0, none⟩), .pointer (some adT_), .agg #[.slice A0 n0.length c0, .slice A1 n1.length c1, .slice A2 n2.length c2], .int .i64 i] w fun e w' => e = .returned (.tuple #[]) ∧ BRr w' w0.heap.size gbb (xs ++ bytesOf t) ∧ LB w0 w gbb w' :=
 (xLine.calls w0 gbb w xs adT_ gT A0 c0 n0 A1 c1 n1 A2 c2 n2 i t HF.1 HB hadT_ hT h0 hc0 h1 hc1 h2 hc2 hG hlen h).mono fun e w' ⟨h1, h2, h3⟩ => ⟨h1, ⟨h2, fun d hd => (List.mem_append.1 hd).elim (HF.2 d) (bytesOf_range t d)⟩, h3⟩
section
variable {ops : Array Oper} {rest : List Oper} {o : Oper} {a : Act} {Q : Exit → Act → World → Prop}
theorem BRr.new {W : World} (base : Nat) (hgd : o.guard = none) {N : Tmp} (hd : o.dst = some N) (ho : o.op = .alloc 84) (hbase : base ≤ W.heap.size)
  (h : ∀ g w1, BRr w1 base g [] → Below W.heap.size W w1 → wpList Tryd.prog ops Q rest (a.put o.dst (.pointer (some ⟨g, 0, none⟩))) w1) : wpList Tryd.prog ops Q (o :: rest) a W := by
 have hrun : (execOp a.eval o).run Tryd.prog W = .ok (.value (.pointer (some ⟨W.heap.size, 0, none⟩))) (W.alloc (.cells #[.pointer none, .slice none 0 0] 84)) := by
  simp only [execOp, ho]
  go_simp
 refine Kd.event_run hgd hrun (h _ _ ⟨⟨?_, by simp⟩, fun d hd => by cases hd⟩ (below_alloc (Below.refl _ _) _))
 refine .inl ⟨hbase, .slice none 0 0, ?_, World.ownsRowF_nil _ _ _ _, by simp [Value.ownBlock]⟩
 show (W.heap.push _)[W.heap.size]? = _
 simp
end
end Go.Proofs.YtdkejcadoepnnaaDoor.X
end
section
set_option linter.unusedVariables false
namespace Go.Proofs.YtdkejcadoepnnaaDoor.X
open Go.RowKit Go.Proofs.YtdkejcadoepnnaaDoorW.PrintWords
section
variable {P : Program} {ops : Array Oper} {rest : List Oper} {o : Oper} {a : Act} {Q : Exit → Act → World → Prop} {Kc : Act → World → Prop} {α : Type}
/-- A new row, and what is put behind it at once: the older blocks stay. -/
theorem below_grown {W w1 w2 : World} {v : Value} (h : Below W.heap.size W w1) (hv : ∃ b, v.ownBlock = some b ∧ W.heap.size ≤ b) (hg : w1.grownBy w2 v.ownBlock) : Below W.heap.size W w2 := by
 obtain ⟨b, e, hb⟩ := hv
 obtain ⟨g1, g2, g3, g4, g5⟩ := hg
 refine ⟨g1.trans h.os, g2.trans h.tape, g3.trans h.output, Nat.le_trans h.size g4, fun k hk => ?_⟩
 rw [g5 k (Nat.lt_of_lt_of_le hk h.size) (by rw [e]; intro h2; have := Option.some.inj h2; omega), h.block k hk]
end
end Go.Proofs.YtdkejcadoepnnaaDoor.X
end
section
set_option linter.unusedVariables false
namespace Go.Proofs.YtdkejcadoepnnaaDoor.X
open Go.RowKit Go.Proofs.YtdkejcadoepnnaaDoorW.PrintWords
section
variable {P : Program} {ops : Array Oper} {rest : List Oper} {o : Oper} {a : Act} {Q : Exit → Act → World → Prop} {α : Type}
theorem R_make1 (d : Kd α) {w0 W : World} (base e : Nat) (hgd : o.guard = none) {N : Tmp} (_hd : o.dst = some N) (t : TypeId) (x y : Operand) (ho : o.op = .makeSlice t x y) (n : Int) (hx : a.eval x = .int .i64 0) (hy : a.eval y = .int .i64 n)
  (ht : P.underlying t = some (.slice e)) (z : Value) (bytes : Nat) (hinfo : (P.info? e).map (fun i => (i.zero, i.size, i.bytes)) = some (some z, d.sz, bytes)) (hz : z.cells.size = d.sz) (hb0 : 0 < bytes) {ok : Nat → Prop}
  (hfresh : ok W.heap.size) (h0 : 0 ≤ n) (hl : n.toNat * bytes ≤ 281474976710656) (HB : Below base w0 W) (hbase : base ≤ W.heap.size)
  (h : ∀ v1 w1, d.R e w1 base ok v1 [] → Below base w0 w1 → Below W.heap.size W w1 → (∃ b, v1.ownBlock = some b ∧ W.heap.size ≤ b) → wpList P ops Q rest (a.put o.dst v1) w1) : wpList P ops Q (o :: rest) a W := by
 obtain ⟨m, rfl⟩ := Int.eq_ofNat_of_zero_le h0
 simp only [Int.toNat_natCast] at hl
 obtain ⟨i0, hi, hzz⟩ := Option.map_eq_some_iff.1 hinfo
 simp only [Prod.mk.injEq] at hzz
 obtain ⟨hz0, hz1, hz2⟩ := hzz
 have hm : m ≤ 281474976710656 := Nat.le_trans (Nat.le_mul_of_pos_right _ hb0) hl
 have hr := run_make (P := P) W t e i0 z ht hi hz0 .i64 .i64 (0 : Int) (m : Int) (by omega) (by omega)
  (by
   have h3 : ((i0.bytes * m : Nat) : Int) ≤ 281474976710656 := by rw [hz2, Nat.mul_comm]; omega
   rwa [Int.natCast_mul] at h3) (by omega)
 simp only [Int.toNat_natCast, Int.toNat_zero] at hr
 rw [hz1] at hr
 have hrun : (execOp a.eval o).run P W = .ok (.value (.slice (some ⟨W.heap.size, 0, none⟩) 0 m)) (W.alloc (.cells (madeCells z.cells (m * d.sz)) e)) := by
  simp [execOp, ho, hx, hy, hr]
 refine Kd.event_run hgd hrun (h _ _ ⟨fun k hk => ?_, [], ⟨by simp, .inr ⟨W.heap.size, m, madeCells z.cells (m * d.sz), rfl, hbase, heap_alloc_new _ _, Nat.zero_le _, by unfold maxLen; omega, by simp [size_madeCells], by simp⟩⟩, Reps.none _ _⟩ (HB.alloc hbase _) (below_alloc (Below.refl _ _) _) ⟨W.heap.size, rfl, Nat.le_refl _⟩)
 have : W.heap.size = k := by simpa [Value.ownBlock] using hk
 rw [← this]
 exact hfresh
theorem base_at {v : Value} {n : Nat} (h : ∃ b, v.ownBlock = some b ∧ n ≤ b) : ∀ k, v.ownBlock = some k → n ≤ k := by
 intro k hk
 obtain ⟨b, e, hle⟩ := h
 rw [e] at hk
 injection hk with hk
 omega
end
end Go.Proofs.YtdkejcadoepnnaaDoor.X
end
section
set_option linter.unusedVariables false
set_option linter.unusedSimpArgs false
namespace Go.Proofs.YtdkejcadoepnnaaDoor.X
open Go.RowKit Go.Proofs.YtdkejcadoepnnaaDoorW.PrintWords Go.Proofs.YtdkejcadoepnnaaDoorW.PrintLast Go.Proofs.YtdkejcadoepnnaaDoorW.PrintMore Go.Proofs.YtdkejcadoepnnaaDoor.ECn
attribute [local go_sem] max2_int min2_int max_two min_two max_three min_three max_four min_four
/-- What a call does that writes behind a row v of its caller's: nothing else that was there changes; the new row is the old one's block, or a new one. -/
def GrowTo (w : World) (v : Value) (w' : World) (v' : Value) : Prop := w.grownBy w' v.ownBlock ∧ (v'.ownBlock = v.ownBlock ∨ ∃ b, v'.ownBlock = some b ∧ w.heap.size ≤ b)
theorem GrowTo.refl (w : World) (v : Value) : GrowTo w v w v := ⟨⟨rfl, rfl, rfl, Nat.le_refl _, fun _ _ _ => rfl⟩, .inl rfl⟩
theorem GrowTo.step {w w1 w2 : World} {v v1 v2 : Value} (h : GrowTo w v w1 v1) (hg : w1.grownBy w2 v1.ownBlock) (hat : v2.ownBlock = v1.ownBlock ∨ ∃ b, v2.ownBlock = some b ∧ w1.heap.size ≤ b) : GrowTo w v w2 v2 := by
 obtain ⟨h1, h2⟩ := h
 refine ⟨⟨hg.os.trans h1.os, hg.tape.trans h1.tape, hg.output.trans h1.output, Nat.le_trans h1.size hg.size, fun k hk hne => ?_⟩, ?_⟩
 ·have h3 : some k ≠ v1.ownBlock := by
   rcases h2 with h2 | ⟨b, h2, hb⟩
   ·rw [h2]; exact hne
   ·rw [h2]
    intro e
    injection e with e
    omega
  exact (hg.block k (Nat.lt_of_lt_of_le hk h1.size) h3).trans (h1.block k hk hne)
 ·rcases hat with e | ⟨b, e, hb⟩
  ·rw [e]; exact h2
  ·exact .inr ⟨b, e, Nat.le_trans h1.size hb⟩
def RM (w : World) (base : Nat) (v : Value) (xs : List Int) : Prop :=
 ∃ g, v = .slice (some ⟨g, 0, none⟩) xs.length xs.length ∧ base ≤ g ∧ w.heap[g]? = some (.cells (nums .u8 xs).toArray 5 (xs.length, xs.length + 1))
def RX (w : World) (base : Nat) (v : Value) (xs : List Int) : Prop := Kd.R (Kd.int .u8) 5 w base (fun _ => True) v xs ∨ RM w base v xs
theorem RM.below {w w1 : World} {base : Nat} {v : Value} {xs : List Int} (h : RM w base v xs) (hb : Below w.heap.size w w1) : RM w1 base v xs := by
 obtain ⟨g, rfl, hb0, hg⟩ := h
 refine ⟨g, rfl, hb0, ?_⟩
 rw [hb.block g (Array.getElem?_eq_some_iff.1 hg).1]
 exact hg
theorem RX.alloc {w : World} {base : Nat} {v : Value} {xs : List Int} (o : Obj) (h : RX w base v xs) : RX (w.alloc o) base v xs := h.imp (fun h => Kd.R_alloc h o) (fun h => h.below (below_alloc (Below.refl _ _) o))
theorem RX.drew {w : World} {base : Nat} {v : Value} {xs : List Int} (h : RX w base v xs) : RX w.drew base v xs := h.imp (fun h => Kd.R_drew h) (fun h => h.below (below_drew (Below.refl _ _)))
theorem RX.drewN {w : World} {base : Nat} {v : Value} {xs : List Int} (m : Nat) (h : RX w base v xs) : RX (w.drewN m) base v xs := h.imp (fun h => Kd.R_drewN h m) (fun h => h.below (pw_below_drewN (Below.refl _ _) m))
section
variable {P : Program} {ops : Array Oper} {rest : List Oper} {o : Oper} {a : Act} {Q : Exit → Act → World → Prop}
theorem RM.append {w0 W : World} (base : Nat) (hgd : o.guard = none) (s x : Operand) (t : TypeId)
  (ho : o.op = .call { callee := .builtin .append, args := #[s, x], argTypes := #[t, t] })
  (ht : P.underlying t = some (.slice 5)) (hinfo : (P.info? 5).map (fun i => (i.zero, i.size, i.bytes)) = some (some (.int .u8 0), 1, 1))
  (v : Value) (xs : List Int) (p : Int) (hs : a.eval s = v) (hx : a.eval x = .slice (some ⟨W.heap.size, 0, none⟩) 1 1)
  (HO : RM W base v xs) (HB : Below base w0 W) (hbase : base ≤ W.heap.size) (hl : xs.length + 1 ≤ 140737488355328)
  (h : ∀ v1 w1, Kd.R (Kd.int .u8) 5 w1 base (fun _ => True) v1 (xs ++ [p]) → Below base w0 w1 → W.grownBy w1 v.ownBlock → (v1.ownBlock = v.ownBlock ∨ ∃ b, v1.ownBlock = some b ∧ W.heap.size ≤ b) → wpList P ops Q rest (a.put o.dst v1) w1) :
  wpList P ops Q (o :: rest) a (W.alloc (.cells #[.int .u8 p] 5)) := by
 obtain ⟨i, hi, hzz⟩ := Option.map_eq_some_iff.1 hinfo
 simp only [Prod.mk.injEq] at hzz
 obtain ⟨hz0, hz1, hz2⟩ := hzz
 obtain ⟨g, rfl, hbg, hg⟩ := HO
 have hglt := blk_lt hg
 have hlo : (nums .u8 xs).length = xs.length * i.size := by rw [nums_length, hz1, Nat.mul_one]
 have holds : ∀ j u, (nums .u8 xs)[j]? = some u → (W.alloc (.cells #[.int .u8 p] 5)).cell? ((⟨g, 0, none⟩ : Addr).add j) = some u := by
  simpa using World.news_of_block (cs := (nums .u8 xs).toArray) (t := 5) (fr := (xs.length, xs.length + 1)) ((heap_alloc_old W (.cells #[.int .u8 p] 5) hglt).trans hg)
 have hnews : ∀ j u, [Value.int .u8 p][j]? = some u → (W.alloc (.cells #[.int .u8 p] 5)).cell? ((⟨W.heap.size, 0, none⟩ : Addr).add j) = some u := by
  simpa using World.news_of_block (cs := #[Value.int .u8 p]) (t := 5) (fr := (0, 0)) (heap_alloc_new W (.cells #[.int .u8 p] 5))
 have hr := run_append_grow (P := P) (W.alloc (.cells #[.int .u8 p] 5)) t o.type 5 i (.int .u8 0) ht hi hz0 ⟨g, 0, none⟩ xs.length xs.length (nums .u8 xs) hlo holds ⟨W.heap.size, 0, none⟩ 1 1 [.int .u8 p] (by rw [hz1]; rfl) hnews (by omega) (by omega) (growslice_fits (by omega) (by rw [hz2, Nat.mul_one]; exact hl))
 refine wpList_plain hgd fun K hK => ?_
 unfold Oper.wp execOp
 simp only [ho, resolve, invoke, builtin, Sem.run_bind, Sem.run_pure, Result.andThen_ok, List.map_toArray, List.map_cons, List.map_nil, hs, hx, hr]
 have hge := grownCap_ge (W.alloc (.cells #[.int .u8 p] 5)) (xs.length + 1) xs.length 5
 have hcm := grownCap_le_maxLen (W.alloc (.cells #[.int .u8 p] 5)) (xs.length + 1) xs.length 5 (by simp only [maxLen]; omega)
 refine hK _ _ (h _ _ (Kd.R_of_own ?_ (fun _ _ => trivial)) ?_ ?_ (.inr ⟨_, rfl, by simp⟩))
 ·rw [List.length_append, List.length_singleton]
  refine ⟨by simp [encs], .inr ⟨_, _, _, rfl, Nat.le_trans hbase (by simp), heap_alloc_new (W.alloc (.cells #[.int .u8 p] 5)).drew _, hge, hcm, ?_, ?_⟩⟩
  ·simp only [Array.size_append, List.size_toArray, size_zeroCells, nums_length, List.length_singleton]
   show xs.length + 1 + (_ - (xs.length + 1)) * 1 = _ * 1
   omega
  ·simp only [Array.toList_append, List.append_assoc]
   rw [← List.append_assoc]
   have e : (nums .u8 xs ++ [Value.int .u8 p]).length = (xs.length + 1) * 1 := by simp [nums_length]
   rw [← e, List.take_left]
   simp [nums, encs]
 ·exact (below_drew (HB.alloc hbase _)).alloc (Nat.le_trans hbase (by simp)) _
 ·exact ⟨rfl, rfl, rfl, by simp; omega, fun k hk _ => (heap_alloc_old (W.alloc (.cells #[.int .u8 p] 5)).drew _ (by simp; omega)).trans (heap_alloc_old W _ hk)⟩
theorem RX.append {w0 W : World} (base : Nat) (hgd : o.guard = none) (s x : Operand) (t : TypeId)
  (ho : o.op = .call { callee := .builtin .append, args := #[s, x], argTypes := #[t, t] })
  (ht : P.underlying t = some (.slice 5)) (hinfo : (P.info? 5).map (fun i => (i.zero, i.size, i.bytes)) = some (some (.int .u8 0), 1, 1))
  (v : Value) (xs : List Int) (p : Int) (hs : a.eval s = v) (hx : a.eval x = .slice (some ⟨W.heap.size, 0, none⟩) 1 1)
  (HO : RX W base v xs) (HB : Below base w0 W) (hbase : base ≤ W.heap.size) (hl : xs.length + 1 ≤ 140737488355328)
  (h : ∀ v1 w1, Kd.R (Kd.int .u8) 5 w1 base (fun _ => True) v1 (xs ++ [p]) → Below base w0 w1 → W.grownBy w1 v.ownBlock → (v1.ownBlock = v.ownBlock ∨ ∃ b, v1.ownBlock = some b ∧ W.heap.size ≤ b) → wpList P ops Q rest (a.put o.dst v1) w1) :
  wpList P ops Q (o :: rest) a (W.alloc (.cells #[.int .u8 p] 5)) := by
 rcases HO with HO | HO
 ·exact Kd.R_append (Kd.int .u8) (w0 := w0) base hgd s x t 5 (.int .u8 0) 1 ho ht hinfo rfl (by decide) (by omega) v xs p [.int .u8 p] (fun _ => True) (fun _ => False) hs hx rfl (fun _ hk => hk.elim) (fun _ _ => trivial) HO HB hbase (by omega) h
 ·exact RM.append base hgd s x t ho ht hinfo v xs p hs hx HO HB hbase hl h
end
/-- '[]byte("..")' of a constant: its row, and the mark behind it (two operations at once). -/
theorem mark_event {o1 o2 : Oper} {a : Act} {w0 W : World} {T : Tmp} {ops : Array Oper} {rest : List Oper} {Q : Exit → Act → World → Prop} (base : Nat) (g1 : o1.guard = none) (d1 : o1.dst = some T) (g2 : o2.guard = none) (h2 : o2.op = .convert 34 34 (.tmp T)) (xs : List Int)
  (hrun : (execOp a.eval o1).run Tryd.prog W = .ok (.value (.slice (some ⟨W.heap.size, 0, none⟩) xs.length xs.length)) (W.alloc (.cells (nums .u8 xs).toArray 5)))
  (hx : ∀ v, (a.put (some T) v).eval (.tmp T) = v) (HB : Below base w0 W) (hbase : base ≤ W.heap.size)
  (h : ∀ v1 w1, RX w1 base v1 xs → Below base w0 w1 → W.grownBy w1 none → (∃ b, v1.ownBlock = some b ∧ W.heap.size ≤ b) → wpList Tryd.prog ops Q rest ((a.put (some T) v1).put o2.dst v1) w1) : wpList Tryd.prog ops Q (o1 :: o2 :: rest) a W := by
 refine Kd.event_run g1 hrun ?_
 rw [d1]
 have hr := Lib.run_convert_bytes_const (P := Tryd.prog) W 34 5 (nums .u8 xs).toArray xs.length xs.length Tryd.underlying34 Tryd.underlying5
 have hrun2 : (execOp (a.put (some T) (.slice (some ⟨W.heap.size, 0, none⟩) xs.length xs.length)).eval o2).run Tryd.prog (W.alloc (.cells (nums .u8 xs).toArray 5)) = .ok (.value (.slice (some ⟨W.heap.size, 0, none⟩) xs.length xs.length)) (W.alloc (.cells (nums .u8 xs).toArray 5 ((nums .u8 xs).toArray.size, (nums .u8 xs).toArray.size + 1))) := by
  simp [execOp, h2, hx, hr]
 refine Kd.event_run g2 hrun2 (h _ _ (.inr ⟨W.heap.size, rfl, hbase, ?_⟩) (HB.alloc hbase _) (World.grownBy_alloc W _ none) ⟨W.heap.size, by simp [Value.ownBlock], Nat.le_refl _⟩)
 rw [heap_alloc_new]
 simp [nums_length]
theorem RX.lower {w : World} {base base' : Nat} {v : Value} {xs : List Int} (h : RX w base v xs) (hb : base' ≤ base) : RX w base' v xs := by
 rcases h with h | ⟨g, e, hg, r⟩
 ·exact .inl (Kd.R_lower h hb)
 ·exact .inr ⟨g, e, Nat.le_trans hb hg, r⟩
theorem RX.ne {w : World} {base g : Nat} {v : Value} {xs : List Int} {cs : Array Value} {t : TypeId} (h : RX w base v xs) (hg : w.heap[g]? = some (.cells cs t (0, 0))) (ht : t ≠ 5) : some g ≠ v.ownBlock := by
 rcases h with h | ⟨g', rfl, _, h⟩
 ·exact Kd.R_ne h hg (fun e => ht e.symm)
 ·intro e
  have : g = g' := by simpa [Value.ownBlock] using e
  subst this
  rw [hg] at h
  simp at h
def xNumber.l0 : Nat → Int → List Int → Option (List Int)
 | 0, _, _ => none
 | k + 1, x1, x21 => if x1 ≥ 128 then (if x21.length < 140737488355328 then (xNumber.l0 k (wrap64 (Int.tdiv x1 128)) (x21 ++ [Go.bits .or .u8 ((Int.tmod x1 128) % 256) 128])) else (none)) else (if x21.length < 140737488355328 then (some (x21 ++ [(x1) % 256])) else (none))
set_option maxHeartbeats 8000000 in
set_option maxRecDepth 100000 in
theorem xNumber.walk (k : Nat) (w0 : World) (v : Value) (xs : List Int) (a1 : Int) (r : List Int) (w : World) (HO : Aside0 (RX w w0.heap.size v xs)) (HB : Aside0 (Below w0.heap.size w0 w)) (h : xNumber.l0 k a1 xs = some r) :
  Calls Tryd.prog 29 #[v, .int .i64 a1] w fun e w' => ∃ v0_ : Value, e = .returned (v0_) ∧ Kd.R (Kd.int .u8) 5 w' w0.heap.size (fun _ => True) v0_ r ∧ GrowTo w v w' v0_ ∧ Below w0.heap.size w0 w' := by
 have H : (xNumber.l0 k a1 xs) = some r := h
 clear h
 have H' := Aside0.mk H
 clear H
 go_enter Tryd.func29, Tryd.ntmps29
 go_wp2
 go_loopg [0, 1] k (fun kq v21 v1 w' => ∃ (x1_1 : Int) (x21_1 : List Int), v1 = .int .i64 x1_1 ∧ Aside0 (xNumber.l0 kq x1_1 x21_1 = some r) ∧ Aside0 (kq ≤ k) ∧ Aside0 (RX w' w0.heap.size v21 x21_1) ∧ Aside0 (GrowTo w v w' v21) ∧ Aside0 (Below w0.heap.size w0 w'))
 case atStart => exact ⟨(a1), (xs), (by first | rfl | (simp; done) | (simp [*]; done)), H', ⟨Nat.le_refl _⟩, ⟨HO.out⟩, ⟨GrowTo.refl w v⟩, ⟨by repeat (first | (with_reducible first | exact HB.out | apply below_alloc | apply pw_below_drewN | apply below_drew1) | exact HB.out)⟩⟩
 case round =>
  clear H'
  try clear c2
  try clear p2
  obtain ⟨x1_1, x21_1, rfl, HA, HK1, HO_21, HGR, HB⟩ := hrel
  cases gk with
  | zero => exact absurd HA.out (by simp [xNumber.l0])
  | succ k1 =>
   have H := HA.out
   clear HA
   simp only [xNumber.l0] at H
   by_cases c3 : x1_1 ≥ 128
   ·rw [if_pos c3] at H
    have c3b0 : decide (128 ≤ x1_1) = true := decide_eq_true c3
    clear c3
    by_cases c4 : x21_1.length < 140737488355328
    ·rw [if_pos c4] at H
     have LMc4 := Aside0.mk c4
     clear c4
     obtain ⟨y101, hy101⟩ : ∃ y_ : List Int, y_ = (x21_1 ++ [Go.bits .or .u8 ((Int.tmod x1_1 128) % 256) 128]) := ⟨_, rfl⟩
     replace H : (xNumber.l0 k1 (wrap64 (Int.tdiv x1_1 128)) y101) = some r := by first | (rw [hy101]; with_reducible exact H) | (have H2_ := (Option.bind_some _ _).symm.trans H; rw [hy101]; with_reducible exact H2_) | (have H2_ := (Option.bind_some _ _).symm.trans H; with_reducible exact H2_) | with_reducible exact H | (rw [hy101]; exact H) | exact H
     have Ny101 := Aside0.mk hy101
     clear hy101
     have H' := Aside0.mk H
     clear H
     go_wp2_with (first | ((with_reducible refine gate_builtin (b := .append) (xs := #[.tmp 7, .tmp 12]) rfl ?_); at_builtin; refine RX.append (w0 := w0) w0.heap.size rfl (.tmp 7) (.tmp 12) 34 rfl Tryd.underlying34 info5 u0 x21_1 (Go.bits .or .u8 ((Int.tmod x1_1 128) % 256) 128) rfl rfl ?aO ?aB ?aS ?aL ?_; (case aB => exact (by repeat (first | (with_reducible first | exact HB.out | apply below_alloc | apply pw_below_drewN | apply below_drew1) | exact HB.out))); (case aO => exact (by (with_reducible repeat (first | apply RX.alloc | apply RX.drewN | apply RX.drew)); exact HO_21.out)); (case aS => exact (below_size (by repeat (first | (with_reducible first | exact HB.out | apply below_alloc | apply pw_below_drewN | apply below_drew1) | exact HB.out)))); (case aL => have := LMc4.out; omega); intro v102 w5 ho hb hg hat; rw [← Ny101.out] at ho; have nG_ := Aside0.mk (GrowTo.step HGR.out hg hat); have n0_ := Aside0.mk (hb); have n1_ := Aside0.mk (ho); clear HB; clear HO_21 HGR; have HGR := nG_; clear nG_; have HB := n0_; have HO103 := n1_; clear n0_ n1_; clear ho hb hg hat))
     go_roundg k1
     case measure => have := HK1.out; omega
     case rel => exact ⟨(wrap64 (Int.tdiv x1_1 128)), (y101), (by first | rfl | (simp; done) | (simp [*]; done)), H', ⟨by have := HK1.out; omega⟩, ⟨.inl (by (with_reducible repeat (first | apply Kd.R_alloc | apply Kd.R_drewN | apply Kd.R_drew)); exact HO103.out)⟩, ⟨HGR.out⟩, ⟨by repeat (first | (with_reducible first | exact HB.out | apply below_alloc | apply pw_below_drewN | apply below_drew1) | exact HB.out)⟩⟩
    ·rw [if_neg c4] at H
     exact absurd H (by simp)
   ·rw [if_neg c3] at H
    have c3b0 : decide (128 ≤ x1_1) = false := decide_eq_false c3
    clear c3
    by_cases c6 : x21_1.length < 140737488355328
    ·rw [if_pos c6] at H
     have LMc6 := Aside0.mk c6
     clear c6
     obtain ⟨y104, hy104⟩ : ∃ y_ : List Int, y_ = (x21_1 ++ [(x1_1) % 256]) := ⟨_, rfl⟩
     replace H : (some y104) = some r := by first | (rw [hy104]; with_reducible exact H) | (have H2_ := (Option.bind_some _ _).symm.trans H; rw [hy104]; with_reducible exact H2_) | (have H2_ := (Option.bind_some _ _).symm.trans H; with_reducible exact H2_) | with_reducible exact H | (rw [hy104]; exact H) | exact H
     have Ny104 := Aside0.mk hy104
     clear hy104
     obtain rfl := Option.some.inj H
     go_wp2_with (first | ((with_reducible refine gate_builtin (b := .append) (xs := #[.tmp 16, .tmp 19]) rfl ?_); at_builtin; refine RX.append (w0 := w0) w0.heap.size rfl (.tmp 16) (.tmp 19) 34 rfl Tryd.underlying34 info5 u0 x21_1 ((x1_1) % 256) rfl rfl ?aO ?aB ?aS ?aL ?_; (case aB => exact (by repeat (first | (with_reducible first | exact HB.out | apply below_alloc | apply pw_below_drewN | apply below_drew1) | exact HB.out))); (case aO => exact (by (with_reducible repeat (first | apply RX.alloc | apply RX.drewN | apply RX.drew)); exact HO_21.out)); (case aS => exact (below_size (by repeat (first | (with_reducible first | exact HB.out | apply below_alloc | apply pw_below_drewN | apply below_drew1) | exact HB.out)))); (case aL => have := LMc6.out; omega); intro v105 w7 ho hb hg hat; rw [← Ny104.out] at ho; have nG_ := Aside0.mk (GrowTo.step HGR.out hg hat); have n0_ := Aside0.mk (hb); have n1_ := Aside0.mk (ho); clear HB; clear HO_21 HGR; have HGR := nG_; clear nG_; have HB := n0_; have HO106 := n1_; clear n0_ n1_; clear ho hb hg hat))
     go_ret
     exact ⟨_, by first | rfl | (simp [errW_none, errW_some] <;> rfl) | (simp [*, errW_none, errW_some] <;> rfl), by (with_reducible repeat (first | apply Kd.R_alloc | apply Kd.R_drewN | apply Kd.R_drew)); exact HO106.out, HGR.out, by repeat (first | (with_reducible first | exact HB.out | apply below_alloc | apply pw_below_drewN | apply below_drew1) | exact HB.out)⟩
    ·rw [if_neg c6] at H
     exact absurd H (by simp)
def dgL (x : Int) : List Int := if h : x ≥ 128 then (x % 128 + 128) :: dgL (x / 128) else [x % 256]
termination_by x.toNat
decreasing_by omega
theorem dgL_big {x : Int} (h : x ≥ 128) : dgL x = (x % 128 + 128) :: dgL (x / 128) := by rw [dgL, dif_pos h]
theorem dgL_small {x : Int} (h : ¬ x ≥ 128) : dgL x = [x % 256] := by rw [dgL, dif_neg h]
theorem dgL_pos (x : Int) : 1 ≤ (dgL x).length := by
 by_cases h : x ≥ 128
 ·rw [dgL_big h, List.length_cons]; omega
 ·rw [dgL_small h]; simp
theorem or128 : ∀ n : Fin 128, Go.bits .or .u8 ((n.val : Nat) : Int) 128 = ((n.val : Nat) : Int) + 128 := by decide
theorem or_dig {x : Int} (h : 0 ≤ x) : Go.bits .or .u8 ((Int.tmod x 128) % 256) 128 = x % 128 + 128 := by
 have e : Int.tmod x 128 = x % 128 := Int.tmod_eq_emod_of_nonneg h
 have e2 : (x % 128) % 256 = x % 128 := by omega
 rw [e, e2]
 have := or128 ⟨(x % 128).toNat, by omega⟩
 have e3 : (((x % 128).toNat : Nat) : Int) = x % 128 := by omega
 simp only [e3] at this
 exact this
theorem div_dig {x : Int} (h : 0 ≤ x) (h1 : x ≤ 9223372036854775807) : wrap64 (Int.tdiv x 128) = x / 128 := by
 have e : Int.tdiv x 128 = x / 128 := Int.tdiv_eq_ediv_of_nonneg h
 rw [e]
 unfold wrap64
 omega
theorem num_l0 : ∀ (n : Nat) (x : Int), x.toNat ≤ n → x ≤ 9223372036854775807 → ∀ xs : List Int, xs.length + (dgL x).length ≤ 140737488355328 → ∃ m, xNumber.l0 m x xs = some (xs ++ dgL x)
 | n, x, hn, hx, xs, hl => by
  by_cases h : x ≥ 128
  ·have hp := dgL_pos (x / 128)
   rw [dgL_big h, List.length_cons] at hl
   match n, hn with
   | 0, hn => omega
   | n + 1, hn =>
    obtain ⟨m, hm⟩ := num_l0 n (x / 128) (by omega) (by omega) (xs ++ [x % 128 + 128]) (by rw [List.length_append, List.length_singleton]; omega)
    refine ⟨m + 1, ?_⟩
    rw [xNumber.l0, if_pos h, if_pos (by omega), or_dig (by omega), div_dig (by omega) hx, hm, dgL_big h]
    simp
  ·rw [dgL_small h, List.length_singleton] at hl
   refine ⟨1, ?_⟩
   rw [xNumber.l0, if_neg h, if_pos (by omega), dgL_small h]
theorem dgL_range : ∀ (n : Nat) (x : Int), x.toNat ≤ n → ∀ d ∈ dgL x, 0 ≤ d ∧ d < 256
 | n, x, hn, d, hd => by
  by_cases h : x ≥ 128
  ·rw [dgL_big h] at hd
   match n, hn with
   | 0, hn => omega
   | n + 1, hn =>
    rcases List.mem_cons.1 hd with rfl | hd
    ·omega
    ·exact dgL_range n (x / 128) (by omega) d hd
  ·rw [dgL_small h, List.mem_singleton] at hd
   subst hd
   omega
theorem bytes_nums : ∀ l : List Int, (∀ d ∈ l, 0 ≤ d ∧ d < 256) → bytesOf (strOfNums l) = l
 | l, h => by
  unfold bytesOf strOfNums
  simp only [List.map_map]
  conv => rhs; rw [← List.map_id l]
  apply List.map_congr_left
  intro d hd
  obtain ⟨h0, h1⟩ := h d hd
  simp
  omega
def xDigits.f (x : Int) : Option ByteArray := if x ≤ 9223372036854775807 then some (strOfNums (dgL x)) else none
theorem xNumber.calls (w0 : World) (v : Value) (xs : List Int) (x : Int) (t : ByteArray) (w : World) (aO : RX w w0.heap.size v xs) (aB : Below w0.heap.size w0 w) (aL : xs.length + t.size ≤ 140737488355328) (h : xDigits.f x = some t) :
  Calls Tryd.prog 29 #[v, .int .i64 x] w fun e w' => ∃ v1 : Value, e = .returned v1 ∧ Kd.R (Kd.int .u8) 5 w' w0.heap.size (fun _ => True) v1 (xs ++ bytesOf t) ∧ Below w0.heap.size w0 w' ∧ w.grownBy w' v.ownBlock := by
 unfold xDigits.f at h
 split at h
 ·rename_i hx
  obtain rfl := Option.some.inj h
  have hb := bytes_nums (dgL x) (dgL_range _ x (Nat.le_refl _))
  have hs : (strOfNums (dgL x)).size = (dgL x).length := by
   have := congrArg List.length hb
   rw [bytesOf_length] at this
   exact this
  obtain ⟨m, hm⟩ := num_l0 _ x (Nat.le_refl _) hx xs (by omega)
  refine (xNumber.walk m w0 v xs x _ w ⟨aO⟩ ⟨aB⟩ hm).mono fun e w' ⟨v1, he, hr, hg, hb2⟩ => ⟨v1, he, ?_, hb2, hg.1⟩
  rw [hb]
  exact hr
 ·cases h
end Go.Proofs.YtdkejcadoepnnaaDoor.X
end
section
namespace Go.Proofs.YtdkejcadoepnnaaDoor.ECc
open Go.RowKit Go.Proofs.YtdkejcadoepnnaaDoorW.PrintWords Go.Proofs.YtdkejcadoepnnaaDoorW.PrintLast Go.Proofs.YtdkejcadoepnnaaDoorW.PrintMore
attribute [local go_sem] max2_int min2_int max_two min_two max_three min_three max_four min_four
set_option linter.unusedVariables false
theorem eqA41 (d : Nat) (w : World) (x0 y0 : Int) (x1 y1 : Int) (x2 y2 : Int) :
  (Op.equalIn (d + 2) 41 (.agg #[.int .i64 x0, .int .i64 x1, .int .i64 x2]) (.agg #[.int .i64 y0, .int .i64 y1, .int .i64 y2])).run Tryd.prog w = .ok (x0 == y0 && (x1 == y1 && (x2 == y2))) w := by
 refine eqA_of Tryd.underlying41 (by kernel_rfl) ?_
 refine eqf_cons (by rfl) (by go_simp; rfl) (by go_simp; rfl) (by go_simp) ?_
 refine eqf_cons (by rfl) (by go_simp; rfl) (by go_simp; rfl) (by go_simp) ?_
 exact eqf_last (by rfl) (by go_simp; rfl) (by go_simp; rfl) (by go_simp)
end Go.Proofs.YtdkejcadoepnnaaDoor.ECc
end
section
namespace Go.Proofs.YtdkejcadoepnnaaDoor.ECc
open Go.Proofs.YtdkejcadoepnnaaDoor.X
open Go.RowKit Go.Proofs.YtdkejcadoepnnaaDoorW.PrintWords Go.Proofs.YtdkejcadoepnnaaDoorW.PrintLast Go.Proofs.YtdkejcadoepnnaaDoorW.PrintMore
attribute [local go_sem] max2_int min2_int max_two min_two max_three min_three max_four min_four
set_option linter.unusedVariables false
def c_Effect.f (k : Nat) (a0_0 : Int) (a0_1 : Int) (a0_2 : Int) : Option (Int × Int × Bool) := (c_known.f k tabL a0_0 a0_1 a0_2).bind fun bt123 => (if bt123.2.2.2.2.2 = true then ((c_row_effect.f bt123.1 bt123.2.1 bt123.2.2.1 bt123.2.2.2.1 bt123.2.2.2.2.1 a0_0 a0_1 a0_2).bind fun bt130 => (some (bt130.1, bt130.2, true))) else (some (0, 0, false)))
set_option maxHeartbeats 8000000 in
set_option maxRecDepth 100000 in
theorem c_Effect.calls (k : Nat) (a0_0 : Int) (a0_1 : Int) (a0_2 : Int) (r1 : Int) (r2 : Int) (r3 : Bool) (w : World) (h : c_Effect.f k a0_0 a0_1 a0_2 = some (r1, r2, r3)) :
  Calls Tryd.prog 16 #[.agg #[.int .i64 a0_0, .int .i64 a0_1, .int .i64 a0_2]] w fun e w' => e = .returned (.tuple #[.int .i64 r1, .int .i64 r2, .bool r3]) ∧ Below w.heap.size w w' := by
 have hu41 := Tryd.underlying41
 have hu7 := Tryd.underlying7
 have hu72 := Tryd.underlying72
 have HB := am (Below.refl w.heap.size w)
 have H : ((c_known.f k tabL a0_0 a0_1 a0_2).bind fun bt123 => (if bt123.2.2.2.2.2 = true then ((c_row_effect.f bt123.1 bt123.2.1 bt123.2.2.1 bt123.2.2.2.1 bt123.2.2.2.2.1 a0_0 a0_1 a0_2).bind fun bt130 => (some (bt130.1, bt130.2, true))) else (some (0, 0, false)))) = some (r1, r2, r3) := h
 clear h
 replace H := Option.bind_eq_some_iff.mp H
 obtain ⟨⟨t123, t124, t125, t126, t127, t128⟩, A20, H⟩ := H
 replace H : (if t128 = true then ((c_row_effect.f t123 t124 t125 t126 t127 a0_0 a0_1 a0_2).bind fun bt130 => (some (bt130.1, bt130.2, true))) else (some (0, 0, false))) = some (r1, r2, r3) := H
 have A2 := am A20
 clear A20
 by_cases c3 : t128 = true
 rotate_left
 ·replace c3 := Bool.eq_false_iff.mpr c3
  subst c3
  have H1 : (some (0, 0, false)) = some (r1, r2, r3) := by rw [if_neg (show ¬ (false = true) by decide)] at H; exact H
  clear H
  have H := H1
  clear H1
  simp only [Option.some.injEq, Prod.mk.injEq] at H
  obtain ⟨rfl, rfl, rfl⟩ := H
  go_enter Tryd.func16, Tryd.ntmps16
  go_wp2_with (first | ((with_reducible refine gate_dst (N := 1) rfl ?_); refine box_event ?hg (N := 1) ?hd (cs := #[.int .i64 a0_0, .int .i64 a0_1, .int .i64 a0_2]) (t := 41) ?hr ?_; (case hd => rfl); (case hg => rfl); (case hr => first | (go_simp; done) | (go_simp; rfl)); intro gb121 hg w16 hbox hb; have n0_ := am (below_step bl hb); have n1_ := am (hbox); have n2_ := am ((by rw [hg]; exact (below_size bl) : w.heap.size ≤ gb121)); have n3_ := n2_; clear HB; have HB := n0_; have BK121 := n1_; have GW121 := n2_; have GE121 := n3_; clear n0_ n1_ n2_ n3_; clear hb hbox hg) | ((with_reducible refine gate_callee (f := 25) rfl ?_); refine goesL_ (some 10) rfl rfl Tryd.func25 (by kernel_rfl) rfl #[] rfl (by first | rfl | simp) ?_; (with_reducible refine (xRows.calls _).mono ?_); rintro e wq_ ⟨rfl, hq_⟩; refine ⟨_, rfl, ?_⟩; refine tab_event (T := 5) (B := 10) rfl rfl rfl rfl rfl rfl ?hx_ ?hy_ ?_; (case hx_ => intro v; first | rfl | (go_simp; done)); (case hy_ => intro v; first | rfl | (go_simp; done)); intro gb122 adT_ hg0_ hadT_ w17 hbox hb0_; have hb := below_then hq_ hq_.size hb0_; have hg := Nat.le_trans hq_.size hg0_; clear hq_ hg0_ hb0_; have n0_ := am (blk_below (bu BK121.out) hb); have n1_ := am (below_step bs hb); have n2_ := am (hbox); have n3_ := am ((exact_le hg (below_size bs) : w.heap.size ≤ gb122)); have n4_ := am ((exact_le hg (below_size bs) : w.heap.size ≤ gb122)); have n5_ := am ((ne_lt_le hg (blk_lt (bu BK121.out)) : gb121 ≠ gb122)); have n6_ := am ((ne_gt_le hg (blk_lt (bu BK121.out)) : gb122 ≠ gb121)); clear BK121; clear HB; have BK121 := n0_; have HB := n1_; have BK122 := n2_; have GW122 := n3_; have GE122 := n4_; have NB121_122 := n5_; have NB122_121 := n6_; clear n0_ n1_ n2_ n3_ n4_ n5_ n6_; clear hb hbox hg; have hnb18 := NB121_122.out; have hnc18 := NB122_121.out; obtain ⟨⟨hcz19_0, hcz19_1, hcz19_2⟩, hfz19_0, hfz19_1, hfz19_2⟩ := blkAll3 BK121) | ((with_reducible refine gate_callee (f := 33) rfl ?_); refine goesL_ (some 13) rfl rfl Tryd.func33 (by kernel_rfl) rfl #[.pointer (some adT_), .agg #[.int .i64 a0_0, .int .i64 a0_1, .int .i64 a0_2]] rfl ls ?_; (refine (c_known.calls k _ tabL a0_0 a0_1 a0_2 t123 t124 t125 t126 t127 false _ ?side1 ?side2 A2.out).mono ?_); (case side1 => exact tab_rowsA hadT_.out (bu BK122.out)); (case side2 => exact tabL_len); rintro e w20 ⟨rfl, hb⟩; refine ⟨_, rfl, ?_⟩; have n0_ := am (blk_below (bu BK121.out) hb); have n1_ := am (blk_below (bu BK122.out) hb); have n2_ := am (below_step bs hb); clear BK121; clear BK122; clear HB; have BK121 := n0_; have BK122 := n1_; have HB := n2_; clear n0_ n1_ n2_; (try clear hb); (try clear hb2); (try clear hk); (try clear hi)) | ((with_reducible refine gate_dst (N := 6) rfl ?_); refine box_event ?hg (N := 6) ?hd (cs := #[.string (⟨#[]⟩ : ByteArray), .int .i64 0, .int .i64 0, .int .i64 0, .int .i64 0]) (t := 72) ?hr ?_; (case hd => rfl); (case hg => rfl); (case hr => first | (go_simp; done) | (go_simp; rfl)); intro gb129 hg w21 hbox hb; have n0_ := am (blk_below (bu BK121.out) hb); have n1_ := am (blk_below (bu BK122.out) hb); have n2_ := am (below_step bs hb); have n3_ := am (hbox); have n4_ := am ((by rw [hg]; exact (below_size bs) : w.heap.size ≤ gb129)); have n5_ := am ((by rw [hg]; exact (below_size bs) : w.heap.size ≤ gb129)); have n6_ := am ((by rw [hg]; exact Nat.ne_of_lt (blk_lt (bu BK121.out)) : gb121 ≠ gb129)); have n7_ := am ((by rw [hg]; exact Nat.ne_of_gt (blk_lt (bu BK121.out)) : gb129 ≠ gb121)); have n8_ := am ((by rw [hg]; exact Nat.ne_of_lt (blk_lt (bu BK122.out)) : gb122 ≠ gb129)); have n9_ := am ((by rw [hg]; exact Nat.ne_of_gt (blk_lt (bu BK122.out)) : gb129 ≠ gb122)); clear BK121; clear BK122; clear HB; have BK121 := n0_; have BK122 := n1_; have HB := n2_; have BK129 := n3_; have GW129 := n4_; have GE129 := n5_; have NB121_129 := n6_; have NB129_121 := n7_; have NB122_129 := n8_; have NB129_122 := n9_; clear n0_ n1_ n2_ n3_ n4_ n5_ n6_ n7_ n8_ n9_; clear hb hbox hg; have hnb22 := NB129_121.out; have hnc22 := NB121_129.out; have hnb23 := NB129_122.out; have hnc23 := NB122_129.out; obtain ⟨⟨hcz24_0, hcz24_1, hcz24_2, hcz24_3, hcz24_4⟩, hfz24_0, hfz24_1, hfz24_2, hfz24_3, hfz24_4⟩ := blkAll5 BK129))
  go_ret3
  exact ⟨er, bs⟩
 subst c3
 have H1 : ((c_row_effect.f t123 t124 t125 t126 t127 a0_0 a0_1 a0_2).bind fun bt130 => (some (bt130.1, bt130.2, true))) = some (r1, r2, r3) := by rw [if_pos rfl] at H; exact H
 clear H
 have H := H1
 clear H1
 replace H := Option.bind_eq_some_iff.mp H
 obtain ⟨⟨t130, t131⟩, A40, H⟩ := H
 replace H : (some (t130, t131, true)) = some (r1, r2, r3) := H
 have A4 := am A40
 clear A40
 simp only [Option.some.injEq, Prod.mk.injEq] at H
 obtain ⟨rfl, rfl, rfl⟩ := H
 go_enter Tryd.func16, Tryd.ntmps16
 go_wp2_with (first | ((with_reducible refine gate_dst (N := 1) rfl ?_); refine box_event ?hg (N := 1) ?hd (cs := #[.int .i64 a0_0, .int .i64 a0_1, .int .i64 a0_2]) (t := 41) ?hr ?_; (case hd => rfl); (case hg => rfl); (case hr => first | (go_simp; done) | (go_simp; rfl)); intro gb121 hg w5 hbox hb; have n0_ := am (below_step bl hb); have n1_ := am (hbox); have n2_ := am ((by rw [hg]; exact (below_size bl) : w.heap.size ≤ gb121)); have n3_ := n2_; clear HB; have HB := n0_; have BK121 := n1_; have GW121 := n2_; have GE121 := n3_; clear n0_ n1_ n2_ n3_; clear hb hbox hg) | ((with_reducible refine gate_callee (f := 25) rfl ?_); refine goesL_ (some 10) rfl rfl Tryd.func25 (by kernel_rfl) rfl #[] rfl (by first | rfl | simp) ?_; (with_reducible refine (xRows.calls _).mono ?_); rintro e wq_ ⟨rfl, hq_⟩; refine ⟨_, rfl, ?_⟩; refine tab_event (T := 5) (B := 10) rfl rfl rfl rfl rfl rfl ?hx_ ?hy_ ?_; (case hx_ => intro v; first | rfl | (go_simp; done)); (case hy_ => intro v; first | rfl | (go_simp; done)); intro gb122 adT_ hg0_ hadT_ w6 hbox hb0_; have hb := below_then hq_ hq_.size hb0_; have hg := Nat.le_trans hq_.size hg0_; clear hq_ hg0_ hb0_; have n0_ := am (blk_below (bu BK121.out) hb); have n1_ := am (below_step bs hb); have n2_ := am (hbox); have n3_ := am ((exact_le hg (below_size bs) : w.heap.size ≤ gb122)); have n4_ := am ((exact_le hg (below_size bs) : w.heap.size ≤ gb122)); have n5_ := am ((ne_lt_le hg (blk_lt (bu BK121.out)) : gb121 ≠ gb122)); have n6_ := am ((ne_gt_le hg (blk_lt (bu BK121.out)) : gb122 ≠ gb121)); clear BK121; clear HB; have BK121 := n0_; have HB := n1_; have BK122 := n2_; have GW122 := n3_; have GE122 := n4_; have NB121_122 := n5_; have NB122_121 := n6_; clear n0_ n1_ n2_ n3_ n4_ n5_ n6_; clear hb hbox hg; have hnb7 := NB121_122.out; have hnc7 := NB122_121.out; obtain ⟨⟨hcz8_0, hcz8_1, hcz8_2⟩, hfz8_0, hfz8_1, hfz8_2⟩ := blkAll3 BK121) | ((with_reducible refine gate_callee (f := 33) rfl ?_); refine goesL_ (some 13) rfl rfl Tryd.func33 (by kernel_rfl) rfl #[.pointer (some adT_), .agg #[.int .i64 a0_0, .int .i64 a0_1, .int .i64 a0_2]] rfl ls ?_; (refine (c_known.calls k _ tabL a0_0 a0_1 a0_2 t123 t124 t125 t126 t127 true _ ?side1 ?side2 A2.out).mono ?_); (case side1 => exact tab_rowsA hadT_.out (bu BK122.out)); (case side2 => exact tabL_len); rintro e w9 ⟨rfl, hb⟩; refine ⟨_, rfl, ?_⟩; have n0_ := am (blk_below (bu BK121.out) hb); have n1_ := am (blk_below (bu BK122.out) hb); have n2_ := am (below_step bs hb); clear BK121; clear BK122; clear HB; have BK121 := n0_; have BK122 := n1_; have HB := n2_; clear n0_ n1_ n2_; (try clear hb); (try clear hb2); (try clear hk); (try clear hi)) | ((with_reducible refine gate_dst (N := 6) rfl ?_); refine box_event ?hg (N := 6) ?hd (cs := #[.string (⟨#[]⟩ : ByteArray), .int .i64 0, .int .i64 0, .int .i64 0, .int .i64 0]) (t := 72) ?hr ?_; (case hd => rfl); (case hg => rfl); (case hr => first | (go_simp; done) | (go_simp; rfl)); intro gb129 hg w10 hbox hb; have n0_ := am (blk_below (bu BK121.out) hb); have n1_ := am (blk_below (bu BK122.out) hb); have n2_ := am (below_step bs hb); have n3_ := am (hbox); have n4_ := am ((by rw [hg]; exact (below_size bs) : w.heap.size ≤ gb129)); have n5_ := am ((by rw [hg]; exact (below_size bs) : w.heap.size ≤ gb129)); have n6_ := am ((by rw [hg]; exact Nat.ne_of_lt (blk_lt (bu BK121.out)) : gb121 ≠ gb129)); have n7_ := am ((by rw [hg]; exact Nat.ne_of_gt (blk_lt (bu BK121.out)) : gb129 ≠ gb121)); have n8_ := am ((by rw [hg]; exact Nat.ne_of_lt (blk_lt (bu BK122.out)) : gb122 ≠ gb129)); have n9_ := am ((by rw [hg]; exact Nat.ne_of_gt (blk_lt (bu BK122.out)) : gb129 ≠ gb122)); clear BK121; clear BK122; clear HB; have BK121 := n0_; have BK122 := n1_; have HB := n2_; have BK129 := n3_; have GW129 := n4_; have GE129 := n5_; have NB121_129 := n6_; have NB129_121 := n7_; have NB122_129 := n8_; have NB129_122 := n9_; clear n0_ n1_ n2_ n3_ n4_ n5_ n6_ n7_ n8_ n9_; clear hb hbox hg; have hnb11 := NB129_121.out; have hnc11 := NB121_129.out; have hnb12 := NB129_122.out; have hnc12 := NB122_129.out; obtain ⟨⟨hcz13_0, hcz13_1, hcz13_2, hcz13_3, hcz13_4⟩, hfz13_0, hfz13_1, hfz13_2, hfz13_3, hfz13_4⟩ := blkAll5 BK129; obtain ⟨⟨hcz14_0, hcz14_1, hcz14_2⟩, hfz14_0, hfz14_1, hfz14_2⟩ := blkAll3 BK121) | ((with_reducible refine gate_callee (f := 27) rfl ?_); refine goesL_ (some 21) rfl rfl Tryd.func27 (by kernel_rfl) rfl #[.agg #[.string t123, .int .i64 t124, .int .i64 t125, .int .i64 t126, .int .i64 t127], .agg #[.int .i64 a0_0, .int .i64 a0_1, .int .i64 a0_2]] rfl ls ?_; (with_reducible refine (c_row_effect.calls t123 t124 t125 t126 t127 a0_0 a0_1 a0_2 t130 t131 _ A4.out).mono ?_); rintro e w15 ⟨rfl, hb⟩; refine ⟨_, rfl, ?_⟩; have n0_ := am (blk_below (g := gb121) (o := .cells #[.int .i64 a0_0, .int .i64 a0_1, .int .i64 a0_2] 41 (0, 0)) (by refine bu ?_; refine blk_far ?_ NB121_129.out _; refine bu ?_; refine blk_far ?_ NB121_129.out _; refine bu ?_; refine blk_far ?_ NB121_129.out _; refine bu ?_; refine blk_far ?_ NB121_129.out _; refine bu ?_; refine blk_far ?_ NB121_129.out _; refine bu ?_; exact BK121.out) hb); have n1_ := am (blk_below (g := gb122) (o := .cells tabC 73 (0, 0)) (by refine bu ?_; refine blk_far ?_ NB122_129.out _; refine bu ?_; refine blk_far ?_ NB122_129.out _; refine bu ?_; refine blk_far ?_ NB122_129.out _; refine bu ?_; refine blk_far ?_ NB122_129.out _; refine bu ?_; refine blk_far ?_ NB122_129.out _; refine bu ?_; exact BK122.out) hb); have n2_ := am (blk_below (g := gb129) (o := .cells #[.string t123, .int .i64 t124, .int .i64 t125, .int .i64 t126, .int .i64 t127] 72 (0, 0)) (by refine bu ?_; refine blk_put (cs := #[.string t123, .int .i64 t124, .int .i64 t125, .int .i64 t126, .int .i64 0]) ?_ 4 _ rfl; refine bu ?_; refine blk_put (cs := #[.string t123, .int .i64 t124, .int .i64 t125, .int .i64 0, .int .i64 0]) ?_ 3 _ rfl; refine bu ?_; refine blk_put (cs := #[.string t123, .int .i64 t124, .int .i64 0, .int .i64 0, .int .i64 0]) ?_ 2 _ rfl; refine bu ?_; refine blk_put (cs := #[.string t123, .int .i64 0, .int .i64 0, .int .i64 0, .int .i64 0]) ?_ 1 _ rfl; refine bu ?_; refine blk_put (cs := #[.string (⟨#[]⟩ : ByteArray), .int .i64 0, .int .i64 0, .int .i64 0, .int .i64 0]) ?_ 0 _ rfl; refine bu ?_; exact BK129.out) hb); have n3_ := am (below_step bs hb); clear BK121; clear BK122; clear BK129; clear HB; have BK121 := n0_; have BK122 := n1_; have BK129 := n2_; have HB := n3_; clear n0_ n1_ n2_ n3_; (try clear hb); (try clear hb2); (try clear hk); (try clear hi)))
 go_ret3
 exact ⟨er, bs⟩
end Go.Proofs.YtdkejcadoepnnaaDoor.ECc
end
