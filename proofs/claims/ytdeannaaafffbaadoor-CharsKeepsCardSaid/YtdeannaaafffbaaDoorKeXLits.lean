/-
  A list of lists that are apart, out of rows of the call's own; and several such lists put behind others. Conditions: the rows' blocks are apart.
-/
import Derived.Test.YtdeannaaafffbaaDoorKeXAp
import Derived.Great.BuildSlice
set_option linter.unusedSimpArgs false
set_option linter.unusedVariables false
set_option linter.unusedSimpArgs false
namespace Go.Proofs.YtdeannaaafffbaaDoor.X
open Go.RowKit Go.Proofs.YtdeannaaafffbaaDoorW.PrintWords Go.Proofs.YtdeannaaafffbaaDoorW.PrintLast Go.Proofs.YtdeannaaafffbaaDoorW.PrintMore Go.Proofs.YtdeannaaafffbaaDoor.ECd
/-- The blocks of these rows. -/
def okV (vs : List Value) (k : Nat) : Prop := ∃ v ∈ vs, v.ownBlock = some k
theorem take_one {l : List Value} {j : Nat} {v : Value} (h : l[j]? = some v) : (l.drop j).take 1 = [v] := by
  obtain ⟨hj, e⟩ := List.getElem?_eq_some_iff.1 h
  rw [List.drop_eq_getElem_cons hj, e]
  rfl
section
variable {ops : Array Oper} {o : Oper} {a : Act} {Q : Exit → Act → World → Prop} {Kc : Act → World → Prop}
theorem lits_step {w0 W : World} {B : Nat} (hw : Region.wanted o (yielded ops a.tmps) = true) {N : Tmp} (hd : o.dst = some N) (vs : List Value) (ts : List (List ByteArray))
    (hrun : (execOp a.eval o).run Tryd.prog W = .ok (.value (.slice (some ⟨W.heap.size, 0, none⟩) ts.length ts.length)) (W.alloc (.cells vs.toArray 24))) (hl : vs.length = ts.length)
    (hR : ∀ (j : Nat) (x : List ByteArray), ts[j]? = some x → ∃ v, vs[j]? = some v ∧ Kd.string.R 9 W B (fun _ => True) v x)
    (hne : ∀ (i j : Nat) (v v' : Value) (k : Nat), vs[i]? = some v → vs[j]? = some v' → v.ownBlock = some k → v'.ownBlock = some k → i = j)
    (HB : Below B w0 W) (hbase : B ≤ W.heap.size) (hm : ts.length ≤ 9223372036854775807)
    (h : ∀ v1 w1, Kd.S SL 24 w1 B (fun k => okV vs k ∨ some k = v1.ownBlock) v1 ts → Below W.heap.size W w1 → (∀ k, v1.ownBlock = some k → W.heap.size ≤ k) → Kc (a.put o.dst v1) w1) :
    if Region.wanted o (yielded ops a.tmps) = true then Oper.wp Tryd.prog o a W Kc Q else Kc (a.put o.dst undef) W := by
  have hlt : ∀ k, okV vs k → k < W.heap.size := by
    rintro k ⟨v, hv, e⟩
    obtain ⟨j, hj⟩ := List.mem_iff_getElem?.1 hv
    have hjl := (List.getElem?_eq_some_iff.1 hj).1
    obtain ⟨v', hv', hr⟩ := hR j _ (List.getElem?_eq_getElem (by omega : j < ts.length))
    rw [hj] at hv'
    injection hv' with hv'
    subst hv'
    exact Kd.R_lt hr k e
  refine Kd.S_lits_step SL (w0 := w0) B 24 hw hd (xs := ts) (inner := vs) (ok := fun k => okV vs k ∨ W.heap.size = k) (fun j k => ∃ v, vs[j]? = some v ∧ v.ownBlock = some k) hrun ?_ ?_ ?_ ?_ (.inr rfl) HB hbase hm ?_
  · rw [hl]
    exact (Nat.mul_one _).symm
  · intro j x hx
    obtain ⟨v, hv, hr⟩ := hR j x hx
    have e : (vs.drop (j * SL.sz)).take SL.sz = [v] := by
      show (vs.drop (j * 1)).take 1 = [v]
      rw [Nat.mul_one]
      exact take_one hv
    rw [e]
    exact ⟨v, rfl, Kd.R_mono (Kd.R_tight rfl hr) (fun k hk => ⟨v, hv, hk.symm⟩)⟩
  · rintro i j k ⟨v, hv, e⟩ ⟨v', hv', e'⟩
    exact hne i j v v' k hv hv' e e'
  · rintro j k ⟨v, hv, e⟩
    exact .inl ⟨v, List.mem_of_getElem? hv, e⟩
  · rintro v1 w1 hS hb hg ⟨b, hb1, hb2⟩
    have hbe : W.heap.size = b := by
      rcases (Kd.S_R hS).1 b hb1 with h1 | h1
      · exact absurd (hlt b h1) (by omega)
      · exact h1
    refine h v1 w1 (Kd.S_mono hS (fun k hk => hk.imp id (fun e => by rw [hb1, ← hbe, e]))) (pw_below_grown (Below.refl _ _) none (Nat.le_refl _) hg (fun k hk => by cases hk)) (fun k hk => ?_)
    rw [hb1] at hk
    injection hk with hk
    omega
/-- The run of a literal of six lists. -/
theorem build6 {W : World} (x0 x1 x2 x3 x4 x5 : Operand) (A0 A1 A2 A3 A4 A5 : Option Addr) (n0 n1 n2 n3 n4 n5 c0 c1 c2 c3 c4 c5 : Nat) (ho : o.op = .buildSlice 31 6 #[(0, x0), (1, x1), (2, x2), (3, x3), (4, x4), (5, x5)])
    (h0 : a.eval x0 = .slice A0 n0 c0) (h1 : a.eval x1 = .slice A1 n1 c1) (h2 : a.eval x2 = .slice A2 n2 c2) (h3 : a.eval x3 = .slice A3 n3 c3) (h4 : a.eval x4 = .slice A4 n4 c4) (h5 : a.eval x5 = .slice A5 n5 c5) :
    (execOp a.eval o).run Tryd.prog W = .ok (.value (.slice (some ⟨W.heap.size, 0, none⟩) 6 6)) (W.alloc (.cells [.slice A0 n0 c0, .slice A1 n1 c1, .slice A2 n2 c2, .slice A3 n3 c3, .slice A4 n4 c4, .slice A5 n5 c5].toArray 24)) := by
  have hu := Tryd.underlying31
  have hu24 := Tryd.underlying24
  have hi := info24
  obtain ⟨ie, hie, hz, hs, _⟩ := info_parts hi
  have hr := run_buildSlice (P := Tryd.prog) W 31 24 6 #[(0, .slice A0 n0 c0), (1, .slice A1 n1 c1), (2, .slice A2 n2 c2), (3, .slice A3 n3 c3), (4, .slice A4 n4 c4), (5, .slice A5 n5 c5)]
    #[.slice A0 n0 c0, .slice A1 n1 c1, .slice A2 n2 c2, .slice A3 n3 c3, .slice A4 n4 c4, .slice A5 n5 c5] ie (.slice none 0 0) hu hie hz (by rw [hs]; decide) (by rw [hs]; decide) (by
      rw [hs]
      have hrg : Array.range (6 * 1) = #[0, 1, 2, 3, 4, 5] := by decide
      rw [hrg]
      simp [Instr.fill, Value.cells])
  simp [execOp, ho, h0, h1, h2, h3, h4, h5, hr]
/-- Rows told apart, as the event above asks it. -/
theorem ne_list : ∀ {vs : List Value}, vs.Pairwise (fun v v' => ∀ k, v.ownBlock = some k → v'.ownBlock ≠ some k) → ∀ (i j : Nat) (v v' : Value) (k : Nat), vs[i]? = some v → vs[j]? = some v' → v.ownBlock = some k → v'.ownBlock = some k → i = j := by
  intro vs hp i j v v' k hi hj e e'
  obtain ⟨hi1, hi2⟩ := List.getElem?_eq_some_iff.1 hi
  obtain ⟨hj1, hj2⟩ := List.getElem?_eq_some_iff.1 hj
  rw [List.pairwise_iff_getElem] at hp
  rcases Nat.lt_trichotomy i j with h | h | h
  · exact absurd (by rw [hj2]; exact e') (hp i j hi1 hj1 h k (by rw [hi2]; exact e))
  · exact h
  · exact absurd (by rw [hi2]; exact e) (hp j i hj1 hi1 h k (by rw [hj2]; exact e'))
open Classical in
theorem rows_step {w0 W : World} {B : Nat} (hw : Region.wanted o (yielded ops a.tmps) = true) (s x : Operand)
    (ho : o.op = .call { callee := .builtin .append, args := #[s, x], argTypes := #[31, 31] }) (v vn : Value) (xs ys : List (List ByteArray)) (vs : List Value) (ok : Nat → Prop) (hs : a.eval s = v) (hx : a.eval x = vn)
    (HO : Kd.S SL 24 W B (fun k => ok k ∧ ¬ okV vs k) v xs) (HN : Kd.S SL 24 W B (fun k => okV vs k ∨ some k = vn.ownBlock) vn ys) (hokp : ∀ k, okV vs k → ok k ∧ some k ≠ v.ownBlock) (hfresh : ∀ k, W.heap.size ≤ k → ok k)
    (HB : Below B w0 W) (hbase : B ≤ W.heap.size) (hl : (xs.length + ys.length) * 24 ≤ 140737488355328)
    (h : ∀ v1 w1, Kd.S SL 24 w1 B ok v1 (xs ++ ys) → Below B w0 w1 → W.grownBy w1 v.ownBlock → (v1.ownBlock = v.ownBlock ∨ ∃ b, v1.ownBlock = some b ∧ W.heap.size ≤ b) → Kc (a.put o.dst v1) w1) :
    if Region.wanted o (yielded ops a.tmps) = true then Oper.wp Tryd.prog o a W Kc Q else Kc (a.put o.dst undef) W := by
  obtain ⟨f, hf⟩ := HO
  obtain ⟨f', h0, inner, hown, hr⟩ := HN
  let g : Nat → Nat := fun k => if okV vs k then f' k + xs.length else f k
  have hR : (Kd.tag g SL).R 24 W B ok v xs.zipIdx := Kd.R_mono (Kd.R_tag hf (f' := g) (fun k hk _ => if_neg hk.2)) (fun k hk => hk.1)
  have hr' : Reps ((Kd.tag g SL).M W B (okV vs)) SL.sz (ys.zipIdx xs.length) inner := by
    refine ⟨by rw [List.length_zipIdx]; have := hr.1; rw [List.length_zipIdx] at this; exact this, fun j p hj => ?_⟩
    rw [List.getElem?_zipIdx] at hj
    obtain ⟨y, hy, rfl⟩ := Option.map_eq_some_iff.1 hj
    have hp := hr.2 j (y, j) (Kd.zip_at hy)
    refine SL.M_mono (fun k hk => ?_) hp
    have hk1 : okV vs k := by
      rcases hk.1.1 with h1 | h1
      · exact h1
      · exact absurd h1 hk.1.2
    refine ⟨hk1, ?_⟩
    show g k = xs.length + j
    have e : f' k = j := hk.2
    rw [← e, Nat.add_comm]
    exact if_pos hk1
  have hlen : (ys.zipIdx xs.length).length = ys.zipIdx.length := by rw [List.length_zipIdx, List.length_zipIdx]
  obtain ⟨A, c, rfl, hrr⟩ := own_reads_row hown hr' hlen
  have e0 : (xs ++ ys).zipIdx = xs.zipIdx ++ ys.zipIdx xs.length := by rw [List.zipIdx_append, Nat.zero_add]
  refine Kd.R_append_rows_step (Kd.tag g SL) (Rr := (Kd.tag g SL).M W B (okV vs)) (w0 := w0) B hw s x 31 24 (.slice none 0 0) 24 ho Tryd.underlying31 info24 rfl (show 0 < 1 by decide) (by decide) v xs.zipIdx (ys.zipIdx xs.length) A _ c ok (okV vs) hs hx hR hrr (fun _ _ hk => hk) hokp hfresh HB hbase ?_ ?_
  · rw [List.length_zipIdx, List.length_zipIdx]
    exact hl
  · intro v1 w1 hr1 hb hg hat
    rw [← e0] at hr1
    exact h v1 w1 ⟨g, hr1⟩ hb hg hat
end
end Go.Proofs.YtdeannaaafffbaaDoor.X
