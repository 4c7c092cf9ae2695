/-
  Several texts of this session's own in one: EDix6 XIt.
-/
import Derived.Test.YtlmijjekaelhcaaDoorSiEDix0
import Derived.Test.YtlmijjekaelhcaaDoorSiX
import Derived.Lib.OthersKept
section
namespace Go.Proofs.YtlmijjekaelhcaaDoor.EDi
open Go.RowKit Go.Proofs.YtlmijjekaelhcaaDoorW.PrintWords Go.Proofs.YtlmijjekaelhcaaDoorW.PrintLast Go.Proofs.YtlmijjekaelhcaaDoorW.PrintMore
attribute [local go_sem] max2_int min2_int max_two min_two max_three min_three max_four min_four   -- for this text's walks alone
set_option linter.unusedVariables false
set_option linter.unusedSimpArgs false
open Go.Proofs.YtlmijjekaelhcaaDoor.X
def directive_shown.f (a0 : Int) (a1 : Int) : Option (ByteArray) := if a0 = 2 then (some (⟨#[42]⟩ : ByteArray)) else (if a0 = 1 then ((xItoa.f a1).bind fun t108 => (some t108)) else (some (⟨#[]⟩ : ByteArray)))
set_option maxHeartbeats 8000000 in
set_option maxRecDepth 100000 in
theorem directive_shown.calls (a0 : Int) (a1 : Int) (r : ByteArray) (w : World) (hG : GW w) (h : directive_shown.f a0 a1 = some r) :
    Calls Tryd.prog 42 #[.int .i64 a0, .int .i64 a1] w fun e w' => e = .returned (.string r) ∧ Below w.heap.size w w' := by
  have HB := Aside0.mk (Below.refl w.heap.size w)
  have HG := Aside0.mk hG
  clear hG
  have H : (if a0 = 2 then (some (⟨#[42]⟩ : ByteArray)) else (if a0 = 1 then ((xItoa.f a1).bind fun t108 => (some t108)) else (some (⟨#[]⟩ : ByteArray)))) = some r := h
  clear h
  by_cases c3 : a0 = 2
  · rw [if_pos c3] at H
    have c3b0 : (a0 == 2) = true := beq_iff_eq.mpr c3
    have c3b1 : (a0 != 2) = false := bne_eq_false_iff_eq.mpr c3
    clear c3
    obtain rfl := Option.some.inj H
    go_enter Tryd.func42, Tryd.ntmps42
    go_wp2
    go_ret
    exact ⟨by first | rfl | (simp [errW_none, errW_some] <;> rfl) | (simp [*, errW_none, errW_some] <;> rfl), by repeat (first | (with_reducible first | exact HB.out | apply below_alloc | apply pw_below_drewN | apply below_drew1) | exact HB.out)⟩
  · rw [if_neg c3] at H
    have c3b0 : (a0 == 2) = false := beq_eq_false_iff_ne.mpr c3
    have c3b1 : (a0 != 2) = true := bne_iff_ne.mpr c3
    by_cases c4 : a0 = 1
    · rw [if_pos c4] at H
      have c4b0 : (a0 == 1) = true := beq_iff_eq.mpr c4
      have c4b1 : (a0 != 1) = false := bne_eq_false_iff_eq.mpr c4
      clear c4
      replace H := Option.bind_eq_some_iff.mp H
      obtain ⟨t108, A50, H⟩ := H
      replace H : (some t108) = some r := H
      have A5 := Aside0.mk A50
      clear A50
      obtain rfl := Option.some.inj H
      go_enter Tryd.func42, Tryd.ntmps42
      go_wp2_with (first | ((with_reducible refine gate_callee (f := 55) rfl ?_); refine goesL_ (some 11) rfl rfl Tryd.func55 (by kernel_rfl) rfl #[.int .i64 a1] rfl (by (try simp only [List.map_toArray, List.map_cons, List.map_nil]); first | done | rfl | (simp only [List.length_drop, List.length_take]; rfl)) ?_; (with_reducible refine (xItoa.calls a1 t108 _ ?side1 A5.out).mono ?_); (case side1 => exact GW.below HG.out (by repeat (first | (with_reducible first | exact HB.out | apply below_alloc | apply pw_below_drewN | apply below_drew1) | exact HB.out))); rintro e w6 ⟨rfl, hb⟩; refine ⟨_, rfl, ?_⟩; have n0_ := Aside0.mk (below_step (by repeat (first | (with_reducible first | exact HB.out | apply below_alloc | apply pw_below_drewN | apply below_drew1) | exact HB.out)) hb); clear HB; have HB := n0_; clear n0_; (try clear hb); (try clear hb2); (try clear hk); (try clear hi)))
      go_ret
      exact ⟨by first | rfl | (simp [errW_none, errW_some] <;> rfl) | (simp [*, errW_none, errW_some] <;> rfl), by repeat (first | (with_reducible first | exact HB.out | apply below_alloc | apply pw_below_drewN | apply below_drew1) | exact HB.out)⟩
    · rw [if_neg c4] at H
      have c4b0 : (a0 == 1) = false := beq_eq_false_iff_ne.mpr c4
      have c4b1 : (a0 != 1) = true := bne_iff_ne.mpr c4
      obtain rfl := Option.some.inj H
      go_enter Tryd.func42, Tryd.ntmps42
      go_wp2
      go_ret
      exact ⟨by first | rfl | (simp [errW_none, errW_some] <;> rfl) | (simp [*, errW_none, errW_some] <;> rfl), by repeat (first | (with_reducible first | exact HB.out | apply below_alloc | apply pw_below_drewN | apply below_drew1) | exact HB.out)⟩
end Go.Proofs.YtlmijjekaelhcaaDoor.EDi
end
section
set_option linter.unusedVariables false
namespace Go.Proofs.YtlmijjekaelhcaaDoor.X
open Go.RowKit Go.Proofs.YtlmijjekaelhcaaDoorW.PrintWords
def It (w : World) (k : Nat) (pos : Int) : Prop := ∃ p : Nat, pos = (p : Int) ∧ p ≤ 5 ∧ w.heap[k]? = some (.stringIter ⟨#[45, 43, 32, 35, 48]⟩ p)
theorem blk_below_ {W w1 : World} {g : Nat} {c : Obj} (h : W.heap[g]? = some c) (hb : Below W.heap.size W w1) : w1.heap[g]? = some c :=
  (hb.block g (Array.getElem?_eq_some_iff.1 h).1).trans h
theorem It.ne {w : World} {k g : Nat} {pos : Int} {cs : Array Value} {t : TypeId} {f : Nat × Nat} (h : It w k pos) (hb : w.heap[g]? = some (.cells cs t f)) : g ≠ k := by
  rintro rfl
  obtain ⟨p, _, _, hp⟩ := h
  rw [hb] at hp
  injection hp with hp
  cases hp
theorem It.moved {W w1 : World} {k g : Nat} {pos : Int} {cs : Array Value} {t : TypeId} {f : Nat × Nat} (h : It W k pos) (hb : W.heap[g]? = some (.cells cs t f)) (ho : ∀ j, j ≠ k → w1.heap[j]? = W.heap[j]?) :
    w1.heap[g]? = some (.cells cs t f) := (ho g (h.ne hb)).trans hb
theorem It.step {B k : Nat} {w0 W w1 : World} (h : Below B w0 W) (hB : B ≤ k) (hb : Below k W w1) : Below B w0 w1 := h.trans (hb.mono hB)
section
variable {ops : Array Oper} {rest : List Oper} {o : Oper} {a : Act} {Q : Exit → Act → World → Prop}
theorem It.new {W : World} (hgd : o.guard = none) {N : Tmp} (_hd : o.dst = some N) {x : Operand} {T : TypeId} (ho : o.op = .range T x) (hT : Tryd.prog.underlying T = some .string)
    (hx : a.eval x = .string ⟨#[45, 43, 32, 35, 48]⟩)
    (h : ∀ g w1, It w1 g 0 → Below W.heap.size W w1 → g = W.heap.size → wpList Tryd.prog ops Q rest (a.put o.dst (.pointer (some ⟨g, 0, none⟩))) w1) : wpList Tryd.prog ops Q (o :: rest) a W := by
  have hrun : (execOp a.eval o).run Tryd.prog W = .ok (.value (.pointer (some ⟨W.heap.size, 0, none⟩))) (W.alloc (.stringIter ⟨#[45, 43, 32, 35, 48]⟩ 0)) := by
    simp only [execOp, ho, hx]
    go_simp
    rfl
  refine Kd.event_run hgd hrun (h _ _ ⟨0, rfl, by omega, ?_⟩ (below_alloc (Below.refl _ _) _) rfl)
  show (W.heap.push _)[W.heap.size]? = _
  simp
theorem It.next {W : World} {k : Nat} {pos : Int} (hi : It W k pos) (hlt : pos < 5) (hgd : o.guard = none) {N : Tmp} (_hd : o.dst = some N) {x : Operand} (ho : o.op = .next x true)
    (hx : a.eval x = .pointer (some ⟨k, 0, none⟩))
    (h : ∀ (c : Int) w1, It w1 k (wrap64 (pos + 1)) → (∀ j, j ≠ k → w1.heap[j]? = W.heap[j]?) → Below k W w1 → wpList Tryd.prog ops Q rest (a.put o.dst (.tuple #[.bool true, .int .i64 pos, .int .i32 c])) w1) :
    wpList Tryd.prog ops Q (o :: rest) a W := by
  obtain ⟨p, rfl, hp, hk⟩ := hi
  have hp5 : p < 5 := by omega
  have hsz : p < (⟨#[45, 43, 32, 35, 48]⟩ : ByteArray).size := hp5
  have ha : ((⟨#[45, 43, 32, 35, 48]⟩ : ByteArray)[p]'hsz).toNat < 128 := by
    have : p = 0 ∨ p = 1 ∨ p = 2 ∨ p = 3 ∨ p = 4 := by omega
    rcases this with rfl | rfl | rfl | rfl | rfl <;> decide +revert
  have hrun : (execOp a.eval o).run Tryd.prog W = .ok (.value (.tuple #[.bool true, .int .i64 p, .int .i32 (((⟨#[45, 43, 32, 35, 48]⟩ : ByteArray)[p]'hsz).toNat)])) (W.iterAt k ⟨#[45, 43, 32, 35, 48]⟩ (p + 1)) := by
    simp only [execOp, ho, hx, Sem.run_bind]
    rw [Lib.run_next_ascii_at W k _ p o.type hk hsz ha]
    rfl
  refine Kd.event_run hgd hrun (h _ _ ⟨p + 1, ?_, by omega, Lib.iterAt_heap W k _ p (p + 1) hk⟩ (fun j hj => Lib.iterAt_other W k j _ (p + 1) hj) (Lib.below_iterAt (Below.refl k W) (Nat.le_refl k) _ _))
  unfold wrap64; omega
theorem It.done {W : World} {k : Nat} {pos : Int} (hi : It W k pos) (hlt : ¬ pos < 5) (hgd : o.guard = none) {N : Tmp} (_hd : o.dst = some N) {x : Operand} (ho : o.op = .next x true)
    (hx : a.eval x = .pointer (some ⟨k, 0, none⟩)) (h : wpList Tryd.prog ops Q rest (a.put o.dst (.tuple #[.bool false])) W) :
    wpList Tryd.prog ops Q (o :: rest) a W := by
  obtain ⟨p, rfl, hp, hk⟩ := hi
  have hsz : ¬ p < (⟨#[45, 43, 32, 35, 48]⟩ : ByteArray).size := by
    show ¬ p < 5
    omega
  have hrun : (execOp a.eval o).run Tryd.prog W = .ok (.value (.tuple #[.bool false])) W := by
    simp only [execOp, ho, hx, Sem.run_bind]
    rw [Lib.run_next_end_at W k _ p o.type hk hsz]
    rfl
  exact Kd.event_run hgd hrun h
end
end Go.Proofs.YtlmijjekaelhcaaDoor.X
end
