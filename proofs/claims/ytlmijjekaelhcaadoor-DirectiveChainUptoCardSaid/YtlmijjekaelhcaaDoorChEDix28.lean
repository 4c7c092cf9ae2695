/-
  A text of this session's own.
-/
import Derived.Test.YtlmijjekaelhcaaDoorChEDix0
import Derived.Test.YtlmijjekaelhcaaDoorChEDix22
import Derived.Test.YtlmijjekaelhcaaDoorChEDix23
import Derived.Test.YtlmijjekaelhcaaDoorChEDix24
import Derived.Test.YtlmijjekaelhcaaDoorChEDix25
import Derived.Test.YtlmijjekaelhcaaDoorChX
namespace Go.Proofs.YtlmijjekaelhcaaDoor.EDi
open Go.RowKit Go.Proofs.YtlmijjekaelhcaaDoorW.PrintWords Go.Proofs.YtlmijjekaelhcaaDoorW.PrintLast Go.Proofs.YtlmijjekaelhcaaDoorW.PrintMore
attribute [local go_sem] max2_int min2_int max_two min_two max_three min_three max_four min_four   -- for this text's walks alone
set_option linter.unusedVariables false
set_option linter.unusedSimpArgs false
open Go.Proofs.YtlmijjekaelhcaaDoor.X
mutual
def abacuslaw13_DirectiveChain.j0 : Nat → List (S25) → List (S25) → List (S25) → Int → Int → Int → Bool → Option (Bool)
  | 0, _, _, _, _, _, _, _ => none
  | k + 1, x5, x8, x11, x12, x13, x14, x82 => if x82 = true then (if 0 ≤ (wrap64 (x14 - 1)) then (if (wrap64 (x14 - 1)) < (x5.length : Int) then (if 0 < (x8.length : Int) then (if ((rd_T25 x5 (wrap64 (x14 - 1))).f0).size + ((rd_T25 x8 0).f0).size ≤ 9223372036854775807 then (if (wrap64 (x14 - 1)) ≤ (x5.length : Int) then (abacuslaw13_DirectiveChain.j1 k (x5.take ((wrap64 (x14 - 1)) : Int).toNat) (x8.set (0 : Int).toNat (⟨((rd_T25 x5 (wrap64 (x14 - 1))).f0) ++ ((rd_T25 x8 0).f0), (rd_T25 x8 0).f1, (rd_T25 x8 0).f2, (rd_T25 x8 0).f3, (rd_T25 x8 0).f4, (rd_T25 x8 0).f5, (rd_T25 x8 0).f6⟩ : S25)) x11 x12 x13) else (none)) else (none)) else (none)) else (none)) else (none)) else (abacuslaw13_DirectiveChain.j1 k x5 x8 x11 x12 x13)
def abacuslaw13_DirectiveChain.j1 : Nat → List (S25) → List (S25) → List (S25) → Int → Int → Option (Bool)
  | 0, _, _, _, _, _ => none
  | k + 1, x5, x8, x11, x12, x13 => abacuslaw13_DirectiveChain.l0 k x5 x8 x11 x12 x13 0
def abacuslaw13_DirectiveChain.l0 : Nat → List (S25) → List (S25) → List (S25) → Int → Int → Int → Option (Bool)
  | 0, _, _, _, _, _, _ => none
  | k + 1, x5, x8, x11, x12, x13, x15 => if x15 < (x8.length : Int) then (if 0 ≤ x15 then (if x5.length < 2199023255552 then (abacuslaw13_DirectiveChain.l0 k (x5 ++ [(⟨(rd_T25 x8 x15).f0, (rd_T25 x8 x15).f1, (rd_T25 x8 x15).f2, (rd_T25 x8 x15).f3, (rd_T25 x8 x15).f4, (rd_T25 x8 x15).f5, (rd_T25 x8 x15).f6⟩ : S25)]) x8 x11 x12 x13 (wrap64 (x15 + 1))) else (none)) else (none)) else (if x13 = 0 then (if x12 = 0 then ((abacuslaw13_same.f k x11 x5).bind fun t482 => (if t482 = true then ((directive_Wants.f k x11).bind fun t483 => ((directive_Wants.f k x5).bind fun t484 => (some (t483 == t484)))) else (some false))) else (some false)) else (some false))
end
def abacuslaw13_DirectiveChain.f (k : Nat) (a0 : ByteArray) (a1 : ByteArray) : Option (Bool) := (abacuslaw13_awake.f k).bind fun t454 => (if t454 = true then ((directive_Parse.f k a0).bind fun bt455 => (if bt455.2.2 = 0 then ((directive_Parse.f k a1).bind fun bt460 => (if a0.size + a1.size ≤ 9223372036854775807 then ((directive_Parse.f k (a0 ++ a1)).bind fun bt465 => (if bt460.2.2 = 0 then (if (bt455.1.length : Int) > 0 then (if (bt460.1.length : Int) > 0 then (if 0 ≤ (wrap64 ((bt455.1.length : Int) - 1)) then (if (wrap64 ((bt455.1.length : Int) - 1)) < (bt455.1.length : Int) then (if ((rd_T25 bt455.1 (wrap64 ((bt455.1.length : Int) - 1))).f1) = 0 then (if 0 < (bt460.1.length : Int) then (abacuslaw13_DirectiveChain.j0 k bt455.1 bt460.1 bt465.1 bt465.2.1 bt465.2.2 (bt455.1.length : Int) (((rd_T25 bt460.1 0).f1) == 0)) else (none)) else (abacuslaw13_DirectiveChain.j0 k bt455.1 bt460.1 bt465.1 bt465.2.1 bt465.2.2 (bt455.1.length : Int) false)) else (none)) else (none)) else (abacuslaw13_DirectiveChain.j0 k bt455.1 bt460.1 bt465.1 bt465.2.1 bt465.2.2 (bt455.1.length : Int) false)) else (abacuslaw13_DirectiveChain.j0 k bt455.1 bt460.1 bt465.1 bt465.2.1 bt465.2.2 (bt455.1.length : Int) false)) else (if bt465.2.2 = bt460.2.2 then (if bt465.2.1 = (wrap64 (bt460.2.1 + (a0.size : Int))) then (some ((bt465.1.length : Int) == 0)) else (some false)) else (some false)))) else (none))) else (some true))) else (some false))
theorem abacuslaw13_DirectiveChain.mono_l : ∀ k, (∀ y0 y1 y2 y3 y4 y5 y6, LeO (abacuslaw13_DirectiveChain.j0 k y0 y1 y2 y3 y4 y5 y6) (abacuslaw13_DirectiveChain.j0 (k + 1) y0 y1 y2 y3 y4 y5 y6)) ∧ (∀ y0 y1 y2 y3 y4, LeO (abacuslaw13_DirectiveChain.j1 k y0 y1 y2 y3 y4) (abacuslaw13_DirectiveChain.j1 (k + 1) y0 y1 y2 y3 y4)) ∧ (∀ y0 y1 y2 y3 y4 y5, LeO (abacuslaw13_DirectiveChain.l0 k y0 y1 y2 y3 y4 y5) (abacuslaw13_DirectiveChain.l0 (k + 1) y0 y1 y2 y3 y4 y5))
  | 0 => ⟨fun _ _ _ _ _ _ _ r h => by simp [abacuslaw13_DirectiveChain.j0] at h, fun _ _ _ _ _ r h => by simp [abacuslaw13_DirectiveChain.j1] at h, fun _ _ _ _ _ _ r h => by simp [abacuslaw13_DirectiveChain.l0] at h⟩
  | k + 1 => by
    obtain ⟨ih0, ih1, ih2⟩ := abacuslaw13_DirectiveChain.mono_l k
    refine ⟨?_, ?_, ?_⟩
    · intro y0 y1 y2 y3 y4 y5 y6
      unfold abacuslaw13_DirectiveChain.j0
      repeat' first
      | (with_reducible exact ih0 _ _ _ _ _ _ _)
      | (with_reducible exact ih1 _ _ _ _ _)
      | (with_reducible exact ih2 _ _ _ _ _ _)
      | (with_reducible exact abacuslaw13_awake.mono _)
      | (with_reducible exact abacuslaw13_same.mono _ _ _)
      | (with_reducible exact directive_Parse.mono _ _)
      | (with_reducible exact directive_Wants.mono _ _)
      | (with_reducible exact LeO.refl _)
      | (with_reducible exact LeO.none _)
      | (with_reducible refine LeO.ite ?_ ?_)
      | (with_reducible refine LeO.bind ?_ (fun _ => ?_))
      | exact ih0 _ _ _ _ _ _ _
      | exact ih1 _ _ _ _ _
      | exact ih2 _ _ _ _ _ _
      | exact abacuslaw13_awake.mono _
      | exact abacuslaw13_same.mono _ _ _
      | exact directive_Parse.mono _ _
      | exact directive_Wants.mono _ _
      | exact LeO.none _
      | refine LeO.ite ?_ ?_
      | refine LeO.bind ?_ (fun _ => ?_)
    · intro y0 y1 y2 y3 y4
      unfold abacuslaw13_DirectiveChain.j1
      repeat' first
      | (with_reducible exact ih0 _ _ _ _ _ _ _)
      | (with_reducible exact ih1 _ _ _ _ _)
      | (with_reducible exact ih2 _ _ _ _ _ _)
      | (with_reducible exact abacuslaw13_awake.mono _)
      | (with_reducible exact abacuslaw13_same.mono _ _ _)
      | (with_reducible exact directive_Parse.mono _ _)
      | (with_reducible exact directive_Wants.mono _ _)
      | (with_reducible exact LeO.refl _)
      | (with_reducible exact LeO.none _)
      | (with_reducible refine LeO.ite ?_ ?_)
      | (with_reducible refine LeO.bind ?_ (fun _ => ?_))
      | exact ih0 _ _ _ _ _ _ _
      | exact ih1 _ _ _ _ _
      | exact ih2 _ _ _ _ _ _
      | exact abacuslaw13_awake.mono _
      | exact abacuslaw13_same.mono _ _ _
      | exact directive_Parse.mono _ _
      | exact directive_Wants.mono _ _
      | exact LeO.none _
      | refine LeO.ite ?_ ?_
      | refine LeO.bind ?_ (fun _ => ?_)
    · intro y0 y1 y2 y3 y4 y5
      unfold abacuslaw13_DirectiveChain.l0
      repeat' first
      | (with_reducible exact ih0 _ _ _ _ _ _ _)
      | (with_reducible exact ih1 _ _ _ _ _)
      | (with_reducible exact ih2 _ _ _ _ _ _)
      | (with_reducible exact abacuslaw13_awake.mono _)
      | (with_reducible exact abacuslaw13_same.mono _ _ _)
      | (with_reducible exact directive_Parse.mono _ _)
      | (with_reducible exact directive_Wants.mono _ _)
      | (with_reducible exact LeO.refl _)
      | (with_reducible exact LeO.none _)
      | (with_reducible refine LeO.ite ?_ ?_)
      | (with_reducible refine LeO.bind ?_ (fun _ => ?_))
      | exact ih0 _ _ _ _ _ _ _
      | exact ih1 _ _ _ _ _
      | exact ih2 _ _ _ _ _ _
      | exact abacuslaw13_awake.mono _
      | exact abacuslaw13_same.mono _ _ _
      | exact directive_Parse.mono _ _
      | exact directive_Wants.mono _ _
      | exact LeO.none _
      | refine LeO.ite ?_ ?_
      | refine LeO.bind ?_ (fun _ => ?_)
def abacuslaw13_DirectiveChain.T12 : Bool × List (List Nat × List Nat) := (true, [([], []), ([], []), ([], []), ([2], [2]), ([1, 3], [1, 3]), ([4], [4]), ([5], [5]), ([], []), ([7], [7]), ([8], [8]), ([9], [9]), ([6, 10], [6, 10]), ([0, 0, 1, 2, 3, 4, 5, 6, 7, 8, 9, 10, 11], [0]), ([12, 0, 1, 2, 3, 4, 5, 6, 7, 8, 9, 10, 11], [12]), ([13, 11, 0, 1, 2, 3, 4, 5, 6, 7, 8, 9, 10, 11], [11, 13])])
def abacuslaw13_DirectiveChain.B12 : List Nat := [0, 0, 0, 4, 14, 30, 62, 0, 128, 384, 896, 2046, 4095, 8191, 16383]
theorem abacuslaw13_DirectiveChain.tab12 : rtab .any (opsOf Tryd.f5 12) = abacuslaw13_DirectiveChain.T12 := by kernel_rfl
theorem abacuslaw13_DirectiveChain.bits12 : waitsOk abacuslaw13_DirectiveChain.T12.2 abacuslaw13_DirectiveChain.B12 = true := by kernel_rfl
set_option maxHeartbeats 8000000 in
set_option maxRecDepth 100000 in
theorem abacuslaw13_DirectiveChain.calls (k : Nat) (a0 : ByteArray) (a1 : ByteArray) (w : World) (hG : GW w) (h : abacuslaw13_DirectiveChain.f k a0 a1 = some true) :
    Calls Tryd.prog 5 #[.string a0, .string a1] w fun e w' => e = .returned (.bool true) ∧ Below w.heap.size w w' := by
  have hu25 := Tryd.underlying25
  have HB := Aside0.mk (Below.refl w.heap.size w)
  have HG := Aside0.mk hG
  clear hG
  have H : ((abacuslaw13_awake.f k).bind fun t454 => (if t454 = true then ((directive_Parse.f k a0).bind fun bt455 => (if bt455.2.2 = 0 then ((directive_Parse.f k a1).bind fun bt460 => (if a0.size + a1.size ≤ 9223372036854775807 then ((directive_Parse.f k (a0 ++ a1)).bind fun bt465 => (if bt460.2.2 = 0 then (if (bt455.1.length : Int) > 0 then (if (bt460.1.length : Int) > 0 then (if 0 ≤ (wrap64 ((bt455.1.length : Int) - 1)) then (if (wrap64 ((bt455.1.length : Int) - 1)) < (bt455.1.length : Int) then (if ((rd_T25 bt455.1 (wrap64 ((bt455.1.length : Int) - 1))).f1) = 0 then (if 0 < (bt460.1.length : Int) then (abacuslaw13_DirectiveChain.j0 k bt455.1 bt460.1 bt465.1 bt465.2.1 bt465.2.2 (bt455.1.length : Int) (((rd_T25 bt460.1 0).f1) == 0)) else (none)) else (abacuslaw13_DirectiveChain.j0 k bt455.1 bt460.1 bt465.1 bt465.2.1 bt465.2.2 (bt455.1.length : Int) false)) else (none)) else (none)) else (abacuslaw13_DirectiveChain.j0 k bt455.1 bt460.1 bt465.1 bt465.2.1 bt465.2.2 (bt455.1.length : Int) false)) else (abacuslaw13_DirectiveChain.j0 k bt455.1 bt460.1 bt465.1 bt465.2.1 bt465.2.2 (bt455.1.length : Int) false)) else (if bt465.2.2 = bt460.2.2 then (if bt465.2.1 = (wrap64 (bt460.2.1 + (a0.size : Int))) then (some ((bt465.1.length : Int) == 0)) else (some false)) else (some false)))) else (none))) else (some true))) else (some false))) = some true := h
  clear h
  replace H := Option.bind_eq_some_iff.mp H
  obtain ⟨t454, A30, H⟩ := H
  replace H : (if t454 = true then ((directive_Parse.f k a0).bind fun bt455 => (if bt455.2.2 = 0 then ((directive_Parse.f k a1).bind fun bt460 => (if a0.size + a1.size ≤ 9223372036854775807 then ((directive_Parse.f k (a0 ++ a1)).bind fun bt465 => (if bt460.2.2 = 0 then (if (bt455.1.length : Int) > 0 then (if (bt460.1.length : Int) > 0 then (if 0 ≤ (wrap64 ((bt455.1.length : Int) - 1)) then (if (wrap64 ((bt455.1.length : Int) - 1)) < (bt455.1.length : Int) then (if ((rd_T25 bt455.1 (wrap64 ((bt455.1.length : Int) - 1))).f1) = 0 then (if 0 < (bt460.1.length : Int) then (abacuslaw13_DirectiveChain.j0 k bt455.1 bt460.1 bt465.1 bt465.2.1 bt465.2.2 (bt455.1.length : Int) (((rd_T25 bt460.1 0).f1) == 0)) else (none)) else (abacuslaw13_DirectiveChain.j0 k bt455.1 bt460.1 bt465.1 bt465.2.1 bt465.2.2 (bt455.1.length : Int) false)) else (none)) else (none)) else (abacuslaw13_DirectiveChain.j0 k bt455.1 bt460.1 bt465.1 bt465.2.1 bt465.2.2 (bt455.1.length : Int) false)) else (abacuslaw13_DirectiveChain.j0 k bt455.1 bt460.1 bt465.1 bt465.2.1 bt465.2.2 (bt455.1.length : Int) false)) else (if bt465.2.2 = bt460.2.2 then (if bt465.2.1 = (wrap64 (bt460.2.1 + (a0.size : Int))) then (some ((bt465.1.length : Int) == 0)) else (some false)) else (some false)))) else (none))) else (some true))) else (some false)) = some true := H
  have A3 := Aside0.mk A30
  clear A30
  by_cases c4 : t454 = true
  · subst c4
    have H1 : ((directive_Parse.f k a0).bind fun bt455 => (if bt455.2.2 = 0 then ((directive_Parse.f k a1).bind fun bt460 => (if a0.size + a1.size ≤ 9223372036854775807 then ((directive_Parse.f k (a0 ++ a1)).bind fun bt465 => (if bt460.2.2 = 0 then (if (bt455.1.length : Int) > 0 then (if (bt460.1.length : Int) > 0 then (if 0 ≤ (wrap64 ((bt455.1.length : Int) - 1)) then (if (wrap64 ((bt455.1.length : Int) - 1)) < (bt455.1.length : Int) then (if ((rd_T25 bt455.1 (wrap64 ((bt455.1.length : Int) - 1))).f1) = 0 then (if 0 < (bt460.1.length : Int) then (abacuslaw13_DirectiveChain.j0 k bt455.1 bt460.1 bt465.1 bt465.2.1 bt465.2.2 (bt455.1.length : Int) (((rd_T25 bt460.1 0).f1) == 0)) else (none)) else (abacuslaw13_DirectiveChain.j0 k bt455.1 bt460.1 bt465.1 bt465.2.1 bt465.2.2 (bt455.1.length : Int) false)) else (none)) else (none)) else (abacuslaw13_DirectiveChain.j0 k bt455.1 bt460.1 bt465.1 bt465.2.1 bt465.2.2 (bt455.1.length : Int) false)) else (abacuslaw13_DirectiveChain.j0 k bt455.1 bt460.1 bt465.1 bt465.2.1 bt465.2.2 (bt455.1.length : Int) false)) else (if bt465.2.2 = bt460.2.2 then (if bt465.2.1 = (wrap64 (bt460.2.1 + (a0.size : Int))) then (some ((bt465.1.length : Int) == 0)) else (some false)) else (some false)))) else (none))) else (some true))) = some true := by rw [if_pos rfl] at H; exact H
    clear H
    have H := H1
    clear H1
    replace H := Option.bind_eq_some_iff.mp H
    obtain ⟨⟨t455, t456, t457⟩, A50, H⟩ := H
    replace H : (if t457 = 0 then ((directive_Parse.f k a1).bind fun bt460 => (if a0.size + a1.size ≤ 9223372036854775807 then ((directive_Parse.f k (a0 ++ a1)).bind fun bt465 => (if bt460.2.2 = 0 then (if (t455.length : Int) > 0 then (if (bt460.1.length : Int) > 0 then (if 0 ≤ (wrap64 ((t455.length : Int) - 1)) then (if (wrap64 ((t455.length : Int) - 1)) < (t455.length : Int) then (if ((rd_T25 t455 (wrap64 ((t455.length : Int) - 1))).f1) = 0 then (if 0 < (bt460.1.length : Int) then (abacuslaw13_DirectiveChain.j0 k t455 bt460.1 bt465.1 bt465.2.1 bt465.2.2 (t455.length : Int) (((rd_T25 bt460.1 0).f1) == 0)) else (none)) else (abacuslaw13_DirectiveChain.j0 k t455 bt460.1 bt465.1 bt465.2.1 bt465.2.2 (t455.length : Int) false)) else (none)) else (none)) else (abacuslaw13_DirectiveChain.j0 k t455 bt460.1 bt465.1 bt465.2.1 bt465.2.2 (t455.length : Int) false)) else (abacuslaw13_DirectiveChain.j0 k t455 bt460.1 bt465.1 bt465.2.1 bt465.2.2 (t455.length : Int) false)) else (if bt465.2.2 = bt460.2.2 then (if bt465.2.1 = (wrap64 (bt460.2.1 + (a0.size : Int))) then (some ((bt465.1.length : Int) == 0)) else (some false)) else (some false)))) else (none))) else (some true)) = some true := H
    have A5 := Aside0.mk A50
    clear A50
    by_cases c6 : t457 = 0
    · rw [if_pos c6] at H
      have c6b0 : (t457 == 0) = true := beq_iff_eq.mpr c6
      have c6b1 : (t457 != 0) = false := bne_eq_false_iff_eq.mpr c6
      clear c6
      replace H := Option.bind_eq_some_iff.mp H
      obtain ⟨⟨t460, t461, t462⟩, A70, H⟩ := H
      replace H : (if a0.size + a1.size ≤ 9223372036854775807 then ((directive_Parse.f k (a0 ++ a1)).bind fun bt465 => (if t462 = 0 then (if (t455.length : Int) > 0 then (if (t460.length : Int) > 0 then (if 0 ≤ (wrap64 ((t455.length : Int) - 1)) then (if (wrap64 ((t455.length : Int) - 1)) < (t455.length : Int) then (if ((rd_T25 t455 (wrap64 ((t455.length : Int) - 1))).f1) = 0 then (if 0 < (t460.length : Int) then (abacuslaw13_DirectiveChain.j0 k t455 t460 bt465.1 bt465.2.1 bt465.2.2 (t455.length : Int) (((rd_T25 t460 0).f1) == 0)) else (none)) else (abacuslaw13_DirectiveChain.j0 k t455 t460 bt465.1 bt465.2.1 bt465.2.2 (t455.length : Int) false)) else (none)) else (none)) else (abacuslaw13_DirectiveChain.j0 k t455 t460 bt465.1 bt465.2.1 bt465.2.2 (t455.length : Int) false)) else (abacuslaw13_DirectiveChain.j0 k t455 t460 bt465.1 bt465.2.1 bt465.2.2 (t455.length : Int) false)) else (if bt465.2.2 = t462 then (if bt465.2.1 = (wrap64 (t461 + (a0.size : Int))) then (some ((bt465.1.length : Int) == 0)) else (some false)) else (some false)))) else (none)) = some true := H
      have A7 := Aside0.mk A70
      clear A70
      by_cases c8 : a0.size + a1.size ≤ 9223372036854775807
      · rw [if_pos c8] at H
        have c8b0 := eq_true c8
        have c8b1 : decide (a0.size + a1.size ≤ 9223372036854775807) = true := decide_eq_true c8
        try have c8b2 : (9223372036854775807 < a0.size + a1.size) = False := eq_false (Nat.not_lt.2 c8)
        replace H := Option.bind_eq_some_iff.mp H
        obtain ⟨⟨t465, t466, t467⟩, A90, H⟩ := H
        replace H : (if t462 = 0 then (if (t455.length : Int) > 0 then (if (t460.length : Int) > 0 then (if 0 ≤ (wrap64 ((t455.length : Int) - 1)) then (if (wrap64 ((t455.length : Int) - 1)) < (t455.length : Int) then (if ((rd_T25 t455 (wrap64 ((t455.length : Int) - 1))).f1) = 0 then (if 0 < (t460.length : Int) then (abacuslaw13_DirectiveChain.j0 k t455 t460 t465 t466 t467 (t455.length : Int) (((rd_T25 t460 0).f1) == 0)) else (none)) else (abacuslaw13_DirectiveChain.j0 k t455 t460 t465 t466 t467 (t455.length : Int) false)) else (none)) else (none)) else (abacuslaw13_DirectiveChain.j0 k t455 t460 t465 t466 t467 (t455.length : Int) false)) else (abacuslaw13_DirectiveChain.j0 k t455 t460 t465 t466 t467 (t455.length : Int) false)) else (if t467 = t462 then (if t466 = (wrap64 (t461 + (a0.size : Int))) then (some ((t465.length : Int) == 0)) else (some false)) else (some false))) = some true := H
        have A9 := Aside0.mk A90
        clear A90
        by_cases c10 : t462 = 0
        · rw [if_pos c10] at H
          have c10b0 : (t462 == 0) = true := beq_iff_eq.mpr c10
          have c10b1 : (t462 != 0) = false := bne_eq_false_iff_eq.mpr c10
          clear c10
          have HC11 := Aside0.mk H
          clear H
          go_enter Tryd.func5, Tryd.ntmps5
          go_upto_region 11 with (first | ((with_reducible refine gate_callee (f := 10) rfl ?_); refine goesL_ (some 16) rfl rfl Tryd.func10 (by kernel_rfl) rfl #[] rfl (by (try simp only [List.map_toArray, List.map_cons, List.map_nil]); first | done | rfl | (simp only [List.length_drop, List.length_take]; rfl)) ?_; (with_reducible refine (abacuslaw13_awake.calls k  true _ ?side1 A3.out).mono ?_); (case side1 => exact GW.below HG.out (by repeat (first | (with_reducible first | exact HB.out | apply below_alloc | apply pw_below_drewN | apply below_drew1) | exact HB.out))); rintro e w12 ⟨rfl, hb⟩; refine ⟨_, rfl, ?_⟩; have n0_ := Aside0.mk (below_step (by repeat (first | (with_reducible first | exact HB.out | apply below_alloc | apply pw_below_drewN | apply below_drew1) | exact HB.out)) hb); clear HB; have HB := n0_; clear n0_; (try clear hb); (try clear hb2); (try clear hk); (try clear hi)) | ((with_reducible refine gate_callee (f := 13) rfl ?_); refine goesL_ (some 20) rfl rfl Tryd.func13 (by kernel_rfl) rfl #[.string a0] rfl (by (try simp only [List.map_toArray, List.map_cons, List.map_nil]); first | done | rfl | (simp only [List.length_drop, List.length_take]; rfl)) ?_; (with_reducible refine (directive_Parse.calls k a0 t455 t456 t457 _ A5.out).mono ?_); rintro e w13 ⟨v458, rfl, ho0, hb⟩; refine ⟨_, rfl, ?_⟩; have n0_ := Aside0.mk (Kd.R_lower ho0 (below_size (by repeat (first | (with_reducible first | exact HB.out | apply below_alloc | apply pw_below_drewN | apply below_drew1) | exact HB.out)))); have n1_ := Aside0.mk (below_step (by repeat (first | (with_reducible first | exact HB.out | apply below_alloc | apply pw_below_drewN | apply below_drew1) | exact HB.out)) hb); clear HB; have HO459 := n0_; have HB := n1_; clear n0_ n1_; (try clear hb); (try clear hb2); (try clear hk); (try clear hi); (try clear ho0)) | ((with_reducible refine gate_callee (f := 13) rfl ?_); refine goesL_ (some 28) rfl rfl Tryd.func13 (by kernel_rfl) rfl #[.string a1] rfl (by (try simp only [List.map_toArray, List.map_cons, List.map_nil]); first | done | rfl | (simp only [List.length_drop, List.length_take]; rfl)) ?_; (with_reducible refine (directive_Parse.calls k a1 t460 t461 t462 _ A7.out).mono ?_); rintro e w14 ⟨v463, rfl, ho0, hb⟩; refine ⟨_, rfl, ?_⟩; have n0_ := Aside0.mk (Kd.R_elder' (by (with_reducible repeat (first | apply Kd.R_alloc | apply Kd.R_drewN | apply Kd.R_drew)); exact HO459.out) (Kd.R_base ho0) hb); have n1_ := Aside0.mk (Kd.R_lower (Kd.R_new' ho0 (Kd.R_lt (by (with_reducible repeat (first | apply Kd.R_alloc | apply Kd.R_drewN | apply Kd.R_drew)); exact HO459.out))) (below_size (by repeat (first | (with_reducible first | exact HB.out | apply below_alloc | apply pw_below_drewN | apply below_drew1) | exact HB.out)))); have n2_ := Aside0.mk (below_step (by repeat (first | (with_reducible first | exact HB.out | apply below_alloc | apply pw_below_drewN | apply below_drew1) | exact HB.out)) hb); clear HO459; clear HB; have HO459 := n0_; have HO464 := n1_; have HB := n2_; clear n0_ n1_ n2_; (try clear hb); (try clear hb2); (try clear hk); (try clear hi); (try clear ho0)) | ((with_reducible refine gate_callee (f := 13) rfl ?_); refine goesL_ (some 36) rfl rfl Tryd.func13 (by kernel_rfl) rfl #[.string (a0 ++ a1)] rfl (by (try simp only [List.map_toArray, List.map_cons, List.map_nil]); first | done | rfl | (simp only [List.length_drop, List.length_take]; rfl)) ?_; (with_reducible refine (directive_Parse.calls k (a0 ++ a1) t465 t466 t467 _ A9.out).mono ?_); rintro e w15 ⟨v468, rfl, ho0, hb⟩; refine ⟨_, rfl, ?_⟩; have n0_ := Aside0.mk (Kd.R_elder' (by (with_reducible repeat (first | apply Kd.R_alloc | apply Kd.R_drewN | apply Kd.R_drew)); exact HO459.out) (Kd.R_base ho0) hb); have n1_ := Aside0.mk (Kd.R_elder' (by (with_reducible repeat (first | apply Kd.R_alloc | apply Kd.R_drewN | apply Kd.R_drew)); exact HO464.out) (Kd.R_base ho0) hb); have n2_ := Aside0.mk (Kd.R_lower (Kd.R_new' (Kd.R_new' ho0 (Kd.R_lt (by (with_reducible repeat (first | apply Kd.R_alloc | apply Kd.R_drewN | apply Kd.R_drew)); exact HO459.out))) (Kd.R_lt (by (with_reducible repeat (first | apply Kd.R_alloc | apply Kd.R_drewN | apply Kd.R_drew)); exact HO464.out))) (below_size (by repeat (first | (with_reducible first | exact HB.out | apply below_alloc | apply pw_below_drewN | apply below_drew1) | exact HB.out)))); have n3_ := Aside0.mk (below_step (by repeat (first | (with_reducible first | exact HB.out | apply below_alloc | apply pw_below_drewN | apply below_drew1) | exact HB.out)) hb); clear HO459; clear HO464; clear HB; have HO459 := n0_; have HO464 := n1_; have HO469 := n2_; have HB := n3_; clear n0_ n1_ n2_ n3_; (try clear hb); (try clear hb2); (try clear hk); (try clear hi); (try clear ho0); obtain ⟨Ao16, co16, eo16⟩ := Kd.R_slice HO459.out; subst eo16))
          (try simp only [Act.put, List.setIfInBounds_toArray, List.set_cons_zero, List.set_cons_succ])
          go_cut [82] (fun v82 wc => ∃ (kq : Nat) (x82_10 : Bool), v82 = .bool x82_10 ∧ Aside0 (abacuslaw13_DirectiveChain.j0 kq t455 t460 t465 t466 t467 (t455.length : Int) x82_10 = some true) ∧ Aside0 (kq ≤ k) ∧ Aside0 (Kd.R k25 25 wc w.heap.size (fun k_ => some k_ ≠ (v463 : Value).ownBlock ∧ some k_ ≠ (v468 : Value).ownBlock) (.slice Ao16 t455.length co16) t455) ∧ Aside0 (Kd.R k25 25 wc w.heap.size (fun k_ => some k_ ≠ ((.slice Ao16 t455.length co16) : Value).ownBlock ∧ some k_ ≠ (v468 : Value).ownBlock) v463 t460) ∧ Aside0 (Kd.R k25 25 wc w.heap.size (fun k_ => some k_ ≠ ((.slice Ao16 t455.length co16) : Value).ownBlock ∧ some k_ ≠ (v463 : Value).ownBlock) v468 t465) ∧ Aside0 (Below w.heap.size w wc))
          case first =>
            have H := HC11.out
            clear HC11
            by_cases c17 : (t455.length : Int) > 0
            · rw [if_pos c17] at H
              have c17b0 : decide (0 < (t455.length : Int)) = true := decide_eq_true c17
              have c17b1 : decide (0 < t455.length) = true := decide_eq_true (by omega)
              clear c17
              (first | rw [c17b0] | (simp only [i64_w, i32_w]; rw [c17b0]) | skip)
              by_cases c18 : (t460.length : Int) > 0
              · rw [if_pos c18] at H
                have c18b0 : decide (0 < (t460.length : Int)) = true := decide_eq_true c18
                have c18b1 : decide (0 < t460.length) = true := decide_eq_true (by omega)
                clear c18
                obtain ⟨ji19, hji19⟩ : ∃ j_ : Int, (wrap64 ((t455.length : Int) - 1)) = j_ := ⟨_, rfl⟩
                replace H : (if 0 ≤ (ji19) then (if (ji19) < (t455.length : Int) then (if ((rd_T25 t455 (ji19)).f1) = 0 then (if 0 < (t460.length : Int) then (abacuslaw13_DirectiveChain.j0 k t455 t460 t465 t466 t467 (t455.length : Int) (((rd_T25 t460 0).f1) == 0)) else (none)) else (abacuslaw13_DirectiveChain.j0 k t455 t460 t465 t466 t467 (t455.length : Int) false)) else (none)) else (none)) = some true := by first | (rw [hji19] at H; exact H) | (simp only [hji19] at H ⊢; exact H)
                have hji19w : (IntKind.i64.wrap ((t455.length : Int) - 1)) = ji19 := (i64_w _).trans hji19
                by_cases c20 : 0 ≤ (ji19)
                · rw [if_pos c20] at H
                  have c20b0 : decide (0 ≤ (ji19)) = true := decide_eq_true c20
                  clear c20
                  by_cases c21 : (ji19) < (t455.length : Int)
                  · rw [if_pos c21] at H
                    have c21b0 : decide ((ji19) < (t455.length : Int)) = true := decide_eq_true c21
                    clear c21
                    by_cases c22 : ((rd_T25 t455 (ji19)).f1) = 0
                    · rw [if_pos c22] at H
                      have c22b0 : (((rd_T25 t455 (ji19)).f1) == 0) = true := beq_iff_eq.mpr c22
                      have c22b1 : (((rd_T25 t455 (ji19)).f1) != 0) = false := bne_eq_false_iff_eq.mpr c22
                      clear c22
                      by_cases c23 : 0 < (t460.length : Int)
                      · rw [if_pos c23] at H
                        have c23b0 : decide (0 < (t460.length : Int)) = true := decide_eq_true c23
                        have c23b1 : decide (0 < t460.length) = true := decide_eq_true (by omega)
                        clear c23
                        have H' := Aside0.mk H
                        clear H
                        obtain ⟨Ao24, co24, eo24⟩ := Kd.R_slice HO464.out
                        subst eo24
                        have p470 : 0 ≤ ((ji19) : Int) := of_decide_eq_true (by first | (with_reducible assumption) | assumption)
                        have q470 : (ji19) < (t455.length : Int) := of_decide_eq_true (by first | (with_reducible assumption) | assumption)
                        obtain ⟨ad470, e470, hx470_0, hx470_1, hx470_2, hx470_3, hx470_4, hx470_5, hx470_6⟩ := at_T25 (Kd.R_reads' HO459.out).2.2 (ji19) p470 q470
                        cases e470
                        replace p470 := eq_true p470
                        replace q470 := eq_true q470
                        have p471 : 0 ≤ (0 : Int) := (by omega)
                        have q471 : 0 < (t460.length : Int) := of_decide_eq_true (by first | (with_reducible assumption) | assumption)
                        obtain ⟨ad471, e471, hx471_0, hx471_1, hx471_2, hx471_3, hx471_4, hx471_5, hx471_6⟩ := at_T25 (Kd.R_reads' HO464.out).2.2 0 p471 q471
                        cases e471
                        have qi471 : (0 < t460.length) = True := eq_true (by omega)
                        (try rw [show ((0 : Int)).toNat = 0 from rfl] at hx471_0)
                        (try rw [show 0 * 7 = 0 from rfl] at hx471_0)
                        (try rw [Addr.add_zero'] at hx471_0)
                        (try rw [show ((0 : Int)).toNat = 0 from rfl] at hx471_1)
                        (try rw [show 0 * 7 = 0 from rfl] at hx471_1)
                        (try rw [Addr.add_zero'] at hx471_1)
                        (try rw [show ((0 : Int)).toNat = 0 from rfl] at hx471_2)
                        (try rw [show 0 * 7 = 0 from rfl] at hx471_2)
                        (try rw [Addr.add_zero'] at hx471_2)
                        (try rw [show ((0 : Int)).toNat = 0 from rfl] at hx471_3)
                        (try rw [show 0 * 7 = 0 from rfl] at hx471_3)
                        (try rw [Addr.add_zero'] at hx471_3)
                        (try rw [show ((0 : Int)).toNat = 0 from rfl] at hx471_4)
                        (try rw [show 0 * 7 = 0 from rfl] at hx471_4)
                        (try rw [Addr.add_zero'] at hx471_4)
                        (try rw [show ((0 : Int)).toNat = 0 from rfl] at hx471_5)
                        (try rw [show 0 * 7 = 0 from rfl] at hx471_5)
                        (try rw [Addr.add_zero'] at hx471_5)
                        (try rw [show ((0 : Int)).toNat = 0 from rfl] at hx471_6)
                        (try rw [show 0 * 7 = 0 from rfl] at hx471_6)
                        (try rw [Addr.add_zero'] at hx471_6)
                        replace p471 := eq_true p471
                        replace q471 := eq_true q471
                        go_wp2
                        go_meet
                        case rel => exact ⟨_, ((((rd_T25 t460 0).f1) == 0)), (by first | rfl | (simp; done) | (simp [*]; done)), H', ⟨by first | omega | exact Nat.le_refl _⟩, ⟨by (with_reducible repeat (first | apply Kd.R_alloc | apply Kd.R_drewN | apply Kd.R_drew)); exact Kd.R_mono HO459.out (fun _ hk => ⟨hk.1.2, hk.2⟩)⟩, ⟨by (with_reducible repeat (first | apply Kd.R_alloc | apply Kd.R_drewN | apply Kd.R_drew)); exact Kd.R_mono HO464.out (fun _ hk => ⟨hk.1.2, hk.2⟩)⟩, ⟨by (with_reducible repeat (first | apply Kd.R_alloc | apply Kd.R_drewN | apply Kd.R_drew)); exact Kd.R_mono HO469.out (fun _ hk => ⟨hk.1.2, hk.2⟩)⟩, ⟨by repeat (first | (with_reducible first | exact HB.out | apply below_alloc | apply pw_below_drewN | apply below_drew1) | exact HB.out)⟩⟩
                      · rw [if_neg c23] at H
                        exact absurd H (by simp)
                    · rw [if_neg c22] at H
                      have c22b0 : (((rd_T25 t455 (ji19)).f1) == 0) = false := beq_eq_false_iff_ne.mpr c22
                      have c22b1 : (((rd_T25 t455 (ji19)).f1) != 0) = true := bne_iff_ne.mpr c22
                      have H' := Aside0.mk H
                      clear H
                      obtain ⟨Ao25, co25, eo25⟩ := Kd.R_slice HO464.out
                      subst eo25
                      have p470 : 0 ≤ ((ji19) : Int) := of_decide_eq_true (by first | (with_reducible assumption) | assumption)
                      have q470 : (ji19) < (t455.length : Int) := of_decide_eq_true (by first | (with_reducible assumption) | assumption)
                      obtain ⟨ad470, e470, hx470_0, hx470_1, hx470_2, hx470_3, hx470_4, hx470_5, hx470_6⟩ := at_T25 (Kd.R_reads' HO459.out).2.2 (ji19) p470 q470
                      cases e470
                      replace p470 := eq_true p470
                      replace q470 := eq_true q470
                      go_wp2
                      go_meet
                      case rel => exact ⟨_, (false), (by first | rfl | (simp; done) | (simp [*]; done)), H', ⟨by first | omega | exact Nat.le_refl _⟩, ⟨by (with_reducible repeat (first | apply Kd.R_alloc | apply Kd.R_drewN | apply Kd.R_drew)); exact Kd.R_mono HO459.out (fun _ hk => ⟨hk.1.2, hk.2⟩)⟩, ⟨by (with_reducible repeat (first | apply Kd.R_alloc | apply Kd.R_drewN | apply Kd.R_drew)); exact Kd.R_mono HO464.out (fun _ hk => ⟨hk.1.2, hk.2⟩)⟩, ⟨by (with_reducible repeat (first | apply Kd.R_alloc | apply Kd.R_drewN | apply Kd.R_drew)); exact Kd.R_mono HO469.out (fun _ hk => ⟨hk.1.2, hk.2⟩)⟩, ⟨by repeat (first | (with_reducible first | exact HB.out | apply below_alloc | apply pw_below_drewN | apply below_drew1) | exact HB.out)⟩⟩
                  · rw [if_neg c21] at H
                    exact absurd H (by simp)
                · rw [if_neg c20] at H
                  exact absurd H (by simp)
              · rw [if_neg c18] at H
                have c18b0 : decide (0 < (t460.length : Int)) = false := decide_eq_false c18
                have c18b1 : decide (0 < t460.length) = false := decide_eq_false (by omega)
                clear c18
                have H' := Aside0.mk H
                clear H
                obtain ⟨Ao26, co26, eo26⟩ := Kd.R_slice HO464.out
                subst eo26
                go_wp2
                go_meet
                case rel => exact ⟨_, (false), (by first | rfl | (simp; done) | (simp [*]; done)), H', ⟨by first | omega | exact Nat.le_refl _⟩, ⟨by (with_reducible repeat (first | apply Kd.R_alloc | apply Kd.R_drewN | apply Kd.R_drew)); exact Kd.R_mono HO459.out (fun _ hk => ⟨hk.1.2, hk.2⟩)⟩, ⟨by (with_reducible repeat (first | apply Kd.R_alloc | apply Kd.R_drewN | apply Kd.R_drew)); exact Kd.R_mono HO464.out (fun _ hk => ⟨hk.1.2, hk.2⟩)⟩, ⟨by (with_reducible repeat (first | apply Kd.R_alloc | apply Kd.R_drewN | apply Kd.R_drew)); exact Kd.R_mono HO469.out (fun _ hk => ⟨hk.1.2, hk.2⟩)⟩, ⟨by repeat (first | (with_reducible first | exact HB.out | apply below_alloc | apply pw_below_drewN | apply below_drew1) | exact HB.out)⟩⟩
            · rw [if_neg c17] at H
              have c17b0 : decide (0 < (t455.length : Int)) = false := decide_eq_false c17
              have c17b1 : decide (0 < t455.length) = false := decide_eq_false (by omega)
              clear c17
              (first | rw [c17b0] | (simp only [i64_w, i32_w]; rw [c17b0]) | skip)
              have H' := Aside0.mk H
              clear H
              go_wp2
              go_meet
              case rel => exact ⟨_, (false), (by first | rfl | (simp; done) | (simp [*]; done)), H', ⟨by first | omega | exact Nat.le_refl _⟩, ⟨by (with_reducible repeat (first | apply Kd.R_alloc | apply Kd.R_drewN | apply Kd.R_drew)); exact Kd.R_mono HO459.out (fun _ hk => ⟨hk.1.2, hk.2⟩)⟩, ⟨by (with_reducible repeat (first | apply Kd.R_alloc | apply Kd.R_drewN | apply Kd.R_drew)); exact Kd.R_mono HO464.out (fun _ hk => ⟨hk.1.2, hk.2⟩)⟩, ⟨by (with_reducible repeat (first | apply Kd.R_alloc | apply Kd.R_drewN | apply Kd.R_drew)); exact Kd.R_mono HO469.out (fun _ hk => ⟨hk.1.2, hk.2⟩)⟩, ⟨by repeat (first | (with_reducible first | exact HB.out | apply below_alloc | apply pw_below_drewN | apply below_drew1) | exact HB.out)⟩⟩
          case rest =>
            clear HC11
            try clear c1
            try clear c2
            try clear p2
            try clear c4
            try clear p4
            try clear q4
            try clear hx4
            try clear qi4
            try clear c5
            try clear c6
            try clear c6b0
            try clear c6b1
            try clear p6
            try clear c8
            try clear c8b0
            try clear c8b1
            try clear c8b2
            try clear c10
            try clear c10b0
            try clear c10b1
            try clear c13
            try clear c17
            try clear c17b0
            try clear c17b1
            try clear c18
            try clear c18b0
            try clear c18b1
            try clear c20
            try clear c20b0
            try clear c21
            try clear c21b0
            try clear c22
            try clear c22b0
            try clear c22b1
            try clear c23
            try clear c23b0
            try clear c23b1
            try clear hx470_0
            try clear hx470_1
            try clear hx470_2
            try clear hx470_3
            try clear hx470_4
            try clear hx470_5
            try clear hx470_6
            try clear hx471_0
            try clear hx471_1
            try clear hx471_2
            try clear hx471_3
            try clear hx471_4
            try clear hx471_5
            try clear hx471_6
            try clear p470
            try clear p471
            try clear q470
            try clear q471
            obtain ⟨kq, x82_10, rfl, HA, HJ10, HO_5, HO_8, HO_11, HB⟩ := hcut
            cases kq with
            | zero => exact absurd HA.out (by simp [abacuslaw13_DirectiveChain.j0])
            | succ kj10 =>
              have H := HA.out
              clear HA
              simp only [abacuslaw13_DirectiveChain.j0] at H
              have HC27 := Aside0.mk H
              clear H
              go_upto_if 82 with (fail)
              go_cut [5] (fun v5 wc => ∃ (kq : Nat) (x5_26 : List (S25)) (x8_26 : List (S25)), Aside0 (abacuslaw13_DirectiveChain.j1 kq x5_26 x8_26 t465 t466 t467 = some true) ∧ Aside0 (kq ≤ kj10) ∧ Aside0 (Kd.R k25 25 wc w.heap.size (fun k_ => some k_ ≠ (v463 : Value).ownBlock ∧ some k_ ≠ (v468 : Value).ownBlock) v5 x5_26) ∧ Aside0 (Kd.R k25 25 wc w.heap.size (fun k_ => some k_ ≠ (v5 : Value).ownBlock ∧ some k_ ≠ (v468 : Value).ownBlock) v463 x8_26) ∧ Aside0 (Kd.R k25 25 wc w.heap.size (fun k_ => some k_ ≠ (v5 : Value).ownBlock ∧ some k_ ≠ (v463 : Value).ownBlock) v468 t465) ∧ Aside0 (Below w.heap.size w wc))
              case first =>
                have H := HC27.out
                clear HC27
                by_cases c28 : x82_10 = true
                · subst c28
                  have H1 : (if 0 ≤ (wrap64 ((t455.length : Int) - 1)) then (if (wrap64 ((t455.length : Int) - 1)) < (t455.length : Int) then (if 0 < (t460.length : Int) then (if ((rd_T25 t455 (wrap64 ((t455.length : Int) - 1))).f0).size + ((rd_T25 t460 0).f0).size ≤ 9223372036854775807 then (if (wrap64 ((t455.length : Int) - 1)) ≤ (t455.length : Int) then (abacuslaw13_DirectiveChain.j1 kj10 (t455.take ((wrap64 ((t455.length : Int) - 1)) : Int).toNat) (t460.set (0 : Int).toNat (⟨((rd_T25 t455 (wrap64 ((t455.length : Int) - 1))).f0) ++ ((rd_T25 t460 0).f0), (rd_T25 t460 0).f1, (rd_T25 t460 0).f2, (rd_T25 t460 0).f3, (rd_T25 t460 0).f4, (rd_T25 t460 0).f5, (rd_T25 t460 0).f6⟩ : S25)) t465 t466 t467) else (none)) else (none)) else (none)) else (none)) else (none)) = some true := by rw [if_pos rfl] at H; exact H
                  clear H
                  have H := H1
                  clear H1
                  obtain ⟨ji29, hji29⟩ : ∃ j_ : Int, (wrap64 ((t455.length : Int) - 1)) = j_ := ⟨_, rfl⟩
                  replace H : (if 0 ≤ (ji29) then (if (ji29) < (t455.length : Int) then (if 0 < (t460.length : Int) then (if ((rd_T25 t455 (ji29)).f0).size + ((rd_T25 t460 0).f0).size ≤ 9223372036854775807 then (if (ji29) ≤ (t455.length : Int) then (abacuslaw13_DirectiveChain.j1 kj10 (t455.take ((ji29) : Int).toNat) (t460.set (0 : Int).toNat (⟨((rd_T25 t455 (ji29)).f0) ++ ((rd_T25 t460 0).f0), (rd_T25 t460 0).f1, (rd_T25 t460 0).f2, (rd_T25 t460 0).f3, (rd_T25 t460 0).f4, (rd_T25 t460 0).f5, (rd_T25 t460 0).f6⟩ : S25)) t465 t466 t467) else (none)) else (none)) else (none)) else (none)) else (none)) = some true := by first | (rw [hji29] at H; exact H) | (simp only [hji29] at H ⊢; exact H)
                  have hji29w : (IntKind.i64.wrap ((t455.length : Int) - 1)) = ji29 := (i64_w _).trans hji29
                  by_cases c30 : 0 ≤ (ji29)
                  · rw [if_pos c30] at H
                    have c30b0 : decide (0 ≤ (ji29)) = true := decide_eq_true c30
                    clear c30
                    (first | rw [c30b0] | (simp only [i64_w, i32_w]; rw [c30b0]) | skip)
                    by_cases c31 : (ji29) < (t455.length : Int)
                    · rw [if_pos c31] at H
                      have c31b0 : decide ((ji29) < (t455.length : Int)) = true := decide_eq_true c31
                      clear c31
                      by_cases c32 : 0 < (t460.length : Int)
                      · rw [if_pos c32] at H
                        have c32b0 : decide (0 < (t460.length : Int)) = true := decide_eq_true c32
                        have c32b1 : decide (0 < t460.length) = true := decide_eq_true (by omega)
                        clear c32
                        by_cases c33 : ((rd_T25 t455 (ji29)).f0).size + ((rd_T25 t460 0).f0).size ≤ 9223372036854775807
                        · rw [if_pos c33] at H
                          have c33b0 := eq_true c33
                          have c33b1 : decide (((rd_T25 t455 (ji29)).f0).size + ((rd_T25 t460 0).f0).size ≤ 9223372036854775807) = true := decide_eq_true c33
                          try have c33b2 : (9223372036854775807 < ((rd_T25 t455 (ji29)).f0).size + ((rd_T25 t460 0).f0).size) = False := eq_false (Nat.not_lt.2 c33)
                          obtain ⟨y474, hy474⟩ : ∃ y_ : List (S25), y_ = (t460.set (0 : Int).toNat (⟨((rd_T25 t455 (ji29)).f0) ++ ((rd_T25 t460 0).f0), (rd_T25 t460 0).f1, (rd_T25 t460 0).f2, (rd_T25 t460 0).f3, (rd_T25 t460 0).f4, (rd_T25 t460 0).f5, (rd_T25 t460 0).f6⟩ : S25)) := ⟨_, rfl⟩
                          replace H : (if (ji29) ≤ (t455.length : Int) then (abacuslaw13_DirectiveChain.j1 kj10 (t455.take ((ji29) : Int).toNat) y474 t465 t466 t467) else (none)) = some true := by first | (rw [hy474]; with_reducible exact H) | (have H2_ := (Option.bind_some _ _).symm.trans H; rw [hy474]; with_reducible exact H2_) | (have H2_ := (Option.bind_some _ _).symm.trans H; with_reducible exact H2_) | with_reducible exact H | (rw [hy474]; exact H) | exact H
                          have Ny474 := Aside0.mk hy474
                          clear hy474
                          by_cases c35 : (ji29) ≤ (t455.length : Int)
                          · rw [if_pos c35] at H
                            have c35b0 := eq_true c35
                            have c35b1 : decide ((ji29) ≤ (t455.length : Int)) = true := decide_eq_true c35
                            clear c35
                            obtain ⟨y475, hy475⟩ : ∃ y_ : List (S25), y_ = (t455.take ((ji29) : Int).toNat) := ⟨_, rfl⟩
                            replace H : (abacuslaw13_DirectiveChain.j1 kj10 y475 y474 t465 t466 t467) = some true := by first | (rw [hy475]; with_reducible exact H) | (have H2_ := (Option.bind_some _ _).symm.trans H; rw [hy475]; with_reducible exact H2_) | (have H2_ := (Option.bind_some _ _).symm.trans H; with_reducible exact H2_) | with_reducible exact H | (rw [hy475]; exact H) | exact H
                            have Ny475 := Aside0.mk hy475
                            clear hy475
                            have H' := Aside0.mk H
                            clear H
                            try go_wp2
                            have n0_ := Aside0.mk (Kd.R_drew HO_5.out)
                            have n1_ := Aside0.mk (Kd.R_drew HO_8.out)
                            have n2_ := Aside0.mk (Kd.R_drew HO_11.out)
                            have n3_ := Aside0.mk (below_drew1 HB.out)
                            clear HO_5
                            clear HO_8
                            clear HO_11
                            clear HB
                            have HO_5 := n0_
                            have HO_8 := n1_
                            have HO_11 := n2_
                            have HB := n3_
                            clear n0_ n1_ n2_ n3_
                            have p472 : 0 ≤ ((ji29) : Int) := of_decide_eq_true (by first | (with_reducible assumption) | assumption)
                            have q472 : (ji29) < (t455.length : Int) := of_decide_eq_true (by first | (with_reducible assumption) | assumption)
                            obtain ⟨ad472, e472, hx472_0, hx472_1, hx472_2, hx472_3, hx472_4, hx472_5, hx472_6⟩ := at_T25 (Kd.R_reads' HO_5.out).2.2 (ji29) p472 q472
                            cases e472
                            replace p472 := eq_true p472
                            replace q472 := eq_true q472
                            obtain ⟨Ao37, co37, eo37⟩ := Kd.R_slice HO_8.out
                            (first | subst eo37 | (injection eo37 with f1_ f2_ f3_; have f4_ := f1_.symm; have f5_ := f3_.symm; clear f1_ f2_ f3_; subst f4_; subst f5_))
                            have p473 : 0 ≤ (0 : Int) := (by omega)
                            have q473 : 0 < (t460.length : Int) := of_decide_eq_true (by first | (with_reducible assumption) | assumption)
                            obtain ⟨ad473, e473, hx473_0, hx473_1, hx473_2, hx473_3, hx473_4, hx473_5, hx473_6⟩ := at_T25 (Kd.R_reads' HO_8.out).2.2 0 p473 q473
                            cases e473
                            have qi473 : (0 < t460.length) = True := eq_true (by omega)
                            (try rw [show ((0 : Int)).toNat = 0 from rfl] at hx473_0)
                            (try rw [show 0 * 7 = 0 from rfl] at hx473_0)
                            (try rw [Addr.add_zero'] at hx473_0)
                            (try rw [show ((0 : Int)).toNat = 0 from rfl] at hx473_1)
                            (try rw [show 0 * 7 = 0 from rfl] at hx473_1)
                            (try rw [Addr.add_zero'] at hx473_1)
                            (try rw [show ((0 : Int)).toNat = 0 from rfl] at hx473_2)
                            (try rw [show 0 * 7 = 0 from rfl] at hx473_2)
                            (try rw [Addr.add_zero'] at hx473_2)
                            (try rw [show ((0 : Int)).toNat = 0 from rfl] at hx473_3)
                            (try rw [show 0 * 7 = 0 from rfl] at hx473_3)
                            (try rw [Addr.add_zero'] at hx473_3)
                            (try rw [show ((0 : Int)).toNat = 0 from rfl] at hx473_4)
                            (try rw [show 0 * 7 = 0 from rfl] at hx473_4)
                            (try rw [Addr.add_zero'] at hx473_4)
                            (try rw [show ((0 : Int)).toNat = 0 from rfl] at hx473_5)
                            (try rw [show 0 * 7 = 0 from rfl] at hx473_5)
                            (try rw [Addr.add_zero'] at hx473_5)
                            (try rw [show ((0 : Int)).toNat = 0 from rfl] at hx473_6)
                            (try rw [show 0 * 7 = 0 from rfl] at hx473_6)
                            (try rw [Addr.add_zero'] at hx473_6)
                            replace p473 := eq_true p473
                            replace q473 := eq_true q473
                            have p34 : 0 ≤ (0 : Int) := (by omega)
                            have q34 : (0 : Int) < ((t460.length : Int) : Int) := of_decide_eq_true (by first | (with_reducible assumption) | assumption)
                            have qi34 : (0 < t460.length) = True := eq_true (by omega)
                            obtain ⟨go34, co34, eo34, gb34, gl34, cl34, HG34⟩ := Kd.R_form HO_8.out (by omega)
                            (first | cases eo34 | (injection eo34 with ea_ en_ ec_; (first | subst ea_ | (injection ea_ with ea_; subst ea_)); subst ec_; clear en_))
                            have GB34 := Aside0.mk gb34
                            have GG34 := Aside0.mk HG34
                            clear gb34 gl34 HG34
                            (first | simp only [add_plain] at hx473_0 | skip)
                            (first | simp only [add_plain] at hx473_1 | skip)
                            (first | simp only [add_plain] at hx473_2 | skip)
                            (first | simp only [add_plain] at hx473_3 | skip)
                            (first | simp only [add_plain] at hx473_4 | skip)
                            (first | simp only [add_plain] at hx473_5 | skip)
                            (first | simp only [add_plain] at hx473_6 | skip)
                            obtain ⟨ce34, hcl34, hM34, hcc34, hfr34⟩ := Kd.R_elem HO_8.out z25 (0 : Int) p34 q34
                            obtain rfl := k25_openM hM34
                            have hx34_0 : World.cell? _ ⟨go34, (0 : Int).toNat * 7, none⟩ = some (.string ((rd_T25 t460 0).f0)) := hcc34 0 _ rfl
                            have hx34_1 : World.cell? _ ⟨go34, (0 : Int).toNat * 7 + 1, none⟩ = some (.int .u8 ((rd_T25 t460 0).f1)) := hcc34 1 _ rfl
                            have hx34_2 : World.cell? _ ⟨go34, (0 : Int).toNat * 7 + 2, none⟩ = some (.int .i64 ((rd_T25 t460 0).f2)) := hcc34 2 _ rfl
                            have hx34_3 : World.cell? _ ⟨go34, (0 : Int).toNat * 7 + 3, none⟩ = some (.int .i64 ((rd_T25 t460 0).f3)) := hcc34 3 _ rfl
                            have hx34_4 : World.cell? _ ⟨go34, (0 : Int).toNat * 7 + 4, none⟩ = some (.int .i64 ((rd_T25 t460 0).f4)) := hcc34 4 _ rfl
                            have hx34_5 : World.cell? _ ⟨go34, (0 : Int).toNat * 7 + 5, none⟩ = some (.int .i64 ((rd_T25 t460 0).f5)) := hcc34 5 _ rfl
                            have hx34_6 : World.cell? _ ⟨go34, (0 : Int).toNat * 7 + 6, none⟩ = some (.int .i64 ((rd_T25 t460 0).f6)) := hcc34 6 _ rfl
                            have hf34_0 : World.frozen? _ ⟨go34, (0 : Int).toNat * 7, none⟩ = false := hfr34 0
                            have hf34_1 : World.frozen? _ ⟨go34, (0 : Int).toNat * 7 + 1, none⟩ = false := hfr34 1
                            have hf34_2 : World.frozen? _ ⟨go34, (0 : Int).toNat * 7 + 2, none⟩ = false := hfr34 2
                            have hf34_3 : World.frozen? _ ⟨go34, (0 : Int).toNat * 7 + 3, none⟩ = false := hfr34 3
                            have hf34_4 : World.frozen? _ ⟨go34, (0 : Int).toNat * 7 + 4, none⟩ = false := hfr34 4
                            have hf34_5 : World.frozen? _ ⟨go34, (0 : Int).toNat * 7 + 5, none⟩ = false := hfr34 5
                            have hf34_6 : World.frozen? _ ⟨go34, (0 : Int).toNat * 7 + 6, none⟩ = false := hfr34 6
                            clear hcl34 hcc34 hfr34 hM34
                            (try rw [show ((0 : Int)).toNat = 0 from rfl] at hx34_0)
                            (try simp only [Nat.reduceMul, Nat.zero_mul, Nat.zero_add, Nat.reduceAdd] at hx34_0)
                            (try rw [show ((0 : Int)).toNat = 0 from rfl] at hf34_0)
                            (try simp only [Nat.reduceMul, Nat.zero_mul, Nat.zero_add, Nat.reduceAdd] at hf34_0)
                            (try rw [show ((0 : Int)).toNat = 0 from rfl] at hx34_1)
                            (try simp only [Nat.reduceMul, Nat.zero_mul, Nat.zero_add, Nat.reduceAdd] at hx34_1)
                            (try rw [show ((0 : Int)).toNat = 0 from rfl] at hf34_1)
                            (try simp only [Nat.reduceMul, Nat.zero_mul, Nat.zero_add, Nat.reduceAdd] at hf34_1)
                            (try rw [show ((0 : Int)).toNat = 0 from rfl] at hx34_2)
                            (try simp only [Nat.reduceMul, Nat.zero_mul, Nat.zero_add, Nat.reduceAdd] at hx34_2)
                            (try rw [show ((0 : Int)).toNat = 0 from rfl] at hf34_2)
                            (try simp only [Nat.reduceMul, Nat.zero_mul, Nat.zero_add, Nat.reduceAdd] at hf34_2)
                            (try rw [show ((0 : Int)).toNat = 0 from rfl] at hx34_3)
                            (try simp only [Nat.reduceMul, Nat.zero_mul, Nat.zero_add, Nat.reduceAdd] at hx34_3)
                            (try rw [show ((0 : Int)).toNat = 0 from rfl] at hf34_3)
                            (try simp only [Nat.reduceMul, Nat.zero_mul, Nat.zero_add, Nat.reduceAdd] at hf34_3)
                            (try rw [show ((0 : Int)).toNat = 0 from rfl] at hx34_4)
                            (try simp only [Nat.reduceMul, Nat.zero_mul, Nat.zero_add, Nat.reduceAdd] at hx34_4)
                            (try rw [show ((0 : Int)).toNat = 0 from rfl] at hf34_4)
                            (try simp only [Nat.reduceMul, Nat.zero_mul, Nat.zero_add, Nat.reduceAdd] at hf34_4)
                            (try rw [show ((0 : Int)).toNat = 0 from rfl] at hx34_5)
                            (try simp only [Nat.reduceMul, Nat.zero_mul, Nat.zero_add, Nat.reduceAdd] at hx34_5)
                            (try rw [show ((0 : Int)).toNat = 0 from rfl] at hf34_5)
                            (try simp only [Nat.reduceMul, Nat.zero_mul, Nat.zero_add, Nat.reduceAdd] at hf34_5)
                            (try rw [show ((0 : Int)).toNat = 0 from rfl] at hx34_6)
                            (try simp only [Nat.reduceMul, Nat.zero_mul, Nat.zero_add, Nat.reduceAdd] at hx34_6)
                            (try rw [show ((0 : Int)).toNat = 0 from rfl] at hf34_6)
                            (try simp only [Nat.reduceMul, Nat.zero_mul, Nat.zero_add, Nat.reduceAdd] at hf34_6)
                            replace p34 := eq_true p34
                            replace q34 := eq_true q34
                            obtain ⟨ce38, hcl38, hM38, hcc38, hfr38⟩ := Kd.R_elem HO_8.out z25 (0 : Int) (by omega) (by have h_ : (0 : Int) < ((t460.length : Int) : Int) := of_decide_eq_true (by first | (with_reducible assumption) | assumption); first | exact h_ | (have e_ := (Kd.R_reads' HO_8.out).1; omega) | simpa using h_)
                            obtain rfl := k25_openM hM38
                            have HP38 := (Kd.R_seg HO_8.out (0 : Int) (by omega) (by have h_ : (0 : Int) < ((t460.length : Int) : Int) := of_decide_eq_true (by first | (with_reducible assumption) | assumption); first | exact h_ | (have e_ := (Kd.R_reads' HO_8.out).1; omega) | simpa using h_) (seg := [.string (((rd_T25 t455 (ji29)).f0) ++ ((rd_T25 t460 0).f0))]) (j := 0) hcl38 hcc38 (show 1 ≤ 7 from by decide) (x' := (⟨((rd_T25 t455 (ji29)).f0) ++ ((rd_T25 t460 0).f0), (rd_T25 t460 0).f1, (rd_T25 t460 0).f2, (rd_T25 t460 0).f3, (rd_T25 t460 0).f4, (rd_T25 t460 0).f5, (rd_T25 t460 0).f6⟩ : S25)) (k25_mkM _ _ _ (⟨((rd_T25 t455 (ji29)).f0) ++ ((rd_T25 t460 0).f0), (rd_T25 t460 0).f1, (rd_T25 t460 0).f2, (rd_T25 t460 0).f3, (rd_T25 t460 0).f4, (rd_T25 t460 0).f5, (rd_T25 t460 0).f6⟩ : S25) ) (fun _ hk => hk)).1
                            rw [← Ny474.out] at HP38
                            have HQ38 := Aside0.mk HP38
                            clear hcl38 hcc38 hfr38 hM38 HP38
                            refine start_ (n := 15) (S := fun w' => w'.cell? (ad472.add (((ji29)).toNat * 7)) = some (.string ((rd_T25 t455 (ji29)).f0)) ∧ w'.cell? ⟨(ad472.add (((ji29)).toNat * 7)).block, (ad472.add (((ji29)).toNat * 7)).off + 1, none⟩ = some (.int .u8 ((rd_T25 t455 (ji29)).f1)) ∧ w'.cell? ⟨(ad472.add (((ji29)).toNat * 7)).block, (ad472.add (((ji29)).toNat * 7)).off + 2, none⟩ = some (.int .i64 ((rd_T25 t455 (ji29)).f2)) ∧ w'.cell? ⟨(ad472.add (((ji29)).toNat * 7)).block, (ad472.add (((ji29)).toNat * 7)).off + 3, none⟩ = some (.int .i64 ((rd_T25 t455 (ji29)).f3)) ∧ w'.cell? ⟨(ad472.add (((ji29)).toNat * 7)).block, (ad472.add (((ji29)).toNat * 7)).off + 4, none⟩ = some (.int .i64 ((rd_T25 t455 (ji29)).f4)) ∧ w'.cell? ⟨(ad472.add (((ji29)).toNat * 7)).block, (ad472.add (((ji29)).toNat * 7)).off + 5, none⟩ = some (.int .i64 ((rd_T25 t455 (ji29)).f5)) ∧ w'.cell? ⟨(ad472.add (((ji29)).toNat * 7)).block, (ad472.add (((ji29)).toNat * 7)).off + 6, none⟩ = some (.int .i64 ((rd_T25 t455 (ji29)).f6)) ∧ w'.cell? ⟨go34, 0, none⟩ = some (.string ((rd_T25 t460 0).f0)) ∧ w'.cell? ⟨go34, 1, none⟩ = some (.int .u8 ((rd_T25 t460 0).f1)) ∧ w'.cell? ⟨go34, 2, none⟩ = some (.int .i64 ((rd_T25 t460 0).f2)) ∧ w'.cell? ⟨go34, 3, none⟩ = some (.int .i64 ((rd_T25 t460 0).f3)) ∧ w'.cell? ⟨go34, 4, none⟩ = some (.int .i64 ((rd_T25 t460 0).f4)) ∧ w'.cell? ⟨go34, 5, none⟩ = some (.int .i64 ((rd_T25 t460 0).f5)) ∧ w'.cell? ⟨go34, 6, none⟩ = some (.int .i64 ((rd_T25 t460 0).f6))) (ds := [14]) #[false, false, false, false, false, false, false, false, false, false, false, false, false, false, false] (by kernel_rfl) rfl rfl ⟨hx472_0, hx472_1, hx472_2, hx472_3, hx472_4, hx472_5, hx472_6, hx473_0, hx473_1, hx473_2, hx473_3, hx473_4, hx473_5, hx473_6⟩ (fun hHeld => ?_); refine with_tabW abacuslaw13_DirectiveChain.tab12 abacuslaw13_DirectiveChain.bits12 (fun HT_ HW_ => ?_)
                            generalize wc.drew = w36 at HO_5 HO_8 HO_11 HB GG34 HQ38 hf34_0 hf34_1 hf34_2 hf34_3 hf34_4 hf34_5 hf34_6 hx34_0 hx34_1 hx34_2 hx34_3 hx34_4 hx34_5 hx34_6 hx472_0 hx472_1 hx472_2 hx472_3 hx472_4 hx472_5 hx472_6 hx473_0 hx473_1 hx473_2 hx473_3 hx473_4 hx473_5 hx473_6 hHeld ⊢
                            refine pure_ (i := 0) (N := some 83) (v := ?_) (a' := ?_) #[true, false, false, false, false, false, false, false, false, false, false, false, false, false, false] rfl rfl (any_of HT_.out (by kernel_rfl)) (fun _ _ _ h => h) (Or.inl ⟨by rfl, ?_⟩) ?_ ?_
                            rotate_left
                            · intro w'
                              go_simp
                              with_reducible rfl
                            rotate_left
                            · simp only [Act.put, List.setIfInBounds_toArray, List.set_cons_zero, List.set_cons_succ, i64_w, i32_w]
                              rfl
                            refine pure_ (i := 1) (N := some 84) (v := ?_) (a' := ?_) #[true, true, false, false, false, false, false, false, false, false, false, false, false, false, false] rfl rfl (any_of HT_.out (by kernel_rfl)) (fun _ _ _ h => h) (Or.inl ⟨by rfl, ?_⟩) ?_ ?_
                            rotate_left
                            · intro w'
                              go_simp
                              with_reducible rfl
                            rotate_left
                            · simp only [Act.put, List.setIfInBounds_toArray, List.set_cons_zero, List.set_cons_succ, i64_w, i32_w]
                              rfl
                            refine pure_ (i := 2) (N := some 85) (v := ?_) (a' := ?_) #[true, true, true, false, false, false, false, false, false, false, false, false, false, false, false] rfl rfl (any_of HT_.out (by kernel_rfl)) (fun _ _ _ h => h) (Or.inl ⟨by rfl, ?_⟩) ?_ ?_
                            rotate_left
                            · intro w'
                              go_simp
                              with_reducible rfl
                            rotate_left
                            · simp only [Act.put, List.setIfInBounds_toArray, List.set_cons_zero, List.set_cons_succ, i64_w, i32_w]
                              rfl
                            refine pure_ (i := 3) (N := some 86) (v := ?_) (a' := ?_) #[true, true, true, true, false, false, false, false, false, false, false, false, false, false, false] rfl rfl (any_of HT_.out (by kernel_rfl)) (fun _ _ _ h => h) (Or.inl ⟨by rfl, ?_⟩) ?_ ?_
                            rotate_left
                            · intro w'
                              go_simp
                              with_reducible rfl
                            rotate_left
                            · simp only [Act.put, List.setIfInBounds_toArray, List.set_cons_zero, List.set_cons_succ, i64_w, i32_w]
                              rfl
                            refine pure_ (i := 4) (N := some 87) (v := ?_) (a' := ?_) #[true, true, true, true, true, false, false, false, false, false, false, false, false, false, false] rfl rfl (any_of HT_.out (by kernel_rfl)) (fun _ _ _ h => h) (Or.inl ⟨by rfl, ?_⟩) ?_ ?_
                            rotate_left
                            · intro w'
                              go_simp
                              with_reducible rfl
                            rotate_left
                            · simp only [Act.put, List.setIfInBounds_toArray, List.set_cons_zero, List.set_cons_succ, i64_w, i32_w]
                              rfl
                            refine pure_ (i := 5) (N := some 88) (v := ?_) (a' := ?_) #[true, true, true, true, true, true, false, false, false, false, false, false, false, false, false] rfl rfl (any_of HT_.out (by kernel_rfl)) (fun _ _ _ h => h) (Or.inl ⟨by rfl, ?_⟩) ?_ ?_
                            rotate_left
                            · intro w'
                              go_simp
                              with_reducible rfl
                            rotate_left
                            · simp only [Act.put, List.setIfInBounds_toArray, List.set_cons_zero, List.set_cons_succ, i64_w, i32_w]
                              rfl
                            refine pure_ (i := 7) (N := some 90) (v := ?_) (a' := ?_) #[true, true, true, true, true, true, false, true, false, false, false, false, false, false, false] rfl rfl (any_of HT_.out (by kernel_rfl)) (fun _ _ _ h => h) (Or.inl ⟨by rfl, ?_⟩) ?_ ?_
                            rotate_left
                            · intro w'
                              go_simp
                              with_reducible rfl
                            rotate_left
                            · simp only [Act.put, List.setIfInBounds_toArray, List.set_cons_zero, List.set_cons_succ, i64_w, i32_w]
                              rfl
                            refine pure_ (i := 8) (N := some 91) (v := ?_) (a' := ?_) #[true, true, true, true, true, true, false, true, true, false, false, false, false, false, false] rfl rfl (any_of HT_.out (by kernel_rfl)) (fun _ _ _ h => h) (Or.inl ⟨by rfl, ?_⟩) ?_ ?_
                            rotate_left
                            · intro w'
                              go_simp
                              with_reducible rfl
                            rotate_left
                            · simp only [Act.put, List.setIfInBounds_toArray, List.set_cons_zero, List.set_cons_succ, i64_w, i32_w]
                              rfl
                            refine pure_ (i := 9) (N := some 92) (v := ?_) (a' := ?_) #[true, true, true, true, true, true, false, true, true, true, false, false, false, false, false] rfl rfl (any_of HT_.out (by kernel_rfl)) (fun _ _ _ h => h) (Or.inl ⟨by rfl, ?_⟩) ?_ ?_
                            rotate_left
                            · intro w'
                              go_simp
                              with_reducible rfl
                            rotate_left
                            · simp only [Act.put, List.setIfInBounds_toArray, List.set_cons_zero, List.set_cons_succ, i64_w, i32_w]
                              rfl
                            refine take_ (i := 6) (N := some 89) (v := ?_) (a' := ?_) #[true, true, true, true, true, true, true, true, true, true, false, false, false, false, false] rfl rfl (take_ofW HT_.out HW_.out (by kernel_rfl)) (fun _ _ _ h => h) (Or.inl ⟨by rfl, ?_⟩) hHeld ?_ ?_
                            rotate_left
                            · rintro w' ⟨s0, s1, s2, s3, s4, s5, s6, s7, s8, s9, s10, s11, s12, s13⟩
                              go_simp
                              with_reducible rfl
                            rotate_left
                            · simp only [Act.put, List.setIfInBounds_toArray, List.set_cons_zero, List.set_cons_succ, i64_w, i32_w]
                              rfl
                            refine take_ (i := 10) (N := some 93) (v := ?_) (a' := ?_) #[true, true, true, true, true, true, true, true, true, true, true, false, false, false, false] rfl rfl (take_ofW HT_.out HW_.out (by kernel_rfl)) (fun _ _ _ h => h) (Or.inl ⟨by rfl, ?_⟩) hHeld ?_ ?_
                            rotate_left
                            · rintro w' ⟨s0, s1, s2, s3, s4, s5, s6, s7, s8, s9, s10, s11, s12, s13⟩
                              go_simp
                              with_reducible rfl
                            rotate_left
                            · simp only [Act.put, List.setIfInBounds_toArray, List.set_cons_zero, List.set_cons_succ, i64_w, i32_w]
                              rfl
                            refine pure_ (i := 11) (N := some 94) (v := ?_) (a' := ?_) #[true, true, true, true, true, true, true, true, true, true, true, true, false, false, false] rfl rfl (any_of HT_.out (by kernel_rfl)) (fun _ _ _ h => h) (Or.inl ⟨by rfl, ?_⟩) ?_ ?_
                            rotate_left
                            · intro w'
                              go_simp
                              with_reducible rfl
                            rotate_left
                            · simp only [Act.put, List.setIfInBounds_toArray, List.set_cons_zero, List.set_cons_succ, i64_w, i32_w]
                              rfl
                            refine pure_ (i := 12) (N := some 95) (v := ?_) (a' := ?_) #[true, true, true, true, true, true, true, true, true, true, true, true, true, false, false] rfl rfl (any_of HT_.out (by kernel_rfl)) (fun _ _ _ h => h) (Or.inl ⟨by rfl, ?_⟩) ?_ ?_
                            rotate_left
                            · intro w'
                              go_simp
                              with_reducible rfl
                            rotate_left
                            · simp only [Act.put, List.setIfInBounds_toArray, List.set_cons_zero, List.set_cons_succ, i64_w, i32_w]
                              rfl
                            refine pure_ (i := 13) (N := some 96) (v := ?_) (a' := ?_) #[true, true, true, true, true, true, true, true, true, true, true, true, true, true, false] rfl rfl (any_of HT_.out (by kernel_rfl)) (fun _ _ _ h => h) (Or.inl ⟨by rfl, ?_⟩) ?_ ?_
                            rotate_left
                            · intro w'
                              go_simp
                              with_reducible rfl
                            rotate_left
                            · simp only [Act.put, List.setIfInBounds_toArray, List.set_cons_zero, List.set_cons_succ, i64_w, i32_w]
                              rfl
                            refine last_ (i := 14) (N := none) #[true, true, true, true, true, true, true, true, true, true, true, true, true, true, true] rfl rfl (one_of HT_.out (by kernel_rfl)) (by decide) (fun K hK => ?_)
                            refine skip_ (w1 := ?_) (by rfl) rfl ?_ ?_
                            rotate_left
                            · go_simp
                              rfl
                            refine hK.out _ _ ?_
                            clear hK K
                            refine done_ (done_of HT_.out (by kernel_rfl)) ?_
                            have n0_ : Aside0 (Kd.R k25 25 (w36.setCell ⟨go34, 0, none⟩ (.string (((rd_T25 t455 (ji29)).f0) ++ ((rd_T25 t460 0).f0)))) w.heap.size (fun k_ => some k_ ≠ (.slice (some ⟨go34, 0, none⟩) t460.length co37 : Value).ownBlock ∧ some k_ ≠ (v468 : Value).ownBlock) (.slice (some ad472) t455.length co16) t455) := ⟨by (with_reducible repeat (first | apply Kd.R_alloc | apply Kd.R_drewN | apply Kd.R_drew)); exact Kd.R_mono (Kd.R_far (p := ⟨go34, 0, none⟩) (Kd.R_mono HO_5.out (fun k_ hk => (⟨hk, fun e_ => hk.1 (by rw [e_]; rfl)⟩ : _ ∧ k_ ≠ go34))) (fun _ hk => hk.2) (.string (((rd_T25 t455 (ji29)).f0) ++ ((rd_T25 t460 0).f0)))) (fun _ hk => ⟨hk.1.1, hk.1.2⟩)⟩
                            have n1_ : Aside0 (Kd.R k25 25 (w36.setCell ⟨go34, 0, none⟩ (.string (((rd_T25 t455 (ji29)).f0) ++ ((rd_T25 t460 0).f0)))) w.heap.size (fun k_ => some k_ ≠ (.slice (some ad472) t455.length co16 : Value).ownBlock ∧ some k_ ≠ (v468 : Value).ownBlock) (.slice (some ⟨go34, 0, none⟩) t460.length co37) y474) := ⟨by (with_reducible repeat (first | apply Kd.R_alloc | apply Kd.R_drewN | apply Kd.R_drew)); exact HQ38.out⟩
                            have n2_ : Aside0 (Kd.R k25 25 (w36.setCell ⟨go34, 0, none⟩ (.string (((rd_T25 t455 (ji29)).f0) ++ ((rd_T25 t460 0).f0)))) w.heap.size (fun k_ => some k_ ≠ (.slice (some ad472) t455.length co16 : Value).ownBlock ∧ some k_ ≠ (.slice (some ⟨go34, 0, none⟩) t460.length co37 : Value).ownBlock) v468 t465) := ⟨by (with_reducible repeat (first | apply Kd.R_alloc | apply Kd.R_drewN | apply Kd.R_drew)); exact Kd.R_mono (Kd.R_far (p := ⟨go34, 0, none⟩) (Kd.R_mono HO_11.out (fun k_ hk => (⟨hk, fun e_ => hk.2 (by rw [e_]; rfl)⟩ : _ ∧ k_ ≠ go34))) (fun _ hk => hk.2) (.string (((rd_T25 t455 (ji29)).f0) ++ ((rd_T25 t460 0).f0)))) (fun _ hk => ⟨hk.1.1, hk.1.2⟩)⟩
                            have n3_ : Aside0 (Below w.heap.size w (w36.setCell ⟨go34, 0, none⟩ (.string (((rd_T25 t455 (ji29)).f0) ++ ((rd_T25 t460 0).f0))))) := ⟨by repeat (first | (with_reducible first | exact HB.out | apply below_alloc | apply pw_below_drewN | apply below_drew1 | refine below_set ?_ GB34.out) | exact HB.out)⟩
                            (try clear HO_5)
                            (try clear HO_8)
                            (try clear HO_11)
                            (try clear HB)
                            generalize (w36.setCell ⟨go34, 0, none⟩ (.string (((rd_T25 t455 (ji29)).f0) ++ ((rd_T25 t460 0).f0)))) = w39 at n0_ n1_ n2_ n3_ ⊢
                            have HO_5 := n0_
                            have HO_8 := n1_
                            have HO_11 := n2_
                            have HB := n3_
                            clear n0_ n1_ n2_ n3_
                            have q40 : ((ji29) : Int) ≤ ((t455.length : Int) : Int) := of_decide_eq_true (by first | (with_reducible assumption) | assumption)
                            obtain ⟨i040, hi040, _, hsz40, _⟩ := info_parts info25
                            have hcut40 := cut_to (P := Tryd.prog) 22 25 .i64 Tryd.underlying22 hi040 (some ad472) t455.length co16 (ji29) (of_decide_eq_true (by first | (with_reducible assumption) | assumption)) q40 (Kd.R_reads' HO_5.out).2.1
                            have hr40 := Kd.R_take (m := ((ji29) : Int).toNat) HO_5.out (by omega)
                            have hy40 : y475.length = ((ji29) : Int).toNat := (by rw [Ny475.out, List.length_take]; omega)
                            rw [← Ny475.out] at hr40
                            rw [← hy40] at hr40 hcut40
                            clear hy40 hi040 hsz40 HO_5
                            have HO477 := Aside0.mk hr40
                            clear hr40
                            replace q40 := eq_true q40
                            try go_wp2
                            go_meet
                            case rel => exact ⟨_, (y475), (y474), H', ⟨by have := HJ10.out; first | omega | exact Nat.le_refl _⟩, ⟨by (with_reducible repeat (first | apply Kd.R_alloc | apply Kd.R_drewN | apply Kd.R_drew)); exact HO477.out⟩, ⟨by (with_reducible repeat (first | apply Kd.R_alloc | apply Kd.R_drewN | apply Kd.R_drew)); exact HO_8.out⟩, ⟨by (with_reducible repeat (first | apply Kd.R_alloc | apply Kd.R_drewN | apply Kd.R_drew)); exact HO_11.out⟩, ⟨by repeat (first | (with_reducible first | exact HB.out | apply below_alloc | apply pw_below_drewN | apply below_drew1) | exact HB.out)⟩⟩
                          · rw [if_neg c35] at H
                            exact absurd H (by simp)
                        · rw [if_neg c33] at H
                          exact absurd H (by simp)
                      · rw [if_neg c32] at H
                        exact absurd H (by simp)
                    · rw [if_neg c31] at H
                      exact absurd H (by simp)
                  · rw [if_neg c30] at H
                    exact absurd H (by simp)
                · replace c28 := Bool.eq_false_iff.mpr c28
                  subst c28
                  have H1 : (abacuslaw13_DirectiveChain.j1 kj10 t455 t460 t465 t466 t467) = some true := by rw [if_neg (show ¬ (false = true) by decide)] at H; exact H
                  clear H
                  have H := H1
                  clear H1
                  have H' := Aside0.mk H
                  clear H
                  go_wp2
                  go_meet
                  case rel => exact ⟨_, (t455), (t460), H', ⟨by have := HJ10.out; first | omega | exact Nat.le_refl _⟩, ⟨by (with_reducible repeat (first | apply Kd.R_alloc | apply Kd.R_drewN | apply Kd.R_drew)); exact HO_5.out⟩, ⟨by (with_reducible repeat (first | apply Kd.R_alloc | apply Kd.R_drewN | apply Kd.R_drew)); exact HO_8.out⟩, ⟨by (with_reducible repeat (first | apply Kd.R_alloc | apply Kd.R_drewN | apply Kd.R_drew)); exact HO_11.out⟩, ⟨by repeat (first | (with_reducible first | exact HB.out | apply below_alloc | apply pw_below_drewN | apply below_drew1) | exact HB.out)⟩⟩
              case rest =>
                clear HC27
                try clear c1
                try clear c2
                try clear p2
                try clear c3
                try clear p3
                try clear q3
                try clear hx3
                try clear qi3
                try clear hf3
                try clear c4
                try clear p4
                try clear q4
                try clear hx4
                try clear qi4
                try clear c5
                try clear c6
                try clear c6b0
                try clear c6b1
                try clear p6
                try clear c8
                try clear c8b0
                try clear c8b1
                try clear c8b2
                try clear c10
                try clear c10b0
                try clear c10b1
                try clear c13
                try clear c17
                try clear c17b0
                try clear c17b1
                try clear c18
                try clear c18b0
                try clear c18b1
                try clear c20
                try clear c20b0
                try clear c21
                try clear c21b0
                try clear c22
                try clear c22b0
                try clear c22b1
                try clear c23
                try clear c23b0
                try clear c23b1
                try clear c28
                try clear c30
                try clear c30b0
                try clear c31
                try clear c31b0
                try clear c32
                try clear c32b0
                try clear c32b1
                try clear c33
                try clear c33b0
                try clear c33b1
                try clear c33b2
                try clear c34
                try clear p34
                try clear q34
                try clear hx34
                try clear qi34
                try clear hf34
                try clear c35
                try clear c35b0
                try clear c35b1
                try clear c38
                try clear q40
                try clear hx34_0
                try clear hx34_1
                try clear hx34_2
                try clear hx34_3
                try clear hx34_4
                try clear hx34_5
                try clear hx34_6
                try clear hx470_0
                try clear hx470_1
                try clear hx470_2
                try clear hx470_3
                try clear hx470_4
                try clear hx470_5
                try clear hx470_6
                try clear hx471_0
                try clear hx471_1
                try clear hx471_2
                try clear hx471_3
                try clear hx471_4
                try clear hx471_5
                try clear hx471_6
                try clear hx472_0
                try clear hx472_1
                try clear hx472_2
                try clear hx472_3
                try clear hx472_4
                try clear hx472_5
                try clear hx472_6
                try clear hx473_0
                try clear hx473_1
                try clear hx473_2
                try clear hx473_3
                try clear hx473_4
                try clear hx473_5
                try clear hx473_6
                try clear p2
                try clear p34
                try clear p4
                try clear p470
                try clear p471
                try clear p472
                try clear p473
                try clear p6
                try clear q34
                try clear q4
                try clear q40
                try clear q470
                try clear q471
                try clear q472
                try clear q473
                obtain ⟨kq, x5_26, x8_26, HA, HJ26, HO_5, HO_8, HO_11, HB⟩ := hcut
                cases kq with
                | zero => exact absurd HA.out (by simp [abacuslaw13_DirectiveChain.j1])
                | succ kj26 =>
                  have H := HA.out
                  clear HA
                  simp only [abacuslaw13_DirectiveChain.j1] at H
                  have H' := Aside0.mk H
                  clear H
                  go_wp2
                  go_loopg [5, 15] kj26 (fun kq v5 v15 w' => ∃ (x5_3 : List (S25)) (x15_3 : Int), v15 = .int .i64 x15_3 ∧ Aside0 (abacuslaw13_DirectiveChain.l0 kq x5_3 x8_26 t465 t466 t467 x15_3 = some true) ∧ Aside0 (kq ≤ kj26) ∧ Aside0 (Kd.R k25 25 w' w.heap.size (fun k_ => some k_ ≠ (v463 : Value).ownBlock ∧ some k_ ≠ (v468 : Value).ownBlock) v5 x5_3) ∧ Aside0 (Kd.R k25 25 w' w.heap.size (fun k_ => some k_ ≠ (v5 : Value).ownBlock ∧ some k_ ≠ (v468 : Value).ownBlock) v463 x8_26) ∧ Aside0 (Kd.R k25 25 w' w.heap.size (fun k_ => some k_ ≠ (v5 : Value).ownBlock ∧ some k_ ≠ (v463 : Value).ownBlock) v468 t465) ∧ Aside0 (Below w.heap.size w w'))
                  case atStart => exact ⟨(x5_26), (0), (by first | rfl | (simp; done) | (simp [*]; done)), H', ⟨Nat.le_refl _⟩, ⟨by (with_reducible repeat (first | apply Kd.R_alloc | apply Kd.R_drewN | apply Kd.R_drew)); exact HO_5.out⟩, ⟨by (with_reducible repeat (first | apply Kd.R_alloc | apply Kd.R_drewN | apply Kd.R_drew)); exact HO_8.out⟩, ⟨by (with_reducible repeat (first | apply Kd.R_alloc | apply Kd.R_drewN | apply Kd.R_drew)); exact HO_11.out⟩, ⟨by repeat (first | (with_reducible first | exact HB.out | apply below_alloc | apply pw_below_drewN | apply below_drew1) | exact HB.out)⟩⟩
                  case round =>
                    clear H'
                    try clear c1
                    try clear c2
                    try clear p2
                    try clear c3
                    try clear p3
                    try clear q3
                    try clear hx3
                    try clear qi3
                    try clear hf3
                    try clear c4
                    try clear p4
                    try clear q4
                    try clear hx4
                    try clear qi4
                    try clear c5
                    try clear c6
                    try clear c6b0
                    try clear c6b1
                    try clear p6
                    try clear c8
                    try clear c8b0
                    try clear c8b1
                    try clear c8b2
                    try clear c10
                    try clear c10b0
                    try clear c10b1
                    try clear c13
                    try clear c17
                    try clear c17b0
                    try clear c17b1
                    try clear c18
                    try clear c18b0
                    try clear c18b1
                    try clear c20
                    try clear c20b0
                    try clear c21
                    try clear c21b0
                    try clear c22
                    try clear c22b0
                    try clear c22b1
                    try clear c23
                    try clear c23b0
                    try clear c23b1
                    try clear c28
                    try clear c30
                    try clear c30b0
                    try clear c31
                    try clear c31b0
                    try clear c32
                    try clear c32b0
                    try clear c32b1
                    try clear c33
                    try clear c33b0
                    try clear c33b1
                    try clear c33b2
                    try clear c34
                    try clear p34
                    try clear q34
                    try clear hx34
                    try clear qi34
                    try clear hf34
                    try clear c35
                    try clear c35b0
                    try clear c35b1
                    try clear c38
                    try clear q40
                    try clear hx34_0
                    try clear hx34_1
                    try clear hx34_2
                    try clear hx34_3
                    try clear hx34_4
                    try clear hx34_5
                    try clear hx34_6
                    try clear hx470_0
                    try clear hx470_1
                    try clear hx470_2
                    try clear hx470_3
                    try clear hx470_4
                    try clear hx470_5
                    try clear hx470_6
                    try clear hx471_0
                    try clear hx471_1
                    try clear hx471_2
                    try clear hx471_3
                    try clear hx471_4
                    try clear hx471_5
                    try clear hx471_6
                    try clear hx472_0
                    try clear hx472_1
                    try clear hx472_2
                    try clear hx472_3
                    try clear hx472_4
                    try clear hx472_5
                    try clear hx472_6
                    try clear hx473_0
                    try clear hx473_1
                    try clear hx473_2
                    try clear hx473_3
                    try clear hx473_4
                    try clear hx473_5
                    try clear hx473_6
                    try clear p2
                    try clear p3
                    try clear p34
                    try clear p4
                    try clear p470
                    try clear p471
                    try clear p472
                    try clear p473
                    try clear p6
                    try clear q3
                    try clear q34
                    try clear q4
                    try clear q40
                    try clear q470
                    try clear q471
                    try clear q472
                    try clear q473
                    obtain ⟨x5_3, x15_3, rfl, HA, HK3, HO_5, HO_8, HO_11, HB⟩ := hrel
                    cases gk with
                    | zero => exact absurd HA.out (by simp [abacuslaw13_DirectiveChain.l0])
                    | succ k3 =>
                      have H := HA.out
                      clear HA
                      simp only [abacuslaw13_DirectiveChain.l0] at H
                      by_cases c41 : x15_3 < (x8_26.length : Int)
                      · rw [if_pos c41] at H
                        have c41b0 : decide (x15_3 < (x8_26.length : Int)) = true := decide_eq_true c41
                        clear c41
                        by_cases c42 : 0 ≤ x15_3
                        · rw [if_pos c42] at H
                          have c42b0 : decide (0 ≤ x15_3) = true := decide_eq_true c42
                          clear c42
                          by_cases c43 : x5_3.length < 2199023255552
                          · rw [if_pos c43] at H
                            have LMc43 := Aside0.mk c43
                            clear c43
                            obtain ⟨y479, hy479⟩ : ∃ y_ : List (S25), y_ = (x5_3 ++ [(⟨(rd_T25 x8_26 x15_3).f0, (rd_T25 x8_26 x15_3).f1, (rd_T25 x8_26 x15_3).f2, (rd_T25 x8_26 x15_3).f3, (rd_T25 x8_26 x15_3).f4, (rd_T25 x8_26 x15_3).f5, (rd_T25 x8_26 x15_3).f6⟩ : S25)]) := ⟨_, rfl⟩
                            replace H : (abacuslaw13_DirectiveChain.l0 k3 y479 x8_26 t465 t466 t467 (wrap64 (x15_3 + 1))) = some true := by first | (rw [hy479]; with_reducible exact H) | (have H2_ := (Option.bind_some _ _).symm.trans H; rw [hy479]; with_reducible exact H2_) | (have H2_ := (Option.bind_some _ _).symm.trans H; with_reducible exact H2_) | with_reducible exact H | (rw [hy479]; exact H) | exact H
                            have Ny479 := Aside0.mk hy479
                            clear hy479
                            have H' := Aside0.mk H
                            clear H
                            obtain ⟨Ao44, co44, eo44⟩ := Kd.R_slice HO_8.out
                            subst eo44
                            have p478 : 0 ≤ (x15_3 : Int) := of_decide_eq_true (by first | (with_reducible assumption) | assumption)
                            have q478 : x15_3 < (x8_26.length : Int) := of_decide_eq_true (by first | (with_reducible assumption) | assumption)
                            obtain ⟨ad478, e478, hx478_0, hx478_1, hx478_2, hx478_3, hx478_4, hx478_5, hx478_6⟩ := at_T25 (Kd.R_reads' HO_8.out).2.2 x15_3 p478 q478
                            cases e478
                            replace p478 := eq_true p478
                            replace q478 := eq_true q478
                            go_wp2_with (first | ((with_reducible refine gate_builtin (b := .append) (xs := #[.tmp 107, .tmp 112]) rfl ?_); (try (refine gate_guard (by rfl) ?_; dsimp only)); at_builtin; refine Kd.R_append k25 (w0 := w) w.heap.size rfl (.tmp 107) (.tmp 112) 22 25 (.agg #[(.string ⟨#[]⟩), (.int .u8 0), (.int .i64 0), (.int .i64 0), (.int .i64 0), (.int .i64 0), (.int .i64 0)]) 64 rfl Tryd.underlying22 info25 rfl (by decide) (by omega) u5 x5_3 (⟨(rd_T25 x8_26 x15_3).f0, (rd_T25 x8_26 x15_3).f1, (rd_T25 x8_26 x15_3).f2, (rd_T25 x8_26 x15_3).f3, (rd_T25 x8_26 x15_3).f4, (rd_T25 x8_26 x15_3).f5, (rd_T25 x8_26 x15_3).f6⟩ : S25) [.string ((rd_T25 x8_26 x15_3).f0), .int .u8 ((rd_T25 x8_26 x15_3).f1), .int .i64 ((rd_T25 x8_26 x15_3).f2), .int .i64 ((rd_T25 x8_26 x15_3).f3), .int .i64 ((rd_T25 x8_26 x15_3).f4), .int .i64 ((rd_T25 x8_26 x15_3).f5), .int .i64 ((rd_T25 x8_26 x15_3).f6)] (fun k_ => some k_ ≠ (.slice (some ad478) x8_26.length co44 : Value).ownBlock ∧ some k_ ≠ (v468 : Value).ownBlock) (fun _ => False) rfl rfl ?aP (fun _ hk => hk.elim) ?aF ?aO ?aB ?aS ?aL ?_; (case aP => exact k25_mkM _ _ _ (⟨(rd_T25 x8_26 x15_3).f0, (rd_T25 x8_26 x15_3).f1, (rd_T25 x8_26 x15_3).f2, (rd_T25 x8_26 x15_3).f3, (rd_T25 x8_26 x15_3).f4, (rd_T25 x8_26 x15_3).f5, (rd_T25 x8_26 x15_3).f6⟩ : S25)); (case aB => exact (by repeat (first | (with_reducible first | exact HB.out | apply below_alloc | apply pw_below_drewN | apply below_drew1) | exact HB.out))); (case aF => exact (fun k_ hk => ⟨Kd.fresh' (Kd.R_lt (by (with_reducible repeat (first | apply Kd.R_alloc | apply Kd.R_drewN | apply Kd.R_drew)); exact HO_8.out)) k_ hk, Kd.fresh' (Kd.R_lt (by (with_reducible repeat (first | apply Kd.R_alloc | apply Kd.R_drewN | apply Kd.R_drew)); exact HO_11.out)) k_ hk⟩)); (case aO => exact (by (with_reducible repeat (first | apply Kd.R_alloc | apply Kd.R_drewN | apply Kd.R_drew)); exact HO_5.out)); (case aS => exact (below_size (by repeat (first | (with_reducible first | exact HB.out | apply below_alloc | apply pw_below_drewN | apply below_drew1) | exact HB.out)))); (case aL => have := LMc43.out; omega); intro v480 w45 ho hb hg hat; rw [← Ny479.out] at ho; have n0_ := Aside0.mk (Kd.R_after (ok := (fun k_ => some k_ ≠ (v468 : Value).ownBlock)) (by (with_reducible repeat (first | apply Kd.R_alloc | apply Kd.R_drewN | apply Kd.R_drew)); exact Kd.R_mono HO_8.out (fun _ hk => ⟨hk.2, hk.1⟩)) hg hat); have n1_ := Aside0.mk (Kd.R_after (ok := (fun k_ => some k_ ≠ (.slice (some ad478) x8_26.length co44 : Value).ownBlock)) (by (with_reducible repeat (first | apply Kd.R_alloc | apply Kd.R_drewN | apply Kd.R_drew)); exact Kd.R_mono HO_11.out (fun _ hk => ⟨hk.2, hk.1⟩)) hg hat); have n2_ := Aside0.mk (hb); have n3_ := Aside0.mk (ho); clear HO_8; clear HO_11; clear HB; clear HO_5; have HO_8 := n0_; have HO_11 := n1_; have HB := n2_; have HO481 := n3_; clear n0_ n1_ n2_ n3_; clear ho hb hg hat))
                            go_roundg k3
                            case measure => have := HJ10.out; have := HJ26.out; have := HK3.out; omega
                            case rel => exact ⟨(y479), (wrap64 (x15_3 + 1)), (by first | rfl | (simp; done) | (simp [*]; done)), H', ⟨by have := HJ10.out; have := HJ26.out; have := HK3.out; omega⟩, ⟨by (with_reducible repeat (first | apply Kd.R_alloc | apply Kd.R_drewN | apply Kd.R_drew)); exact HO481.out⟩, ⟨by (with_reducible repeat (first | apply Kd.R_alloc | apply Kd.R_drewN | apply Kd.R_drew)); exact Kd.R_mono HO_8.out (fun _ hk => ⟨hk.2, hk.1⟩)⟩, ⟨by (with_reducible repeat (first | apply Kd.R_alloc | apply Kd.R_drewN | apply Kd.R_drew)); exact Kd.R_mono HO_11.out (fun _ hk => ⟨hk.2, hk.1⟩)⟩, ⟨by repeat (first | (with_reducible first | exact HB.out | apply below_alloc | apply pw_below_drewN | apply below_drew1) | exact HB.out)⟩⟩
                          · rw [if_neg c43] at H
                            exact absurd H (by simp)
                        · rw [if_neg c42] at H
                          exact absurd H (by simp)
                      · rw [if_neg c41] at H
                        have c41b0 : decide (x15_3 < (x8_26.length : Int)) = false := decide_eq_false c41
                        clear c41
                        by_cases c46 : t467 = 0
                        · rw [if_pos c46] at H
                          have c46b0 : (t467 == 0) = true := beq_iff_eq.mpr c46
                          have c46b1 : (t467 != 0) = false := bne_eq_false_iff_eq.mpr c46
                          clear c46
                          by_cases c47 : t466 = 0
                          · rw [if_pos c47] at H
                            have c47b0 : (t466 == 0) = true := beq_iff_eq.mpr c47
                            have c47b1 : (t466 != 0) = false := bne_eq_false_iff_eq.mpr c47
                            clear c47
                            replace H := Option.bind_eq_some_iff.mp H
                            obtain ⟨t482, A480, H⟩ := H
                            replace H : (if t482 = true then ((directive_Wants.f k3 t465).bind fun t483 => ((directive_Wants.f k3 x5_3).bind fun t484 => (some (t483 == t484)))) else (some false)) = some true := H
                            have A48 := Aside0.mk A480
                            clear A480
                            by_cases c49 : t482 = true
                            · subst c49
                              have H1 : ((directive_Wants.f k3 t465).bind fun t483 => ((directive_Wants.f k3 x5_3).bind fun t484 => (some (t483 == t484)))) = some true := by rw [if_pos rfl] at H; exact H
                              clear H
                              have H := H1
                              clear H1
                              replace H := Option.bind_eq_some_iff.mp H
                              obtain ⟨t483, A500, H⟩ := H
                              replace H : ((directive_Wants.f k3 x5_3).bind fun t484 => (some (t483 == t484))) = some true := H
                              have A50 := Aside0.mk A500
                              clear A500
                              replace H := Option.bind_eq_some_iff.mp H
                              obtain ⟨t484, A510, H⟩ := H
                              replace H : (some (t483 == t484)) = some true := H
                              have A51 := Aside0.mk A510
                              clear A510
                              have HX := Aside0.mk (Option.some.inj H)
                              clear H
                              obtain ⟨Ao52, co52, eo52⟩ := Kd.R_slice HO_8.out
                              subst eo52
                              obtain ⟨Ao53, co53, eo53⟩ := Kd.R_slice HO_11.out
                              subst eo53
                              obtain ⟨Ao54, co54, eo54⟩ := Kd.R_slice HO_5.out
                              subst eo54
                              go_wp2_with (first | (go_at_call 14; (with_reducible refine (abacuslaw13_same.calls k3 _ _ t465 _ _ x5_3 true _ ?side1 ?side2 ?side3 ?side4 A48.out).mono ?_); (case side1 => repeat (first | exact (Kd.R_reads' HO_11.out).2.2 | (with_reducible refine Kd.C_alloc ?_ _) | (with_reducible refine Kd.C_drewN ?_ _) | (with_reducible refine Kd.C_drew ?_))); (case side2 => exact (Kd.R_reads' HO_11.out).2.1); (case side3 => repeat (first | exact (Kd.R_reads' HO_5.out).2.2 | (with_reducible refine Kd.C_alloc ?_ _) | (with_reducible refine Kd.C_drewN ?_ _) | (with_reducible refine Kd.C_drew ?_))); (case side4 => exact (Kd.R_reads' HO_5.out).2.1); rintro e w' ⟨rfl, ⟨nd, rfl⟩⟩) | (go_at_call 15; (with_reducible refine (directive_Wants.calls k3 _ _ t465 t483 _ ?side1 ?side2 A50.out).mono ?_); (case side1 => repeat (first | exact (Kd.R_reads' HO_11.out).2.2 | (with_reducible refine Kd.C_alloc ?_ _) | (with_reducible refine Kd.C_drewN ?_ _) | (with_reducible refine Kd.C_drew ?_))); (case side2 => exact (Kd.R_reads' HO_11.out).2.1); rintro e w55 ⟨rfl, hb⟩; have n0_ := Aside0.mk (Kd.R_below (by (with_reducible repeat (first | apply Kd.R_alloc | apply Kd.R_drewN | apply Kd.R_drew)); exact HO_5.out) hb); have n1_ := Aside0.mk (Kd.R_below (by (with_reducible repeat (first | apply Kd.R_alloc | apply Kd.R_drewN | apply Kd.R_drew)); exact HO_8.out) hb); have n2_ := Aside0.mk (Kd.R_below (by (with_reducible repeat (first | apply Kd.R_alloc | apply Kd.R_drewN | apply Kd.R_drew)); exact HO_11.out) hb); have n3_ := Aside0.mk (below_step (by repeat (first | (with_reducible first | exact HB.out | apply below_alloc | apply pw_below_drewN | apply below_drew1) | exact HB.out)) hb); clear HO_5; clear HO_8; clear HO_11; clear HB; have HO_5 := n0_; have HO_8 := n1_; have HO_11 := n2_; have HB := n3_; clear n0_ n1_ n2_ n3_; (try clear hb); (try clear hb2); (try clear hk); (try clear hi)) | (go_at_call 15; (with_reducible refine (directive_Wants.calls k3 _ _ x5_3 t484 _ ?side1 ?side2 A51.out).mono ?_); (case side1 => repeat (first | exact (Kd.R_reads' HO_5.out).2.2 | (with_reducible refine Kd.C_alloc ?_ _) | (with_reducible refine Kd.C_drewN ?_ _) | (with_reducible refine Kd.C_drew ?_))); (case side2 => exact (Kd.R_reads' HO_5.out).2.1); rintro e w56 ⟨rfl, hb⟩; have n0_ := Aside0.mk (Kd.R_below (by (with_reducible repeat (first | apply Kd.R_alloc | apply Kd.R_drewN | apply Kd.R_drew)); exact HO_5.out) hb); have n1_ := Aside0.mk (Kd.R_below (by (with_reducible repeat (first | apply Kd.R_alloc | apply Kd.R_drewN | apply Kd.R_drew)); exact HO_8.out) hb); have n2_ := Aside0.mk (Kd.R_below (by (with_reducible repeat (first | apply Kd.R_alloc | apply Kd.R_drewN | apply Kd.R_drew)); exact HO_11.out) hb); have n3_ := Aside0.mk (below_step (by repeat (first | (with_reducible first | exact HB.out | apply below_alloc | apply pw_below_drewN | apply below_drew1) | exact HB.out)) hb); clear HO_5; clear HO_8; clear HO_11; clear HB; have HO_5 := n0_; have HO_8 := n1_; have HO_11 := n2_; have HB := n3_; clear n0_ n1_ n2_ n3_; (try clear hb); (try clear hb2); (try clear hk); (try clear hi)))
                              go_ret
                              exact ⟨by first | exact congrArg (fun b_ => Ending.returned (Value.bool b_)) HX.out | (have hx_ := HX.out; simp at hx_ ⊢; done) | (have hx_ := HX.out; simp at hx_ ⊢; exact hx_) | (have hx_ := HX.out; simp_all) | (simp [*, errW_none, errW_some] <;> rfl), by repeat (first | (with_reducible first | exact HB.out | apply below_alloc | apply pw_below_drewN | apply below_drew1) | exact HB.out)⟩
                            · replace c49 := Bool.eq_false_iff.mpr c49
                              subst c49
                              have H1 : (some false) = some true := by rw [if_neg (show ¬ (false = true) by decide)] at H; exact H
                              clear H
                              have H := H1
                              clear H1
                              exact absurd H (by simp)
                          · rw [if_neg c47] at H
                            have c47b0 : (t466 == 0) = false := beq_eq_false_iff_ne.mpr c47
                            have c47b1 : (t466 != 0) = true := bne_iff_ne.mpr c47
                            exact absurd H (by simp)
                        · rw [if_neg c46] at H
                          have c46b0 : (t467 == 0) = false := beq_eq_false_iff_ne.mpr c46
                          have c46b1 : (t467 != 0) = true := bne_iff_ne.mpr c46
                          exact absurd H (by simp)
        · rw [if_neg c10] at H
          have c10b0 : (t462 == 0) = false := beq_eq_false_iff_ne.mpr c10
          have c10b1 : (t462 != 0) = true := bne_iff_ne.mpr c10
          by_cases c57 : t467 = t462
          · rw [if_pos c57] at H
            have c57b0 : (t467 == t462) = true := beq_iff_eq.mpr c57
            have c57b1 : (t467 != t462) = false := bne_eq_false_iff_eq.mpr c57
            clear c57
            by_cases c58 : t466 = (wrap64 (t461 + (a0.size : Int)))
            · rw [if_pos c58] at H
              have c58b0 : (t466 == (wrap64 (t461 + (a0.size : Int)))) = true := beq_iff_eq.mpr c58
              have c58b1 : (t466 != (wrap64 (t461 + (a0.size : Int)))) = false := bne_eq_false_iff_eq.mpr c58
              clear c58
              have HX := Aside0.mk (Option.some.inj H)
              clear H
              go_enter Tryd.func5, Tryd.ntmps5
              go_wp2_with (first | ((with_reducible refine gate_callee (f := 10) rfl ?_); refine goesL_ (some 16) rfl rfl Tryd.func10 (by kernel_rfl) rfl #[] rfl (by (try simp only [List.map_toArray, List.map_cons, List.map_nil]); first | done | rfl | (simp only [List.length_drop, List.length_take]; rfl)) ?_; (with_reducible refine (abacuslaw13_awake.calls k  true _ ?side1 A3.out).mono ?_); (case side1 => exact GW.below HG.out (by repeat (first | (with_reducible first | exact HB.out | apply below_alloc | apply pw_below_drewN | apply below_drew1) | exact HB.out))); rintro e w59 ⟨rfl, hb⟩; refine ⟨_, rfl, ?_⟩; have n0_ := Aside0.mk (below_step (by repeat (first | (with_reducible first | exact HB.out | apply below_alloc | apply pw_below_drewN | apply below_drew1) | exact HB.out)) hb); clear HB; have HB := n0_; clear n0_; (try clear hb); (try clear hb2); (try clear hk); (try clear hi)) | ((with_reducible refine gate_callee (f := 13) rfl ?_); refine goesL_ (some 20) rfl rfl Tryd.func13 (by kernel_rfl) rfl #[.string a0] rfl (by (try simp only [List.map_toArray, List.map_cons, List.map_nil]); first | done | rfl | (simp only [List.length_drop, List.length_take]; rfl)) ?_; (with_reducible refine (directive_Parse.calls k a0 t455 t456 t457 _ A5.out).mono ?_); rintro e w60 ⟨v458, rfl, ho0, hb⟩; refine ⟨_, rfl, ?_⟩; have n0_ := Aside0.mk (Kd.R_lower ho0 (below_size (by repeat (first | (with_reducible first | exact HB.out | apply below_alloc | apply pw_below_drewN | apply below_drew1) | exact HB.out)))); have n1_ := Aside0.mk (below_step (by repeat (first | (with_reducible first | exact HB.out | apply below_alloc | apply pw_below_drewN | apply below_drew1) | exact HB.out)) hb); clear HB; have HO459 := n0_; have HB := n1_; clear n0_ n1_; (try clear hb); (try clear hb2); (try clear hk); (try clear hi); (try clear ho0)) | ((with_reducible refine gate_callee (f := 13) rfl ?_); refine goesL_ (some 28) rfl rfl Tryd.func13 (by kernel_rfl) rfl #[.string a1] rfl (by (try simp only [List.map_toArray, List.map_cons, List.map_nil]); first | done | rfl | (simp only [List.length_drop, List.length_take]; rfl)) ?_; (with_reducible refine (directive_Parse.calls k a1 t460 t461 t462 _ A7.out).mono ?_); rintro e w61 ⟨v463, rfl, ho0, hb⟩; refine ⟨_, rfl, ?_⟩; have n0_ := Aside0.mk (Kd.R_elder' (by (with_reducible repeat (first | apply Kd.R_alloc | apply Kd.R_drewN | apply Kd.R_drew)); exact HO459.out) (Kd.R_base ho0) hb); have n1_ := Aside0.mk (Kd.R_lower (Kd.R_new' ho0 (Kd.R_lt (by (with_reducible repeat (first | apply Kd.R_alloc | apply Kd.R_drewN | apply Kd.R_drew)); exact HO459.out))) (below_size (by repeat (first | (with_reducible first | exact HB.out | apply below_alloc | apply pw_below_drewN | apply below_drew1) | exact HB.out)))); have n2_ := Aside0.mk (below_step (by repeat (first | (with_reducible first | exact HB.out | apply below_alloc | apply pw_below_drewN | apply below_drew1) | exact HB.out)) hb); clear HO459; clear HB; have HO459 := n0_; have HO464 := n1_; have HB := n2_; clear n0_ n1_ n2_; (try clear hb); (try clear hb2); (try clear hk); (try clear hi); (try clear ho0)) | ((with_reducible refine gate_callee (f := 13) rfl ?_); refine goesL_ (some 36) rfl rfl Tryd.func13 (by kernel_rfl) rfl #[.string (a0 ++ a1)] rfl (by (try simp only [List.map_toArray, List.map_cons, List.map_nil]); first | done | rfl | (simp only [List.length_drop, List.length_take]; rfl)) ?_; (with_reducible refine (directive_Parse.calls k (a0 ++ a1) t465 t466 t467 _ A9.out).mono ?_); rintro e w62 ⟨v468, rfl, ho0, hb⟩; refine ⟨_, rfl, ?_⟩; have n0_ := Aside0.mk (Kd.R_elder' (by (with_reducible repeat (first | apply Kd.R_alloc | apply Kd.R_drewN | apply Kd.R_drew)); exact HO459.out) (Kd.R_base ho0) hb); have n1_ := Aside0.mk (Kd.R_elder' (by (with_reducible repeat (first | apply Kd.R_alloc | apply Kd.R_drewN | apply Kd.R_drew)); exact HO464.out) (Kd.R_base ho0) hb); have n2_ := Aside0.mk (Kd.R_lower (Kd.R_new' (Kd.R_new' ho0 (Kd.R_lt (by (with_reducible repeat (first | apply Kd.R_alloc | apply Kd.R_drewN | apply Kd.R_drew)); exact HO459.out))) (Kd.R_lt (by (with_reducible repeat (first | apply Kd.R_alloc | apply Kd.R_drewN | apply Kd.R_drew)); exact HO464.out))) (below_size (by repeat (first | (with_reducible first | exact HB.out | apply below_alloc | apply pw_below_drewN | apply below_drew1) | exact HB.out)))); have n3_ := Aside0.mk (below_step (by repeat (first | (with_reducible first | exact HB.out | apply below_alloc | apply pw_below_drewN | apply below_drew1) | exact HB.out)) hb); clear HO459; clear HO464; clear HB; have HO459 := n0_; have HO464 := n1_; have HO469 := n2_; have HB := n3_; clear n0_ n1_ n2_ n3_; (try clear hb); (try clear hb2); (try clear hk); (try clear hi); (try clear ho0); obtain ⟨Ao63, co63, eo63⟩ := Kd.R_slice HO469.out; subst eo63))
              go_ret
              exact ⟨by first | exact congrArg (fun b_ => Ending.returned (Value.bool b_)) HX.out | (have hx_ := HX.out; simp at hx_ ⊢; done) | (have hx_ := HX.out; simp at hx_ ⊢; exact hx_) | (have hx_ := HX.out; simp_all) | (simp [*, errW_none, errW_some] <;> rfl), by repeat (first | (with_reducible first | exact HB.out | apply below_alloc | apply pw_below_drewN | apply below_drew1) | exact HB.out)⟩
            · rw [if_neg c58] at H
              have c58b0 : (t466 == (wrap64 (t461 + (a0.size : Int)))) = false := beq_eq_false_iff_ne.mpr c58
              have c58b1 : (t466 != (wrap64 (t461 + (a0.size : Int)))) = true := bne_iff_ne.mpr c58
              exact absurd H (by simp)
          · rw [if_neg c57] at H
            have c57b0 : (t467 == t462) = false := beq_eq_false_iff_ne.mpr c57
            have c57b1 : (t467 != t462) = true := bne_iff_ne.mpr c57
            exact absurd H (by simp)
      · rw [if_neg c8] at H
        exact absurd H (by simp)
    · rw [if_neg c6] at H
      have c6b0 : (t457 == 0) = false := beq_eq_false_iff_ne.mpr c6
      have c6b1 : (t457 != 0) = true := bne_iff_ne.mpr c6
      clear H
      go_enter Tryd.func5, Tryd.ntmps5
      go_wp2_with (first | ((with_reducible refine gate_callee (f := 10) rfl ?_); refine goesL_ (some 16) rfl rfl Tryd.func10 (by kernel_rfl) rfl #[] rfl (by (try simp only [List.map_toArray, List.map_cons, List.map_nil]); first | done | rfl | (simp only [List.length_drop, List.length_take]; rfl)) ?_; (with_reducible refine (abacuslaw13_awake.calls k  true _ ?side1 A3.out).mono ?_); (case side1 => exact GW.below HG.out (by repeat (first | (with_reducible first | exact HB.out | apply below_alloc | apply pw_below_drewN | apply below_drew1) | exact HB.out))); rintro e w64 ⟨rfl, hb⟩; refine ⟨_, rfl, ?_⟩; have n0_ := Aside0.mk (below_step (by repeat (first | (with_reducible first | exact HB.out | apply below_alloc | apply pw_below_drewN | apply below_drew1) | exact HB.out)) hb); clear HB; have HB := n0_; clear n0_; (try clear hb); (try clear hb2); (try clear hk); (try clear hi)) | ((with_reducible refine gate_callee (f := 13) rfl ?_); refine goesL_ (some 20) rfl rfl Tryd.func13 (by kernel_rfl) rfl #[.string a0] rfl (by (try simp only [List.map_toArray, List.map_cons, List.map_nil]); first | done | rfl | (simp only [List.length_drop, List.length_take]; rfl)) ?_; (with_reducible refine (directive_Parse.calls k a0 t455 t456 t457 _ A5.out).mono ?_); rintro e w65 ⟨v458, rfl, ho0, hb⟩; refine ⟨_, rfl, ?_⟩; have n0_ := Aside0.mk (Kd.R_lower ho0 (below_size (by repeat (first | (with_reducible first | exact HB.out | apply below_alloc | apply pw_below_drewN | apply below_drew1) | exact HB.out)))); have n1_ := Aside0.mk (below_step (by repeat (first | (with_reducible first | exact HB.out | apply below_alloc | apply pw_below_drewN | apply below_drew1) | exact HB.out)) hb); clear HB; have HO459 := n0_; have HB := n1_; clear n0_ n1_; (try clear hb); (try clear hb2); (try clear hk); (try clear hi); (try clear ho0)))
      go_ret
      exact ⟨by first | rfl | (simp [errW_none, errW_some] <;> rfl) | (simp [*, errW_none, errW_some] <;> rfl), by repeat (first | (with_reducible first | exact HB.out | apply below_alloc | apply pw_below_drewN | apply below_drew1) | exact HB.out)⟩
  · replace c4 := Bool.eq_false_iff.mpr c4
    subst c4
    have H1 : (some false) = some true := by rw [if_neg (show ¬ (false = true) by decide)] at H; exact H
    clear H
    have H := H1
    clear H1
    exact absurd H (by simp)
end Go.Proofs.YtlmijjekaelhcaaDoor.EDi
