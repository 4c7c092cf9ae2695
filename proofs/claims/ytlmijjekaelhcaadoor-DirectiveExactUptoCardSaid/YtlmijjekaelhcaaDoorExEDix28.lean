/-
  Several texts of this session's own in one: EDix25 EDix26 EDix27 EDix28.
-/
import Derived.Test.YtlmijjekaelhcaaDoorExA0
import Derived.Test.YtlmijjekaelhcaaDoorExEDpx0
import Derived.Test.YtlmijjekaelhcaaDoorExEDix1
import Derived.Test.YtlmijjekaelhcaaDoorExEDix5
import Derived.Test.YtlmijjekaelhcaaDoorExEDix12
import Derived.Test.YtlmijjekaelhcaaDoorExEDix22
import Derived.Test.YtlmijjekaelhcaaDoorExEDix24
import Derived.Test.YtlmijjekaelhcaaDoorExX
import Derived.Test.YtlmijjekaelhcaaDoorExEDix23
section
namespace Go.Proofs.YtlmijjekaelhcaaDoor.EDi
open Go.RowKit Go.Proofs.YtlmijjekaelhcaaDoorW.PrintWords Go.Proofs.YtlmijjekaelhcaaDoorW.PrintLast Go.Proofs.YtlmijjekaelhcaaDoorW.PrintMore
attribute [local go_sem] max2_int min2_int max_two min_two max_three min_three max_four min_four
set_option linter.unusedVariables false
attribute [local go_sem high] eqA25
def w_same.l0 : Nat → List (S25) → List (S25) → Int → Option (Bool)
 | 0, _, _, _ => none
 | k + 1, x0, x1, x5 => if x5 < (x0.length : Int) then (if 0 ≤ x5 then (if x5 < (x1.length : Int) then (if (!((((rd_T25 x0 x5).f0).toList) == (((rd_T25 x1 x5).f0).toList)) || (!(((rd_T25 x0 x5).f1) == ((rd_T25 x1 x5).f1)) || (!(((rd_T25 x0 x5).f2) == ((rd_T25 x1 x5).f2)) || (!(((rd_T25 x0 x5).f3) == ((rd_T25 x1 x5).f3)) || (!(((rd_T25 x0 x5).f4) == ((rd_T25 x1 x5).f4)) || (!(((rd_T25 x0 x5).f5) == ((rd_T25 x1 x5).f5)) || (!(((rd_T25 x0 x5).f6) == ((rd_T25 x1 x5).f6))))))))) = true then (some false) else (w_same.l0 k x0 x1 (wrap64 (x5 + 1)))) else (none)) else (none)) else (some true)
def w_same.f (k : Nat) (l0 : List (S25)) (l1 : List (S25)) : Option (Bool) := if (l0.length : Int) = (l1.length : Int) then (w_same.l0 k l0 l1 0) else (some false)
theorem w_same.mono_l : ∀ k, (∀ y0 y1 y2, LeO (w_same.l0 k y0 y1 y2) (w_same.l0 (k + 1) y0 y1 y2))
 | 0 => fun _ _ _ r h => by simp [w_same.l0] at h
 | k + 1 => by
  have ih0 := w_same.mono_l k
  ·intro y0 y1 y2
   unfold w_same.l0
   repeat' first
   | (with_reducible exact ih0 _ _ _)
   | (with_reducible exact LeO.refl _)
   | (with_reducible exact LeO.none _)
   | (with_reducible refine LeO.ite ?_ ?_)
   | (with_reducible refine LeO.bind ?_ (fun _ => ?_))
   | exact ih0 _ _ _
   | exact LeO.none _
   | refine LeO.ite ?_ ?_
   | refine LeO.bind ?_ (fun _ => ?_)
theorem w_same.mono : ∀ a0 a1 k, LeO (w_same.f k a0 a1) (w_same.f (k + 1) a0 a1) := by
 intro a0 a1 k
 have ih0 := w_same.mono_l k
 unfold w_same.f
 repeat' first
   | (with_reducible exact ih0 _ _ _)
   | (with_reducible exact LeO.refl _)
   | (with_reducible exact LeO.none _)
   | (with_reducible refine LeO.ite ?_ ?_)
   | (with_reducible refine LeO.bind ?_ (fun _ => ?_))
   | exact ih0 _ _ _
   | exact LeO.none _
   | refine LeO.ite ?_ ?_
   | refine LeO.bind ?_ (fun _ => ?_)
set_option maxHeartbeats 8000000 in
set_option maxRecDepth 100000 in
theorem w_same.calls (k : Nat) (A0 : Option Addr) (c0 : Nat) (l0 : List (S25)) (A1 : Option Addr) (c1 : Nat) (l1 : List (S25)) (r : Bool) (w : World) (hr0 : Kd.C k25 w A0 l0.length l0) (hc0 : l0.length ≤ c0) (hr1 : Kd.C k25 w A1 l1.length l1) (hc1 : l1.length ≤ c1) (h : w_same.f k l0 l1 = some r) :
  Calls Tryd.prog 14 #[.slice A0 l0.length c0, .slice A1 l1.length c1] w fun e w' => e = .returned (.bool r) ∧ Drawn0 w w' := by
 have hu25 := Tryd.underlying25
 have HR0 := am hr0
 have HC0 := am hc0
 clear hr0 hc0
 have HR1 := am hr1
 have HC1 := am hc1
 clear hr1 hc1
 have H : (if (l0.length : Int) = (l1.length : Int) then (w_same.l0 k l0 l1 0) else (some false)) = some r := h
 clear h
 by_cases c3 : (l0.length : Int) = (l1.length : Int)
 rotate_left
 ·rw [if_neg c3] at H
  have c3b0 : ((l0.length : Int) == (l1.length : Int)) = false := beq_eq_false_iff_ne.mpr c3
  have c3b1 : ((l0.length : Int) != (l1.length : Int)) = true := bne_iff_ne.mpr c3
  have c3b2 : (l0.length == l1.length) = false := by first | simpa using c3 | (simp at c3 ⊢; omega)
  obtain rfl := Option.some.inj H
  go_enter Tryd.func14, Tryd.ntmps14
  go_wp2
  repeat (go_quiet (fail); try go_wp2)
  go_ret
  exact ⟨by first | rfl | (simp; done) | (simp [*]; done), by repeat (first | exact Drawn0.refl _ | apply Drawn0.step)⟩
 rw [if_pos c3] at H
 have c3b0 : ((l0.length : Int) == (l1.length : Int)) = true := beq_iff_eq.mpr c3
 have c3b1 : ((l0.length : Int) != (l1.length : Int)) = false := bne_eq_false_iff_eq.mpr c3
 have c3b2 : (l0.length == l1.length) = true := by first | simpa using c3 | (simp at c3 ⊢; omega)
 clear c3
 have H' := am H
 clear H
 go_enter Tryd.func14, Tryd.ntmps14
 go_wp2
 repeat (go_quiet (fail); try go_wp2)
 go_loopg [5] k (fun kq v5 w' => ∃ (x5_1 : Int), v5 = .int .i64 x5_1 ∧ Aside0 (w_same.l0 kq l0 l1 x5_1 = some r) ∧ Aside0 (kq ≤ k) ∧ Drawn0 w w')
 case atStart => exact ⟨(0), tv, H', ⟨Nat.le_refl _⟩, by repeat (first | exact Drawn0.refl _ | apply Drawn0.step)⟩
 case round =>
  clear H'
  try clear c1
  try clear p2
  try clear c3
  try clear c3b0
  try clear c3b1
  try clear c3b2
  obtain ⟨x5_1, rfl, HA, HK1, ⟨m1, rfl⟩⟩ := hrel
  cases gk with
  | zero => exact absurd HA.out (by simp [w_same.l0])
  | succ k1 =>
   have H := HA.out
   clear HA
   simp only [w_same.l0] at H
   by_cases c4 : x5_1 < (l0.length : Int)
   rotate_left
   ·rw [if_neg c4] at H
    have c4b0 := decide_eq_false c4
    clear c4
    obtain rfl := Option.some.inj H
    go_wp2
    repeat (go_quiet (fail); try go_wp2)
    go_ret
    exact ⟨by first | rfl | (simp; done) | (simp [*]; done), by repeat (first | exact Drawn0.refl _ | apply Drawn0.step)⟩
   rw [if_pos c4] at H
   have c4b0 := decide_eq_true c4
   clear c4
   by_cases c5 : 0 ≤ x5_1
   rotate_left
   ·rw [if_neg c5] at H
    exact absurd H (by simp)
   rw [if_pos c5] at H
   have c5b0 := decide_eq_true c5
   clear c5
   by_cases c6 : x5_1 < (l1.length : Int)
   rotate_left
   ·rw [if_neg c6] at H
    exact absurd H (by simp)
   rw [if_pos c6] at H
   have c6b0 := decide_eq_true c6
   clear c6
   by_cases c7 : (!((((rd_T25 l0 x5_1).f0).toList) == (((rd_T25 l1 x5_1).f0).toList)) || (!(((rd_T25 l0 x5_1).f1) == ((rd_T25 l1 x5_1).f1)) || (!(((rd_T25 l0 x5_1).f2) == ((rd_T25 l1 x5_1).f2)) || (!(((rd_T25 l0 x5_1).f3) == ((rd_T25 l1 x5_1).f3)) || (!(((rd_T25 l0 x5_1).f4) == ((rd_T25 l1 x5_1).f4)) || (!(((rd_T25 l0 x5_1).f5) == ((rd_T25 l1 x5_1).f5)) || (!(((rd_T25 l0 x5_1).f6) == ((rd_T25 l1 x5_1).f6))))))))) = true
   ·rw [if_pos c7] at H
    have c7b0 : (!((((rd_T25 l0 x5_1).f0).toList) == (((rd_T25 l1 x5_1).f0).toList)) || (!(((rd_T25 l0 x5_1).f1) == ((rd_T25 l1 x5_1).f1)) || (!(((rd_T25 l0 x5_1).f2) == ((rd_T25 l1 x5_1).f2)) || (!(((rd_T25 l0 x5_1).f3) == ((rd_T25 l1 x5_1).f3)) || (!(((rd_T25 l0 x5_1).f4) == ((rd_T25 l1 x5_1).f4)) || (!(((rd_T25 l0 x5_1).f5) == ((rd_T25 l1 x5_1).f5)) || (!(((rd_T25 l0 x5_1).f6) == ((rd_T25 l1 x5_1).f6))))))))) = true := c7
    clear c7
    obtain rfl := Option.some.inj H
    have p396 : 0 ≤ (x5_1 : Int) := of_decide_eq_true od
    have q396 : x5_1 < (l0.length : Int) := of_decide_eq_true od
    obtain ⟨ad396, e396, hx396_0, hx396_1, hx396_2, hx396_3, hx396_4, hx396_5, hx396_6⟩ := at_T25 HR0.out x5_1 p396 q396
    cases e396
    replace p396 := eq_true p396
    replace q396 := eq_true q396
    have p397 : 0 ≤ (x5_1 : Int) := of_decide_eq_true od
    have q397 : x5_1 < (l1.length : Int) := of_decide_eq_true od
    obtain ⟨ad397, e397, hx397_0, hx397_1, hx397_2, hx397_3, hx397_4, hx397_5, hx397_6⟩ := at_T25 HR1.out x5_1 p397 q397
    cases e397
    replace p397 := eq_true p397
    replace q397 := eq_true q397
    go_wp2
    repeat (go_quiet (fail); try go_wp2)
    go_ret
    exact ⟨by first | rfl | (simp; done) | (simp [*]; done), by repeat (first | exact Drawn0.refl _ | apply Drawn0.step)⟩
   rw [if_neg c7] at H
   have c7b0 : (!((((rd_T25 l0 x5_1).f0).toList) == (((rd_T25 l1 x5_1).f0).toList)) || (!(((rd_T25 l0 x5_1).f1) == ((rd_T25 l1 x5_1).f1)) || (!(((rd_T25 l0 x5_1).f2) == ((rd_T25 l1 x5_1).f2)) || (!(((rd_T25 l0 x5_1).f3) == ((rd_T25 l1 x5_1).f3)) || (!(((rd_T25 l0 x5_1).f4) == ((rd_T25 l1 x5_1).f4)) || (!(((rd_T25 l0 x5_1).f5) == ((rd_T25 l1 x5_1).f5)) || (!(((rd_T25 l0 x5_1).f6) == ((rd_T25 l1 x5_1).f6))))))))) = false := by simpa using c7
   clear c7
   have H' := am H
   clear H
   have p396 : 0 ≤ (x5_1 : Int) := of_decide_eq_true od
   have q396 : x5_1 < (l0.length : Int) := of_decide_eq_true od
   obtain ⟨ad396, e396, hx396_0, hx396_1, hx396_2, hx396_3, hx396_4, hx396_5, hx396_6⟩ := at_T25 HR0.out x5_1 p396 q396
   cases e396
   replace p396 := eq_true p396
   replace q396 := eq_true q396
   have p397 : 0 ≤ (x5_1 : Int) := of_decide_eq_true od
   have q397 : x5_1 < (l1.length : Int) := of_decide_eq_true od
   obtain ⟨ad397, e397, hx397_0, hx397_1, hx397_2, hx397_3, hx397_4, hx397_5, hx397_6⟩ := at_T25 HR1.out x5_1 p397 q397
   cases e397
   replace p397 := eq_true p397
   replace q397 := eq_true q397
   go_wp2
   repeat (go_quiet (fail); try go_wp2)
   go_roundg k1
   case measure => have := HK1.out; omega
   case rel => exact ⟨(wrap64 (x5_1 + 1)), tv, H', ⟨by have := HK1.out; omega⟩, by repeat (first | exact Drawn0.refl _ | apply Drawn0.step)⟩
end Go.Proofs.YtlmijjekaelhcaaDoor.EDi
end
section
namespace Go.Proofs.YtlmijjekaelhcaaDoor.EDi
open Go.RowKit Go.Proofs.YtlmijjekaelhcaaDoorW.PrintWords Go.Proofs.YtlmijjekaelhcaaDoorW.PrintLast Go.Proofs.YtlmijjekaelhcaaDoorW.PrintMore
attribute [local go_sem] max2_int min2_int max_two min_two max_three min_three max_four min_four
set_option linter.unusedVariables false
open Go.Proofs.YtlmijjekaelhcaaDoor.X
def w_DirectiveBack.l0 : Nat → List (S25) → Int → Int → Option (Bool)
 | 0, _, _, _ => none
 | k + 1, x0, x3, x4 => if x4 < (x0.length : Int) then (if 0 ≤ x4 then ((d_Check.f k ((rd_T25 x0 x4).f0) ((rd_T25 x0 x4).f1) ((rd_T25 x0 x4).f2) ((rd_T25 x0 x4).f3) ((rd_T25 x0 x4).f4) ((rd_T25 x0 x4).f5) ((rd_T25 x0 x4).f6)).bind fun t401 => (if t401 = 0 then (if ((rd_T25 x0 x4).f1) = 0 then (if x4 > 0 then (if 0 ≤ (wrap64 (x4 - 1)) then (if (wrap64 (x4 - 1)) < (x0.length : Int) then (if ((rd_T25 x0 (wrap64 (x4 - 1))).f1) = 0 then (some true) else (w_DirectiveBack.l0 k x0 (wrap64 (x3 + (wrap64 ((((rd_T25 x0 x4).f0).size : Int) + 20)))) (wrap64 (x4 + 1)))) else (none)) else (none)) else (w_DirectiveBack.l0 k x0 (wrap64 (x3 + (wrap64 ((((rd_T25 x0 x4).f0).size : Int) + 20)))) (wrap64 (x4 + 1)))) else (w_DirectiveBack.l0 k x0 (wrap64 (x3 + (wrap64 ((((rd_T25 x0 x4).f0).size : Int) + 20)))) (wrap64 (x4 + 1)))) else ((d_Print.f k x0).bind fun bt403 => (some (bt403.2 == 132))))) else (none)) else (if x3 > 16777216 then (some true) else ((d_Print.f k x0).bind fun bt405 => ((d_Parse.f k bt405.1).bind fun bt407 => (if bt405.2 = 0 then (if bt407.2.2 = 0 then (if bt407.2.1 = 0 then ((w_same.f k bt407.1 x0).bind fun t412 => (some t412)) else (some false)) else (some false)) else (some false)))))
theorem w_DirectiveBack.mono_l : ∀ k, (∀ y0 y1 y2, LeO (w_DirectiveBack.l0 k y0 y1 y2) (w_DirectiveBack.l0 (k + 1) y0 y1 y2))
 | 0 => fun _ _ _ r h => by simp [w_DirectiveBack.l0] at h
 | k + 1 => by
  have ih0 := w_DirectiveBack.mono_l k
  ·intro y0 y1 y2
   unfold w_DirectiveBack.l0
   repeat' first
   | (with_reducible exact ih0 _ _ _)
   | (with_reducible exact w_awake.mono _)
   | (with_reducible exact w_same.mono _ _ _)
   | (with_reducible exact d_Check.mono _ _ _ _ _ _ _ _)
   | (with_reducible exact d_Parse.mono _ _)
   | (with_reducible exact d_Print.mono _ _)
   | (with_reducible exact LeO.refl _)
   | (with_reducible exact LeO.none _)
   | (with_reducible refine LeO.ite ?_ ?_)
   | (with_reducible refine LeO.bind ?_ (fun _ => ?_))
   | exact ih0 _ _ _
   | exact w_awake.mono _
   | exact w_same.mono _ _ _
   | exact d_Check.mono _ _ _ _ _ _ _ _
   | exact d_Parse.mono _ _
   | exact d_Print.mono _ _
   | exact LeO.none _
   | refine LeO.ite ?_ ?_
   | refine LeO.bind ?_ (fun _ => ?_)
end Go.Proofs.YtlmijjekaelhcaaDoor.EDi
end
section
namespace Go.Proofs.YtlmijjekaelhcaaDoor.EDi
open Go.RowKit Go.Proofs.YtlmijjekaelhcaaDoorW.PrintWords Go.Proofs.YtlmijjekaelhcaaDoorW.PrintLast Go.Proofs.YtlmijjekaelhcaaDoorW.PrintMore
attribute [local go_sem] max2_int min2_int max_two min_two max_three min_three max_four min_four
set_option linter.unusedVariables false
open Go.Proofs.YtlmijjekaelhcaaDoor.X
mutual
def w_DirectiveFault.j0 : Nat → ByteArray → ByteArray → Int → Int → Bool → Option (Bool)
 | 0, _, _, _, _, _ => none
 | k + 1, x0, x1, x6, x7, x69 => if x69 = true then (some false) else (if 0 ≤ x6 then (if x6 ≤ (x0.size : Int) then ((d_Parse.f k (x0.extract 0 (x6 : Int).toNat)).bind fun bt429 => (if bt429.2.2 = 131 then (w_DirectiveFault.j1 k x0 x1 x6 x7 (bt429.2.1 != x6)) else (w_DirectiveFault.j1 k x0 x1 x6 x7 true))) else (none)) else (none))
def w_DirectiveFault.j1 : Nat → ByteArray → ByteArray → Int → Int → Bool → Option (Bool)
 | 0, _, _, _, _, _ => none
 | k + 1, x0, x1, x6, x7, x84 => if x84 = true then (some false) else (if x7 = 131 then (some (x6 == (x0.size : Int))) else (w_DirectiveFault.l0 k x0 x1 x6 x7 (wrap64 (x6 + 1))))
def w_DirectiveFault.l0 : Nat → ByteArray → ByteArray → Int → Int → Int → Option (Bool)
 | 0, _, _, _, _, _ => none
 | k + 1, x0, x1, x6, x7, x15 => if x7 = 6 then (if x15 < (x0.size : Int) then (if 0 ≤ x15 then (if (bt x0 x15) ≥ 48 then (if (bt x0 x15) ≤ 57 then (w_DirectiveFault.l0 k x0 x1 x6 x7 (wrap64 (x15 + 1))) else (if x15 ≤ (x0.size : Int) then (if (x0.extract 0 (x15 : Int).toNat).size + x1.size ≤ 9223372036854775807 then ((d_Parse.f k ((x0.extract 0 (x15 : Int).toNat) ++ x1)).bind fun bt434 => (if bt434.2.2 = x7 then (some (bt434.2.1 == x6)) else (some false))) else (none)) else (none))) else (if x15 ≤ (x0.size : Int) then (if (x0.extract 0 (x15 : Int).toNat).size + x1.size ≤ 9223372036854775807 then ((d_Parse.f k ((x0.extract 0 (x15 : Int).toNat) ++ x1)).bind fun bt439 => (if bt439.2.2 = x7 then (some (bt439.2.1 == x6)) else (some false))) else (none)) else (none))) else (none)) else (if 0 ≤ x15 then (if x15 ≤ (x0.size : Int) then (if (x0.extract 0 (x15 : Int).toNat).size + x1.size ≤ 9223372036854775807 then ((d_Parse.f k ((x0.extract 0 (x15 : Int).toNat) ++ x1)).bind fun bt444 => (if bt444.2.2 = x7 then (some (bt444.2.1 == x6)) else (some false))) else (none)) else (none)) else (none))) else (if 0 ≤ x15 then (if x15 ≤ (x0.size : Int) then (if (x0.extract 0 (x15 : Int).toNat).size + x1.size ≤ 9223372036854775807 then ((d_Parse.f k ((x0.extract 0 (x15 : Int).toNat) ++ x1)).bind fun bt449 => (if bt449.2.2 = x7 then (some (bt449.2.1 == x6)) else (some false))) else (none)) else (none)) else (none))
end
theorem w_DirectiveFault.mono_l : ∀ k, (∀ y0 y1 y2 y3 y4, LeO (w_DirectiveFault.j0 k y0 y1 y2 y3 y4) (w_DirectiveFault.j0 (k + 1) y0 y1 y2 y3 y4)) ∧ (∀ y0 y1 y2 y3 y4, LeO (w_DirectiveFault.j1 k y0 y1 y2 y3 y4) (w_DirectiveFault.j1 (k + 1) y0 y1 y2 y3 y4)) ∧ (∀ y0 y1 y2 y3 y4, LeO (w_DirectiveFault.l0 k y0 y1 y2 y3 y4) (w_DirectiveFault.l0 (k + 1) y0 y1 y2 y3 y4))
 | 0 => ⟨fun _ _ _ _ _ r h => by simp [w_DirectiveFault.j0] at h, fun _ _ _ _ _ r h => by simp [w_DirectiveFault.j1] at h, fun _ _ _ _ _ r h => by simp [w_DirectiveFault.l0] at h⟩
 | k + 1 => by
  obtain ⟨ih0, ih1, ih2⟩ := w_DirectiveFault.mono_l k
  refine ⟨?_, ?_, ?_⟩ <;> intros
  all_goals first | unfold w_DirectiveFault.j0 | unfold w_DirectiveFault.j1 | unfold w_DirectiveFault.l0
  all_goals repeat' first
  | (with_reducible exact ih0 _ _ _ _ _)
  | (with_reducible exact ih1 _ _ _ _ _)
  | (with_reducible exact ih2 _ _ _ _ _)
  | (with_reducible exact w_awake.mono _)
  | (with_reducible exact d_Parse.mono _ _)
  | (with_reducible exact LeO.refl _)
  | (with_reducible exact LeO.none _)
  | (with_reducible refine LeO.ite ?_ ?_)
  | (with_reducible refine LeO.bind ?_ (fun _ => ?_))
  | exact ih0 _ _ _ _ _
  | exact ih1 _ _ _ _ _
  | exact ih2 _ _ _ _ _
  | exact w_awake.mono _
  | exact d_Parse.mono _ _
  | exact LeO.none _
  | refine LeO.ite ?_ ?_
  | refine LeO.bind ?_ (fun _ => ?_)
end Go.Proofs.YtlmijjekaelhcaaDoor.EDi
end
section
namespace Go.Proofs.YtlmijjekaelhcaaDoor.EDi
open Go.RowKit Go.Proofs.YtlmijjekaelhcaaDoorW.PrintWords Go.Proofs.YtlmijjekaelhcaaDoorW.PrintLast Go.Proofs.YtlmijjekaelhcaaDoorW.PrintMore
attribute [local go_sem] max2_int min2_int max_two min_two max_three min_three max_four min_four
set_option linter.unusedVariables false
open Go.Proofs.YtlmijjekaelhcaaDoor.X
mutual
def w_DirectiveChain.j0 : Nat → List (S25) → List (S25) → List (S25) → Int → Int → Int → Bool → Option (Bool)
 | 0, _, _, _, _, _, _, _ => none
 | k + 1, x5, x8, x11, x12, x13, x14, x82 => if x82 = true then (if 0 ≤ (wrap64 (x14 - 1)) then (if (wrap64 (x14 - 1)) < (x5.length : Int) then (if 0 < (x8.length : Int) then (if ((rd_T25 x5 (wrap64 (x14 - 1))).f0).size + ((rd_T25 x8 0).f0).size ≤ 9223372036854775807 then (if (wrap64 (x14 - 1)) ≤ (x5.length : Int) then (w_DirectiveChain.j1 k (x5.take ((wrap64 (x14 - 1)) : Int).toNat) (x8.set (0 : Int).toNat (⟨((rd_T25 x5 (wrap64 (x14 - 1))).f0) ++ ((rd_T25 x8 0).f0), (rd_T25 x8 0).f1, (rd_T25 x8 0).f2, (rd_T25 x8 0).f3, (rd_T25 x8 0).f4, (rd_T25 x8 0).f5, (rd_T25 x8 0).f6⟩ : S25)) x11 x12 x13) else (none)) else (none)) else (none)) else (none)) else (none)) else (w_DirectiveChain.j1 k x5 x8 x11 x12 x13)
def w_DirectiveChain.j1 : Nat → List (S25) → List (S25) → List (S25) → Int → Int → Option (Bool)
 | 0, _, _, _, _, _ => none
 | k + 1, x5, x8, x11, x12, x13 => w_DirectiveChain.l0 k x5 x8 x11 x12 x13 0
def w_DirectiveChain.l0 : Nat → List (S25) → List (S25) → List (S25) → Int → Int → Int → Option (Bool)
 | 0, _, _, _, _, _, _ => none
 | k + 1, x5, x8, x11, x12, x13, x15 => if x15 < (x8.length : Int) then (if 0 ≤ x15 then (if x5.length < 2199023255552 then (w_DirectiveChain.l0 k (x5 ++ [(⟨(rd_T25 x8 x15).f0, (rd_T25 x8 x15).f1, (rd_T25 x8 x15).f2, (rd_T25 x8 x15).f3, (rd_T25 x8 x15).f4, (rd_T25 x8 x15).f5, (rd_T25 x8 x15).f6⟩ : S25)]) x8 x11 x12 x13 (wrap64 (x15 + 1))) else (none)) else (none)) else (if x13 = 0 then (if x12 = 0 then ((w_same.f k x11 x5).bind fun t482 => (if t482 = true then ((d_Wants.f k x11).bind fun t483 => ((d_Wants.f k x5).bind fun t484 => (some (t483 == t484)))) else (some false))) else (some false)) else (some false))
end
theorem w_DirectiveChain.mono_l : ∀ k, (∀ y0 y1 y2 y3 y4 y5 y6, LeO (w_DirectiveChain.j0 k y0 y1 y2 y3 y4 y5 y6) (w_DirectiveChain.j0 (k + 1) y0 y1 y2 y3 y4 y5 y6)) ∧ (∀ y0 y1 y2 y3 y4, LeO (w_DirectiveChain.j1 k y0 y1 y2 y3 y4) (w_DirectiveChain.j1 (k + 1) y0 y1 y2 y3 y4)) ∧ (∀ y0 y1 y2 y3 y4 y5, LeO (w_DirectiveChain.l0 k y0 y1 y2 y3 y4 y5) (w_DirectiveChain.l0 (k + 1) y0 y1 y2 y3 y4 y5))
 | 0 => ⟨fun _ _ _ _ _ _ _ r h => by simp [w_DirectiveChain.j0] at h, fun _ _ _ _ _ r h => by simp [w_DirectiveChain.j1] at h, fun _ _ _ _ _ _ r h => by simp [w_DirectiveChain.l0] at h⟩
 | k + 1 => by
  obtain ⟨ih0, ih1, ih2⟩ := w_DirectiveChain.mono_l k
  refine ⟨?_, ?_, ?_⟩ <;> intros
  all_goals first | unfold w_DirectiveChain.j0 | unfold w_DirectiveChain.j1 | unfold w_DirectiveChain.l0
  all_goals repeat' first
  | (with_reducible exact ih0 _ _ _ _ _ _ _)
  | (with_reducible exact ih1 _ _ _ _ _)
  | (with_reducible exact ih2 _ _ _ _ _ _)
  | (with_reducible exact w_awake.mono _)
  | (with_reducible exact w_same.mono _ _ _)
  | (with_reducible exact d_Parse.mono _ _)
  | (with_reducible exact d_Wants.mono _ _)
  | (with_reducible exact LeO.refl _)
  | (with_reducible exact LeO.none _)
  | (with_reducible refine LeO.ite ?_ ?_)
  | (with_reducible refine LeO.bind ?_ (fun _ => ?_))
  | exact ih0 _ _ _ _ _ _ _
  | exact ih1 _ _ _ _ _
  | exact ih2 _ _ _ _ _ _
  | exact w_awake.mono _
  | exact w_same.mono _ _ _
  | exact d_Parse.mono _ _
  | exact d_Wants.mono _ _
  | exact LeO.none _
  | refine LeO.ite ?_ ?_
  | refine LeO.bind ?_ (fun _ => ?_)
end Go.Proofs.YtlmijjekaelhcaaDoor.EDi
end
