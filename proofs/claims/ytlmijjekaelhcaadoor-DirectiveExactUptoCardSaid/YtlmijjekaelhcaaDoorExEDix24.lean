/-
 A text of this session's own.
-/
import Derived.Test.YtlmijjekaelhcaaDoorExA0
import Derived.Test.YtlmijjekaelhcaaDoorExEDpx0
import Derived.Test.YtlmijjekaelhcaaDoorExEDix12
import Derived.Test.YtlmijjekaelhcaaDoorExEDix22
import Derived.Test.YtlmijjekaelhcaaDoorExEDix23
import Derived.Test.YtlmijjekaelhcaaDoorExX
namespace Go.Proofs.YtlmijjekaelhcaaDoor.EDi
open Go.RowKit Go.Proofs.YtlmijjekaelhcaaDoorW.PrintWords Go.Proofs.YtlmijjekaelhcaaDoorW.PrintLast Go.Proofs.YtlmijjekaelhcaaDoorW.PrintMore
attribute [local go_sem] max2_int min2_int max_two min_two max_three min_three max_four min_four
set_option linter.unusedVariables false
set_option linter.unusedSimpArgs false
open Go.Proofs.YtlmijjekaelhcaaDoor.X
def w_awake.j0 : Nat → List (S25) → Bool → Option (Bool)
 | 0, _, _ => none
 | k + 1, x1, x55 => if x55 = true then (some false) else ((d_Print.f k x1).bind fun bt393 => (if bt393.2 = 0 then (if bt393.1.toList = ([97, 37, 45, 48, 53, 46, 50, 102] : List UInt8) then ((d_Wants.f k x1).bind fun t395 => (some (t395 == 1))) else (some false)) else (some false)))
def w_awake.f (k : Nat)  : Option (Bool) := (d_Parse.f k (⟨#[97, 37, 45, 48, 53, 46, 50, 102]⟩ : ByteArray)).bind fun bt383 => (if bt383.2.2 = 0 then (if bt383.2.1 = 0 then (if (bt383.1.length : Int) = 2 then (if 0 < (bt383.1.length : Int) then (if ((rd_T25 bt383.1 0).f0).toList = ([97] : List UInt8) then (if 1 < (bt383.1.length : Int) then (if ((rd_T25 bt383.1 1).f1) = 102 then (if ((rd_T25 bt383.1 1).f2) = 17 then (if ((rd_T25 bt383.1 1).f4) = 5 then (w_awake.j0 k bt383.1 (((rd_T25 bt383.1 1).f6) != 2)) else (w_awake.j0 k bt383.1 true)) else (w_awake.j0 k bt383.1 true)) else (w_awake.j0 k bt383.1 true)) else (none)) else (w_awake.j0 k bt383.1 true)) else (none)) else (w_awake.j0 k bt383.1 true)) else (w_awake.j0 k bt383.1 true)) else (w_awake.j0 k bt383.1 true))
theorem w_awake.mono_l : ∀ k, (∀ y0 y1, LeO (w_awake.j0 k y0 y1) (w_awake.j0 (k + 1) y0 y1))
 | 0 => fun _ _ r h => by simp [w_awake.j0] at h
 | k + 1 => by
  have ih0 := w_awake.mono_l k
  ·intro y0 y1
   unfold w_awake.j0
   repeat' first
   | (with_reducible exact ih0 _ _)
   | (with_reducible exact d_Parse.mono _ _)
   | (with_reducible exact d_Print.mono _ _)
   | (with_reducible exact d_Wants.mono _ _)
   | (with_reducible exact LeO.refl _)
   | (with_reducible exact LeO.none _)
   | (with_reducible refine LeO.ite ?_ ?_)
   | (with_reducible refine LeO.bind ?_ (fun _ => ?_))
   | exact ih0 _ _
   | exact d_Parse.mono _ _
   | exact d_Print.mono _ _
   | exact d_Wants.mono _ _
   | exact LeO.none _
   | refine LeO.ite ?_ ?_
   | refine LeO.bind ?_ (fun _ => ?_)
theorem w_awake.mono : ∀ k, LeO (w_awake.f k ) (w_awake.f (k + 1) ) := by
 intro  k
 have ih0 := w_awake.mono_l k
 unfold w_awake.f
 repeat' first
   | (with_reducible exact ih0 _ _)
   | (with_reducible exact d_Parse.mono _ _)
   | (with_reducible exact d_Print.mono _ _)
   | (with_reducible exact d_Wants.mono _ _)
   | (with_reducible exact LeO.refl _)
   | (with_reducible exact LeO.none _)
   | (with_reducible refine LeO.ite ?_ ?_)
   | (with_reducible refine LeO.bind ?_ (fun _ => ?_))
   | exact ih0 _ _
   | exact d_Parse.mono _ _
   | exact d_Print.mono _ _
   | exact d_Wants.mono _ _
   | exact LeO.none _
   | refine LeO.ite ?_ ?_
   | refine LeO.bind ?_ (fun _ => ?_)
set_option maxHeartbeats 8000000 in
set_option maxRecDepth 100000 in
theorem w_awake.calls (k : Nat)  (r : Bool) (w : World) (hG : GW w) (h : w_awake.f k  = some r) :
  Calls Tryd.prog 10 #[] w fun e w' => e = .returned (.bool r) ∧ Below w.heap.size w w' := by
 have HB := am (Below.refl w.heap.size w)
 have HG := am hG
 clear hG
 have H : ((d_Parse.f k (⟨#[97, 37, 45, 48, 53, 46, 50, 102]⟩ : ByteArray)).bind fun bt383 => (if bt383.2.2 = 0 then (if bt383.2.1 = 0 then (if (bt383.1.length : Int) = 2 then (if 0 < (bt383.1.length : Int) then (if ((rd_T25 bt383.1 0).f0).toList = ([97] : List UInt8) then (if 1 < (bt383.1.length : Int) then (if ((rd_T25 bt383.1 1).f1) = 102 then (if ((rd_T25 bt383.1 1).f2) = 17 then (if ((rd_T25 bt383.1 1).f4) = 5 then (w_awake.j0 k bt383.1 (((rd_T25 bt383.1 1).f6) != 2)) else (w_awake.j0 k bt383.1 true)) else (w_awake.j0 k bt383.1 true)) else (w_awake.j0 k bt383.1 true)) else (none)) else (w_awake.j0 k bt383.1 true)) else (none)) else (w_awake.j0 k bt383.1 true)) else (w_awake.j0 k bt383.1 true)) else (w_awake.j0 k bt383.1 true))) = some r := h
 clear h
 replace H := Option.bind_eq_some_iff.mp H
 obtain ⟨⟨t383, t384, t385⟩, A10, H⟩ := H
 replace H : (if t385 = 0 then (if t384 = 0 then (if (t383.length : Int) = 2 then (if 0 < (t383.length : Int) then (if ((rd_T25 t383 0).f0).toList = ([97] : List UInt8) then (if 1 < (t383.length : Int) then (if ((rd_T25 t383 1).f1) = 102 then (if ((rd_T25 t383 1).f2) = 17 then (if ((rd_T25 t383 1).f4) = 5 then (w_awake.j0 k t383 (((rd_T25 t383 1).f6) != 2)) else (w_awake.j0 k t383 true)) else (w_awake.j0 k t383 true)) else (w_awake.j0 k t383 true)) else (none)) else (w_awake.j0 k t383 true)) else (none)) else (w_awake.j0 k t383 true)) else (w_awake.j0 k t383 true)) else (w_awake.j0 k t383 true)) = some r := H
 have A1 := am A10
 clear A10
 have HC2 := am H
 clear H
 go_enter Tryd.func10, Tryd.ntmps10
 go_upto_region 2 with (first | ((with_reducible refine gate_callee (f := 13) rfl ?_); refine goesL_ (some 6) rfl rfl Tryd.func13 (by kernel_rfl) rfl #[.string (⟨#[97, 37, 45, 48, 53, 46, 50, 102]⟩ : ByteArray)] rfl ls ?_; (with_reducible refine (d_Parse.calls k (⟨#[97, 37, 45, 48, 53, 46, 50, 102]⟩ : ByteArray) t383 t384 t385 _ A1.out).mono ?_); rintro e w3 ⟨v386, rfl, ho0, hb⟩; refine ⟨_, rfl, ?_⟩; have n0_ := am (Kd.R_lower ho0 (below_size bl)); have n1_ := am (below_step bl hb); clear HB; have HO387 := n0_; have HB := n1_; clear n0_ n1_; (try clear hb); (try clear hb2); (try clear hk); (try clear hi); (try clear ho0)))
 (try simp only [Act.put, List.setIfInBounds_toArray, List.set_cons_zero, List.set_cons_succ])
 go_cut [55] (fun v55 wc => ∃ (kq : Nat) (x55_1 : Bool), v55 = .bool x55_1 ∧ Aside0 (w_awake.j0 kq t383 x55_1 = some r) ∧ Aside0 (kq ≤ k) ∧ Aside0 (Kd.R k25 25 wc w.heap.size (fun _ => True) v386 t383) ∧ Aside0 (Below w.heap.size w wc))
 case first =>
  have H := HC2.out
  clear HC2
  by_cases c4 : t385 = 0
  rotate_left
  ·rw [if_neg c4] at H
   have c4b0 : (t385 == 0) = false := beq_eq_false_iff_ne.mpr c4
   have c4b1 : (t385 != 0) = true := bne_iff_ne.mpr c4
   (first | rw [c4b0] | (simp only [i64_w, i32_w]; rw [c4b0]) | skip)
   have H' := am H
   clear H
   go_wp2
   go_meet
   case rel => exact ⟨_, (true), tv, H', ⟨by first | omega | exact Nat.le_refl _⟩, ⟨by (with_reducible repeat (first | apply Kd.R_alloc | apply Kd.R_drewN | apply Kd.R_drew)); exact HO387.out⟩, ⟨bl⟩⟩
  rw [if_pos c4] at H
  have c4b0 : (t385 == 0) = true := beq_iff_eq.mpr c4
  have c4b1 : (t385 != 0) = false := bne_eq_false_iff_eq.mpr c4
  clear c4
  (first | rw [c4b0] | (simp only [i64_w, i32_w]; rw [c4b0]) | skip)
  by_cases c5 : t384 = 0
  rotate_left
  ·rw [if_neg c5] at H
   have c5b0 : (t384 == 0) = false := beq_eq_false_iff_ne.mpr c5
   have c5b1 : (t384 != 0) = true := bne_iff_ne.mpr c5
   have H' := am H
   clear H
   go_wp2
   go_meet
   case rel => exact ⟨_, (true), tv, H', ⟨by first | omega | exact Nat.le_refl _⟩, ⟨by (with_reducible repeat (first | apply Kd.R_alloc | apply Kd.R_drewN | apply Kd.R_drew)); exact HO387.out⟩, ⟨bl⟩⟩
  rw [if_pos c5] at H
  have c5b0 : (t384 == 0) = true := beq_iff_eq.mpr c5
  have c5b1 : (t384 != 0) = false := bne_eq_false_iff_eq.mpr c5
  clear c5
  by_cases c6 : (t383.length : Int) = 2
  rotate_left
  ·rw [if_neg c6] at H
   have c6b0 : ((t383.length : Int) == 2) = false := beq_eq_false_iff_ne.mpr c6
   have c6b1 : ((t383.length : Int) != 2) = true := bne_iff_ne.mpr c6
   have H' := am H
   clear H
   obtain ⟨Ao18, co18, eo18⟩ := Kd.R_slice HO387.out
   subst eo18
   go_wp2
   go_meet
   case rel => exact ⟨_, (true), tv, H', ⟨by first | omega | exact Nat.le_refl _⟩, ⟨by (with_reducible repeat (first | apply Kd.R_alloc | apply Kd.R_drewN | apply Kd.R_drew)); exact HO387.out⟩, ⟨bl⟩⟩
  rw [if_pos c6] at H
  have c6b0 : ((t383.length : Int) == 2) = true := beq_iff_eq.mpr c6
  have c6b1 : ((t383.length : Int) != 2) = false := bne_eq_false_iff_eq.mpr c6
  clear c6
  by_cases c7 : 0 < (t383.length : Int)
  rotate_left
  ·rw [if_neg c7] at H
   exact absurd H (by simp)
  rw [if_pos c7] at H
  have c7b0 := decide_eq_true c7
  have c7b1 : decide (0 < t383.length) = true := decide_eq_true (by omega)
  clear c7
  by_cases c8 : ((rd_T25 t383 0).f0).toList = ([97] : List UInt8)
  rotate_left
  ·rw [if_neg c8] at H
   have c8b0 : (((rd_T25 t383 0).f0).toList == ([97] : List UInt8)) = false := beq_eq_false_iff_ne.mpr c8
   have c8b1 : (((rd_T25 t383 0).f0).toList != ([97] : List UInt8)) = true := bne_iff_ne.mpr c8
   have H' := am H
   clear H
   obtain ⟨Ao17, co17, eo17⟩ := Kd.R_slice HO387.out
   subst eo17
   have p388 : 0 ≤ (0 : Int) := (by omega)
   have q388 : 0 < (t383.length : Int) := of_decide_eq_true od
   obtain ⟨ad388, e388, hx388_0, hx388_1, hx388_2, hx388_3, hx388_4, hx388_5, hx388_6⟩ := at_T25 (Kd.R_reads' HO387.out).2.2 0 p388 q388
   cases e388
   have qi388 : (0 < t383.length) = True := eq_true (by omega)
   (try rw [show ((0 : Int)).toNat = 0 from rfl] at hx388_0)
   (try rw [show 0 * 7 = 0 from rfl] at hx388_0)
   (try rw [Addr.add_zero'] at hx388_0)
   (try rw [show ((0 : Int)).toNat = 0 from rfl] at hx388_1)
   (try rw [show 0 * 7 = 0 from rfl] at hx388_1)
   (try rw [Addr.add_zero'] at hx388_1)
   (try rw [show ((0 : Int)).toNat = 0 from rfl] at hx388_2)
   (try rw [show 0 * 7 = 0 from rfl] at hx388_2)
   (try rw [Addr.add_zero'] at hx388_2)
   (try rw [show ((0 : Int)).toNat = 0 from rfl] at hx388_3)
   (try rw [show 0 * 7 = 0 from rfl] at hx388_3)
   (try rw [Addr.add_zero'] at hx388_3)
   (try rw [show ((0 : Int)).toNat = 0 from rfl] at hx388_4)
   (try rw [show 0 * 7 = 0 from rfl] at hx388_4)
   (try rw [Addr.add_zero'] at hx388_4)
   (try rw [show ((0 : Int)).toNat = 0 from rfl] at hx388_5)
   (try rw [show 0 * 7 = 0 from rfl] at hx388_5)
   (try rw [Addr.add_zero'] at hx388_5)
   (try rw [show ((0 : Int)).toNat = 0 from rfl] at hx388_6)
   (try rw [show 0 * 7 = 0 from rfl] at hx388_6)
   (try rw [Addr.add_zero'] at hx388_6)
   replace p388 := eq_true p388
   replace q388 := eq_true q388
   go_wp2
   go_meet
   case rel => exact ⟨_, (true), tv, H', ⟨by first | omega | exact Nat.le_refl _⟩, ⟨by (with_reducible repeat (first | apply Kd.R_alloc | apply Kd.R_drewN | apply Kd.R_drew)); exact HO387.out⟩, ⟨bl⟩⟩
  rw [if_pos c8] at H
  have c8b0 : (((rd_T25 t383 0).f0).toList == ([97] : List UInt8)) = true := beq_iff_eq.mpr c8
  have c8b1 : (((rd_T25 t383 0).f0).toList != ([97] : List UInt8)) = false := bne_eq_false_iff_eq.mpr c8
  clear c8
  by_cases c9 : 1 < (t383.length : Int)
  rotate_left
  ·rw [if_neg c9] at H
   exact absurd H (by simp)
  rw [if_pos c9] at H
  have c9b0 := decide_eq_true c9
  have c9b1 : decide (1 < t383.length) = true := decide_eq_true (by omega)
  clear c9
  by_cases c10 : ((rd_T25 t383 1).f1) = 102
  rotate_left
  ·rw [if_neg c10] at H
   have c10b0 : (((rd_T25 t383 1).f1) == 102) = false := beq_eq_false_iff_ne.mpr c10
   have c10b1 : (((rd_T25 t383 1).f1) != 102) = true := bne_iff_ne.mpr c10
   have H' := am H
   clear H
   obtain ⟨Ao16, co16, eo16⟩ := Kd.R_slice HO387.out
   subst eo16
   have p388 : 0 ≤ (0 : Int) := (by omega)
   have q388 : 0 < (t383.length : Int) := of_decide_eq_true od
   obtain ⟨ad388, e388, hx388_0, hx388_1, hx388_2, hx388_3, hx388_4, hx388_5, hx388_6⟩ := at_T25 (Kd.R_reads' HO387.out).2.2 0 p388 q388
   cases e388
   have qi388 : (0 < t383.length) = True := eq_true (by omega)
   (try rw [show ((0 : Int)).toNat = 0 from rfl] at hx388_0)
   (try rw [show 0 * 7 = 0 from rfl] at hx388_0)
   (try rw [Addr.add_zero'] at hx388_0)
   (try rw [show ((0 : Int)).toNat = 0 from rfl] at hx388_1)
   (try rw [show 0 * 7 = 0 from rfl] at hx388_1)
   (try rw [Addr.add_zero'] at hx388_1)
   (try rw [show ((0 : Int)).toNat = 0 from rfl] at hx388_2)
   (try rw [show 0 * 7 = 0 from rfl] at hx388_2)
   (try rw [Addr.add_zero'] at hx388_2)
   (try rw [show ((0 : Int)).toNat = 0 from rfl] at hx388_3)
   (try rw [show 0 * 7 = 0 from rfl] at hx388_3)
   (try rw [Addr.add_zero'] at hx388_3)
   (try rw [show ((0 : Int)).toNat = 0 from rfl] at hx388_4)
   (try rw [show 0 * 7 = 0 from rfl] at hx388_4)
   (try rw [Addr.add_zero'] at hx388_4)
   (try rw [show ((0 : Int)).toNat = 0 from rfl] at hx388_5)
   (try rw [show 0 * 7 = 0 from rfl] at hx388_5)
   (try rw [Addr.add_zero'] at hx388_5)
   (try rw [show ((0 : Int)).toNat = 0 from rfl] at hx388_6)
   (try rw [show 0 * 7 = 0 from rfl] at hx388_6)
   (try rw [Addr.add_zero'] at hx388_6)
   replace p388 := eq_true p388
   replace q388 := eq_true q388
   have p389 : 0 ≤ (1 : Int) := (by omega)
   have q389 : 1 < (t383.length : Int) := of_decide_eq_true od
   obtain ⟨ad389, e389, hx389_0, hx389_1, hx389_2, hx389_3, hx389_4, hx389_5, hx389_6⟩ := at_T25 (Kd.R_reads' HO387.out).2.2 1 p389 q389
   obtain rfl : ad388 = ad389 := (by injection e389)
   (try simp only [show (1 : Int).toNat = 1 from rfl, Nat.reduceMul, Nat.reduceEqDiff, Go.Addr.add, ↓reduceIte] at hx389_0)
   (try simp only [show (1 : Int).toNat = 1 from rfl, Nat.reduceMul, Nat.reduceEqDiff, Go.Addr.add, ↓reduceIte] at hx389_1)
   (try simp only [show (1 : Int).toNat = 1 from rfl, Nat.reduceMul, Nat.reduceEqDiff, Go.Addr.add, ↓reduceIte] at hx389_2)
   (try simp only [show (1 : Int).toNat = 1 from rfl, Nat.reduceMul, Nat.reduceEqDiff, Go.Addr.add, ↓reduceIte] at hx389_3)
   (try simp only [show (1 : Int).toNat = 1 from rfl, Nat.reduceMul, Nat.reduceEqDiff, Go.Addr.add, ↓reduceIte] at hx389_4)
   (try simp only [show (1 : Int).toNat = 1 from rfl, Nat.reduceMul, Nat.reduceEqDiff, Go.Addr.add, ↓reduceIte] at hx389_5)
   (try simp only [show (1 : Int).toNat = 1 from rfl, Nat.reduceMul, Nat.reduceEqDiff, Go.Addr.add, ↓reduceIte] at hx389_6)
   have qi389 : (1 < t383.length) = True := eq_true (by omega)
   (try rw [show ((1 : Int)).toNat = 1 from rfl] at hx389_0)
   (try rw [show 1 * 7 = 7 from rfl] at hx389_0)
   (try rw [show ((1 : Int)).toNat = 1 from rfl] at hx389_1)
   (try rw [show 1 * 7 = 7 from rfl] at hx389_1)
   (try rw [show ((1 : Int)).toNat = 1 from rfl] at hx389_2)
   (try rw [show 1 * 7 = 7 from rfl] at hx389_2)
   (try rw [show ((1 : Int)).toNat = 1 from rfl] at hx389_3)
   (try rw [show 1 * 7 = 7 from rfl] at hx389_3)
   (try rw [show ((1 : Int)).toNat = 1 from rfl] at hx389_4)
   (try rw [show 1 * 7 = 7 from rfl] at hx389_4)
   (try rw [show ((1 : Int)).toNat = 1 from rfl] at hx389_5)
   (try rw [show 1 * 7 = 7 from rfl] at hx389_5)
   (try rw [show ((1 : Int)).toNat = 1 from rfl] at hx389_6)
   (try rw [show 1 * 7 = 7 from rfl] at hx389_6)
   replace p389 := eq_true p389
   replace q389 := eq_true q389
   go_wp2
   go_meet
   case rel => exact ⟨_, (true), tv, H', ⟨by first | omega | exact Nat.le_refl _⟩, ⟨by (with_reducible repeat (first | apply Kd.R_alloc | apply Kd.R_drewN | apply Kd.R_drew)); exact HO387.out⟩, ⟨bl⟩⟩
  rw [if_pos c10] at H
  have c10b0 : (((rd_T25 t383 1).f1) == 102) = true := beq_iff_eq.mpr c10
  have c10b1 : (((rd_T25 t383 1).f1) != 102) = false := bne_eq_false_iff_eq.mpr c10
  clear c10
  by_cases c11 : ((rd_T25 t383 1).f2) = 17
  rotate_left
  ·rw [if_neg c11] at H
   have c11b0 : (((rd_T25 t383 1).f2) == 17) = false := beq_eq_false_iff_ne.mpr c11
   have c11b1 : (((rd_T25 t383 1).f2) != 17) = true := bne_iff_ne.mpr c11
   have H' := am H
   clear H
   obtain ⟨Ao15, co15, eo15⟩ := Kd.R_slice HO387.out
   subst eo15
   have p388 : 0 ≤ (0 : Int) := (by omega)
   have q388 : 0 < (t383.length : Int) := of_decide_eq_true od
   obtain ⟨ad388, e388, hx388_0, hx388_1, hx388_2, hx388_3, hx388_4, hx388_5, hx388_6⟩ := at_T25 (Kd.R_reads' HO387.out).2.2 0 p388 q388
   cases e388
   have qi388 : (0 < t383.length) = True := eq_true (by omega)
   (try rw [show ((0 : Int)).toNat = 0 from rfl] at hx388_0)
   (try rw [show 0 * 7 = 0 from rfl] at hx388_0)
   (try rw [Addr.add_zero'] at hx388_0)
   (try rw [show ((0 : Int)).toNat = 0 from rfl] at hx388_1)
   (try rw [show 0 * 7 = 0 from rfl] at hx388_1)
   (try rw [Addr.add_zero'] at hx388_1)
   (try rw [show ((0 : Int)).toNat = 0 from rfl] at hx388_2)
   (try rw [show 0 * 7 = 0 from rfl] at hx388_2)
   (try rw [Addr.add_zero'] at hx388_2)
   (try rw [show ((0 : Int)).toNat = 0 from rfl] at hx388_3)
   (try rw [show 0 * 7 = 0 from rfl] at hx388_3)
   (try rw [Addr.add_zero'] at hx388_3)
   (try rw [show ((0 : Int)).toNat = 0 from rfl] at hx388_4)
   (try rw [show 0 * 7 = 0 from rfl] at hx388_4)
   (try rw [Addr.add_zero'] at hx388_4)
   (try rw [show ((0 : Int)).toNat = 0 from rfl] at hx388_5)
   (try rw [show 0 * 7 = 0 from rfl] at hx388_5)
   (try rw [Addr.add_zero'] at hx388_5)
   (try rw [show ((0 : Int)).toNat = 0 from rfl] at hx388_6)
   (try rw [show 0 * 7 = 0 from rfl] at hx388_6)
   (try rw [Addr.add_zero'] at hx388_6)
   replace p388 := eq_true p388
   replace q388 := eq_true q388
   have p389 : 0 ≤ (1 : Int) := (by omega)
   have q389 : 1 < (t383.length : Int) := of_decide_eq_true od
   obtain ⟨ad389, e389, hx389_0, hx389_1, hx389_2, hx389_3, hx389_4, hx389_5, hx389_6⟩ := at_T25 (Kd.R_reads' HO387.out).2.2 1 p389 q389
   obtain rfl : ad388 = ad389 := (by injection e389)
   (try simp only [show (1 : Int).toNat = 1 from rfl, Nat.reduceMul, Nat.reduceEqDiff, Go.Addr.add, ↓reduceIte] at hx389_0)
   (try simp only [show (1 : Int).toNat = 1 from rfl, Nat.reduceMul, Nat.reduceEqDiff, Go.Addr.add, ↓reduceIte] at hx389_1)
   (try simp only [show (1 : Int).toNat = 1 from rfl, Nat.reduceMul, Nat.reduceEqDiff, Go.Addr.add, ↓reduceIte] at hx389_2)
   (try simp only [show (1 : Int).toNat = 1 from rfl, Nat.reduceMul, Nat.reduceEqDiff, Go.Addr.add, ↓reduceIte] at hx389_3)
   (try simp only [show (1 : Int).toNat = 1 from rfl, Nat.reduceMul, Nat.reduceEqDiff, Go.Addr.add, ↓reduceIte] at hx389_4)
   (try simp only [show (1 : Int).toNat = 1 from rfl, Nat.reduceMul, Nat.reduceEqDiff, Go.Addr.add, ↓reduceIte] at hx389_5)
   (try simp only [show (1 : Int).toNat = 1 from rfl, Nat.reduceMul, Nat.reduceEqDiff, Go.Addr.add, ↓reduceIte] at hx389_6)
   have qi389 : (1 < t383.length) = True := eq_true (by omega)
   (try rw [show ((1 : Int)).toNat = 1 from rfl] at hx389_0)
   (try rw [show 1 * 7 = 7 from rfl] at hx389_0)
   (try rw [show ((1 : Int)).toNat = 1 from rfl] at hx389_1)
   (try rw [show 1 * 7 = 7 from rfl] at hx389_1)
   (try rw [show ((1 : Int)).toNat = 1 from rfl] at hx389_2)
   (try rw [show 1 * 7 = 7 from rfl] at hx389_2)
   (try rw [show ((1 : Int)).toNat = 1 from rfl] at hx389_3)
   (try rw [show 1 * 7 = 7 from rfl] at hx389_3)
   (try rw [show ((1 : Int)).toNat = 1 from rfl] at hx389_4)
   (try rw [show 1 * 7 = 7 from rfl] at hx389_4)
   (try rw [show ((1 : Int)).toNat = 1 from rfl] at hx389_5)
   (try rw [show 1 * 7 = 7 from rfl] at hx389_5)
   (try rw [show ((1 : Int)).toNat = 1 from rfl] at hx389_6)
   (try rw [show 1 * 7 = 7 from rfl] at hx389_6)
   replace p389 := eq_true p389
   replace q389 := eq_true q389
   have p390 : 0 ≤ (1 : Int) := (by omega)
   have q390 : 1 < (t383.length : Int) := of_decide_eq_true od
   obtain ⟨ad390, e390, hx390_0, hx390_1, hx390_2, hx390_3, hx390_4, hx390_5, hx390_6⟩ := at_T25 (Kd.R_reads' HO387.out).2.2 1 p390 q390
   obtain rfl : ad388 = ad390 := (by injection e390)
   (try simp only [show (1 : Int).toNat = 1 from rfl, Nat.reduceMul, Nat.reduceEqDiff, Go.Addr.add, ↓reduceIte] at hx390_0)
   (try simp only [show (1 : Int).toNat = 1 from rfl, Nat.reduceMul, Nat.reduceEqDiff, Go.Addr.add, ↓reduceIte] at hx390_1)
   (try simp only [show (1 : Int).toNat = 1 from rfl, Nat.reduceMul, Nat.reduceEqDiff, Go.Addr.add, ↓reduceIte] at hx390_2)
   (try simp only [show (1 : Int).toNat = 1 from rfl, Nat.reduceMul, Nat.reduceEqDiff, Go.Addr.add, ↓reduceIte] at hx390_3)
   (try simp only [show (1 : Int).toNat = 1 from rfl, Nat.reduceMul, Nat.reduceEqDiff, Go.Addr.add, ↓reduceIte] at hx390_4)
   (try simp only [show (1 : Int).toNat = 1 from rfl, Nat.reduceMul, Nat.reduceEqDiff, Go.Addr.add, ↓reduceIte] at hx390_5)
   (try simp only [show (1 : Int).toNat = 1 from rfl, Nat.reduceMul, Nat.reduceEqDiff, Go.Addr.add, ↓reduceIte] at hx390_6)
   have qi390 : (1 < t383.length) = True := eq_true (by omega)
   (try rw [show ((1 : Int)).toNat = 1 from rfl] at hx390_0)
   (try rw [show 1 * 7 = 7 from rfl] at hx390_0)
   (try rw [show ((1 : Int)).toNat = 1 from rfl] at hx390_1)
   (try rw [show 1 * 7 = 7 from rfl] at hx390_1)
   (try rw [show ((1 : Int)).toNat = 1 from rfl] at hx390_2)
   (try rw [show 1 * 7 = 7 from rfl] at hx390_2)
   (try rw [show ((1 : Int)).toNat = 1 from rfl] at hx390_3)
   (try rw [show 1 * 7 = 7 from rfl] at hx390_3)
   (try rw [show ((1 : Int)).toNat = 1 from rfl] at hx390_4)
   (try rw [show 1 * 7 = 7 from rfl] at hx390_4)
   (try rw [show ((1 : Int)).toNat = 1 from rfl] at hx390_5)
   (try rw [show 1 * 7 = 7 from rfl] at hx390_5)
   (try rw [show ((1 : Int)).toNat = 1 from rfl] at hx390_6)
   (try rw [show 1 * 7 = 7 from rfl] at hx390_6)
   replace p390 := eq_true p390
   replace q390 := eq_true q390
   go_wp2
   go_meet
   case rel => exact ⟨_, (true), tv, H', ⟨by first | omega | exact Nat.le_refl _⟩, ⟨by (with_reducible repeat (first | apply Kd.R_alloc | apply Kd.R_drewN | apply Kd.R_drew)); exact HO387.out⟩, ⟨bl⟩⟩
  rw [if_pos c11] at H
  have c11b0 : (((rd_T25 t383 1).f2) == 17) = true := beq_iff_eq.mpr c11
  have c11b1 : (((rd_T25 t383 1).f2) != 17) = false := bne_eq_false_iff_eq.mpr c11
  clear c11
  by_cases c12 : ((rd_T25 t383 1).f4) = 5
  rotate_left
  ·rw [if_neg c12] at H
   have c12b0 : (((rd_T25 t383 1).f4) == 5) = false := beq_eq_false_iff_ne.mpr c12
   have c12b1 : (((rd_T25 t383 1).f4) != 5) = true := bne_iff_ne.mpr c12
   have H' := am H
   clear H
   obtain ⟨Ao14, co14, eo14⟩ := Kd.R_slice HO387.out
   subst eo14
   have p388 : 0 ≤ (0 : Int) := (by omega)
   have q388 : 0 < (t383.length : Int) := of_decide_eq_true od
   obtain ⟨ad388, e388, hx388_0, hx388_1, hx388_2, hx388_3, hx388_4, hx388_5, hx388_6⟩ := at_T25 (Kd.R_reads' HO387.out).2.2 0 p388 q388
   cases e388
   have qi388 : (0 < t383.length) = True := eq_true (by omega)
   (try rw [show ((0 : Int)).toNat = 0 from rfl] at hx388_0)
   (try rw [show 0 * 7 = 0 from rfl] at hx388_0)
   (try rw [Addr.add_zero'] at hx388_0)
   (try rw [show ((0 : Int)).toNat = 0 from rfl] at hx388_1)
   (try rw [show 0 * 7 = 0 from rfl] at hx388_1)
   (try rw [Addr.add_zero'] at hx388_1)
   (try rw [show ((0 : Int)).toNat = 0 from rfl] at hx388_2)
   (try rw [show 0 * 7 = 0 from rfl] at hx388_2)
   (try rw [Addr.add_zero'] at hx388_2)
   (try rw [show ((0 : Int)).toNat = 0 from rfl] at hx388_3)
   (try rw [show 0 * 7 = 0 from rfl] at hx388_3)
   (try rw [Addr.add_zero'] at hx388_3)
   (try rw [show ((0 : Int)).toNat = 0 from rfl] at hx388_4)
   (try rw [show 0 * 7 = 0 from rfl] at hx388_4)
   (try rw [Addr.add_zero'] at hx388_4)
   (try rw [show ((0 : Int)).toNat = 0 from rfl] at hx388_5)
   (try rw [show 0 * 7 = 0 from rfl] at hx388_5)
   (try rw [Addr.add_zero'] at hx388_5)
   (try rw [show ((0 : Int)).toNat = 0 from rfl] at hx388_6)
   (try rw [show 0 * 7 = 0 from rfl] at hx388_6)
   (try rw [Addr.add_zero'] at hx388_6)
   replace p388 := eq_true p388
   replace q388 := eq_true q388
   have p389 : 0 ≤ (1 : Int) := (by omega)
   have q389 : 1 < (t383.length : Int) := of_decide_eq_true od
   obtain ⟨ad389, e389, hx389_0, hx389_1, hx389_2, hx389_3, hx389_4, hx389_5, hx389_6⟩ := at_T25 (Kd.R_reads' HO387.out).2.2 1 p389 q389
   obtain rfl : ad388 = ad389 := (by injection e389)
   (try simp only [show (1 : Int).toNat = 1 from rfl, Nat.reduceMul, Nat.reduceEqDiff, Go.Addr.add, ↓reduceIte] at hx389_0)
   (try simp only [show (1 : Int).toNat = 1 from rfl, Nat.reduceMul, Nat.reduceEqDiff, Go.Addr.add, ↓reduceIte] at hx389_1)
   (try simp only [show (1 : Int).toNat = 1 from rfl, Nat.reduceMul, Nat.reduceEqDiff, Go.Addr.add, ↓reduceIte] at hx389_2)
   (try simp only [show (1 : Int).toNat = 1 from rfl, Nat.reduceMul, Nat.reduceEqDiff, Go.Addr.add, ↓reduceIte] at hx389_3)
   (try simp only [show (1 : Int).toNat = 1 from rfl, Nat.reduceMul, Nat.reduceEqDiff, Go.Addr.add, ↓reduceIte] at hx389_4)
   (try simp only [show (1 : Int).toNat = 1 from rfl, Nat.reduceMul, Nat.reduceEqDiff, Go.Addr.add, ↓reduceIte] at hx389_5)
   (try simp only [show (1 : Int).toNat = 1 from rfl, Nat.reduceMul, Nat.reduceEqDiff, Go.Addr.add, ↓reduceIte] at hx389_6)
   have qi389 : (1 < t383.length) = True := eq_true (by omega)
   (try rw [show ((1 : Int)).toNat = 1 from rfl] at hx389_0)
   (try rw [show 1 * 7 = 7 from rfl] at hx389_0)
   (try rw [show ((1 : Int)).toNat = 1 from rfl] at hx389_1)
   (try rw [show 1 * 7 = 7 from rfl] at hx389_1)
   (try rw [show ((1 : Int)).toNat = 1 from rfl] at hx389_2)
   (try rw [show 1 * 7 = 7 from rfl] at hx389_2)
   (try rw [show ((1 : Int)).toNat = 1 from rfl] at hx389_3)
   (try rw [show 1 * 7 = 7 from rfl] at hx389_3)
   (try rw [show ((1 : Int)).toNat = 1 from rfl] at hx389_4)
   (try rw [show 1 * 7 = 7 from rfl] at hx389_4)
   (try rw [show ((1 : Int)).toNat = 1 from rfl] at hx389_5)
   (try rw [show 1 * 7 = 7 from rfl] at hx389_5)
   (try rw [show ((1 : Int)).toNat = 1 from rfl] at hx389_6)
   (try rw [show 1 * 7 = 7 from rfl] at hx389_6)
   replace p389 := eq_true p389
   replace q389 := eq_true q389
   have p390 : 0 ≤ (1 : Int) := (by omega)
   have q390 : 1 < (t383.length : Int) := of_decide_eq_true od
   obtain ⟨ad390, e390, hx390_0, hx390_1, hx390_2, hx390_3, hx390_4, hx390_5, hx390_6⟩ := at_T25 (Kd.R_reads' HO387.out).2.2 1 p390 q390
   obtain rfl : ad388 = ad390 := (by injection e390)
   (try simp only [show (1 : Int).toNat = 1 from rfl, Nat.reduceMul, Nat.reduceEqDiff, Go.Addr.add, ↓reduceIte] at hx390_0)
   (try simp only [show (1 : Int).toNat = 1 from rfl, Nat.reduceMul, Nat.reduceEqDiff, Go.Addr.add, ↓reduceIte] at hx390_1)
   (try simp only [show (1 : Int).toNat = 1 from rfl, Nat.reduceMul, Nat.reduceEqDiff, Go.Addr.add, ↓reduceIte] at hx390_2)
   (try simp only [show (1 : Int).toNat = 1 from rfl, Nat.reduceMul, Nat.reduceEqDiff, Go.Addr.add, ↓reduceIte] at hx390_3)
   (try simp only [show (1 : Int).toNat = 1 from rfl, Nat.reduceMul, Nat.reduceEqDiff, Go.Addr.add, ↓reduceIte] at hx390_4)
   (try simp only [show (1 : Int).toNat = 1 from rfl, Nat.reduceMul, Nat.reduceEqDiff, Go.Addr.add, ↓reduceIte] at hx390_5)
   (try simp only [show (1 : Int).toNat = 1 from rfl, Nat.reduceMul, Nat.reduceEqDiff, Go.Addr.add, ↓reduceIte] at hx390_6)
   have qi390 : (1 < t383.length) = True := eq_true (by omega)
   (try rw [show ((1 : Int)).toNat = 1 from rfl] at hx390_0)
   (try rw [show 1 * 7 = 7 from rfl] at hx390_0)
   (try rw [show ((1 : Int)).toNat = 1 from rfl] at hx390_1)
   (try rw [show 1 * 7 = 7 from rfl] at hx390_1)
   (try rw [show ((1 : Int)).toNat = 1 from rfl] at hx390_2)
   (try rw [show 1 * 7 = 7 from rfl] at hx390_2)
   (try rw [show ((1 : Int)).toNat = 1 from rfl] at hx390_3)
   (try rw [show 1 * 7 = 7 from rfl] at hx390_3)
   (try rw [show ((1 : Int)).toNat = 1 from rfl] at hx390_4)
   (try rw [show 1 * 7 = 7 from rfl] at hx390_4)
   (try rw [show ((1 : Int)).toNat = 1 from rfl] at hx390_5)
   (try rw [show 1 * 7 = 7 from rfl] at hx390_5)
   (try rw [show ((1 : Int)).toNat = 1 from rfl] at hx390_6)
   (try rw [show 1 * 7 = 7 from rfl] at hx390_6)
   replace p390 := eq_true p390
   replace q390 := eq_true q390
   have p391 : 0 ≤ (1 : Int) := (by omega)
   have q391 : 1 < (t383.length : Int) := of_decide_eq_true od
   obtain ⟨ad391, e391, hx391_0, hx391_1, hx391_2, hx391_3, hx391_4, hx391_5, hx391_6⟩ := at_T25 (Kd.R_reads' HO387.out).2.2 1 p391 q391
   obtain rfl : ad388 = ad391 := (by injection e391)
   (try simp only [show (1 : Int).toNat = 1 from rfl, Nat.reduceMul, Nat.reduceEqDiff, Go.Addr.add, ↓reduceIte] at hx391_0)
   (try simp only [show (1 : Int).toNat = 1 from rfl, Nat.reduceMul, Nat.reduceEqDiff, Go.Addr.add, ↓reduceIte] at hx391_1)
   (try simp only [show (1 : Int).toNat = 1 from rfl, Nat.reduceMul, Nat.reduceEqDiff, Go.Addr.add, ↓reduceIte] at hx391_2)
   (try simp only [show (1 : Int).toNat = 1 from rfl, Nat.reduceMul, Nat.reduceEqDiff, Go.Addr.add, ↓reduceIte] at hx391_3)
   (try simp only [show (1 : Int).toNat = 1 from rfl, Nat.reduceMul, Nat.reduceEqDiff, Go.Addr.add, ↓reduceIte] at hx391_4)
   (try simp only [show (1 : Int).toNat = 1 from rfl, Nat.reduceMul, Nat.reduceEqDiff, Go.Addr.add, ↓reduceIte] at hx391_5)
   (try simp only [show (1 : Int).toNat = 1 from rfl, Nat.reduceMul, Nat.reduceEqDiff, Go.Addr.add, ↓reduceIte] at hx391_6)
   have qi391 : (1 < t383.length) = True := eq_true (by omega)
   (try rw [show ((1 : Int)).toNat = 1 from rfl] at hx391_0)
   (try rw [show 1 * 7 = 7 from rfl] at hx391_0)
   (try rw [show ((1 : Int)).toNat = 1 from rfl] at hx391_1)
   (try rw [show 1 * 7 = 7 from rfl] at hx391_1)
   (try rw [show ((1 : Int)).toNat = 1 from rfl] at hx391_2)
   (try rw [show 1 * 7 = 7 from rfl] at hx391_2)
   (try rw [show ((1 : Int)).toNat = 1 from rfl] at hx391_3)
   (try rw [show 1 * 7 = 7 from rfl] at hx391_3)
   (try rw [show ((1 : Int)).toNat = 1 from rfl] at hx391_4)
   (try rw [show 1 * 7 = 7 from rfl] at hx391_4)
   (try rw [show ((1 : Int)).toNat = 1 from rfl] at hx391_5)
   (try rw [show 1 * 7 = 7 from rfl] at hx391_5)
   (try rw [show ((1 : Int)).toNat = 1 from rfl] at hx391_6)
   (try rw [show 1 * 7 = 7 from rfl] at hx391_6)
   replace p391 := eq_true p391
   replace q391 := eq_true q391
   go_wp2
   go_meet
   case rel => exact ⟨_, (true), tv, H', ⟨by first | omega | exact Nat.le_refl _⟩, ⟨by (with_reducible repeat (first | apply Kd.R_alloc | apply Kd.R_drewN | apply Kd.R_drew)); exact HO387.out⟩, ⟨bl⟩⟩
  rw [if_pos c12] at H
  have c12b0 : (((rd_T25 t383 1).f4) == 5) = true := beq_iff_eq.mpr c12
  have c12b1 : (((rd_T25 t383 1).f4) != 5) = false := bne_eq_false_iff_eq.mpr c12
  clear c12
  have H' := am H
  clear H
  obtain ⟨Ao13, co13, eo13⟩ := Kd.R_slice HO387.out
  subst eo13
  have p388 : 0 ≤ (0 : Int) := (by omega)
  have q388 : 0 < (t383.length : Int) := of_decide_eq_true od
  obtain ⟨ad388, e388, hx388_0, hx388_1, hx388_2, hx388_3, hx388_4, hx388_5, hx388_6⟩ := at_T25 (Kd.R_reads' HO387.out).2.2 0 p388 q388
  cases e388
  have qi388 : (0 < t383.length) = True := eq_true (by omega)
  (try rw [show ((0 : Int)).toNat = 0 from rfl] at hx388_0)
  (try rw [show 0 * 7 = 0 from rfl] at hx388_0)
  (try rw [Addr.add_zero'] at hx388_0)
  (try rw [show ((0 : Int)).toNat = 0 from rfl] at hx388_1)
  (try rw [show 0 * 7 = 0 from rfl] at hx388_1)
  (try rw [Addr.add_zero'] at hx388_1)
  (try rw [show ((0 : Int)).toNat = 0 from rfl] at hx388_2)
  (try rw [show 0 * 7 = 0 from rfl] at hx388_2)
  (try rw [Addr.add_zero'] at hx388_2)
  (try rw [show ((0 : Int)).toNat = 0 from rfl] at hx388_3)
  (try rw [show 0 * 7 = 0 from rfl] at hx388_3)
  (try rw [Addr.add_zero'] at hx388_3)
  (try rw [show ((0 : Int)).toNat = 0 from rfl] at hx388_4)
  (try rw [show 0 * 7 = 0 from rfl] at hx388_4)
  (try rw [Addr.add_zero'] at hx388_4)
  (try rw [show ((0 : Int)).toNat = 0 from rfl] at hx388_5)
  (try rw [show 0 * 7 = 0 from rfl] at hx388_5)
  (try rw [Addr.add_zero'] at hx388_5)
  (try rw [show ((0 : Int)).toNat = 0 from rfl] at hx388_6)
  (try rw [show 0 * 7 = 0 from rfl] at hx388_6)
  (try rw [Addr.add_zero'] at hx388_6)
  replace p388 := eq_true p388
  replace q388 := eq_true q388
  have p389 : 0 ≤ (1 : Int) := (by omega)
  have q389 : 1 < (t383.length : Int) := of_decide_eq_true od
  obtain ⟨ad389, e389, hx389_0, hx389_1, hx389_2, hx389_3, hx389_4, hx389_5, hx389_6⟩ := at_T25 (Kd.R_reads' HO387.out).2.2 1 p389 q389
  obtain rfl : ad388 = ad389 := (by injection e389)
  (try simp only [show (1 : Int).toNat = 1 from rfl, Nat.reduceMul, Nat.reduceEqDiff, Go.Addr.add, ↓reduceIte] at hx389_0)
  (try simp only [show (1 : Int).toNat = 1 from rfl, Nat.reduceMul, Nat.reduceEqDiff, Go.Addr.add, ↓reduceIte] at hx389_1)
  (try simp only [show (1 : Int).toNat = 1 from rfl, Nat.reduceMul, Nat.reduceEqDiff, Go.Addr.add, ↓reduceIte] at hx389_2)
  (try simp only [show (1 : Int).toNat = 1 from rfl, Nat.reduceMul, Nat.reduceEqDiff, Go.Addr.add, ↓reduceIte] at hx389_3)
  (try simp only [show (1 : Int).toNat = 1 from rfl, Nat.reduceMul, Nat.reduceEqDiff, Go.Addr.add, ↓reduceIte] at hx389_4)
  (try simp only [show (1 : Int).toNat = 1 from rfl, Nat.reduceMul, Nat.reduceEqDiff, Go.Addr.add, ↓reduceIte] at hx389_5)
  (try simp only [show (1 : Int).toNat = 1 from rfl, Nat.reduceMul, Nat.reduceEqDiff, Go.Addr.add, ↓reduceIte] at hx389_6)
  have qi389 : (1 < t383.length) = True := eq_true (by omega)
  (try rw [show ((1 : Int)).toNat = 1 from rfl] at hx389_0)
  (try rw [show 1 * 7 = 7 from rfl] at hx389_0)
  (try rw [show ((1 : Int)).toNat = 1 from rfl] at hx389_1)
  (try rw [show 1 * 7 = 7 from rfl] at hx389_1)
  (try rw [show ((1 : Int)).toNat = 1 from rfl] at hx389_2)
  (try rw [show 1 * 7 = 7 from rfl] at hx389_2)
  (try rw [show ((1 : Int)).toNat = 1 from rfl] at hx389_3)
  (try rw [show 1 * 7 = 7 from rfl] at hx389_3)
  (try rw [show ((1 : Int)).toNat = 1 from rfl] at hx389_4)
  (try rw [show 1 * 7 = 7 from rfl] at hx389_4)
  (try rw [show ((1 : Int)).toNat = 1 from rfl] at hx389_5)
  (try rw [show 1 * 7 = 7 from rfl] at hx389_5)
  (try rw [show ((1 : Int)).toNat = 1 from rfl] at hx389_6)
  (try rw [show 1 * 7 = 7 from rfl] at hx389_6)
  replace p389 := eq_true p389
  replace q389 := eq_true q389
  have p390 : 0 ≤ (1 : Int) := (by omega)
  have q390 : 1 < (t383.length : Int) := of_decide_eq_true od
  obtain ⟨ad390, e390, hx390_0, hx390_1, hx390_2, hx390_3, hx390_4, hx390_5, hx390_6⟩ := at_T25 (Kd.R_reads' HO387.out).2.2 1 p390 q390
  obtain rfl : ad388 = ad390 := (by injection e390)
  (try simp only [show (1 : Int).toNat = 1 from rfl, Nat.reduceMul, Nat.reduceEqDiff, Go.Addr.add, ↓reduceIte] at hx390_0)
  (try simp only [show (1 : Int).toNat = 1 from rfl, Nat.reduceMul, Nat.reduceEqDiff, Go.Addr.add, ↓reduceIte] at hx390_1)
  (try simp only [show (1 : Int).toNat = 1 from rfl, Nat.reduceMul, Nat.reduceEqDiff, Go.Addr.add, ↓reduceIte] at hx390_2)
  (try simp only [show (1 : Int).toNat = 1 from rfl, Nat.reduceMul, Nat.reduceEqDiff, Go.Addr.add, ↓reduceIte] at hx390_3)
  (try simp only [show (1 : Int).toNat = 1 from rfl, Nat.reduceMul, Nat.reduceEqDiff, Go.Addr.add, ↓reduceIte] at hx390_4)
  (try simp only [show (1 : Int).toNat = 1 from rfl, Nat.reduceMul, Nat.reduceEqDiff, Go.Addr.add, ↓reduceIte] at hx390_5)
  (try simp only [show (1 : Int).toNat = 1 from rfl, Nat.reduceMul, Nat.reduceEqDiff, Go.Addr.add, ↓reduceIte] at hx390_6)
  have qi390 : (1 < t383.length) = True := eq_true (by omega)
  (try rw [show ((1 : Int)).toNat = 1 from rfl] at hx390_0)
  (try rw [show 1 * 7 = 7 from rfl] at hx390_0)
  (try rw [show ((1 : Int)).toNat = 1 from rfl] at hx390_1)
  (try rw [show 1 * 7 = 7 from rfl] at hx390_1)
  (try rw [show ((1 : Int)).toNat = 1 from rfl] at hx390_2)
  (try rw [show 1 * 7 = 7 from rfl] at hx390_2)
  (try rw [show ((1 : Int)).toNat = 1 from rfl] at hx390_3)
  (try rw [show 1 * 7 = 7 from rfl] at hx390_3)
  (try rw [show ((1 : Int)).toNat = 1 from rfl] at hx390_4)
  (try rw [show 1 * 7 = 7 from rfl] at hx390_4)
  (try rw [show ((1 : Int)).toNat = 1 from rfl] at hx390_5)
  (try rw [show 1 * 7 = 7 from rfl] at hx390_5)
  (try rw [show ((1 : Int)).toNat = 1 from rfl] at hx390_6)
  (try rw [show 1 * 7 = 7 from rfl] at hx390_6)
  replace p390 := eq_true p390
  replace q390 := eq_true q390
  have p391 : 0 ≤ (1 : Int) := (by omega)
  have q391 : 1 < (t383.length : Int) := of_decide_eq_true od
  obtain ⟨ad391, e391, hx391_0, hx391_1, hx391_2, hx391_3, hx391_4, hx391_5, hx391_6⟩ := at_T25 (Kd.R_reads' HO387.out).2.2 1 p391 q391
  obtain rfl : ad388 = ad391 := (by injection e391)
  (try simp only [show (1 : Int).toNat = 1 from rfl, Nat.reduceMul, Nat.reduceEqDiff, Go.Addr.add, ↓reduceIte] at hx391_0)
  (try simp only [show (1 : Int).toNat = 1 from rfl, Nat.reduceMul, Nat.reduceEqDiff, Go.Addr.add, ↓reduceIte] at hx391_1)
  (try simp only [show (1 : Int).toNat = 1 from rfl, Nat.reduceMul, Nat.reduceEqDiff, Go.Addr.add, ↓reduceIte] at hx391_2)
  (try simp only [show (1 : Int).toNat = 1 from rfl, Nat.reduceMul, Nat.reduceEqDiff, Go.Addr.add, ↓reduceIte] at hx391_3)
  (try simp only [show (1 : Int).toNat = 1 from rfl, Nat.reduceMul, Nat.reduceEqDiff, Go.Addr.add, ↓reduceIte] at hx391_4)
  (try simp only [show (1 : Int).toNat = 1 from rfl, Nat.reduceMul, Nat.reduceEqDiff, Go.Addr.add, ↓reduceIte] at hx391_5)
  (try simp only [show (1 : Int).toNat = 1 from rfl, Nat.reduceMul, Nat.reduceEqDiff, Go.Addr.add, ↓reduceIte] at hx391_6)
  have qi391 : (1 < t383.length) = True := eq_true (by omega)
  (try rw [show ((1 : Int)).toNat = 1 from rfl] at hx391_0)
  (try rw [show 1 * 7 = 7 from rfl] at hx391_0)
  (try rw [show ((1 : Int)).toNat = 1 from rfl] at hx391_1)
  (try rw [show 1 * 7 = 7 from rfl] at hx391_1)
  (try rw [show ((1 : Int)).toNat = 1 from rfl] at hx391_2)
  (try rw [show 1 * 7 = 7 from rfl] at hx391_2)
  (try rw [show ((1 : Int)).toNat = 1 from rfl] at hx391_3)
  (try rw [show 1 * 7 = 7 from rfl] at hx391_3)
  (try rw [show ((1 : Int)).toNat = 1 from rfl] at hx391_4)
  (try rw [show 1 * 7 = 7 from rfl] at hx391_4)
  (try rw [show ((1 : Int)).toNat = 1 from rfl] at hx391_5)
  (try rw [show 1 * 7 = 7 from rfl] at hx391_5)
  (try rw [show ((1 : Int)).toNat = 1 from rfl] at hx391_6)
  (try rw [show 1 * 7 = 7 from rfl] at hx391_6)
  replace p391 := eq_true p391
  replace q391 := eq_true q391
  have p392 : 0 ≤ (1 : Int) := (by omega)
  have q392 : 1 < (t383.length : Int) := of_decide_eq_true od
  obtain ⟨ad392, e392, hx392_0, hx392_1, hx392_2, hx392_3, hx392_4, hx392_5, hx392_6⟩ := at_T25 (Kd.R_reads' HO387.out).2.2 1 p392 q392
  obtain rfl : ad388 = ad392 := (by injection e392)
  (try simp only [show (1 : Int).toNat = 1 from rfl, Nat.reduceMul, Nat.reduceEqDiff, Go.Addr.add, ↓reduceIte] at hx392_0)
  (try simp only [show (1 : Int).toNat = 1 from rfl, Nat.reduceMul, Nat.reduceEqDiff, Go.Addr.add, ↓reduceIte] at hx392_1)
  (try simp only [show (1 : Int).toNat = 1 from rfl, Nat.reduceMul, Nat.reduceEqDiff, Go.Addr.add, ↓reduceIte] at hx392_2)
  (try simp only [show (1 : Int).toNat = 1 from rfl, Nat.reduceMul, Nat.reduceEqDiff, Go.Addr.add, ↓reduceIte] at hx392_3)
  (try simp only [show (1 : Int).toNat = 1 from rfl, Nat.reduceMul, Nat.reduceEqDiff, Go.Addr.add, ↓reduceIte] at hx392_4)
  (try simp only [show (1 : Int).toNat = 1 from rfl, Nat.reduceMul, Nat.reduceEqDiff, Go.Addr.add, ↓reduceIte] at hx392_5)
  (try simp only [show (1 : Int).toNat = 1 from rfl, Nat.reduceMul, Nat.reduceEqDiff, Go.Addr.add, ↓reduceIte] at hx392_6)
  have qi392 : (1 < t383.length) = True := eq_true (by omega)
  (try rw [show ((1 : Int)).toNat = 1 from rfl] at hx392_0)
  (try rw [show 1 * 7 = 7 from rfl] at hx392_0)
  (try rw [show ((1 : Int)).toNat = 1 from rfl] at hx392_1)
  (try rw [show 1 * 7 = 7 from rfl] at hx392_1)
  (try rw [show ((1 : Int)).toNat = 1 from rfl] at hx392_2)
  (try rw [show 1 * 7 = 7 from rfl] at hx392_2)
  (try rw [show ((1 : Int)).toNat = 1 from rfl] at hx392_3)
  (try rw [show 1 * 7 = 7 from rfl] at hx392_3)
  (try rw [show ((1 : Int)).toNat = 1 from rfl] at hx392_4)
  (try rw [show 1 * 7 = 7 from rfl] at hx392_4)
  (try rw [show ((1 : Int)).toNat = 1 from rfl] at hx392_5)
  (try rw [show 1 * 7 = 7 from rfl] at hx392_5)
  (try rw [show ((1 : Int)).toNat = 1 from rfl] at hx392_6)
  (try rw [show 1 * 7 = 7 from rfl] at hx392_6)
  replace p392 := eq_true p392
  replace q392 := eq_true q392
  go_wp2
  go_meet
  case rel => exact ⟨_, ((((rd_T25 t383 1).f6) != 2)), tv, H', ⟨by first | omega | exact Nat.le_refl _⟩, ⟨by (with_reducible repeat (first | apply Kd.R_alloc | apply Kd.R_drewN | apply Kd.R_drew)); exact HO387.out⟩, ⟨bl⟩⟩
 case rest =>
  clear HC2
  try clear c1
  try clear p2
  try clear p3
  try clear q3
  try clear hx3
  try clear qi3
  try clear c4
  try clear c4b0
  try clear c4b1
  try clear c5
  try clear c5b0
  try clear c5b1
  try clear c6
  try clear c6b0
  try clear c6b1
  try clear c7
  try clear c7b0
  try clear c7b1
  try clear c8
  try clear c8b0
  try clear c8b1
  try clear c9
  try clear c9b0
  try clear c9b1
  try clear c10
  try clear c10b0
  try clear c10b1
  try clear c11
  try clear c11b0
  try clear c11b1
  try clear c12
  try clear c12b0
  try clear c12b1
  try clear c13
  try clear hx388_0
  try clear hx388_1
  try clear hx388_2
  try clear hx388_3
  try clear hx388_4
  try clear hx388_5
  try clear hx388_6
  try clear hx389_0
  try clear hx389_1
  try clear hx389_2
  try clear hx389_3
  try clear hx389_4
  try clear hx389_5
  try clear hx389_6
  try clear hx390_0
  try clear hx390_1
  try clear hx390_2
  try clear hx390_3
  try clear hx390_4
  try clear hx390_5
  try clear hx390_6
  try clear hx391_0
  try clear hx391_1
  try clear hx391_2
  try clear hx391_3
  try clear hx391_4
  try clear hx391_5
  try clear hx391_6
  try clear hx392_0
  try clear hx392_1
  try clear hx392_2
  try clear hx392_3
  try clear hx392_4
  try clear hx392_5
  try clear hx392_6
  try clear p388
  try clear p389
  try clear p390
  try clear p391
  try clear p392
  try clear q388
  try clear q389
  try clear q390
  try clear q391
  try clear q392
  obtain ⟨kq, x55_1, rfl, HA, HJ1, HO_1, HB⟩ := hcut
  cases kq with
  | zero => exact absurd HA.out (by simp [w_awake.j0])
  | succ kj1 =>
   have H := HA.out
   clear HA
   simp only [w_awake.j0] at H
   by_cases c19 : x55_1 = true
   ·subst c19
    have H1 : (some false) = some r := by rw [if_pos rfl] at H; exact H
    clear H
    have H := H1
    clear H1
    obtain rfl := Option.some.inj H
    go_wp2
    go_ret
    exact ⟨er, bl⟩
   replace c19 := Bool.eq_false_iff.mpr c19
   subst c19
   have H1 : ((d_Print.f kj1 t383).bind fun bt393 => (if bt393.2 = 0 then (if bt393.1.toList = ([97, 37, 45, 48, 53, 46, 50, 102] : List UInt8) then ((d_Wants.f kj1 t383).bind fun t395 => (some (t395 == 1))) else (some false)) else (some false))) = some r := by rw [if_neg (show ¬ (false = true) by decide)] at H; exact H
   clear H
   have H := H1
   clear H1
   replace H := Option.bind_eq_some_iff.mp H
   obtain ⟨⟨t393, t394⟩, A200, H⟩ := H
   replace H : (if t394 = 0 then (if t393.toList = ([97, 37, 45, 48, 53, 46, 50, 102] : List UInt8) then ((d_Wants.f kj1 t383).bind fun t395 => (some (t395 == 1))) else (some false)) else (some false)) = some r := H
   have A20 := am A200
   clear A200
   by_cases c21 : t394 = 0
   rotate_left
   ·rw [if_neg c21] at H
    have c21b0 : (t394 == 0) = false := beq_eq_false_iff_ne.mpr c21
    have c21b1 : (t394 != 0) = true := bne_iff_ne.mpr c21
    obtain rfl := Option.some.inj H
    obtain ⟨Ao29, co29, eo29⟩ := Kd.R_slice HO_1.out
    subst eo29
    go_wp2_with (first | ((with_reducible refine gate_callee (f := 12) rfl ?_); refine goesL_ (some 58) rfl rfl Tryd.func12 (by kernel_rfl) rfl #[.slice Ao29 t383.length co29] rfl ls ?_; (with_reducible refine (d_Print.calls kj1 _ _ t383 t393 t394 _ ?side1 ?side2 ?side3 A20.out).mono ?_); (case side1 => repeat (first | exact (Kd.R_reads' HO_1.out).2.2 | (with_reducible refine Kd.C_alloc ?_ _) | (with_reducible refine Kd.C_drewN ?_ _) | (with_reducible refine Kd.C_drew ?_))); (case side2 => exact (Kd.R_reads' HO_1.out).2.1); (case side3 => exact GW.below HG.out bl); rintro e w30 ⟨rfl, hb⟩; refine ⟨_, rfl, ?_⟩; have n0_ := am (Kd.R_below (by (with_reducible repeat (first | apply Kd.R_alloc | apply Kd.R_drewN | apply Kd.R_drew)); exact HO_1.out) hb); have n1_ := am (below_step bl hb); clear HO_1; clear HB; have HO_1 := n0_; have HB := n1_; clear n0_ n1_; (try clear hb); (try clear hb2); (try clear hk); (try clear hi)))
    go_ret
    exact ⟨er, bl⟩
   rw [if_pos c21] at H
   have c21b0 : (t394 == 0) = true := beq_iff_eq.mpr c21
   have c21b1 : (t394 != 0) = false := bne_eq_false_iff_eq.mpr c21
   clear c21
   by_cases c22 : t393.toList = ([97, 37, 45, 48, 53, 46, 50, 102] : List UInt8)
   rotate_left
   ·rw [if_neg c22] at H
    have c22b0 : (t393.toList == ([97, 37, 45, 48, 53, 46, 50, 102] : List UInt8)) = false := beq_eq_false_iff_ne.mpr c22
    have c22b1 : (t393.toList != ([97, 37, 45, 48, 53, 46, 50, 102] : List UInt8)) = true := bne_iff_ne.mpr c22
    obtain rfl := Option.some.inj H
    obtain ⟨Ao27, co27, eo27⟩ := Kd.R_slice HO_1.out
    subst eo27
    go_wp2_with (first | ((with_reducible refine gate_callee (f := 12) rfl ?_); refine goesL_ (some 58) rfl rfl Tryd.func12 (by kernel_rfl) rfl #[.slice Ao27 t383.length co27] rfl ls ?_; (with_reducible refine (d_Print.calls kj1 _ _ t383 t393 t394 _ ?side1 ?side2 ?side3 A20.out).mono ?_); (case side1 => repeat (first | exact (Kd.R_reads' HO_1.out).2.2 | (with_reducible refine Kd.C_alloc ?_ _) | (with_reducible refine Kd.C_drewN ?_ _) | (with_reducible refine Kd.C_drew ?_))); (case side2 => exact (Kd.R_reads' HO_1.out).2.1); (case side3 => exact GW.below HG.out bl); rintro e w28 ⟨rfl, hb⟩; refine ⟨_, rfl, ?_⟩; have n0_ := am (Kd.R_below (by (with_reducible repeat (first | apply Kd.R_alloc | apply Kd.R_drewN | apply Kd.R_drew)); exact HO_1.out) hb); have n1_ := am (below_step bl hb); clear HO_1; clear HB; have HO_1 := n0_; have HB := n1_; clear n0_ n1_; (try clear hb); (try clear hb2); (try clear hk); (try clear hi)))
    go_ret
    exact ⟨er, bl⟩
   rw [if_pos c22] at H
   have c22b0 : (t393.toList == ([97, 37, 45, 48, 53, 46, 50, 102] : List UInt8)) = true := beq_iff_eq.mpr c22
   have c22b1 : (t393.toList != ([97, 37, 45, 48, 53, 46, 50, 102] : List UInt8)) = false := bne_eq_false_iff_eq.mpr c22
   clear c22
   replace H := Option.bind_eq_some_iff.mp H
   obtain ⟨t395, A230, H⟩ := H
   replace H : (some (t395 == 1)) = some r := H
   have A23 := am A230
   clear A230
   obtain rfl := Option.some.inj H
   obtain ⟨Ao24, co24, eo24⟩ := Kd.R_slice HO_1.out
   subst eo24
   go_wp2_with (first | ((with_reducible refine gate_callee (f := 12) rfl ?_); refine goesL_ (some 58) rfl rfl Tryd.func12 (by kernel_rfl) rfl #[.slice Ao24 t383.length co24] rfl ls ?_; (with_reducible refine (d_Print.calls kj1 _ _ t383 t393 t394 _ ?side1 ?side2 ?side3 A20.out).mono ?_); (case side1 => repeat (first | exact (Kd.R_reads' HO_1.out).2.2 | (with_reducible refine Kd.C_alloc ?_ _) | (with_reducible refine Kd.C_drewN ?_ _) | (with_reducible refine Kd.C_drew ?_))); (case side2 => exact (Kd.R_reads' HO_1.out).2.1); (case side3 => exact GW.below HG.out bl); rintro e w25 ⟨rfl, hb⟩; refine ⟨_, rfl, ?_⟩; have n0_ := am (Kd.R_below (by (with_reducible repeat (first | apply Kd.R_alloc | apply Kd.R_drewN | apply Kd.R_drew)); exact HO_1.out) hb); have n1_ := am (below_step bl hb); clear HO_1; clear HB; have HO_1 := n0_; have HB := n1_; clear n0_ n1_; (try clear hb); (try clear hb2); (try clear hk); (try clear hi)) | (go_at_call 15; (with_reducible refine (d_Wants.calls kj1 _ _ t383 t395 _ ?side1 ?side2 A23.out).mono ?_); (case side1 => repeat (first | exact (Kd.R_reads' HO_1.out).2.2 | (with_reducible refine Kd.C_alloc ?_ _) | (with_reducible refine Kd.C_drewN ?_ _) | (with_reducible refine Kd.C_drew ?_))); (case side2 => exact (Kd.R_reads' HO_1.out).2.1); rintro e w26 ⟨rfl, hb⟩; have n0_ := am (Kd.R_below (by (with_reducible repeat (first | apply Kd.R_alloc | apply Kd.R_drewN | apply Kd.R_drew)); exact HO_1.out) hb); have n1_ := am (below_step bl hb); clear HO_1; clear HB; have HO_1 := n0_; have HB := n1_; clear n0_ n1_; (try clear hb); (try clear hb2); (try clear hk); (try clear hi)))
   go_ret
   exact ⟨er, bl⟩
end Go.Proofs.YtlmijjekaelhcaaDoor.EDi
