/-
  Several texts of this session's own in one: EDpx41 EDpx42 EDpx43 EDpx44.
-/
import Derived.Test.YtlmijjekaelhcaaDoorExEDpx0
import Derived.Test.YtlmijjekaelhcaaDoorExA0
import Derived.Test.YtlmijjekaelhcaaDoorExEDpx36
section
namespace Go.Proofs.YtlmijjekaelhcaaDoor.EDi
open Go.RowKit Go.Proofs.YtlmijjekaelhcaaDoorW.PrintWords Go.Proofs.YtlmijjekaelhcaaDoorW.PrintLast Go.Proofs.YtlmijjekaelhcaaDoorW.PrintMore
attribute [local go_sem] max2_int min2_int max_two min_two max_three min_three max_four min_four
set_option linter.unusedVariables false
def q_counted.f (a0 : Int) (a1 : Int) (a2 : Int) : Option (Bool) := if a0 = 1 then (if a1 ≥ a2 then (some (decide (a1 ≤ 4096))) else (some false)) else (if a0 = 0 then (some (a1 == 0)) else (if a0 = 2 then (some (a1 == 0)) else (some false)))
set_option maxHeartbeats 8000000 in
set_option maxRecDepth 100000 in
theorem q_counted.calls (a0 : Int) (a1 : Int) (a2 : Int) (r : Bool) (w : World) (h : q_counted.f a0 a1 a2 = some r) :
  Calls Tryd.prog 59 #[.int .i64 a0, .int .i64 a1, .int .i64 a2] w fun e w' => e = .returned (.bool r) ∧ Drawn0 w w' := by
 have H : (if a0 = 1 then (if a1 ≥ a2 then (some (decide (a1 ≤ 4096))) else (some false)) else (if a0 = 0 then (some (a1 == 0)) else (if a0 = 2 then (some (a1 == 0)) else (some false)))) = some r := h
 clear h
 by_cases c4 : a0 = 1
 ·rw [if_pos c4] at H
  have c4b0 : (a0 == 1) = true := beq_iff_eq.mpr c4
  have c4b1 : (a0 != 1) = false := bne_eq_false_iff_eq.mpr c4
  clear c4
  by_cases c5 : a1 ≥ a2
  ·rw [if_pos c5] at H
   have c5b0 : decide (a2 ≤ a1) = true := decide_eq_true c5
   clear c5
   obtain rfl := Option.some.inj H
   go_enter Tryd.func59, Tryd.ntmps59
   go_wp2
   go_ret
   exact ⟨by first | rfl | (simp; done) | (simp [*]; done), by repeat (first | exact Drawn0.refl _ | apply Drawn0.step)⟩
  rw [if_neg c5] at H
  have c5b0 : decide (a2 ≤ a1) = false := decide_eq_false c5
  clear c5
  obtain rfl := Option.some.inj H
  go_enter Tryd.func59, Tryd.ntmps59
  go_wp2
  go_ret
  exact ⟨by first | rfl | (simp; done) | (simp [*]; done), by repeat (first | exact Drawn0.refl _ | apply Drawn0.step)⟩
 rw [if_neg c4] at H
 have c4b0 : (a0 == 1) = false := beq_eq_false_iff_ne.mpr c4
 have c4b1 : (a0 != 1) = true := bne_iff_ne.mpr c4
 by_cases c6 : a0 = 0
 ·rw [if_pos c6] at H
  have c6b0 : (a0 == 0) = true := beq_iff_eq.mpr c6
  have c6b1 : (a0 != 0) = false := bne_eq_false_iff_eq.mpr c6
  clear c6
  obtain rfl := Option.some.inj H
  go_enter Tryd.func59, Tryd.ntmps59
  go_wp2
  go_ret
  exact ⟨by first | rfl | (simp; done) | (simp [*]; done), by repeat (first | exact Drawn0.refl _ | apply Drawn0.step)⟩
 rw [if_neg c6] at H
 have c6b0 : (a0 == 0) = false := beq_eq_false_iff_ne.mpr c6
 have c6b1 : (a0 != 0) = true := bne_iff_ne.mpr c6
 by_cases c7 : a0 = 2
 rotate_left
 ·rw [if_neg c7] at H
  have c7b0 : (a0 == 2) = false := beq_eq_false_iff_ne.mpr c7
  have c7b1 : (a0 != 2) = true := bne_iff_ne.mpr c7
  obtain rfl := Option.some.inj H
  go_enter Tryd.func59, Tryd.ntmps59
  go_wp2
  go_ret
  exact ⟨by first | rfl | (simp; done) | (simp [*]; done), by repeat (first | exact Drawn0.refl _ | apply Drawn0.step)⟩
 rw [if_pos c7] at H
 have c7b0 : (a0 == 2) = true := beq_iff_eq.mpr c7
 have c7b1 : (a0 != 2) = false := bne_eq_false_iff_eq.mpr c7
 clear c7
 obtain rfl := Option.some.inj H
 go_enter Tryd.func59, Tryd.ntmps59
 go_wp2
 go_ret
 exact ⟨by first | rfl | (simp; done) | (simp [*]; done), by repeat (first | exact Drawn0.refl _ | apply Drawn0.step)⟩
end Go.Proofs.YtlmijjekaelhcaaDoor.EDi
end
section
namespace Go.Proofs.YtlmijjekaelhcaaDoor.EDi
open Go.RowKit Go.Proofs.YtlmijjekaelhcaaDoorW.PrintWords Go.Proofs.YtlmijjekaelhcaaDoorW.PrintLast Go.Proofs.YtlmijjekaelhcaaDoorW.PrintMore
attribute [local go_sem] max2_int min2_int max_two min_two max_three min_three max_four min_four
set_option linter.unusedVariables false
def q_directive.f (k : Nat) (a0_0 : ByteArray) (a0_1 : Int) (a0_2 : Int) (a0_3 : Int) (a0_4 : Int) (a0_5 : Int) (a0_6 : Int) : Option (Bool) := (q_at.f k (⟨#[100, 105, 111, 117, 120, 88, 99, 115, 101, 69, 102, 70, 103, 71]⟩ : ByteArray) a0_1).bind fun t607 => (if t607 ≥ 0 then (if a0_0.toList = ([] : List UInt8) then (if a0_2 ≥ 0 then (if a0_2 ≤ 31 then ((q_counted.f a0_3 a0_4 1).bind fun t608 => (if t608 = true then ((q_counted.f a0_5 a0_6 0).bind fun t609 => (some t609)) else (some false))) else (some false)) else (some false)) else (some false)) else (some false))
theorem q_directive.mono : ∀ a0 a1 a2 a3 a4 a5 a6 k, LeO (q_directive.f k a0 a1 a2 a3 a4 a5 a6) (q_directive.f (k + 1) a0 a1 a2 a3 a4 a5 a6) := by
 intro a0 a1 a2 a3 a4 a5 a6 k
 unfold q_directive.f
 repeat' first
   | (with_reducible exact q_at.mono _ _ _)
   | (with_reducible exact LeO.refl _)
   | (with_reducible exact LeO.none _)
   | (with_reducible refine LeO.ite ?_ ?_)
   | (with_reducible refine LeO.bind ?_ (fun _ => ?_))
   | exact q_at.mono _ _ _
   | exact LeO.none _
   | refine LeO.ite ?_ ?_
   | refine LeO.bind ?_ (fun _ => ?_)
set_option maxHeartbeats 8000000 in
set_option maxRecDepth 100000 in
theorem q_directive.calls (k : Nat) (a0_0 : ByteArray) (a0_1 : Int) (a0_2 : Int) (a0_3 : Int) (a0_4 : Int) (a0_5 : Int) (a0_6 : Int) (r : Bool) (w : World) (h : q_directive.f k a0_0 a0_1 a0_2 a0_3 a0_4 a0_5 a0_6 = some r) :
  Calls Tryd.prog 49 #[.agg #[.string a0_0, .int .u8 a0_1, .int .i64 a0_2, .int .i64 a0_3, .int .i64 a0_4, .int .i64 a0_5, .int .i64 a0_6]] w fun e w' => e = .returned (.bool r) ∧ Below w.heap.size w w' := by
 have hu25 := Tryd.underlying25
 have HB := am (Below.refl w.heap.size w)
 have H : ((q_at.f k (⟨#[100, 105, 111, 117, 120, 88, 99, 115, 101, 69, 102, 70, 103, 71]⟩ : ByteArray) a0_1).bind fun t607 => (if t607 ≥ 0 then (if a0_0.toList = ([] : List UInt8) then (if a0_2 ≥ 0 then (if a0_2 ≤ 31 then ((q_counted.f a0_3 a0_4 1).bind fun t608 => (if t608 = true then ((q_counted.f a0_5 a0_6 0).bind fun t609 => (some t609)) else (some false))) else (some false)) else (some false)) else (some false)) else (some false))) = some r := h
 clear h
 replace H := Option.bind_eq_some_iff.mp H
 obtain ⟨t607, A20, H⟩ := H
 replace H : (if t607 ≥ 0 then (if a0_0.toList = ([] : List UInt8) then (if a0_2 ≥ 0 then (if a0_2 ≤ 31 then ((q_counted.f a0_3 a0_4 1).bind fun t608 => (if t608 = true then ((q_counted.f a0_5 a0_6 0).bind fun t609 => (some t609)) else (some false))) else (some false)) else (some false)) else (some false)) else (some false)) = some r := H
 have A2 := am A20
 clear A20
 by_cases c3 : t607 ≥ 0
 rotate_left
 ·rw [if_neg c3] at H
  have c3b0 : decide (0 ≤ t607) = false := decide_eq_false c3
  clear c3
  obtain rfl := Option.some.inj H
  go_enter Tryd.func49, Tryd.ntmps49
  go_wp2_with (first | ((with_reducible refine gate_dst (N := 1) rfl ?_); refine box_event ?hg (N := 1) ?hd (cs := #[.string a0_0, .int .u8 a0_1, .int .i64 a0_2, .int .i64 a0_3, .int .i64 a0_4, .int .i64 a0_5, .int .i64 a0_6]) (t := 25) ?hr ?_; (case hd => rfl); (case hg => rfl); (case hr => first | (go_simp; done) | (go_simp; rfl)); intro gb606 hg w20 hbox hb; have n0_ := am (below_step bl hb); have n1_ := am (hbox); have n2_ := am ((by rw [hg]; exact (below_size bl) : w.heap.size ≤ gb606)); have n3_ := n2_; clear HB; have HB := n0_; have BK606 := n1_; have GW606 := n2_; have GE606 := n3_; clear n0_ n1_ n2_ n3_; clear hb hbox hg; obtain ⟨⟨hcz21_0, hcz21_1, hcz21_2, hcz21_3, hcz21_4, hcz21_5, hcz21_6⟩, hfz21_0, hfz21_1, hfz21_2, hfz21_3, hfz21_4, hfz21_5, hfz21_6⟩ := blkAll7 BK606) | ((with_reducible refine gate_callee (f := 39) rfl ?_); refine goesL_ (some 5) rfl rfl Tryd.func39 (by kernel_rfl) rfl #[.string (⟨#[100, 105, 111, 117, 120, 88, 99, 115, 101, 69, 102, 70, 103, 71]⟩ : ByteArray), .int .u8 a0_1] rfl ls ?_; (with_reducible refine (q_at.calls k (⟨#[100, 105, 111, 117, 120, 88, 99, 115, 101, 69, 102, 70, 103, 71]⟩ : ByteArray) a0_1 t607 _ A2.out).mono ?_); rintro e w' ⟨rfl, ⟨nd, rfl⟩⟩; refine ⟨_, rfl, ?_⟩))
  go_ret
  exact ⟨er, bs⟩
 rw [if_pos c3] at H
 have c3b0 : decide (0 ≤ t607) = true := decide_eq_true c3
 clear c3
 by_cases c4 : a0_0.toList = ([] : List UInt8)
 rotate_left
 ·rw [if_neg c4] at H
  have c4b0 : (a0_0.toList == ([] : List UInt8)) = false := beq_eq_false_iff_ne.mpr c4
  have c4b1 : (a0_0.toList != ([] : List UInt8)) = true := bne_iff_ne.mpr c4
  obtain rfl := Option.some.inj H
  go_enter Tryd.func49, Tryd.ntmps49
  go_wp2_with (first | ((with_reducible refine gate_dst (N := 1) rfl ?_); refine box_event ?hg (N := 1) ?hd (cs := #[.string a0_0, .int .u8 a0_1, .int .i64 a0_2, .int .i64 a0_3, .int .i64 a0_4, .int .i64 a0_5, .int .i64 a0_6]) (t := 25) ?hr ?_; (case hd => rfl); (case hg => rfl); (case hr => first | (go_simp; done) | (go_simp; rfl)); intro gb606 hg w18 hbox hb; have n0_ := am (below_step bl hb); have n1_ := am (hbox); have n2_ := am ((by rw [hg]; exact (below_size bl) : w.heap.size ≤ gb606)); have n3_ := n2_; clear HB; have HB := n0_; have BK606 := n1_; have GW606 := n2_; have GE606 := n3_; clear n0_ n1_ n2_ n3_; clear hb hbox hg; obtain ⟨⟨hcz19_0, hcz19_1, hcz19_2, hcz19_3, hcz19_4, hcz19_5, hcz19_6⟩, hfz19_0, hfz19_1, hfz19_2, hfz19_3, hfz19_4, hfz19_5, hfz19_6⟩ := blkAll7 BK606) | ((with_reducible refine gate_callee (f := 39) rfl ?_); refine goesL_ (some 5) rfl rfl Tryd.func39 (by kernel_rfl) rfl #[.string (⟨#[100, 105, 111, 117, 120, 88, 99, 115, 101, 69, 102, 70, 103, 71]⟩ : ByteArray), .int .u8 a0_1] rfl ls ?_; (with_reducible refine (q_at.calls k (⟨#[100, 105, 111, 117, 120, 88, 99, 115, 101, 69, 102, 70, 103, 71]⟩ : ByteArray) a0_1 t607 _ A2.out).mono ?_); rintro e w' ⟨rfl, ⟨nd, rfl⟩⟩; refine ⟨_, rfl, ?_⟩))
  go_ret
  exact ⟨er, bs⟩
 rw [if_pos c4] at H
 have c4b0 : (a0_0.toList == ([] : List UInt8)) = true := beq_iff_eq.mpr c4
 have c4b1 : (a0_0.toList != ([] : List UInt8)) = false := bne_eq_false_iff_eq.mpr c4
 clear c4
 by_cases c5 : a0_2 ≥ 0
 rotate_left
 ·rw [if_neg c5] at H
  have c5b0 : decide (0 ≤ a0_2) = false := decide_eq_false c5
  clear c5
  obtain rfl := Option.some.inj H
  go_enter Tryd.func49, Tryd.ntmps49
  go_wp2_with (first | ((with_reducible refine gate_dst (N := 1) rfl ?_); refine box_event ?hg (N := 1) ?hd (cs := #[.string a0_0, .int .u8 a0_1, .int .i64 a0_2, .int .i64 a0_3, .int .i64 a0_4, .int .i64 a0_5, .int .i64 a0_6]) (t := 25) ?hr ?_; (case hd => rfl); (case hg => rfl); (case hr => first | (go_simp; done) | (go_simp; rfl)); intro gb606 hg w16 hbox hb; have n0_ := am (below_step bl hb); have n1_ := am (hbox); have n2_ := am ((by rw [hg]; exact (below_size bl) : w.heap.size ≤ gb606)); have n3_ := n2_; clear HB; have HB := n0_; have BK606 := n1_; have GW606 := n2_; have GE606 := n3_; clear n0_ n1_ n2_ n3_; clear hb hbox hg; obtain ⟨⟨hcz17_0, hcz17_1, hcz17_2, hcz17_3, hcz17_4, hcz17_5, hcz17_6⟩, hfz17_0, hfz17_1, hfz17_2, hfz17_3, hfz17_4, hfz17_5, hfz17_6⟩ := blkAll7 BK606) | ((with_reducible refine gate_callee (f := 39) rfl ?_); refine goesL_ (some 5) rfl rfl Tryd.func39 (by kernel_rfl) rfl #[.string (⟨#[100, 105, 111, 117, 120, 88, 99, 115, 101, 69, 102, 70, 103, 71]⟩ : ByteArray), .int .u8 a0_1] rfl ls ?_; (with_reducible refine (q_at.calls k (⟨#[100, 105, 111, 117, 120, 88, 99, 115, 101, 69, 102, 70, 103, 71]⟩ : ByteArray) a0_1 t607 _ A2.out).mono ?_); rintro e w' ⟨rfl, ⟨nd, rfl⟩⟩; refine ⟨_, rfl, ?_⟩))
  go_ret
  exact ⟨er, bs⟩
 rw [if_pos c5] at H
 have c5b0 : decide (0 ≤ a0_2) = true := decide_eq_true c5
 clear c5
 by_cases c6 : a0_2 ≤ 31
 rotate_left
 ·rw [if_neg c6] at H
  have c6b0 := decide_eq_false c6
  clear c6
  obtain rfl := Option.some.inj H
  go_enter Tryd.func49, Tryd.ntmps49
  go_wp2_with (first | ((with_reducible refine gate_dst (N := 1) rfl ?_); refine box_event ?hg (N := 1) ?hd (cs := #[.string a0_0, .int .u8 a0_1, .int .i64 a0_2, .int .i64 a0_3, .int .i64 a0_4, .int .i64 a0_5, .int .i64 a0_6]) (t := 25) ?hr ?_; (case hd => rfl); (case hg => rfl); (case hr => first | (go_simp; done) | (go_simp; rfl)); intro gb606 hg w14 hbox hb; have n0_ := am (below_step bl hb); have n1_ := am (hbox); have n2_ := am ((by rw [hg]; exact (below_size bl) : w.heap.size ≤ gb606)); have n3_ := n2_; clear HB; have HB := n0_; have BK606 := n1_; have GW606 := n2_; have GE606 := n3_; clear n0_ n1_ n2_ n3_; clear hb hbox hg; obtain ⟨⟨hcz15_0, hcz15_1, hcz15_2, hcz15_3, hcz15_4, hcz15_5, hcz15_6⟩, hfz15_0, hfz15_1, hfz15_2, hfz15_3, hfz15_4, hfz15_5, hfz15_6⟩ := blkAll7 BK606) | ((with_reducible refine gate_callee (f := 39) rfl ?_); refine goesL_ (some 5) rfl rfl Tryd.func39 (by kernel_rfl) rfl #[.string (⟨#[100, 105, 111, 117, 120, 88, 99, 115, 101, 69, 102, 70, 103, 71]⟩ : ByteArray), .int .u8 a0_1] rfl ls ?_; (with_reducible refine (q_at.calls k (⟨#[100, 105, 111, 117, 120, 88, 99, 115, 101, 69, 102, 70, 103, 71]⟩ : ByteArray) a0_1 t607 _ A2.out).mono ?_); rintro e w' ⟨rfl, ⟨nd, rfl⟩⟩; refine ⟨_, rfl, ?_⟩))
  go_ret
  exact ⟨er, bs⟩
 rw [if_pos c6] at H
 have c6b0 := decide_eq_true c6
 clear c6
 replace H := Option.bind_eq_some_iff.mp H
 obtain ⟨t608, A70, H⟩ := H
 replace H : (if t608 = true then ((q_counted.f a0_5 a0_6 0).bind fun t609 => (some t609)) else (some false)) = some r := H
 have A7 := am A70
 clear A70
 by_cases c8 : t608 = true
 rotate_left
 ·replace c8 := Bool.eq_false_iff.mpr c8
  subst c8
  have H1 : (some false) = some r := by rw [if_neg (show ¬ (false = true) by decide)] at H; exact H
  clear H
  have H := H1
  clear H1
  obtain rfl := Option.some.inj H
  go_enter Tryd.func49, Tryd.ntmps49
  go_wp2_with (first | ((with_reducible refine gate_dst (N := 1) rfl ?_); refine box_event ?hg (N := 1) ?hd (cs := #[.string a0_0, .int .u8 a0_1, .int .i64 a0_2, .int .i64 a0_3, .int .i64 a0_4, .int .i64 a0_5, .int .i64 a0_6]) (t := 25) ?hr ?_; (case hd => rfl); (case hg => rfl); (case hr => first | (go_simp; done) | (go_simp; rfl)); intro gb606 hg w12 hbox hb; have n0_ := am (below_step bl hb); have n1_ := am (hbox); have n2_ := am ((by rw [hg]; exact (below_size bl) : w.heap.size ≤ gb606)); have n3_ := n2_; clear HB; have HB := n0_; have BK606 := n1_; have GW606 := n2_; have GE606 := n3_; clear n0_ n1_ n2_ n3_; clear hb hbox hg; obtain ⟨⟨hcz13_0, hcz13_1, hcz13_2, hcz13_3, hcz13_4, hcz13_5, hcz13_6⟩, hfz13_0, hfz13_1, hfz13_2, hfz13_3, hfz13_4, hfz13_5, hfz13_6⟩ := blkAll7 BK606) | ((with_reducible refine gate_callee (f := 39) rfl ?_); refine goesL_ (some 5) rfl rfl Tryd.func39 (by kernel_rfl) rfl #[.string (⟨#[100, 105, 111, 117, 120, 88, 99, 115, 101, 69, 102, 70, 103, 71]⟩ : ByteArray), .int .u8 a0_1] rfl ls ?_; (with_reducible refine (q_at.calls k (⟨#[100, 105, 111, 117, 120, 88, 99, 115, 101, 69, 102, 70, 103, 71]⟩ : ByteArray) a0_1 t607 _ A2.out).mono ?_); rintro e w' ⟨rfl, ⟨nd, rfl⟩⟩; refine ⟨_, rfl, ?_⟩) | (go_at_call 59; (with_reducible refine (q_counted.calls a0_3 a0_4 1 false _ A7.out).mono ?_); rintro e w' ⟨rfl, ⟨nd, rfl⟩⟩))
  go_ret
  exact ⟨er, bs⟩
 subst c8
 have H1 : ((q_counted.f a0_5 a0_6 0).bind fun t609 => (some t609)) = some r := by rw [if_pos rfl] at H; exact H
 clear H
 have H := H1
 clear H1
 replace H := Option.bind_eq_some_iff.mp H
 obtain ⟨t609, A90, H⟩ := H
 replace H : (some t609) = some r := H
 have A9 := am A90
 clear A90
 obtain rfl := Option.some.inj H
 go_enter Tryd.func49, Tryd.ntmps49
 go_wp2_with (first | ((with_reducible refine gate_dst (N := 1) rfl ?_); refine box_event ?hg (N := 1) ?hd (cs := #[.string a0_0, .int .u8 a0_1, .int .i64 a0_2, .int .i64 a0_3, .int .i64 a0_4, .int .i64 a0_5, .int .i64 a0_6]) (t := 25) ?hr ?_; (case hd => rfl); (case hg => rfl); (case hr => first | (go_simp; done) | (go_simp; rfl)); intro gb606 hg w10 hbox hb; have n0_ := am (below_step bl hb); have n1_ := am (hbox); have n2_ := am ((by rw [hg]; exact (below_size bl) : w.heap.size ≤ gb606)); have n3_ := n2_; clear HB; have HB := n0_; have BK606 := n1_; have GW606 := n2_; have GE606 := n3_; clear n0_ n1_ n2_ n3_; clear hb hbox hg; obtain ⟨⟨hcz11_0, hcz11_1, hcz11_2, hcz11_3, hcz11_4, hcz11_5, hcz11_6⟩, hfz11_0, hfz11_1, hfz11_2, hfz11_3, hfz11_4, hfz11_5, hfz11_6⟩ := blkAll7 BK606) | ((with_reducible refine gate_callee (f := 39) rfl ?_); refine goesL_ (some 5) rfl rfl Tryd.func39 (by kernel_rfl) rfl #[.string (⟨#[100, 105, 111, 117, 120, 88, 99, 115, 101, 69, 102, 70, 103, 71]⟩ : ByteArray), .int .u8 a0_1] rfl ls ?_; (with_reducible refine (q_at.calls k (⟨#[100, 105, 111, 117, 120, 88, 99, 115, 101, 69, 102, 70, 103, 71]⟩ : ByteArray) a0_1 t607 _ A2.out).mono ?_); rintro e w' ⟨rfl, ⟨nd, rfl⟩⟩; refine ⟨_, rfl, ?_⟩) | (go_at_call 59; (with_reducible refine (q_counted.calls a0_3 a0_4 1 true _ A7.out).mono ?_); rintro e w' ⟨rfl, ⟨nd, rfl⟩⟩) | (go_at_call 59; (with_reducible refine (q_counted.calls a0_5 a0_6 0 t609 _ A9.out).mono ?_); rintro e w' ⟨rfl, ⟨nd, rfl⟩⟩))
 go_ret
 exact ⟨er, bs⟩
end Go.Proofs.YtlmijjekaelhcaaDoor.EDi
end
section
namespace Go.Proofs.YtlmijjekaelhcaaDoor.EDi
open Go.RowKit Go.Proofs.YtlmijjekaelhcaaDoorW.PrintWords Go.Proofs.YtlmijjekaelhcaaDoorW.PrintLast Go.Proofs.YtlmijjekaelhcaaDoorW.PrintMore
attribute [local go_sem] max2_int min2_int max_two min_two max_three min_three max_four min_four
set_option linter.unusedVariables false
mutual
def q_Check.j0 : Nat → Bool → ByteArray → Int → Int → Int → Int → Int → Int → Option (Int)
 | 0, _, _, _, _, _, _, _, _ => none
 | k + 1, x3, x611000, x611001, x611002, x611003, x611004, x611005, x611006 => if x611001 = 0 then (if x3 = true then (if x611000.toList = ([] : List UInt8) then (q_Check.j1 k x3 false x611000 x611001 x611002 x611003 x611004 x611005 x611006) else ((q_at.f k x611000 37).bind fun t611 => (q_Check.j1 k x3 (decide (t611 < 0)) x611000 x611001 x611002 x611003 x611004 x611005 x611006))) else (q_Check.j1 k x3 false x611000 x611001 x611002 x611003 x611004 x611005 x611006)) else (q_Check.j1 k x3 false x611000 x611001 x611002 x611003 x611004 x611005 x611006)
def q_Check.j1 : Nat → Bool → Bool → ByteArray → Int → Int → Int → Int → Int → Int → Option (Int)
 | 0, _, _, _, _, _, _, _, _, _ => none
 | k + 1, x3, x43, x611000, x611001, x611002, x611003, x611004, x611005, x611006 => if x43 = true then (some 0) else (if x611001 = 37 then (if x3 = true then (q_Check.j2 k (x611000.toList == ([] : List UInt8)) x611000 x611001 x611002 x611003 x611004 x611005 x611006) else (q_Check.j2 k false x611000 x611001 x611002 x611003 x611004 x611005 x611006)) else (q_Check.j2 k false x611000 x611001 x611002 x611003 x611004 x611005 x611006))
def q_Check.j2 : Nat → Bool → ByteArray → Int → Int → Int → Int → Int → Int → Option (Int)
 | 0, _, _, _, _, _, _, _, _ => none
 | k + 1, x54, x611000, x611001, x611002, x611003, x611004, x611005, x611006 => if x54 = true then (some 0) else ((q_directive.f k x611000 x611001 x611002 x611003 x611004 x611005 x611006).bind fun t612 => (if t612 = true then (some 0) else (some 132)))
end
def q_Check.f (k : Nat) (a0_0 : ByteArray) (a0_1 : Int) (a0_2 : Int) (a0_3 : Int) (a0_4 : Int) (a0_5 : Int) (a0_6 : Int) : Option (Int) := if a0_2 = 0 then (if a0_3 = 0 then (if a0_4 = 0 then (if a0_5 = 0 then (q_Check.j0 k (a0_6 == 0) a0_0 a0_1 a0_2 a0_3 a0_4 a0_5 a0_6) else (q_Check.j0 k false a0_0 a0_1 a0_2 a0_3 a0_4 a0_5 a0_6)) else (q_Check.j0 k false a0_0 a0_1 a0_2 a0_3 a0_4 a0_5 a0_6)) else (q_Check.j0 k false a0_0 a0_1 a0_2 a0_3 a0_4 a0_5 a0_6)) else (q_Check.j0 k false a0_0 a0_1 a0_2 a0_3 a0_4 a0_5 a0_6)
theorem q_Check.mono_l : ∀ k, (∀ y0 y1 y2 y3 y4 y5 y6 y7, LeO (q_Check.j0 k y0 y1 y2 y3 y4 y5 y6 y7) (q_Check.j0 (k + 1) y0 y1 y2 y3 y4 y5 y6 y7)) ∧ (∀ y0 y1 y2 y3 y4 y5 y6 y7 y8, LeO (q_Check.j1 k y0 y1 y2 y3 y4 y5 y6 y7 y8) (q_Check.j1 (k + 1) y0 y1 y2 y3 y4 y5 y6 y7 y8)) ∧ (∀ y0 y1 y2 y3 y4 y5 y6 y7, LeO (q_Check.j2 k y0 y1 y2 y3 y4 y5 y6 y7) (q_Check.j2 (k + 1) y0 y1 y2 y3 y4 y5 y6 y7))
 | 0 => ⟨fun _ _ _ _ _ _ _ _ r h => by simp [q_Check.j0] at h, fun _ _ _ _ _ _ _ _ _ r h => by simp [q_Check.j1] at h, fun _ _ _ _ _ _ _ _ r h => by simp [q_Check.j2] at h⟩
 | k + 1 => by
  obtain ⟨ih0, ih1, ih2⟩ := q_Check.mono_l k
  refine ⟨?_, ?_, ?_⟩ <;> intros
  all_goals first | unfold q_Check.j0 | unfold q_Check.j1 | unfold q_Check.j2
  all_goals repeat' first
  | (with_reducible exact ih0 _ _ _ _ _ _ _ _)
  | (with_reducible exact ih1 _ _ _ _ _ _ _ _ _)
  | (with_reducible exact ih2 _ _ _ _ _ _ _ _)
  | (with_reducible exact q_at.mono _ _ _)
  | (with_reducible exact q_directive.mono _ _ _ _ _ _ _ _)
  | (with_reducible exact LeO.refl _)
  | (with_reducible exact LeO.none _)
  | (with_reducible refine LeO.ite ?_ ?_)
  | (with_reducible refine LeO.bind ?_ (fun _ => ?_))
  | exact ih0 _ _ _ _ _ _ _ _
  | exact ih1 _ _ _ _ _ _ _ _ _
  | exact ih2 _ _ _ _ _ _ _ _
  | exact q_at.mono _ _ _
  | exact q_directive.mono _ _ _ _ _ _ _ _
  | exact LeO.none _
  | refine LeO.ite ?_ ?_
  | refine LeO.bind ?_ (fun _ => ?_)
theorem q_Check.mono : ∀ a0 a1 a2 a3 a4 a5 a6 k, LeO (q_Check.f k a0 a1 a2 a3 a4 a5 a6) (q_Check.f (k + 1) a0 a1 a2 a3 a4 a5 a6) := by
 intro a0 a1 a2 a3 a4 a5 a6 k
 obtain ⟨ih0, ih1, ih2⟩ := q_Check.mono_l k
 unfold q_Check.f
 repeat' first
   | (with_reducible exact ih0 _ _ _ _ _ _ _ _)
   | (with_reducible exact ih1 _ _ _ _ _ _ _ _ _)
   | (with_reducible exact ih2 _ _ _ _ _ _ _ _)
   | (with_reducible exact q_at.mono _ _ _)
   | (with_reducible exact q_directive.mono _ _ _ _ _ _ _ _)
   | (with_reducible exact LeO.refl _)
   | (with_reducible exact LeO.none _)
   | (with_reducible refine LeO.ite ?_ ?_)
   | (with_reducible refine LeO.bind ?_ (fun _ => ?_))
   | exact ih0 _ _ _ _ _ _ _ _
   | exact ih1 _ _ _ _ _ _ _ _ _
   | exact ih2 _ _ _ _ _ _ _ _
   | exact q_at.mono _ _ _
   | exact q_directive.mono _ _ _ _ _ _ _ _
   | exact LeO.none _
   | refine LeO.ite ?_ ?_
   | refine LeO.bind ?_ (fun _ => ?_)
set_option maxHeartbeats 8000000 in
set_option maxRecDepth 100000 in
theorem q_Check.calls (k : Nat) (a0_0 : ByteArray) (a0_1 : Int) (a0_2 : Int) (a0_3 : Int) (a0_4 : Int) (a0_5 : Int) (a0_6 : Int) (r : Int) (w : World) (h : q_Check.f k a0_0 a0_1 a0_2 a0_3 a0_4 a0_5 a0_6 = some r) :
  Calls Tryd.prog 31 #[.agg #[.string a0_0, .int .u8 a0_1, .int .i64 a0_2, .int .i64 a0_3, .int .i64 a0_4, .int .i64 a0_5, .int .i64 a0_6]] w fun e w' => e = .returned (.int .i64 r) ∧ Below w.heap.size w w' := by
 have hu25 := Tryd.underlying25
 have HB := am (Below.refl w.heap.size w)
 have H : (if a0_2 = 0 then (if a0_3 = 0 then (if a0_4 = 0 then (if a0_5 = 0 then (q_Check.j0 k (a0_6 == 0) a0_0 a0_1 a0_2 a0_3 a0_4 a0_5 a0_6) else (q_Check.j0 k false a0_0 a0_1 a0_2 a0_3 a0_4 a0_5 a0_6)) else (q_Check.j0 k false a0_0 a0_1 a0_2 a0_3 a0_4 a0_5 a0_6)) else (q_Check.j0 k false a0_0 a0_1 a0_2 a0_3 a0_4 a0_5 a0_6)) else (q_Check.j0 k false a0_0 a0_1 a0_2 a0_3 a0_4 a0_5 a0_6)) = some r := h
 clear h
 have HC2 := am H
 clear H
 go_enter Tryd.func31, Tryd.ntmps31
 go_upto_region 1 with (first | ((with_reducible refine gate_dst (N := 1) rfl ?_); refine box_event ?hg (N := 1) ?hd (cs := #[.string a0_0, .int .u8 a0_1, .int .i64 a0_2, .int .i64 a0_3, .int .i64 a0_4, .int .i64 a0_5, .int .i64 a0_6]) (t := 25) ?hr ?_; (case hd => rfl); (case hg => rfl); (case hr => first | (go_simp; done) | (go_simp; rfl)); intro gb610 hg w3 hbox hb; have n0_ := am (below_step bl hb); have n1_ := am (hbox); have n2_ := am ((by rw [hg]; exact (below_size bl) : w.heap.size ≤ gb610)); have n3_ := n2_; clear HB; have HB := n0_; have BK610 := n1_; have GW610 := n2_; have GE610 := n3_; clear n0_ n1_ n2_ n3_; clear hb hbox hg))
 (try simp only [Act.put, List.setIfInBounds_toArray, List.set_cons_zero, List.set_cons_succ])
 go_cut [3] (fun v3 wc => ∃ (kq : Nat) (x3_1 : Bool), v3 = .bool x3_1 ∧ Aside0 (q_Check.j0 kq x3_1 a0_0 a0_1 a0_2 a0_3 a0_4 a0_5 a0_6 = some r) ∧ Aside0 (kq ≤ k) ∧ Aside0 (wc.heap[gb610]? = some (.cells #[.string a0_0, .int .u8 a0_1, .int .i64 a0_2, .int .i64 a0_3, .int .i64 a0_4, .int .i64 a0_5, .int .i64 a0_6] 25 (0, 0))) ∧ Aside0 (Below w.heap.size w wc))
 case first =>
  have H := HC2.out
  clear HC2
  by_cases c4 : a0_2 = 0
  rotate_left
  ·rw [if_neg c4] at H
   have c4b0 : (a0_2 == 0) = false := beq_eq_false_iff_ne.mpr c4
   have c4b1 : (a0_2 != 0) = true := bne_iff_ne.mpr c4
   (first | rw [c4b0] | (simp only [i64_w, i32_w]; rw [c4b0]) | skip)
   have H' := am H
   clear H
   obtain ⟨⟨hcz12_0, hcz12_1, hcz12_2, hcz12_3, hcz12_4, hcz12_5, hcz12_6⟩, hfz12_0, hfz12_1, hfz12_2, hfz12_3, hfz12_4, hfz12_5, hfz12_6⟩ := blkAll7 BK610
   go_wp2
   go_meet
   case rel => exact ⟨_, (false), tv, H', ⟨by first | omega | exact Nat.le_refl _⟩, ⟨by refine bu ?_; exact BK610.out⟩, ⟨bs⟩⟩
  rw [if_pos c4] at H
  have c4b0 : (a0_2 == 0) = true := beq_iff_eq.mpr c4
  have c4b1 : (a0_2 != 0) = false := bne_eq_false_iff_eq.mpr c4
  clear c4
  (first | rw [c4b0] | (simp only [i64_w, i32_w]; rw [c4b0]) | skip)
  by_cases c5 : a0_3 = 0
  rotate_left
  ·rw [if_neg c5] at H
   have c5b0 : (a0_3 == 0) = false := beq_eq_false_iff_ne.mpr c5
   have c5b1 : (a0_3 != 0) = true := bne_iff_ne.mpr c5
   have H' := am H
   clear H
   obtain ⟨⟨hcz11_0, hcz11_1, hcz11_2, hcz11_3, hcz11_4, hcz11_5, hcz11_6⟩, hfz11_0, hfz11_1, hfz11_2, hfz11_3, hfz11_4, hfz11_5, hfz11_6⟩ := blkAll7 BK610
   go_wp2
   go_meet
   case rel => exact ⟨_, (false), tv, H', ⟨by first | omega | exact Nat.le_refl _⟩, ⟨by refine bu ?_; exact BK610.out⟩, ⟨bs⟩⟩
  rw [if_pos c5] at H
  have c5b0 : (a0_3 == 0) = true := beq_iff_eq.mpr c5
  have c5b1 : (a0_3 != 0) = false := bne_eq_false_iff_eq.mpr c5
  clear c5
  by_cases c6 : a0_4 = 0
  rotate_left
  ·rw [if_neg c6] at H
   have c6b0 : (a0_4 == 0) = false := beq_eq_false_iff_ne.mpr c6
   have c6b1 : (a0_4 != 0) = true := bne_iff_ne.mpr c6
   have H' := am H
   clear H
   obtain ⟨⟨hcz10_0, hcz10_1, hcz10_2, hcz10_3, hcz10_4, hcz10_5, hcz10_6⟩, hfz10_0, hfz10_1, hfz10_2, hfz10_3, hfz10_4, hfz10_5, hfz10_6⟩ := blkAll7 BK610
   go_wp2
   go_meet
   case rel => exact ⟨_, (false), tv, H', ⟨by first | omega | exact Nat.le_refl _⟩, ⟨by refine bu ?_; exact BK610.out⟩, ⟨bs⟩⟩
  rw [if_pos c6] at H
  have c6b0 : (a0_4 == 0) = true := beq_iff_eq.mpr c6
  have c6b1 : (a0_4 != 0) = false := bne_eq_false_iff_eq.mpr c6
  clear c6
  by_cases c7 : a0_5 = 0
  rotate_left
  ·rw [if_neg c7] at H
   have c7b0 : (a0_5 == 0) = false := beq_eq_false_iff_ne.mpr c7
   have c7b1 : (a0_5 != 0) = true := bne_iff_ne.mpr c7
   have H' := am H
   clear H
   obtain ⟨⟨hcz9_0, hcz9_1, hcz9_2, hcz9_3, hcz9_4, hcz9_5, hcz9_6⟩, hfz9_0, hfz9_1, hfz9_2, hfz9_3, hfz9_4, hfz9_5, hfz9_6⟩ := blkAll7 BK610
   go_wp2
   go_meet
   case rel => exact ⟨_, (false), tv, H', ⟨by first | omega | exact Nat.le_refl _⟩, ⟨by refine bu ?_; exact BK610.out⟩, ⟨bs⟩⟩
  rw [if_pos c7] at H
  have c7b0 : (a0_5 == 0) = true := beq_iff_eq.mpr c7
  have c7b1 : (a0_5 != 0) = false := bne_eq_false_iff_eq.mpr c7
  clear c7
  have H' := am H
  clear H
  obtain ⟨⟨hcz8_0, hcz8_1, hcz8_2, hcz8_3, hcz8_4, hcz8_5, hcz8_6⟩, hfz8_0, hfz8_1, hfz8_2, hfz8_3, hfz8_4, hfz8_5, hfz8_6⟩ := blkAll7 BK610
  go_wp2
  go_meet
  case rel => exact ⟨_, ((a0_6 == 0)), tv, H', ⟨by first | omega | exact Nat.le_refl _⟩, ⟨by refine bu ?_; exact BK610.out⟩, ⟨bs⟩⟩
 case rest =>
  clear HC2
  try clear p2
  try clear c3
  try clear c4
  try clear c4b0
  try clear c4b1
  try clear c5
  try clear c5b0
  try clear c5b1
  try clear c6
  try clear c6b0
  try clear c6b1
  try clear c7
  try clear c7b0
  try clear c7b1
  try clear hcz10_0 hcz10_1 hcz10_2 hcz10_3 hcz10_4 hcz10_5 hcz10_6
  try clear hcz11_0 hcz11_1 hcz11_2 hcz11_3 hcz11_4 hcz11_5 hcz11_6
  try clear hcz12_0 hcz12_1 hcz12_2 hcz12_3 hcz12_4 hcz12_5 hcz12_6
  try clear hcz8_0 hcz8_1 hcz8_2 hcz8_3 hcz8_4 hcz8_5 hcz8_6
  try clear hcz9_0 hcz9_1 hcz9_2 hcz9_3 hcz9_4 hcz9_5 hcz9_6
  try clear hfz10_0 hfz10_1 hfz10_2 hfz10_3 hfz10_4 hfz10_5 hfz10_6
  try clear hfz11_0 hfz11_1 hfz11_2 hfz11_3 hfz11_4 hfz11_5 hfz11_6
  try clear hfz12_0 hfz12_1 hfz12_2 hfz12_3 hfz12_4 hfz12_5 hfz12_6
  try clear hfz8_0 hfz8_1 hfz8_2 hfz8_3 hfz8_4 hfz8_5 hfz8_6
  try clear hfz9_0 hfz9_1 hfz9_2 hfz9_3 hfz9_4 hfz9_5 hfz9_6
  obtain ⟨kq, x3_1, rfl, HA, HJ1, BK610, HB⟩ := hcut
  cases kq with
  | zero => exact absurd HA.out (by simp [q_Check.j0])
  | succ kj1 =>
   have H := HA.out
   clear HA
   simp only [q_Check.j0] at H
   have HC13 := am H
   clear H
   go_upto_region 2 with (fail)
   go_cut [43] (fun v43 wc => ∃ (kq : Nat) (x43_12 : Bool), v43 = .bool x43_12 ∧ Aside0 (q_Check.j1 kq x3_1 x43_12 a0_0 a0_1 a0_2 a0_3 a0_4 a0_5 a0_6 = some r) ∧ Aside0 (kq ≤ kj1) ∧ Aside0 (wc.heap[gb610]? = some (.cells #[.string a0_0, .int .u8 a0_1, .int .i64 a0_2, .int .i64 a0_3, .int .i64 a0_4, .int .i64 a0_5, .int .i64 a0_6] 25 (0, 0))) ∧ Aside0 (Below w.heap.size w wc))
   case first =>
    have H := HC13.out
    clear HC13
    by_cases c14 : a0_1 = 0
    rotate_left
    ·rw [if_neg c14] at H
     have c14b0 : (a0_1 == 0) = false := beq_eq_false_iff_ne.mpr c14
     have c14b1 : (a0_1 != 0) = true := bne_iff_ne.mpr c14
     (first | rw [c14b0] | (simp only [i64_w, i32_w]; rw [c14b0]) | skip)
     have H' := am H
     clear H
     obtain ⟨⟨hcz21_0, hcz21_1, hcz21_2, hcz21_3, hcz21_4, hcz21_5, hcz21_6⟩, hfz21_0, hfz21_1, hfz21_2, hfz21_3, hfz21_4, hfz21_5, hfz21_6⟩ := blkAll7 BK610
     go_wp2
     go_meet
     case rel => exact ⟨_, (false), tv, H', ⟨by have := HJ1.out; first | omega | exact Nat.le_refl _⟩, ⟨by refine bu ?_; exact BK610.out⟩, ⟨bs⟩⟩
    rw [if_pos c14] at H
    have c14b0 : (a0_1 == 0) = true := beq_iff_eq.mpr c14
    have c14b1 : (a0_1 != 0) = false := bne_eq_false_iff_eq.mpr c14
    clear c14
    (first | rw [c14b0] | (simp only [i64_w, i32_w]; rw [c14b0]) | skip)
    by_cases c15 : x3_1 = true
    rotate_left
    ·replace c15 := Bool.eq_false_iff.mpr c15
     subst c15
     have H1 : (q_Check.j1 kj1 false false a0_0 a0_1 a0_2 a0_3 a0_4 a0_5 a0_6) = some r := by rw [if_neg (show ¬ (false = true) by decide)] at H; exact H
     clear H
     have H := H1
     clear H1
     have H' := am H
     clear H
     obtain ⟨⟨hcz20_0, hcz20_1, hcz20_2, hcz20_3, hcz20_4, hcz20_5, hcz20_6⟩, hfz20_0, hfz20_1, hfz20_2, hfz20_3, hfz20_4, hfz20_5, hfz20_6⟩ := blkAll7 BK610
     go_wp2
     go_meet
     case rel => exact ⟨_, (false), tv, H', ⟨by have := HJ1.out; first | omega | exact Nat.le_refl _⟩, ⟨by refine bu ?_; exact BK610.out⟩, ⟨bs⟩⟩
    subst c15
    have H1 : (if a0_0.toList = ([] : List UInt8) then (q_Check.j1 kj1 true false a0_0 a0_1 a0_2 a0_3 a0_4 a0_5 a0_6) else ((q_at.f kj1 a0_0 37).bind fun t611 => (q_Check.j1 kj1 true (decide (t611 < 0)) a0_0 a0_1 a0_2 a0_3 a0_4 a0_5 a0_6))) = some r := by rw [if_pos rfl] at H; exact H
    clear H
    have H := H1
    clear H1
    by_cases c16 : a0_0.toList = ([] : List UInt8)
    ·rw [if_pos c16] at H
     have c16b0 : (a0_0.toList == ([] : List UInt8)) = true := beq_iff_eq.mpr c16
     have c16b1 : (a0_0.toList != ([] : List UInt8)) = false := bne_eq_false_iff_eq.mpr c16
     clear c16
     have H' := am H
     clear H
     obtain ⟨⟨hcz17_0, hcz17_1, hcz17_2, hcz17_3, hcz17_4, hcz17_5, hcz17_6⟩, hfz17_0, hfz17_1, hfz17_2, hfz17_3, hfz17_4, hfz17_5, hfz17_6⟩ := blkAll7 BK610
     go_wp2
     go_meet
     case rel => exact ⟨_, (false), tv, H', ⟨by have := HJ1.out; first | omega | exact Nat.le_refl _⟩, ⟨by refine bu ?_; exact BK610.out⟩, ⟨bs⟩⟩
    rw [if_neg c16] at H
    have c16b0 : (a0_0.toList == ([] : List UInt8)) = false := beq_eq_false_iff_ne.mpr c16
    have c16b1 : (a0_0.toList != ([] : List UInt8)) = true := bne_iff_ne.mpr c16
    replace H := Option.bind_eq_some_iff.mp H
    obtain ⟨t611, A180, H⟩ := H
    replace H : (q_Check.j1 kj1 true (decide (t611 < 0)) a0_0 a0_1 a0_2 a0_3 a0_4 a0_5 a0_6) = some r := H
    have A18 := am A180
    clear A180
    have H' := am H
    clear H
    obtain ⟨⟨hcz19_0, hcz19_1, hcz19_2, hcz19_3, hcz19_4, hcz19_5, hcz19_6⟩, hfz19_0, hfz19_1, hfz19_2, hfz19_3, hfz19_4, hfz19_5, hfz19_6⟩ := blkAll7 BK610
    go_wp2_with (first | (go_at_call 39; (with_reducible refine (q_at.calls kj1 a0_0 37 t611 _ A18.out).mono ?_); rintro e w' ⟨rfl, ⟨nd, rfl⟩⟩))
    go_meet
    case rel => exact ⟨_, (decide (t611 < 0)), tv, H', ⟨by have := HJ1.out; first | omega | exact Nat.le_refl _⟩, ⟨by refine bu ?_; exact BK610.out⟩, ⟨bs⟩⟩
   case rest =>
    clear HC13
    try clear c1
    try clear p2
    try clear c3
    try clear c4
    try clear c4b0
    try clear c4b1
    try clear c5
    try clear c5b0
    try clear c5b1
    try clear c6
    try clear c6b0
    try clear c6b1
    try clear c7
    try clear c7b0
    try clear c7b1
    try clear c14
    try clear c14b0
    try clear c14b1
    try clear c15
    try clear c16
    try clear c16b0
    try clear c16b1
    try clear hcz10_0 hcz10_1 hcz10_2 hcz10_3 hcz10_4 hcz10_5 hcz10_6
    try clear hcz11_0 hcz11_1 hcz11_2 hcz11_3 hcz11_4 hcz11_5 hcz11_6
    try clear hcz12_0 hcz12_1 hcz12_2 hcz12_3 hcz12_4 hcz12_5 hcz12_6
    try clear hcz17_0 hcz17_1 hcz17_2 hcz17_3 hcz17_4 hcz17_5 hcz17_6
    try clear hcz19_0 hcz19_1 hcz19_2 hcz19_3 hcz19_4 hcz19_5 hcz19_6
    try clear hcz20_0 hcz20_1 hcz20_2 hcz20_3 hcz20_4 hcz20_5 hcz20_6
    try clear hcz21_0 hcz21_1 hcz21_2 hcz21_3 hcz21_4 hcz21_5 hcz21_6
    try clear hcz8_0 hcz8_1 hcz8_2 hcz8_3 hcz8_4 hcz8_5 hcz8_6
    try clear hcz9_0 hcz9_1 hcz9_2 hcz9_3 hcz9_4 hcz9_5 hcz9_6
    try clear hfz10_0 hfz10_1 hfz10_2 hfz10_3 hfz10_4 hfz10_5 hfz10_6
    try clear hfz11_0 hfz11_1 hfz11_2 hfz11_3 hfz11_4 hfz11_5 hfz11_6
    try clear hfz12_0 hfz12_1 hfz12_2 hfz12_3 hfz12_4 hfz12_5 hfz12_6
    try clear hfz17_0 hfz17_1 hfz17_2 hfz17_3 hfz17_4 hfz17_5 hfz17_6
    try clear hfz19_0 hfz19_1 hfz19_2 hfz19_3 hfz19_4 hfz19_5 hfz19_6
    try clear hfz20_0 hfz20_1 hfz20_2 hfz20_3 hfz20_4 hfz20_5 hfz20_6
    try clear hfz21_0 hfz21_1 hfz21_2 hfz21_3 hfz21_4 hfz21_5 hfz21_6
    try clear hfz8_0 hfz8_1 hfz8_2 hfz8_3 hfz8_4 hfz8_5 hfz8_6
    try clear hfz9_0 hfz9_1 hfz9_2 hfz9_3 hfz9_4 hfz9_5 hfz9_6
    try clear p2
    obtain ⟨kq, x43_12, rfl, HA, HJ12, BK610, HB⟩ := hcut
    cases kq with
    | zero => exact absurd HA.out (by simp [q_Check.j1])
    | succ kj12 =>
     have H := HA.out
     clear HA
     simp only [q_Check.j1] at H
     by_cases c22 : x43_12 = true
     ·subst c22
      have H1 : (some 0) = some r := by rw [if_pos rfl] at H; exact H
      clear H
      have H := H1
      clear H1
      obtain rfl := Option.some.inj H
      go_wp2
      go_ret
      exact ⟨er, bs⟩
     replace c22 := Bool.eq_false_iff.mpr c22
     subst c22
     have H1 : (if a0_1 = 37 then (if x3_1 = true then (q_Check.j2 kj12 (a0_0.toList == ([] : List UInt8)) a0_0 a0_1 a0_2 a0_3 a0_4 a0_5 a0_6) else (q_Check.j2 kj12 false a0_0 a0_1 a0_2 a0_3 a0_4 a0_5 a0_6)) else (q_Check.j2 kj12 false a0_0 a0_1 a0_2 a0_3 a0_4 a0_5 a0_6)) = some r := by rw [if_neg (show ¬ (false = true) by decide)] at H; exact H
     clear H
     have H := H1
     clear H1
     have HC23 := am H
     clear H
     go_upto_region 4 with (fail)
     go_cut [54] (fun v54 wc => ∃ (kq : Nat) (x54_22 : Bool), v54 = .bool x54_22 ∧ Aside0 (q_Check.j2 kq x54_22 a0_0 a0_1 a0_2 a0_3 a0_4 a0_5 a0_6 = some r) ∧ Aside0 (kq ≤ kj12) ∧ Aside0 (wc.heap[gb610]? = some (.cells #[.string a0_0, .int .u8 a0_1, .int .i64 a0_2, .int .i64 a0_3, .int .i64 a0_4, .int .i64 a0_5, .int .i64 a0_6] 25 (0, 0))) ∧ Aside0 (Below w.heap.size w wc))
     case first =>
      have H := HC23.out
      clear HC23
      by_cases c24 : a0_1 = 37
      rotate_left
      ·rw [if_neg c24] at H
       have c24b0 : (a0_1 == 37) = false := beq_eq_false_iff_ne.mpr c24
       have c24b1 : (a0_1 != 37) = true := bne_iff_ne.mpr c24
       (first | rw [c24b0] | (simp only [i64_w, i32_w]; rw [c24b0]) | skip)
       have H' := am H
       clear H
       obtain ⟨⟨hcz28_0, hcz28_1, hcz28_2, hcz28_3, hcz28_4, hcz28_5, hcz28_6⟩, hfz28_0, hfz28_1, hfz28_2, hfz28_3, hfz28_4, hfz28_5, hfz28_6⟩ := blkAll7 BK610
       go_wp2
       go_meet
       case rel => exact ⟨_, (false), tv, H', ⟨by have := HJ1.out; have := HJ12.out; first | omega | exact Nat.le_refl _⟩, ⟨by refine bu ?_; exact BK610.out⟩, ⟨bs⟩⟩
      rw [if_pos c24] at H
      have c24b0 : (a0_1 == 37) = true := beq_iff_eq.mpr c24
      have c24b1 : (a0_1 != 37) = false := bne_eq_false_iff_eq.mpr c24
      clear c24
      (first | rw [c24b0] | (simp only [i64_w, i32_w]; rw [c24b0]) | skip)
      by_cases c25 : x3_1 = true
      ·subst c25
       have H1 : (q_Check.j2 kj12 (a0_0.toList == ([] : List UInt8)) a0_0 a0_1 a0_2 a0_3 a0_4 a0_5 a0_6) = some r := by rw [if_pos rfl] at H; exact H
       clear H
       have H := H1
       clear H1
       have H' := am H
       clear H
       obtain ⟨⟨hcz26_0, hcz26_1, hcz26_2, hcz26_3, hcz26_4, hcz26_5, hcz26_6⟩, hfz26_0, hfz26_1, hfz26_2, hfz26_3, hfz26_4, hfz26_5, hfz26_6⟩ := blkAll7 BK610
       go_wp2
       go_meet
       case rel => exact ⟨_, ((a0_0.toList == ([] : List UInt8))), tv, H', ⟨by have := HJ1.out; have := HJ12.out; first | omega | exact Nat.le_refl _⟩, ⟨by refine bu ?_; exact BK610.out⟩, ⟨bs⟩⟩
      replace c25 := Bool.eq_false_iff.mpr c25
      subst c25
      have H1 : (q_Check.j2 kj12 false a0_0 a0_1 a0_2 a0_3 a0_4 a0_5 a0_6) = some r := by rw [if_neg (show ¬ (false = true) by decide)] at H; exact H
      clear H
      have H := H1
      clear H1
      have H' := am H
      clear H
      obtain ⟨⟨hcz27_0, hcz27_1, hcz27_2, hcz27_3, hcz27_4, hcz27_5, hcz27_6⟩, hfz27_0, hfz27_1, hfz27_2, hfz27_3, hfz27_4, hfz27_5, hfz27_6⟩ := blkAll7 BK610
      go_wp2
      go_meet
      case rel => exact ⟨_, (false), tv, H', ⟨by have := HJ1.out; have := HJ12.out; first | omega | exact Nat.le_refl _⟩, ⟨by refine bu ?_; exact BK610.out⟩, ⟨bs⟩⟩
     case rest =>
      clear HC23
      try clear c1
      try clear c2
      try clear p2
      try clear c3
      try clear c4
      try clear c4b0
      try clear c4b1
      try clear c5
      try clear c5b0
      try clear c5b1
      try clear c6
      try clear c6b0
      try clear c6b1
      try clear c7
      try clear c7b0
      try clear c7b1
      try clear c14
      try clear c14b0
      try clear c14b1
      try clear c15
      try clear c16
      try clear c16b0
      try clear c16b1
      try clear c22
      try clear c24
      try clear c24b0
      try clear c24b1
      try clear c25
      try clear hcz10_0 hcz10_1 hcz10_2 hcz10_3 hcz10_4 hcz10_5 hcz10_6
      try clear hcz11_0 hcz11_1 hcz11_2 hcz11_3 hcz11_4 hcz11_5 hcz11_6
      try clear hcz12_0 hcz12_1 hcz12_2 hcz12_3 hcz12_4 hcz12_5 hcz12_6
      try clear hcz17_0 hcz17_1 hcz17_2 hcz17_3 hcz17_4 hcz17_5 hcz17_6
      try clear hcz19_0 hcz19_1 hcz19_2 hcz19_3 hcz19_4 hcz19_5 hcz19_6
      try clear hcz20_0 hcz20_1 hcz20_2 hcz20_3 hcz20_4 hcz20_5 hcz20_6
      try clear hcz21_0 hcz21_1 hcz21_2 hcz21_3 hcz21_4 hcz21_5 hcz21_6
      try clear hcz26_0 hcz26_1 hcz26_2 hcz26_3 hcz26_4 hcz26_5 hcz26_6
      try clear hcz27_0 hcz27_1 hcz27_2 hcz27_3 hcz27_4 hcz27_5 hcz27_6
      try clear hcz28_0 hcz28_1 hcz28_2 hcz28_3 hcz28_4 hcz28_5 hcz28_6
      try clear hcz8_0 hcz8_1 hcz8_2 hcz8_3 hcz8_4 hcz8_5 hcz8_6
      try clear hcz9_0 hcz9_1 hcz9_2 hcz9_3 hcz9_4 hcz9_5 hcz9_6
      try clear hfz10_0 hfz10_1 hfz10_2 hfz10_3 hfz10_4 hfz10_5 hfz10_6
      try clear hfz11_0 hfz11_1 hfz11_2 hfz11_3 hfz11_4 hfz11_5 hfz11_6
      try clear hfz12_0 hfz12_1 hfz12_2 hfz12_3 hfz12_4 hfz12_5 hfz12_6
      try clear hfz17_0 hfz17_1 hfz17_2 hfz17_3 hfz17_4 hfz17_5 hfz17_6
      try clear hfz19_0 hfz19_1 hfz19_2 hfz19_3 hfz19_4 hfz19_5 hfz19_6
      try clear hfz20_0 hfz20_1 hfz20_2 hfz20_3 hfz20_4 hfz20_5 hfz20_6
      try clear hfz21_0 hfz21_1 hfz21_2 hfz21_3 hfz21_4 hfz21_5 hfz21_6
      try clear hfz26_0 hfz26_1 hfz26_2 hfz26_3 hfz26_4 hfz26_5 hfz26_6
      try clear hfz27_0 hfz27_1 hfz27_2 hfz27_3 hfz27_4 hfz27_5 hfz27_6
      try clear hfz28_0 hfz28_1 hfz28_2 hfz28_3 hfz28_4 hfz28_5 hfz28_6
      try clear hfz8_0 hfz8_1 hfz8_2 hfz8_3 hfz8_4 hfz8_5 hfz8_6
      try clear hfz9_0 hfz9_1 hfz9_2 hfz9_3 hfz9_4 hfz9_5 hfz9_6
      try clear p2
      obtain ⟨kq, x54_22, rfl, HA, HJ22, BK610, HB⟩ := hcut
      cases kq with
      | zero => exact absurd HA.out (by simp [q_Check.j2])
      | succ kj22 =>
       have H := HA.out
       clear HA
       simp only [q_Check.j2] at H
       by_cases c29 : x54_22 = true
       ·subst c29
        have H1 : (some 0) = some r := by rw [if_pos rfl] at H; exact H
        clear H
        have H := H1
        clear H1
        obtain rfl := Option.some.inj H
        go_wp2
        go_ret
        exact ⟨er, bs⟩
       replace c29 := Bool.eq_false_iff.mpr c29
       subst c29
       have H1 : ((q_directive.f kj22 a0_0 a0_1 a0_2 a0_3 a0_4 a0_5 a0_6).bind fun t612 => (if t612 = true then (some 0) else (some 132))) = some r := by rw [if_neg (show ¬ (false = true) by decide)] at H; exact H
       clear H
       have H := H1
       clear H1
       replace H := Option.bind_eq_some_iff.mp H
       obtain ⟨t612, A300, H⟩ := H
       replace H : (if t612 = true then (some 0) else (some 132)) = some r := H
       have A30 := am A300
       clear A300
       by_cases c31 : t612 = true
       ·subst c31
        have H1 : (some 0) = some r := by rw [if_pos rfl] at H; exact H
        clear H
        have H := H1
        clear H1
        obtain rfl := Option.some.inj H
        obtain ⟨⟨hcz32_0, hcz32_1, hcz32_2, hcz32_3, hcz32_4, hcz32_5, hcz32_6⟩, hfz32_0, hfz32_1, hfz32_2, hfz32_3, hfz32_4, hfz32_5, hfz32_6⟩ := blkAll7 BK610
        go_wp2_with (first | ((with_reducible refine gate_callee (f := 49) rfl ?_); refine goesL_ (some 56) rfl rfl Tryd.func49 (by kernel_rfl) rfl #[.agg #[.string a0_0, .int .u8 a0_1, .int .i64 a0_2, .int .i64 a0_3, .int .i64 a0_4, .int .i64 a0_5, .int .i64 a0_6]] rfl ls ?_; (with_reducible refine (q_directive.calls kj22 a0_0 a0_1 a0_2 a0_3 a0_4 a0_5 a0_6 true _ A30.out).mono ?_); rintro e w33 ⟨rfl, hb⟩; refine ⟨_, rfl, ?_⟩; have n0_ := am (blk_below (bu BK610.out) hb); have n1_ := am (below_step bs hb); clear BK610; clear HB; have BK610 := n0_; have HB := n1_; clear n0_ n1_; (try clear hb); (try clear hb2); (try clear hk); (try clear hi)))
        go_ret
        exact ⟨er, bs⟩
       replace c31 := Bool.eq_false_iff.mpr c31
       subst c31
       have H1 : (some 132) = some r := by rw [if_neg (show ¬ (false = true) by decide)] at H; exact H
       clear H
       have H := H1
       clear H1
       obtain rfl := Option.some.inj H
       obtain ⟨⟨hcz34_0, hcz34_1, hcz34_2, hcz34_3, hcz34_4, hcz34_5, hcz34_6⟩, hfz34_0, hfz34_1, hfz34_2, hfz34_3, hfz34_4, hfz34_5, hfz34_6⟩ := blkAll7 BK610
       go_wp2_with (first | ((with_reducible refine gate_callee (f := 49) rfl ?_); refine goesL_ (some 56) rfl rfl Tryd.func49 (by kernel_rfl) rfl #[.agg #[.string a0_0, .int .u8 a0_1, .int .i64 a0_2, .int .i64 a0_3, .int .i64 a0_4, .int .i64 a0_5, .int .i64 a0_6]] rfl ls ?_; (with_reducible refine (q_directive.calls kj22 a0_0 a0_1 a0_2 a0_3 a0_4 a0_5 a0_6 false _ A30.out).mono ?_); rintro e w35 ⟨rfl, hb⟩; refine ⟨_, rfl, ?_⟩; have n0_ := am (blk_below (bu BK610.out) hb); have n1_ := am (below_step bs hb); clear BK610; clear HB; have BK610 := n0_; have HB := n1_; clear n0_ n1_; (try clear hb); (try clear hb2); (try clear hk); (try clear hi)))
       go_ret
       exact ⟨er, bs⟩
end Go.Proofs.YtlmijjekaelhcaaDoor.EDi
end
section
namespace Go.Proofs.YtlmijjekaelhcaaDoor.EDi
open Go.RowKit Go.Proofs.YtlmijjekaelhcaaDoorW.PrintWords Go.Proofs.YtlmijjekaelhcaaDoorW.PrintLast Go.Proofs.YtlmijjekaelhcaaDoorW.PrintMore
attribute [local go_sem] max2_int min2_int max_two min_two max_three min_three max_four min_four
set_option linter.unusedVariables false
def q_decimal.l0 : Nat → Int → ByteArray → Option (ByteArray)
 | 0, _, _ => none
 | k + 1, x0, x3 => (some (([(wrap64 (48 + (Int.tmod x0 10))) % 256] : List Int) : List Int)).bind fun y613 => (if (strOfNums y613).size + x3.size ≤ 9223372036854775807 then (if (wrap64 (Int.tdiv x0 10)) = 0 then (some ((strOfNums y613) ++ x3)) else (q_decimal.l0 k (wrap64 (Int.tdiv x0 10)) ((strOfNums y613) ++ x3))) else (none))
def q_decimal.f (k : Nat) (a0 : Int) : Option (ByteArray) := q_decimal.l0 k a0 (⟨#[]⟩ : ByteArray)
theorem q_decimal.mono_l : ∀ k, (∀ y0 y1, LeO (q_decimal.l0 k y0 y1) (q_decimal.l0 (k + 1) y0 y1))
 | 0 => fun _ _ r h => by simp [q_decimal.l0] at h
 | k + 1 => by
  have ih0 := q_decimal.mono_l k
  ·intro y0 y1
   unfold q_decimal.l0
   repeat' first
   | (with_reducible exact ih0 _ _)
   | (with_reducible exact LeO.refl _)
   | (with_reducible exact LeO.none _)
   | (with_reducible refine LeO.ite ?_ ?_)
   | (with_reducible refine LeO.bind ?_ (fun _ => ?_))
   | exact ih0 _ _
   | exact LeO.none _
   | refine LeO.ite ?_ ?_
   | refine LeO.bind ?_ (fun _ => ?_)
theorem q_decimal.mono : ∀ a0 k, LeO (q_decimal.f k a0) (q_decimal.f (k + 1) a0) := by
 intro a0 k
 have ih0 := q_decimal.mono_l k
 unfold q_decimal.f
 repeat' first
   | (with_reducible exact ih0 _ _)
   | (with_reducible exact LeO.refl _)
   | (with_reducible exact LeO.none _)
   | (with_reducible refine LeO.ite ?_ ?_)
   | (with_reducible refine LeO.bind ?_ (fun _ => ?_))
   | exact ih0 _ _
   | exact LeO.none _
   | refine LeO.ite ?_ ?_
   | refine LeO.bind ?_ (fun _ => ?_)
set_option maxHeartbeats 8000000 in
set_option maxRecDepth 100000 in
theorem q_decimal.calls (k : Nat) (a0 : Int) (r : ByteArray) (w : World) (h : q_decimal.f k a0 = some r) :
  Calls Tryd.prog 60 #[.int .i64 a0] w fun e w' => e = .returned (.string r) ∧ Below w.heap.size w w' := by
 have HB := am (Below.refl w.heap.size w)
 have H : (q_decimal.l0 k a0 (⟨#[]⟩ : ByteArray)) = some r := h
 clear h
 have H' := am H
 clear H
 go_enter Tryd.func60, Tryd.ntmps60
 go_wp2
 go_loopg [0, 3] k (fun kq v0 v3 w' => ∃ (x0_1 : Int) (x3_1 : ByteArray), v0 = .int .i64 x0_1 ∧ v3 = .string x3_1 ∧ Aside0 (q_decimal.l0 kq x0_1 x3_1 = some r) ∧ Aside0 (kq ≤ k) ∧ Aside0 (Below w.heap.size w w'))
 case atStart => exact ⟨(a0), ((⟨#[]⟩ : ByteArray)), tv, tv, H', ⟨Nat.le_refl _⟩, ⟨bl⟩⟩
 case round =>
  clear H'
  obtain ⟨x0_1, x3_1, rfl, rfl, HA, HK1, HB⟩ := hrel
  cases gk with
  | zero => exact absurd HA.out (by simp [q_decimal.l0])
  | succ k1 =>
   have H := HA.out
   clear HA
   simp only [q_decimal.l0] at H
   obtain ⟨y613, hy613⟩ : ∃ y_ : List Int, y_ = (([(wrap64 (48 + (Int.tmod x0_1 10))) % 256] : List Int)) := ⟨_, rfl⟩
   replace H : (if (strOfNums y613).size + x3_1.size ≤ 9223372036854775807 then (if (wrap64 (Int.tdiv x0_1 10)) = 0 then (some ((strOfNums y613) ++ x3_1)) else (q_decimal.l0 k1 (wrap64 (Int.tdiv x0_1 10)) ((strOfNums y613) ++ x3_1))) else (none)) = some r := by first | (rw [hy613]; with_reducible exact H) | (have H2_ := (Option.bind_some _ _).symm.trans H; rw [hy613]; with_reducible exact H2_) | (have H2_ := (Option.bind_some _ _).symm.trans H; with_reducible exact H2_) | with_reducible exact H | (rw [hy613]; exact H) | exact H
   have Ny613 := am hy613
   clear hy613
   by_cases c2 : (strOfNums y613).size + x3_1.size ≤ 9223372036854775807
   rotate_left
   ·rw [if_neg c2] at H
    exact absurd H (by simp)
   rw [if_pos c2] at H
   have c2b0 := eq_true c2
   have c2b1 := decide_eq_true c2
   try have c2b2 : (9223372036854775807 < (strOfNums y613).size + x3_1.size) = False := eq_false (Nat.not_lt.2 c2)
   by_cases c3 : (wrap64 (Int.tdiv x0_1 10)) = 0
   ·rw [if_pos c3] at H
    have c3b0 : ((wrap64 (Int.tdiv x0_1 10)) == 0) = true := beq_iff_eq.mpr c3
    have c3b1 : ((wrap64 (Int.tdiv x0_1 10)) != 0) = false := bne_eq_false_iff_eq.mpr c3
    clear c3
    obtain rfl := Option.some.inj H
    go_wp2_with (first | ((with_reducible refine gate_dst (N := 8) rfl ?_); refine Kd.R_lit (Kd.int .u8) _ 5 ?hg (N := 8) ?hd (xs := ([(wrap64 (48 + (Int.tmod x0_1 10))) % 256] : List Int)) (inner := [.int .u8 ((wrap64 (48 + (Int.tmod x0_1 10))) % 256)]) (ok := fun _ => True) (okp := fun _ => True) ?hr ?hp (fun _ hk => hk) trivial (Below.refl _ _) (Nat.le_refl _) (by simp) ?_; (case hd => rfl); (case hg => rfl); (case hr => first | (go_simp; done) | (go_simp; rfl)); (case hp => exact (Reps.one (show Kd.M (Kd.int .u8) _ _ _ ((wrap64 (48 + (Int.tmod x0_1 10))) % 256) [.int .u8 ((wrap64 (48 + (Int.tmod x0_1 10))) % 256)] from rfl) (Reps.none _ _))); intro v614 w4 ho5 hb hg_ hnew_; clear hg_ hnew_; (first | rw [← Ny613.out] at ho5 | (simp only [Int.reduceToNat] at ho5; rw [← Ny613.out] at ho5)); have n0_ := am (Kd.R_lower ho5 (below_size bl)); have n1_ := am (below_step bl hb); clear HB; have HO615 := n0_; have HB := n1_; clear n0_ n1_; clear hb ho5; have hcv6 := own_string (P := Tryd.prog) Tryd.underlying60 Tryd.underlying5 Tryd.underlying9 (Kd.own_of_R HO615.out)))
    go_ret
    exact ⟨er, bl⟩
   rw [if_neg c3] at H
   have c3b0 : ((wrap64 (Int.tdiv x0_1 10)) == 0) = false := beq_eq_false_iff_ne.mpr c3
   have c3b1 : ((wrap64 (Int.tdiv x0_1 10)) != 0) = true := bne_iff_ne.mpr c3
   have H' := am H
   clear H
   go_wp2_with (first | ((with_reducible refine gate_dst (N := 8) rfl ?_); refine Kd.R_lit (Kd.int .u8) _ 5 ?hg (N := 8) ?hd (xs := ([(wrap64 (48 + (Int.tmod x0_1 10))) % 256] : List Int)) (inner := [.int .u8 ((wrap64 (48 + (Int.tmod x0_1 10))) % 256)]) (ok := fun _ => True) (okp := fun _ => True) ?hr ?hp (fun _ hk => hk) trivial (Below.refl _ _) (Nat.le_refl _) (by simp) ?_; (case hd => rfl); (case hg => rfl); (case hr => first | (go_simp; done) | (go_simp; rfl)); (case hp => exact (Reps.one (show Kd.M (Kd.int .u8) _ _ _ ((wrap64 (48 + (Int.tmod x0_1 10))) % 256) [.int .u8 ((wrap64 (48 + (Int.tmod x0_1 10))) % 256)] from rfl) (Reps.none _ _))); intro v614 w7 ho8 hb hg_ hnew_; clear hg_ hnew_; (first | rw [← Ny613.out] at ho8 | (simp only [Int.reduceToNat] at ho8; rw [← Ny613.out] at ho8)); have n0_ := am (Kd.R_lower ho8 (below_size bl)); have n1_ := am (below_step bl hb); clear HB; have HO615 := n0_; have HB := n1_; clear n0_ n1_; clear hb ho8; have hcv9 := own_string (P := Tryd.prog) Tryd.underlying60 Tryd.underlying5 Tryd.underlying9 (Kd.own_of_R HO615.out)))
   go_roundg k1
   case measure => have := HK1.out; omega
   case rel => exact ⟨(wrap64 (Int.tdiv x0_1 10)), ((strOfNums y613) ++ x3_1), tv, tv, H', ⟨by have := HK1.out; omega⟩, ⟨bl⟩⟩
end Go.Proofs.YtlmijjekaelhcaaDoor.EDi
end
