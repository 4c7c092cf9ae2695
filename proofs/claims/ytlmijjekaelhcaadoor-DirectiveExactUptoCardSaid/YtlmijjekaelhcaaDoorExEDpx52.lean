/-
 A text of this session's own.
-/
import Derived.Test.YtlmijjekaelhcaaDoorExA0
import Derived.Test.YtlmijjekaelhcaaDoorExEDpx0
import Derived.Test.YtlmijjekaelhcaaDoorExEDix2
import Derived.Test.YtlmijjekaelhcaaDoorExEDix5
import Derived.Test.YtlmijjekaelhcaaDoorExEDix12
import Derived.Test.YtlmijjekaelhcaaDoorExEDix22
import Derived.Test.YtlmijjekaelhcaaDoorExEDix23
import Derived.Test.YtlmijjekaelhcaaDoorExEDix28
import Derived.Test.YtlmijjekaelhcaaDoorExEDix29
import Derived.Test.YtlmijjekaelhcaaDoorExEDmx32
import Derived.Test.YtlmijjekaelhcaaDoorExEDpx36
import Derived.Test.YtlmijjekaelhcaaDoorExEDpx40
import Derived.Test.YtlmijjekaelhcaaDoorExEDpx44
import Derived.Test.YtlmijjekaelhcaaDoorExEDpx48
import Derived.Test.YtlmijjekaelhcaaDoorExEDpx49
import Derived.Test.YtlmijjekaelhcaaDoorExEDpx51
import Derived.Test.YtlmijjekaelhcaaDoorExX
namespace Go.Proofs.YtlmijjekaelhcaaDoor.EDi
open Go.RowKit Go.Proofs.YtlmijjekaelhcaaDoorW.PrintWords Go.Proofs.YtlmijjekaelhcaaDoorW.PrintLast Go.Proofs.YtlmijjekaelhcaaDoorW.PrintMore
attribute [local go_sem] max2_int min2_int max_two min_two max_three min_three max_four min_four
set_option linter.unusedVariables false
set_option linter.unusedSimpArgs false
open Go.Proofs.YtlmijjekaelhcaaDoor.X
attribute [local go_sem high] eqA37
def w_right.f (k : Nat) (a0_0 : Int) (a0_1 : ByteArray) (a0_2 : ByteArray) (a0_3 : Int) (a0_4 : Int) (a0_5 : Int) (a0_6 : Int) (a0_7 : Int) (a0_8 : Int) (l0_9 : List (S25)) (a0_10 : Int) (a0_11 : Int) : Option (Bool) := if a0_0 = 1 then ((d_Parse.f k a0_1).bind fun bt689 => ((q_Parse.f k a0_1).bind fun bt694 => ((w_same.f k bt689.1 bt694.1).bind fun t699 => (if t699 = true then (if bt689.2.1 = bt694.2.1 then (some (bt689.2.2 == bt694.2.2)) else (some false)) else (some false))))) else (if a0_0 = 2 then ((d_Check.f k a0_2 a0_3 a0_4 a0_5 a0_6 a0_7 a0_8).bind fun t700 => ((q_Check.f k a0_2 a0_3 a0_4 a0_5 a0_6 a0_7 a0_8).bind fun t701 => (some (t700 == t701)))) else (if a0_0 = 3 then ((w_copied.f l0_9).bind fun t702 => ((q_Print.f k t702).bind fun bt705 => ((d_Print.f k l0_9).bind fun bt707 => (if bt707.1.toList = bt705.1.toList then (some (bt707.2 == bt705.2)) else (some false))))) else (if a0_0 = 4 then ((w_copied.f l0_9).bind fun t709 => ((q_Wants.f k t709).bind fun t712 => ((d_Wants.f k l0_9).bind fun t713 => (some (t713 == t712))))) else (if a0_0 = 5 then ((d_Settle.f k a0_2 a0_3 a0_4 a0_5 a0_6 a0_7 a0_8 a0_10 a0_11).bind fun bt714 => ((q_Settle.f k a0_2 a0_3 a0_4 a0_5 a0_6 a0_7 a0_8 a0_10 a0_11).bind fun bt720 => (if (bt714.1 == bt720.1 && (bt714.2.1 == bt720.2.1 && (bt714.2.2.1 == bt720.2.2.1 && (bt714.2.2.2.1 == bt720.2.2.2.1)))) = true then (some (bt714.2.2.2.2 == bt720.2.2.2.2)) else (some false)))) else (if a0_0 = 6 then ((d_Single.f k a0_1).bind fun bt726 => ((q_Single.f k a0_1).bind fun bt734 => (if bt726.1.toList = bt734.1.toList then (if (bt726.2.1 == bt734.2.1 && (bt726.2.2.1 == bt734.2.2.1 && (bt726.2.2.2.1 == bt734.2.2.2.1 && (bt726.2.2.2.2.1 == bt734.2.2.2.2.1)))) = true then (if bt726.2.2.2.2.2.1.toList = bt734.2.2.2.2.2.1.toList then (some (bt726.2.2.2.2.2.2 == bt734.2.2.2.2.2.2)) else (some false)) else (some false)) else (some false)))) else (some true))))))
theorem w_right.mono : ∀ a0 a1 a2 a3 a4 a5 a6 a7 a8 a9 a10 a11 k, LeO (w_right.f k a0 a1 a2 a3 a4 a5 a6 a7 a8 a9 a10 a11) (w_right.f (k + 1) a0 a1 a2 a3 a4 a5 a6 a7 a8 a9 a10 a11) := by
 intro a0 a1 a2 a3 a4 a5 a6 a7 a8 a9 a10 a11 k
 unfold w_right.f
 repeat' first
   | (with_reducible exact w_same.mono _ _ _)
   | (with_reducible exact q_Check.mono _ _ _ _ _ _ _ _)
   | (with_reducible exact q_Parse.mono _ _)
   | (with_reducible exact q_Print.mono _ _)
   | (with_reducible exact q_Settle.mono _ _ _ _ _ _ _ _ _ _)
   | (with_reducible exact q_Single.mono _ _)
   | (with_reducible exact q_Wants.mono _ _)
   | (with_reducible exact d_Check.mono _ _ _ _ _ _ _ _)
   | (with_reducible exact d_Parse.mono _ _)
   | (with_reducible exact d_Print.mono _ _)
   | (with_reducible exact d_Settle.mono _ _ _ _ _ _ _ _ _ _)
   | (with_reducible exact d_Single.mono _ _)
   | (with_reducible exact d_Wants.mono _ _)
   | (with_reducible exact LeO.refl _)
   | (with_reducible exact LeO.none _)
   | (with_reducible refine LeO.ite ?_ ?_)
   | (with_reducible refine LeO.bind ?_ (fun _ => ?_))
   | exact w_same.mono _ _ _
   | exact q_Check.mono _ _ _ _ _ _ _ _
   | exact q_Parse.mono _ _
   | exact q_Print.mono _ _
   | exact q_Settle.mono _ _ _ _ _ _ _ _ _ _
   | exact q_Single.mono _ _
   | exact q_Wants.mono _ _
   | exact d_Check.mono _ _ _ _ _ _ _ _
   | exact d_Parse.mono _ _
   | exact d_Print.mono _ _
   | exact d_Settle.mono _ _ _ _ _ _ _ _ _ _
   | exact d_Single.mono _ _
   | exact d_Wants.mono _ _
   | exact LeO.none _
   | refine LeO.ite ?_ ?_
   | refine LeO.bind ?_ (fun _ => ?_)
def w_right.T7 : Bool × List (List Nat × List Nat) := (true, [([], []), ([0], [0]), ([1], [1]), ([], []), ([3], [3]), ([4, 2], [4]), ([2, 5], [2, 5]), ([6, 5, 0, 1, 2, 3, 4, 5, 6], [6])])
def w_right.B7 : List Nat := [0, 1, 3, 0, 8, 31, 63, 127]
theorem w_right.tab7 : rtab .any (opsOf Tryd.f18 7) = w_right.T7 := by kernel_rfl
theorem w_right.bits7 : waitsOk w_right.T7.2 w_right.B7 = true := by kernel_rfl
set_option maxHeartbeats 8000000 in
set_option maxRecDepth 100000 in
theorem w_right.calls (k : Nat) (a0_0 : Int) (a0_1 : ByteArray) (a0_2 : ByteArray) (a0_3 : Int) (a0_4 : Int) (a0_5 : Int) (a0_6 : Int) (a0_7 : Int) (a0_8 : Int) (A0_9 : Option Addr) (c0_9 : Nat) (l0_9 : List (S25)) (a0_10 : Int) (a0_11 : Int) (r : Bool) (w : World) (hr0_9 : Kd.C k25 w A0_9 l0_9.length l0_9) (hc0_9 : l0_9.length ≤ c0_9) (hG : GW w) (h : w_right.f k a0_0 a0_1 a0_2 a0_3 a0_4 a0_5 a0_6 a0_7 a0_8 l0_9 a0_10 a0_11 = some r) :
  Calls Tryd.prog 18 #[.agg #[.int .i64 a0_0, .string a0_1, .string a0_2, .int .u8 a0_3, .int .i64 a0_4, .int .i64 a0_5, .int .i64 a0_6, .int .i64 a0_7, .int .i64 a0_8, .slice A0_9 l0_9.length c0_9, .int .i64 a0_10, .int .i64 a0_11]] w fun e w' => e = .returned (.bool r) ∧ Below w.heap.size w w' := by
 have hu43 := Tryd.underlying43
 have hu25 := Tryd.underlying25
 have hu37 := Tryd.underlying37
 have HR0_9 := am hr0_9
 have HC0_9 := am hc0_9
 clear hr0_9 hc0_9
 have HB := am (Below.refl w.heap.size w)
 have HG := am hG
 clear hG
 have H : (if a0_0 = 1 then ((d_Parse.f k a0_1).bind fun bt689 => ((q_Parse.f k a0_1).bind fun bt694 => ((w_same.f k bt689.1 bt694.1).bind fun t699 => (if t699 = true then (if bt689.2.1 = bt694.2.1 then (some (bt689.2.2 == bt694.2.2)) else (some false)) else (some false))))) else (if a0_0 = 2 then ((d_Check.f k a0_2 a0_3 a0_4 a0_5 a0_6 a0_7 a0_8).bind fun t700 => ((q_Check.f k a0_2 a0_3 a0_4 a0_5 a0_6 a0_7 a0_8).bind fun t701 => (some (t700 == t701)))) else (if a0_0 = 3 then ((w_copied.f l0_9).bind fun t702 => ((q_Print.f k t702).bind fun bt705 => ((d_Print.f k l0_9).bind fun bt707 => (if bt707.1.toList = bt705.1.toList then (some (bt707.2 == bt705.2)) else (some false))))) else (if a0_0 = 4 then ((w_copied.f l0_9).bind fun t709 => ((q_Wants.f k t709).bind fun t712 => ((d_Wants.f k l0_9).bind fun t713 => (some (t713 == t712))))) else (if a0_0 = 5 then ((d_Settle.f k a0_2 a0_3 a0_4 a0_5 a0_6 a0_7 a0_8 a0_10 a0_11).bind fun bt714 => ((q_Settle.f k a0_2 a0_3 a0_4 a0_5 a0_6 a0_7 a0_8 a0_10 a0_11).bind fun bt720 => (if (bt714.1 == bt720.1 && (bt714.2.1 == bt720.2.1 && (bt714.2.2.1 == bt720.2.2.1 && (bt714.2.2.2.1 == bt720.2.2.2.1)))) = true then (some (bt714.2.2.2.2 == bt720.2.2.2.2)) else (some false)))) else (if a0_0 = 6 then ((d_Single.f k a0_1).bind fun bt726 => ((q_Single.f k a0_1).bind fun bt734 => (if bt726.1.toList = bt734.1.toList then (if (bt726.2.1 == bt734.2.1 && (bt726.2.2.1 == bt734.2.2.1 && (bt726.2.2.2.1 == bt734.2.2.2.1 && (bt726.2.2.2.2.1 == bt734.2.2.2.2.1)))) = true then (if bt726.2.2.2.2.2.1.toList = bt734.2.2.2.2.2.1.toList then (some (bt726.2.2.2.2.2.2 == bt734.2.2.2.2.2.2)) else (some false)) else (some false)) else (some false)))) else (some true))))))) = some r := h
 clear h
 by_cases c2 : a0_0 = 1
 ·rw [if_pos c2] at H
  have c2b0 : (a0_0 == 1) = true := beq_iff_eq.mpr c2
  have c2b1 : (a0_0 != 1) = false := bne_eq_false_iff_eq.mpr c2
  clear c2
  replace H := Option.bind_eq_some_iff.mp H
  obtain ⟨⟨t689, t690, t691⟩, A30, H⟩ := H
  replace H : ((q_Parse.f k a0_1).bind fun bt694 => ((w_same.f k t689 bt694.1).bind fun t699 => (if t699 = true then (if t690 = bt694.2.1 then (some (t691 == bt694.2.2)) else (some false)) else (some false)))) = some r := H
  have A3 := am A30
  clear A30
  replace H := Option.bind_eq_some_iff.mp H
  obtain ⟨⟨t694, t695, t696⟩, A40, H⟩ := H
  replace H : ((w_same.f k t689 t694).bind fun t699 => (if t699 = true then (if t690 = t695 then (some (t691 == t696)) else (some false)) else (some false))) = some r := H
  have A4 := am A40
  clear A40
  replace H := Option.bind_eq_some_iff.mp H
  obtain ⟨t699, A50, H⟩ := H
  replace H : (if t699 = true then (if t690 = t695 then (some (t691 == t696)) else (some false)) else (some false)) = some r := H
  have A5 := am A50
  clear A50
  by_cases c6 : t699 = true
  rotate_left
  ·replace c6 := Bool.eq_false_iff.mpr c6
   subst c6
   have H1 : (some false) = some r := by rw [if_neg (show ¬ (false = true) by decide)] at H; exact H
   clear H
   have H := H1
   clear H1
   obtain rfl := Option.some.inj H
   go_enter Tryd.func18, Tryd.ntmps18
   go_wp2_with (first | ((with_reducible refine gate_dst (N := 1) rfl ?_); refine box_event ?hg (N := 1) ?hd (cs := #[.int .i64 a0_0, .string a0_1, .string a0_2, .int .u8 a0_3, .int .i64 a0_4, .int .i64 a0_5, .int .i64 a0_6, .int .i64 a0_7, .int .i64 a0_8, .slice A0_9 l0_9.length c0_9, .int .i64 a0_10, .int .i64 a0_11]) (t := 43) ?hr ?_; (case hd => rfl); (case hg => rfl); (case hr => first | (go_simp; done) | (go_simp; rfl)); intro gb688 hg w22 hbox hb; have n0_ := am (below_step bl hb); have n1_ := am (hbox); have n2_ := am ((by rw [hg]; exact (below_size bl) : w.heap.size ≤ gb688)); have n3_ := n2_; clear HB; have HB := n0_; have BK688 := n1_; have GW688 := n2_; have GE688 := n3_; clear n0_ n1_ n2_ n3_; clear hb hbox hg; obtain ⟨⟨hcz23_0, hcz23_1, hcz23_2, hcz23_3, hcz23_4, hcz23_5, hcz23_6, hcz23_7, hcz23_8, hcz23_9, hcz23_10, hcz23_11⟩, hfz23_0, hfz23_1, hfz23_2, hfz23_3, hfz23_4, hfz23_5, hfz23_6, hfz23_7, hfz23_8, hfz23_9, hfz23_10, hfz23_11⟩ := blkAll12 BK688) | ((with_reducible refine gate_callee (f := 13) rfl ?_); refine goesL_ (some 33) rfl rfl Tryd.func13 (by kernel_rfl) rfl #[.string a0_1] rfl ls ?_; (with_reducible refine (d_Parse.calls k a0_1 t689 t690 t691 _ A3.out).mono ?_); rintro e w24 ⟨v692, rfl, ho0, hb⟩; refine ⟨_, rfl, ?_⟩; have n0_ := am (Kd.R_lower ho0 (below_size bs)); have n1_ := am (blk_below (bu BK688.out) hb); have n2_ := am (below_step bs hb); clear BK688; clear HB; have HO693 := n0_; have BK688 := n1_; have HB := n2_; clear n0_ n1_ n2_; (try clear hb); (try clear hb2); (try clear hk); (try clear hi); (try clear ho0); obtain ⟨⟨hcz25_0, hcz25_1, hcz25_2, hcz25_3, hcz25_4, hcz25_5, hcz25_6, hcz25_7, hcz25_8, hcz25_9, hcz25_10, hcz25_11⟩, hfz25_0, hfz25_1, hfz25_2, hfz25_3, hfz25_4, hfz25_5, hfz25_6, hfz25_7, hfz25_8, hfz25_9, hfz25_10, hfz25_11⟩ := blkAll12 BK688) | ((with_reducible refine gate_callee (f := 20) rfl ?_); refine goesL_ (some 40) rfl rfl Tryd.func20 (by kernel_rfl) rfl #[.string a0_1] rfl ls ?_; (with_reducible refine (q_Parse.calls k a0_1 t694 t695 t696 _ A4.out).mono ?_); rintro e w26 ⟨v697, rfl, ho0, hb⟩; refine ⟨_, rfl, ?_⟩; have n0_ := am (Kd.R_elder' (by (with_reducible repeat (first | apply Kd.R_alloc | apply Kd.R_drewN | apply Kd.R_drew)); exact HO693.out) (Kd.R_base ho0) hb); have n1_ := am (Kd.R_lower (Kd.R_new' ho0 (Kd.R_lt (by (with_reducible repeat (first | apply Kd.R_alloc | apply Kd.R_drewN | apply Kd.R_drew)); exact HO693.out))) (below_size bs)); have n2_ := am (blk_below (bu BK688.out) hb); have n3_ := am (below_step bs hb); clear HO693; clear BK688; clear HB; have HO693 := n0_; have HO698 := n1_; have BK688 := n2_; have HB := n3_; clear n0_ n1_ n2_ n3_; (try clear hb); (try clear hb2); (try clear hk); (try clear hi); (try clear ho0); obtain ⟨Ao27, co27, eo27⟩ := Kd.R_slice HO693.out; subst eo27; obtain ⟨Ao28, co28, eo28⟩ := Kd.R_slice HO698.out; subst eo28) | ((with_reducible refine gate_callee (f := 14) rfl ?_); refine goesL_ (some 46) rfl rfl Tryd.func14 (by kernel_rfl) rfl #[.slice Ao27 t689.length co27, .slice Ao28 t694.length co28] rfl ls ?_; (with_reducible refine (w_same.calls k _ _ t689 _ _ t694 false _ ?side1 ?side2 ?side3 ?side4 A5.out).mono ?_); (case side1 => repeat (first | exact (Kd.R_reads' HO693.out).2.2 | (with_reducible refine Kd.C_alloc ?_ _) | (with_reducible refine Kd.C_drewN ?_ _) | (with_reducible refine Kd.C_drew ?_))); (case side2 => exact (Kd.R_reads' HO693.out).2.1); (case side3 => repeat (first | exact (Kd.R_reads' HO698.out).2.2 | (with_reducible refine Kd.C_alloc ?_ _) | (with_reducible refine Kd.C_drewN ?_ _) | (with_reducible refine Kd.C_drew ?_))); (case side4 => exact (Kd.R_reads' HO698.out).2.1); rintro e w' ⟨rfl, ⟨nd, rfl⟩⟩; refine ⟨_, rfl, ?_⟩))
   go_ret
   exact ⟨er, bs⟩
  subst c6
  have H1 : (if t690 = t695 then (some (t691 == t696)) else (some false)) = some r := by rw [if_pos rfl] at H; exact H
  clear H
  have H := H1
  clear H1
  by_cases c7 : t690 = t695
  ·rw [if_pos c7] at H
   have c7b0 : (t690 == t695) = true := beq_iff_eq.mpr c7
   have c7b1 : (t690 != t695) = false := bne_eq_false_iff_eq.mpr c7
   clear c7
   obtain rfl := Option.some.inj H
   go_enter Tryd.func18, Tryd.ntmps18
   go_wp2_with (first | ((with_reducible refine gate_dst (N := 1) rfl ?_); refine box_event ?hg (N := 1) ?hd (cs := #[.int .i64 a0_0, .string a0_1, .string a0_2, .int .u8 a0_3, .int .i64 a0_4, .int .i64 a0_5, .int .i64 a0_6, .int .i64 a0_7, .int .i64 a0_8, .slice A0_9 l0_9.length c0_9, .int .i64 a0_10, .int .i64 a0_11]) (t := 43) ?hr ?_; (case hd => rfl); (case hg => rfl); (case hr => first | (go_simp; done) | (go_simp; rfl)); intro gb688 hg w8 hbox hb; have n0_ := am (below_step bl hb); have n1_ := am (hbox); have n2_ := am ((by rw [hg]; exact (below_size bl) : w.heap.size ≤ gb688)); have n3_ := n2_; clear HB; have HB := n0_; have BK688 := n1_; have GW688 := n2_; have GE688 := n3_; clear n0_ n1_ n2_ n3_; clear hb hbox hg; obtain ⟨⟨hcz9_0, hcz9_1, hcz9_2, hcz9_3, hcz9_4, hcz9_5, hcz9_6, hcz9_7, hcz9_8, hcz9_9, hcz9_10, hcz9_11⟩, hfz9_0, hfz9_1, hfz9_2, hfz9_3, hfz9_4, hfz9_5, hfz9_6, hfz9_7, hfz9_8, hfz9_9, hfz9_10, hfz9_11⟩ := blkAll12 BK688) | ((with_reducible refine gate_callee (f := 13) rfl ?_); refine goesL_ (some 33) rfl rfl Tryd.func13 (by kernel_rfl) rfl #[.string a0_1] rfl ls ?_; (with_reducible refine (d_Parse.calls k a0_1 t689 t690 t691 _ A3.out).mono ?_); rintro e w10 ⟨v692, rfl, ho0, hb⟩; refine ⟨_, rfl, ?_⟩; have n0_ := am (Kd.R_lower ho0 (below_size bs)); have n1_ := am (blk_below (bu BK688.out) hb); have n2_ := am (below_step bs hb); clear BK688; clear HB; have HO693 := n0_; have BK688 := n1_; have HB := n2_; clear n0_ n1_ n2_; (try clear hb); (try clear hb2); (try clear hk); (try clear hi); (try clear ho0); obtain ⟨⟨hcz11_0, hcz11_1, hcz11_2, hcz11_3, hcz11_4, hcz11_5, hcz11_6, hcz11_7, hcz11_8, hcz11_9, hcz11_10, hcz11_11⟩, hfz11_0, hfz11_1, hfz11_2, hfz11_3, hfz11_4, hfz11_5, hfz11_6, hfz11_7, hfz11_8, hfz11_9, hfz11_10, hfz11_11⟩ := blkAll12 BK688) | ((with_reducible refine gate_callee (f := 20) rfl ?_); refine goesL_ (some 40) rfl rfl Tryd.func20 (by kernel_rfl) rfl #[.string a0_1] rfl ls ?_; (with_reducible refine (q_Parse.calls k a0_1 t694 t695 t696 _ A4.out).mono ?_); rintro e w12 ⟨v697, rfl, ho0, hb⟩; refine ⟨_, rfl, ?_⟩; have n0_ := am (Kd.R_elder' (by (with_reducible repeat (first | apply Kd.R_alloc | apply Kd.R_drewN | apply Kd.R_drew)); exact HO693.out) (Kd.R_base ho0) hb); have n1_ := am (Kd.R_lower (Kd.R_new' ho0 (Kd.R_lt (by (with_reducible repeat (first | apply Kd.R_alloc | apply Kd.R_drewN | apply Kd.R_drew)); exact HO693.out))) (below_size bs)); have n2_ := am (blk_below (bu BK688.out) hb); have n3_ := am (below_step bs hb); clear HO693; clear BK688; clear HB; have HO693 := n0_; have HO698 := n1_; have BK688 := n2_; have HB := n3_; clear n0_ n1_ n2_ n3_; (try clear hb); (try clear hb2); (try clear hk); (try clear hi); (try clear ho0); obtain ⟨Ao13, co13, eo13⟩ := Kd.R_slice HO693.out; subst eo13; obtain ⟨Ao14, co14, eo14⟩ := Kd.R_slice HO698.out; subst eo14) | ((with_reducible refine gate_callee (f := 14) rfl ?_); refine goesL_ (some 46) rfl rfl Tryd.func14 (by kernel_rfl) rfl #[.slice Ao13 t689.length co13, .slice Ao14 t694.length co14] rfl ls ?_; (with_reducible refine (w_same.calls k _ _ t689 _ _ t694 true _ ?side1 ?side2 ?side3 ?side4 A5.out).mono ?_); (case side1 => repeat (first | exact (Kd.R_reads' HO693.out).2.2 | (with_reducible refine Kd.C_alloc ?_ _) | (with_reducible refine Kd.C_drewN ?_ _) | (with_reducible refine Kd.C_drew ?_))); (case side2 => exact (Kd.R_reads' HO693.out).2.1); (case side3 => repeat (first | exact (Kd.R_reads' HO698.out).2.2 | (with_reducible refine Kd.C_alloc ?_ _) | (with_reducible refine Kd.C_drewN ?_ _) | (with_reducible refine Kd.C_drew ?_))); (case side4 => exact (Kd.R_reads' HO698.out).2.1); rintro e w' ⟨rfl, ⟨nd, rfl⟩⟩; refine ⟨_, rfl, ?_⟩))
   go_ret
   exact ⟨er, bs⟩
  rw [if_neg c7] at H
  have c7b0 : (t690 == t695) = false := beq_eq_false_iff_ne.mpr c7
  have c7b1 : (t690 != t695) = true := bne_iff_ne.mpr c7
  obtain rfl := Option.some.inj H
  go_enter Tryd.func18, Tryd.ntmps18
  go_wp2_with (first | ((with_reducible refine gate_dst (N := 1) rfl ?_); refine box_event ?hg (N := 1) ?hd (cs := #[.int .i64 a0_0, .string a0_1, .string a0_2, .int .u8 a0_3, .int .i64 a0_4, .int .i64 a0_5, .int .i64 a0_6, .int .i64 a0_7, .int .i64 a0_8, .slice A0_9 l0_9.length c0_9, .int .i64 a0_10, .int .i64 a0_11]) (t := 43) ?hr ?_; (case hd => rfl); (case hg => rfl); (case hr => first | (go_simp; done) | (go_simp; rfl)); intro gb688 hg w15 hbox hb; have n0_ := am (below_step bl hb); have n1_ := am (hbox); have n2_ := am ((by rw [hg]; exact (below_size bl) : w.heap.size ≤ gb688)); have n3_ := n2_; clear HB; have HB := n0_; have BK688 := n1_; have GW688 := n2_; have GE688 := n3_; clear n0_ n1_ n2_ n3_; clear hb hbox hg; obtain ⟨⟨hcz16_0, hcz16_1, hcz16_2, hcz16_3, hcz16_4, hcz16_5, hcz16_6, hcz16_7, hcz16_8, hcz16_9, hcz16_10, hcz16_11⟩, hfz16_0, hfz16_1, hfz16_2, hfz16_3, hfz16_4, hfz16_5, hfz16_6, hfz16_7, hfz16_8, hfz16_9, hfz16_10, hfz16_11⟩ := blkAll12 BK688) | ((with_reducible refine gate_callee (f := 13) rfl ?_); refine goesL_ (some 33) rfl rfl Tryd.func13 (by kernel_rfl) rfl #[.string a0_1] rfl ls ?_; (with_reducible refine (d_Parse.calls k a0_1 t689 t690 t691 _ A3.out).mono ?_); rintro e w17 ⟨v692, rfl, ho0, hb⟩; refine ⟨_, rfl, ?_⟩; have n0_ := am (Kd.R_lower ho0 (below_size bs)); have n1_ := am (blk_below (bu BK688.out) hb); have n2_ := am (below_step bs hb); clear BK688; clear HB; have HO693 := n0_; have BK688 := n1_; have HB := n2_; clear n0_ n1_ n2_; (try clear hb); (try clear hb2); (try clear hk); (try clear hi); (try clear ho0); obtain ⟨⟨hcz18_0, hcz18_1, hcz18_2, hcz18_3, hcz18_4, hcz18_5, hcz18_6, hcz18_7, hcz18_8, hcz18_9, hcz18_10, hcz18_11⟩, hfz18_0, hfz18_1, hfz18_2, hfz18_3, hfz18_4, hfz18_5, hfz18_6, hfz18_7, hfz18_8, hfz18_9, hfz18_10, hfz18_11⟩ := blkAll12 BK688) | ((with_reducible refine gate_callee (f := 20) rfl ?_); refine goesL_ (some 40) rfl rfl Tryd.func20 (by kernel_rfl) rfl #[.string a0_1] rfl ls ?_; (with_reducible refine (q_Parse.calls k a0_1 t694 t695 t696 _ A4.out).mono ?_); rintro e w19 ⟨v697, rfl, ho0, hb⟩; refine ⟨_, rfl, ?_⟩; have n0_ := am (Kd.R_elder' (by (with_reducible repeat (first | apply Kd.R_alloc | apply Kd.R_drewN | apply Kd.R_drew)); exact HO693.out) (Kd.R_base ho0) hb); have n1_ := am (Kd.R_lower (Kd.R_new' ho0 (Kd.R_lt (by (with_reducible repeat (first | apply Kd.R_alloc | apply Kd.R_drewN | apply Kd.R_drew)); exact HO693.out))) (below_size bs)); have n2_ := am (blk_below (bu BK688.out) hb); have n3_ := am (below_step bs hb); clear HO693; clear BK688; clear HB; have HO693 := n0_; have HO698 := n1_; have BK688 := n2_; have HB := n3_; clear n0_ n1_ n2_ n3_; (try clear hb); (try clear hb2); (try clear hk); (try clear hi); (try clear ho0); obtain ⟨Ao20, co20, eo20⟩ := Kd.R_slice HO693.out; subst eo20; obtain ⟨Ao21, co21, eo21⟩ := Kd.R_slice HO698.out; subst eo21) | ((with_reducible refine gate_callee (f := 14) rfl ?_); refine goesL_ (some 46) rfl rfl Tryd.func14 (by kernel_rfl) rfl #[.slice Ao20 t689.length co20, .slice Ao21 t694.length co21] rfl ls ?_; (with_reducible refine (w_same.calls k _ _ t689 _ _ t694 true _ ?side1 ?side2 ?side3 ?side4 A5.out).mono ?_); (case side1 => repeat (first | exact (Kd.R_reads' HO693.out).2.2 | (with_reducible refine Kd.C_alloc ?_ _) | (with_reducible refine Kd.C_drewN ?_ _) | (with_reducible refine Kd.C_drew ?_))); (case side2 => exact (Kd.R_reads' HO693.out).2.1); (case side3 => repeat (first | exact (Kd.R_reads' HO698.out).2.2 | (with_reducible refine Kd.C_alloc ?_ _) | (with_reducible refine Kd.C_drewN ?_ _) | (with_reducible refine Kd.C_drew ?_))); (case side4 => exact (Kd.R_reads' HO698.out).2.1); rintro e w' ⟨rfl, ⟨nd, rfl⟩⟩; refine ⟨_, rfl, ?_⟩))
  go_ret
  exact ⟨er, bs⟩
 rw [if_neg c2] at H
 have c2b0 : (a0_0 == 1) = false := beq_eq_false_iff_ne.mpr c2
 have c2b1 : (a0_0 != 1) = true := bne_iff_ne.mpr c2
 by_cases c29 : a0_0 = 2
 ·rw [if_pos c29] at H
  have c29b0 : (a0_0 == 2) = true := beq_iff_eq.mpr c29
  have c29b1 : (a0_0 != 2) = false := bne_eq_false_iff_eq.mpr c29
  clear c29
  replace H := Option.bind_eq_some_iff.mp H
  obtain ⟨t700, A300, H⟩ := H
  replace H : ((q_Check.f k a0_2 a0_3 a0_4 a0_5 a0_6 a0_7 a0_8).bind fun t701 => (some (t700 == t701))) = some r := H
  have A30 := am A300
  clear A300
  replace H := Option.bind_eq_some_iff.mp H
  obtain ⟨t701, A310, H⟩ := H
  replace H : (some (t700 == t701)) = some r := H
  have A31 := am A310
  clear A310
  obtain rfl := Option.some.inj H
  go_enter Tryd.func18, Tryd.ntmps18
  try go_wp2_with (first | ((with_reducible refine gate_dst (N := 1) rfl ?_); refine box_event ?hg (N := 1) ?hd (cs := #[.int .i64 a0_0, .string a0_1, .string a0_2, .int .u8 a0_3, .int .i64 a0_4, .int .i64 a0_5, .int .i64 a0_6, .int .i64 a0_7, .int .i64 a0_8, .slice A0_9 l0_9.length c0_9, .int .i64 a0_10, .int .i64 a0_11]) (t := 43) ?hr ?_; (case hd => rfl); (case hg => rfl); (case hr => first | (go_simp; done) | (go_simp; rfl)); intro gb688 hg w32 hbox hb; have n0_ := am (below_step bl hb); have n1_ := am (hbox); have n2_ := am ((by rw [hg]; exact (below_size bl) : w.heap.size ≤ gb688)); have n3_ := n2_; clear HB; have HB := n0_; have BK688 := n1_; have GW688 := n2_; have GE688 := n3_; clear n0_ n1_ n2_ n3_; clear hb hbox hg; obtain ⟨⟨hcz33_0, hcz33_1, hcz33_2, hcz33_3, hcz33_4, hcz33_5, hcz33_6, hcz33_7, hcz33_8, hcz33_9, hcz33_10, hcz33_11⟩, hfz33_0, hfz33_1, hfz33_2, hfz33_3, hfz33_4, hfz33_5, hfz33_6, hfz33_7, hfz33_8, hfz33_9, hfz33_10, hfz33_11⟩ := blkAll12 BK688))
  have n0_ := am (blk_drew BK688.out)
  have n1_ := am (below_drew1 HB.out)
  clear BK688
  clear HB
  have BK688 := n0_
  have HB := n1_
  clear n0_ n1_
  refine start_ (n := 8) (S := fun w' => w'.cell? ⟨gb688, 0, none⟩ = some (.int .i64 a0_0) ∧ w'.cell? ⟨gb688, 1, none⟩ = some (.string a0_1) ∧ w'.cell? ⟨gb688, 2, none⟩ = some (.string a0_2) ∧ w'.cell? ⟨gb688, 3, none⟩ = some (.int .u8 a0_3) ∧ w'.cell? ⟨gb688, 4, none⟩ = some (.int .i64 a0_4) ∧ w'.cell? ⟨gb688, 5, none⟩ = some (.int .i64 a0_5) ∧ w'.cell? ⟨gb688, 6, none⟩ = some (.int .i64 a0_6) ∧ w'.cell? ⟨gb688, 7, none⟩ = some (.int .i64 a0_7) ∧ w'.cell? ⟨gb688, 8, none⟩ = some (.int .i64 a0_8) ∧ w'.cell? ⟨gb688, 9, none⟩ = some (.slice A0_9 l0_9.length c0_9) ∧ w'.cell? ⟨gb688, 10, none⟩ = some (.int .i64 a0_10) ∧ w'.cell? ⟨gb688, 11, none⟩ = some (.int .i64 a0_11)) (ds := []) #[false, false, false, false, false, false, false, false] (by kernel_rfl) rfl rfl ⟨(blk_cell BK688.out 0).trans rfl, (blk_cell BK688.out 1).trans rfl, (blk_cell BK688.out 2).trans rfl, (blk_cell BK688.out 3).trans rfl, (blk_cell BK688.out 4).trans rfl, (blk_cell BK688.out 5).trans rfl, (blk_cell BK688.out 6).trans rfl, (blk_cell BK688.out 7).trans rfl, (blk_cell BK688.out 8).trans rfl, (blk_cell BK688.out 9).trans rfl, (blk_cell BK688.out 10).trans rfl, (blk_cell BK688.out 11).trans rfl⟩ (fun hHeld => ?_); refine with_tabW w_right.tab7 w_right.bits7 (fun HT_ HW_ => ?_)
  generalize w32.drew = w34 at BK688 HB hHeld ⊢
  refine pure_ (i := 0) (N := some 59) (v := ?_) (a' := ?_) #[true, false, false, false, false, false, false, false] rfl rfl (any_of HT_.out (by kernel_rfl)) (fun _ _ _ h => h) (Or.inl ⟨by rfl, ?_⟩) ?_ ?_
  rotate_left
  ·intro w'
   go_simp
   with_reducible rfl
  rotate_left
  ·simp only [Act.put, List.setIfInBounds_toArray, List.set_cons_zero, List.set_cons_succ, i64_w, i32_w]
   rfl
  refine pure_ (i := 3) (N := some 62) (v := ?_) (a' := ?_) #[true, false, false, true, false, false, false, false] rfl rfl (any_of HT_.out (by kernel_rfl)) (fun _ _ _ h => h) (Or.inl ⟨by rfl, ?_⟩) ?_ ?_
  rotate_left
  ·intro w'
   go_simp
   with_reducible rfl
  rotate_left
  ·simp only [Act.put, List.setIfInBounds_toArray, List.set_cons_zero, List.set_cons_succ, i64_w, i32_w]
   rfl
  refine take_ (i := 1) (N := some 60) (v := ?_) (a' := ?_) #[true, true, false, true, false, false, false, false] rfl rfl (take_ofW HT_.out HW_.out (by kernel_rfl)) (fun _ _ _ h => h) (Or.inl ⟨by rfl, ?_⟩) hHeld ?_ ?_
  rotate_left
  ·rintro w' ⟨s0, s1, s2, s3, s4, s5, s6, s7, s8, s9, s10, s11⟩
   go_simp
   with_reducible rfl
  rotate_left
  ·simp only [Act.put, List.setIfInBounds_toArray, List.set_cons_zero, List.set_cons_succ, i64_w, i32_w]
   rfl
  refine take_ (i := 4) (N := some 63) (v := ?_) (a' := ?_) #[true, true, false, true, true, false, false, false] rfl rfl (take_ofW HT_.out HW_.out (by kernel_rfl)) (fun _ _ _ h => h) (Or.inl ⟨by rfl, ?_⟩) hHeld ?_ ?_
  rotate_left
  ·rintro w' ⟨s0, s1, s2, s3, s4, s5, s6, s7, s8, s9, s10, s11⟩
   go_simp
   with_reducible rfl
  rotate_left
  ·simp only [Act.put, List.setIfInBounds_toArray, List.set_cons_zero, List.set_cons_succ, i64_w, i32_w]
   rfl
  refine one_ (i := 2) (N := some 61) #[true, true, true, true, true, false, false, false] rfl rfl (one_of HT_.out (by kernel_rfl)) (by decide) (fun K hK => ?_)
  refine goes_ Tryd.func11 (by kernel_rfl) rfl #[.agg #[.string a0_2, .int .u8 a0_3, .int .i64 a0_4, .int .i64 a0_5, .int .i64 a0_6, .int .i64 a0_7, .int .i64 a0_8]] (by rfl) rfl rfl ls ?_
  with_reducible refine (d_Check.calls k a0_2 a0_3 a0_4 a0_5 a0_6 a0_7 a0_8 t700 _ A30.out).mono ?_
  rintro e w35 ⟨rfl, hb⟩
  refine ⟨_, rfl, ?_⟩
  have n0_ := am (blk_below (bu BK688.out) hb)
  have n1_ := am (below_step bs hb)
  clear BK688
  clear HB
  have BK688 := n0_
  have HB := n1_
  clear n0_ n1_
  (try clear hb)
  (try clear hb2)
  (try clear hk)
  (try clear hi)
  refine hK.out _ _ ⟨(blk_cell BK688.out 0).trans rfl, (blk_cell BK688.out 1).trans rfl, (blk_cell BK688.out 2).trans rfl, (blk_cell BK688.out 3).trans rfl, (blk_cell BK688.out 4).trans rfl, (blk_cell BK688.out 5).trans rfl, (blk_cell BK688.out 6).trans rfl, (blk_cell BK688.out 7).trans rfl, (blk_cell BK688.out 8).trans rfl, (blk_cell BK688.out 9).trans rfl, (blk_cell BK688.out 10).trans rfl, (blk_cell BK688.out 11).trans rfl⟩ (fun hHeld => ?_)
  clear hK K
  refine norm_ (a' := ?_) ?_ ?_
  rotate_left
  ·show Act.put _ (some 61) _ = _
   simp only [Act.put, List.setIfInBounds_toArray, List.set_cons_zero, List.set_cons_succ, i64_w, i32_w]
   rfl
  refine one_ (i := 5) (N := some 64) #[true, true, true, true, true, true, false, false] rfl rfl (one_of HT_.out (by kernel_rfl)) (by decide) (fun K hK => ?_)
  refine goes_ Tryd.func31 (by kernel_rfl) rfl #[.agg #[.string a0_2, .int .u8 a0_3, .int .i64 a0_4, .int .i64 a0_5, .int .i64 a0_6, .int .i64 a0_7, .int .i64 a0_8]] (by rfl) rfl rfl ls ?_
  with_reducible refine (q_Check.calls k a0_2 a0_3 a0_4 a0_5 a0_6 a0_7 a0_8 t701 _ A31.out).mono ?_
  rintro e w36 ⟨rfl, hb⟩
  refine ⟨_, rfl, ?_⟩
  have n0_ := am (blk_below (bu BK688.out) hb)
  have n1_ := am (below_step bs hb)
  clear BK688
  clear HB
  have BK688 := n0_
  have HB := n1_
  clear n0_ n1_
  (try clear hb)
  (try clear hb2)
  (try clear hk)
  (try clear hi)
  refine hK.out _ _ ⟨(blk_cell BK688.out 0).trans rfl, (blk_cell BK688.out 1).trans rfl, (blk_cell BK688.out 2).trans rfl, (blk_cell BK688.out 3).trans rfl, (blk_cell BK688.out 4).trans rfl, (blk_cell BK688.out 5).trans rfl, (blk_cell BK688.out 6).trans rfl, (blk_cell BK688.out 7).trans rfl, (blk_cell BK688.out 8).trans rfl, (blk_cell BK688.out 9).trans rfl, (blk_cell BK688.out 10).trans rfl, (blk_cell BK688.out 11).trans rfl⟩ (fun hHeld => ?_)
  clear hK K
  refine norm_ (a' := ?_) ?_ ?_
  rotate_left
  ·show Act.put _ (some 64) _ = _
   simp only [Act.put, List.setIfInBounds_toArray, List.set_cons_zero, List.set_cons_succ, i64_w, i32_w]
   rfl
  refine pure_ (i := 6) (N := some 65) (v := ?_) (a' := ?_) #[true, true, true, true, true, true, true, false] rfl rfl (any_of HT_.out (by kernel_rfl)) (fun _ _ _ h => h) (Or.inl ⟨by rfl, ?_⟩) ?_ ?_
  rotate_left
  ·intro w'
   go_simp
   with_reducible rfl
  rotate_left
  ·simp only [Act.put, List.setIfInBounds_toArray, List.set_cons_zero, List.set_cons_succ, i64_w, i32_w]
   rfl
  refine pure_ (i := 7) (N := some 2) (v := ?_) (a' := ?_) #[true, true, true, true, true, true, true, true] rfl rfl (any_of HT_.out (by kernel_rfl)) (fun _ _ _ h => h) (Or.inl ⟨by rfl, ?_⟩) ?_ ?_
  rotate_left
  ·intro w'
   go_simp
   with_reducible rfl
  rotate_left
  ·simp only [Act.put, List.setIfInBounds_toArray, List.set_cons_zero, List.set_cons_succ, i64_w, i32_w]
   rfl
  refine done_ (done_of HT_.out (by kernel_rfl)) ?_
  try go_wp2
  go_ret
  exact ⟨er, bs⟩
 rw [if_neg c29] at H
 have c29b0 : (a0_0 == 2) = false := beq_eq_false_iff_ne.mpr c29
 have c29b1 : (a0_0 != 2) = true := bne_iff_ne.mpr c29
 by_cases c37 : a0_0 = 3
 ·rw [if_pos c37] at H
  have c37b0 : (a0_0 == 3) = true := beq_iff_eq.mpr c37
  have c37b1 : (a0_0 != 3) = false := bne_eq_false_iff_eq.mpr c37
  clear c37
  replace H := Option.bind_eq_some_iff.mp H
  obtain ⟨t702, A380, H⟩ := H
  replace H : ((q_Print.f k t702).bind fun bt705 => ((d_Print.f k l0_9).bind fun bt707 => (if bt707.1.toList = bt705.1.toList then (some (bt707.2 == bt705.2)) else (some false)))) = some r := H
  have A38 := am A380
  clear A380
  replace H := Option.bind_eq_some_iff.mp H
  obtain ⟨⟨t705, t706⟩, A390, H⟩ := H
  replace H : ((d_Print.f k l0_9).bind fun bt707 => (if bt707.1.toList = t705.toList then (some (bt707.2 == t706)) else (some false))) = some r := H
  have A39 := am A390
  clear A390
  replace H := Option.bind_eq_some_iff.mp H
  obtain ⟨⟨t707, t708⟩, A400, H⟩ := H
  replace H : (if t707.toList = t705.toList then (some (t708 == t706)) else (some false)) = some r := H
  have A40 := am A400
  clear A400
  by_cases c41 : t707.toList = t705.toList
  rotate_left
  ·rw [if_neg c41] at H
   have c41b0 : (t707.toList == t705.toList) = false := beq_eq_false_iff_ne.mpr c41
   have c41b1 : (t707.toList != t705.toList) = true := bne_iff_ne.mpr c41
   obtain rfl := Option.some.inj H
   go_enter Tryd.func18, Tryd.ntmps18
   go_wp2_with (first | ((with_reducible refine gate_dst (N := 1) rfl ?_); refine box_event ?hg (N := 1) ?hd (cs := #[.int .i64 a0_0, .string a0_1, .string a0_2, .int .u8 a0_3, .int .i64 a0_4, .int .i64 a0_5, .int .i64 a0_6, .int .i64 a0_7, .int .i64 a0_8, .slice A0_9 l0_9.length c0_9, .int .i64 a0_10, .int .i64 a0_11]) (t := 43) ?hr ?_; (case hd => rfl); (case hg => rfl); (case hr => first | (go_simp; done) | (go_simp; rfl)); intro gb688 hg w49 hbox hb; have n0_ := am (below_step bl hb); have n1_ := am (hbox); have n2_ := am ((by rw [hg]; exact (below_size bl) : w.heap.size ≤ gb688)); have n3_ := n2_; clear HB; have HB := n0_; have BK688 := n1_; have GW688 := n2_; have GE688 := n3_; clear n0_ n1_ n2_ n3_; clear hb hbox hg; obtain ⟨⟨hcz50_0, hcz50_1, hcz50_2, hcz50_3, hcz50_4, hcz50_5, hcz50_6, hcz50_7, hcz50_8, hcz50_9, hcz50_10, hcz50_11⟩, hfz50_0, hfz50_1, hfz50_2, hfz50_3, hfz50_4, hfz50_5, hfz50_6, hfz50_7, hfz50_8, hfz50_9, hfz50_10, hfz50_11⟩ := blkAll12 BK688) | ((with_reducible refine gate_callee (f := 17) rfl ?_); refine goesL_ (some 71) rfl rfl Tryd.func17 (by kernel_rfl) rfl #[.slice A0_9 l0_9.length c0_9] rfl ls ?_; (with_reducible refine (w_copied.calls _ _ l0_9 t702 _ ?side1 ?side2 A38.out).mono ?_); (case side1 => repeat (first | exact (Kd.C_below HR0_9.out HB.out) | (with_reducible refine Kd.C_alloc ?_ _) | (with_reducible refine Kd.C_drewN ?_ _) | (with_reducible refine Kd.C_drew ?_))); (case side2 => exact HC0_9.out); rintro e w51 ⟨v703, rfl, ho0, hb⟩; refine ⟨_, rfl, ?_⟩; have n0_ := am (Kd.R_lower ho0 (below_size bs)); have n1_ := am (blk_below (bu BK688.out) hb); have n2_ := am (below_step bs hb); clear BK688; clear HB; have HO704 := n0_; have BK688 := n1_; have HB := n2_; clear n0_ n1_ n2_; (try clear hb); (try clear hb2); (try clear hk); (try clear hi); (try clear ho0); obtain ⟨Ao52, co52, eo52⟩ := Kd.R_slice HO704.out; subst eo52) | ((with_reducible refine gate_callee (f := 32) rfl ?_); refine goesL_ (some 72) rfl rfl Tryd.func32 (by kernel_rfl) rfl #[.slice Ao52 t702.length co52] rfl ls ?_; (with_reducible refine (q_Print.calls k _ _ t702 t705 t706 _ ?side1 ?side2 A39.out).mono ?_); (case side1 => repeat (first | exact (Kd.R_reads' HO704.out).2.2 | (with_reducible refine Kd.C_alloc ?_ _) | (with_reducible refine Kd.C_drewN ?_ _) | (with_reducible refine Kd.C_drew ?_))); (case side2 => exact (Kd.R_reads' HO704.out).2.1); rintro e w53 ⟨rfl, hb⟩; refine ⟨_, rfl, ?_⟩; have n0_ := am (Kd.R_below (by (with_reducible repeat (first | apply Kd.R_alloc | apply Kd.R_drewN | apply Kd.R_drew)); exact HO704.out) hb); have n1_ := am (blk_below (bu BK688.out) hb); have n2_ := am (below_step bs hb); clear HO704; clear BK688; clear HB; have HO704 := n0_; have BK688 := n1_; have HB := n2_; clear n0_ n1_ n2_; (try clear hb); (try clear hb2); (try clear hk); (try clear hi); obtain ⟨⟨hcz54_0, hcz54_1, hcz54_2, hcz54_3, hcz54_4, hcz54_5, hcz54_6, hcz54_7, hcz54_8, hcz54_9, hcz54_10, hcz54_11⟩, hfz54_0, hfz54_1, hfz54_2, hfz54_3, hfz54_4, hfz54_5, hfz54_6, hfz54_7, hfz54_8, hfz54_9, hfz54_10, hfz54_11⟩ := blkAll12 BK688) | ((with_reducible refine gate_callee (f := 12) rfl ?_); refine goesL_ (some 78) rfl rfl Tryd.func12 (by kernel_rfl) rfl #[.slice A0_9 l0_9.length c0_9] rfl ls ?_; (with_reducible refine (d_Print.calls k _ _ l0_9 t707 t708 _ ?side1 ?side2 ?side3 A40.out).mono ?_); (case side1 => repeat (first | exact (Kd.C_below HR0_9.out HB.out) | (with_reducible refine Kd.C_alloc ?_ _) | (with_reducible refine Kd.C_drewN ?_ _) | (with_reducible refine Kd.C_drew ?_))); (case side2 => exact HC0_9.out); (case side3 => exact GW.below HG.out bs); rintro e w55 ⟨rfl, hb⟩; refine ⟨_, rfl, ?_⟩; have n0_ := am (Kd.R_below (by (with_reducible repeat (first | apply Kd.R_alloc | apply Kd.R_drewN | apply Kd.R_drew)); exact HO704.out) hb); have n1_ := am (blk_below (bu BK688.out) hb); have n2_ := am (below_step bs hb); clear HO704; clear BK688; clear HB; have HO704 := n0_; have BK688 := n1_; have HB := n2_; clear n0_ n1_ n2_; (try clear hb); (try clear hb2); (try clear hk); (try clear hi)))
   go_ret
   exact ⟨er, bs⟩
  rw [if_pos c41] at H
  have c41b0 : (t707.toList == t705.toList) = true := beq_iff_eq.mpr c41
  have c41b1 : (t707.toList != t705.toList) = false := bne_eq_false_iff_eq.mpr c41
  clear c41
  obtain rfl := Option.some.inj H
  go_enter Tryd.func18, Tryd.ntmps18
  go_wp2_with (first | ((with_reducible refine gate_dst (N := 1) rfl ?_); refine box_event ?hg (N := 1) ?hd (cs := #[.int .i64 a0_0, .string a0_1, .string a0_2, .int .u8 a0_3, .int .i64 a0_4, .int .i64 a0_5, .int .i64 a0_6, .int .i64 a0_7, .int .i64 a0_8, .slice A0_9 l0_9.length c0_9, .int .i64 a0_10, .int .i64 a0_11]) (t := 43) ?hr ?_; (case hd => rfl); (case hg => rfl); (case hr => first | (go_simp; done) | (go_simp; rfl)); intro gb688 hg w42 hbox hb; have n0_ := am (below_step bl hb); have n1_ := am (hbox); have n2_ := am ((by rw [hg]; exact (below_size bl) : w.heap.size ≤ gb688)); have n3_ := n2_; clear HB; have HB := n0_; have BK688 := n1_; have GW688 := n2_; have GE688 := n3_; clear n0_ n1_ n2_ n3_; clear hb hbox hg; obtain ⟨⟨hcz43_0, hcz43_1, hcz43_2, hcz43_3, hcz43_4, hcz43_5, hcz43_6, hcz43_7, hcz43_8, hcz43_9, hcz43_10, hcz43_11⟩, hfz43_0, hfz43_1, hfz43_2, hfz43_3, hfz43_4, hfz43_5, hfz43_6, hfz43_7, hfz43_8, hfz43_9, hfz43_10, hfz43_11⟩ := blkAll12 BK688) | ((with_reducible refine gate_callee (f := 17) rfl ?_); refine goesL_ (some 71) rfl rfl Tryd.func17 (by kernel_rfl) rfl #[.slice A0_9 l0_9.length c0_9] rfl ls ?_; (with_reducible refine (w_copied.calls _ _ l0_9 t702 _ ?side1 ?side2 A38.out).mono ?_); (case side1 => repeat (first | exact (Kd.C_below HR0_9.out HB.out) | (with_reducible refine Kd.C_alloc ?_ _) | (with_reducible refine Kd.C_drewN ?_ _) | (with_reducible refine Kd.C_drew ?_))); (case side2 => exact HC0_9.out); rintro e w44 ⟨v703, rfl, ho0, hb⟩; refine ⟨_, rfl, ?_⟩; have n0_ := am (Kd.R_lower ho0 (below_size bs)); have n1_ := am (blk_below (bu BK688.out) hb); have n2_ := am (below_step bs hb); clear BK688; clear HB; have HO704 := n0_; have BK688 := n1_; have HB := n2_; clear n0_ n1_ n2_; (try clear hb); (try clear hb2); (try clear hk); (try clear hi); (try clear ho0); obtain ⟨Ao45, co45, eo45⟩ := Kd.R_slice HO704.out; subst eo45) | ((with_reducible refine gate_callee (f := 32) rfl ?_); refine goesL_ (some 72) rfl rfl Tryd.func32 (by kernel_rfl) rfl #[.slice Ao45 t702.length co45] rfl ls ?_; (with_reducible refine (q_Print.calls k _ _ t702 t705 t706 _ ?side1 ?side2 A39.out).mono ?_); (case side1 => repeat (first | exact (Kd.R_reads' HO704.out).2.2 | (with_reducible refine Kd.C_alloc ?_ _) | (with_reducible refine Kd.C_drewN ?_ _) | (with_reducible refine Kd.C_drew ?_))); (case side2 => exact (Kd.R_reads' HO704.out).2.1); rintro e w46 ⟨rfl, hb⟩; refine ⟨_, rfl, ?_⟩; have n0_ := am (Kd.R_below (by (with_reducible repeat (first | apply Kd.R_alloc | apply Kd.R_drewN | apply Kd.R_drew)); exact HO704.out) hb); have n1_ := am (blk_below (bu BK688.out) hb); have n2_ := am (below_step bs hb); clear HO704; clear BK688; clear HB; have HO704 := n0_; have BK688 := n1_; have HB := n2_; clear n0_ n1_ n2_; (try clear hb); (try clear hb2); (try clear hk); (try clear hi); obtain ⟨⟨hcz47_0, hcz47_1, hcz47_2, hcz47_3, hcz47_4, hcz47_5, hcz47_6, hcz47_7, hcz47_8, hcz47_9, hcz47_10, hcz47_11⟩, hfz47_0, hfz47_1, hfz47_2, hfz47_3, hfz47_4, hfz47_5, hfz47_6, hfz47_7, hfz47_8, hfz47_9, hfz47_10, hfz47_11⟩ := blkAll12 BK688) | ((with_reducible refine gate_callee (f := 12) rfl ?_); refine goesL_ (some 78) rfl rfl Tryd.func12 (by kernel_rfl) rfl #[.slice A0_9 l0_9.length c0_9] rfl ls ?_; (with_reducible refine (d_Print.calls k _ _ l0_9 t707 t708 _ ?side1 ?side2 ?side3 A40.out).mono ?_); (case side1 => repeat (first | exact (Kd.C_below HR0_9.out HB.out) | (with_reducible refine Kd.C_alloc ?_ _) | (with_reducible refine Kd.C_drewN ?_ _) | (with_reducible refine Kd.C_drew ?_))); (case side2 => exact HC0_9.out); (case side3 => exact GW.below HG.out bs); rintro e w48 ⟨rfl, hb⟩; refine ⟨_, rfl, ?_⟩; have n0_ := am (Kd.R_below (by (with_reducible repeat (first | apply Kd.R_alloc | apply Kd.R_drewN | apply Kd.R_drew)); exact HO704.out) hb); have n1_ := am (blk_below (bu BK688.out) hb); have n2_ := am (below_step bs hb); clear HO704; clear BK688; clear HB; have HO704 := n0_; have BK688 := n1_; have HB := n2_; clear n0_ n1_ n2_; (try clear hb); (try clear hb2); (try clear hk); (try clear hi)))
  go_ret
  exact ⟨er, bs⟩
 rw [if_neg c37] at H
 have c37b0 : (a0_0 == 3) = false := beq_eq_false_iff_ne.mpr c37
 have c37b1 : (a0_0 != 3) = true := bne_iff_ne.mpr c37
 by_cases c56 : a0_0 = 4
 ·rw [if_pos c56] at H
  have c56b0 : (a0_0 == 4) = true := beq_iff_eq.mpr c56
  have c56b1 : (a0_0 != 4) = false := bne_eq_false_iff_eq.mpr c56
  clear c56
  replace H := Option.bind_eq_some_iff.mp H
  obtain ⟨t709, A570, H⟩ := H
  replace H : ((q_Wants.f k t709).bind fun t712 => ((d_Wants.f k l0_9).bind fun t713 => (some (t713 == t712)))) = some r := H
  have A57 := am A570
  clear A570
  replace H := Option.bind_eq_some_iff.mp H
  obtain ⟨t712, A580, H⟩ := H
  replace H : ((d_Wants.f k l0_9).bind fun t713 => (some (t713 == t712))) = some r := H
  have A58 := am A580
  clear A580
  replace H := Option.bind_eq_some_iff.mp H
  obtain ⟨t713, A590, H⟩ := H
  replace H : (some (t713 == t712)) = some r := H
  have A59 := am A590
  clear A590
  obtain rfl := Option.some.inj H
  go_enter Tryd.func18, Tryd.ntmps18
  go_wp2_with (first | ((with_reducible refine gate_dst (N := 1) rfl ?_); refine box_event ?hg (N := 1) ?hd (cs := #[.int .i64 a0_0, .string a0_1, .string a0_2, .int .u8 a0_3, .int .i64 a0_4, .int .i64 a0_5, .int .i64 a0_6, .int .i64 a0_7, .int .i64 a0_8, .slice A0_9 l0_9.length c0_9, .int .i64 a0_10, .int .i64 a0_11]) (t := 43) ?hr ?_; (case hd => rfl); (case hg => rfl); (case hr => first | (go_simp; done) | (go_simp; rfl)); intro gb688 hg w60 hbox hb; have n0_ := am (below_step bl hb); have n1_ := am (hbox); have n2_ := am ((by rw [hg]; exact (below_size bl) : w.heap.size ≤ gb688)); have n3_ := n2_; clear HB; have HB := n0_; have BK688 := n1_; have GW688 := n2_; have GE688 := n3_; clear n0_ n1_ n2_ n3_; clear hb hbox hg; obtain ⟨⟨hcz61_0, hcz61_1, hcz61_2, hcz61_3, hcz61_4, hcz61_5, hcz61_6, hcz61_7, hcz61_8, hcz61_9, hcz61_10, hcz61_11⟩, hfz61_0, hfz61_1, hfz61_2, hfz61_3, hfz61_4, hfz61_5, hfz61_6, hfz61_7, hfz61_8, hfz61_9, hfz61_10, hfz61_11⟩ := blkAll12 BK688) | ((with_reducible refine gate_callee (f := 17) rfl ?_); refine goesL_ (some 93) rfl rfl Tryd.func17 (by kernel_rfl) rfl #[.slice A0_9 l0_9.length c0_9] rfl ls ?_; (with_reducible refine (w_copied.calls _ _ l0_9 t709 _ ?side1 ?side2 A57.out).mono ?_); (case side1 => repeat (first | exact (Kd.C_below HR0_9.out HB.out) | (with_reducible refine Kd.C_alloc ?_ _) | (with_reducible refine Kd.C_drewN ?_ _) | (with_reducible refine Kd.C_drew ?_))); (case side2 => exact HC0_9.out); rintro e w62 ⟨v710, rfl, ho0, hb⟩; refine ⟨_, rfl, ?_⟩; have n0_ := am (Kd.R_lower ho0 (below_size bs)); have n1_ := am (blk_below (bu BK688.out) hb); have n2_ := am (below_step bs hb); clear BK688; clear HB; have HO711 := n0_; have BK688 := n1_; have HB := n2_; clear n0_ n1_ n2_; (try clear hb); (try clear hb2); (try clear hk); (try clear hi); (try clear ho0); obtain ⟨Ao63, co63, eo63⟩ := Kd.R_slice HO711.out; subst eo63) | ((with_reducible refine gate_callee (f := 33) rfl ?_); refine goesL_ (some 94) rfl rfl Tryd.func33 (by kernel_rfl) rfl #[.slice Ao63 t709.length co63] rfl ls ?_; (with_reducible refine (q_Wants.calls k _ _ t709 t712 _ ?side1 ?side2 A58.out).mono ?_); (case side1 => repeat (first | exact (Kd.R_reads' HO711.out).2.2 | (with_reducible refine Kd.C_alloc ?_ _) | (with_reducible refine Kd.C_drewN ?_ _) | (with_reducible refine Kd.C_drew ?_))); (case side2 => exact (Kd.R_reads' HO711.out).2.1); rintro e w64 ⟨rfl, hb⟩; refine ⟨_, rfl, ?_⟩; have n0_ := am (Kd.R_below (by (with_reducible repeat (first | apply Kd.R_alloc | apply Kd.R_drewN | apply Kd.R_drew)); exact HO711.out) hb); have n1_ := am (blk_below (bu BK688.out) hb); have n2_ := am (below_step bs hb); clear HO711; clear BK688; clear HB; have HO711 := n0_; have BK688 := n1_; have HB := n2_; clear n0_ n1_ n2_; (try clear hb); (try clear hb2); (try clear hk); (try clear hi); obtain ⟨⟨hcz65_0, hcz65_1, hcz65_2, hcz65_3, hcz65_4, hcz65_5, hcz65_6, hcz65_7, hcz65_8, hcz65_9, hcz65_10, hcz65_11⟩, hfz65_0, hfz65_1, hfz65_2, hfz65_3, hfz65_4, hfz65_5, hfz65_6, hfz65_7, hfz65_8, hfz65_9, hfz65_10, hfz65_11⟩ := blkAll12 BK688) | ((with_reducible refine gate_callee (f := 15) rfl ?_); refine goesL_ (some 97) rfl rfl Tryd.func15 (by kernel_rfl) rfl #[.slice A0_9 l0_9.length c0_9] rfl ls ?_; (with_reducible refine (d_Wants.calls k _ _ l0_9 t713 _ ?side1 ?side2 A59.out).mono ?_); (case side1 => repeat (first | exact (Kd.C_below HR0_9.out HB.out) | (with_reducible refine Kd.C_alloc ?_ _) | (with_reducible refine Kd.C_drewN ?_ _) | (with_reducible refine Kd.C_drew ?_))); (case side2 => exact HC0_9.out); rintro e w66 ⟨rfl, hb⟩; refine ⟨_, rfl, ?_⟩; have n0_ := am (Kd.R_below (by (with_reducible repeat (first | apply Kd.R_alloc | apply Kd.R_drewN | apply Kd.R_drew)); exact HO711.out) hb); have n1_ := am (blk_below (bu BK688.out) hb); have n2_ := am (below_step bs hb); clear HO711; clear BK688; clear HB; have HO711 := n0_; have BK688 := n1_; have HB := n2_; clear n0_ n1_ n2_; (try clear hb); (try clear hb2); (try clear hk); (try clear hi)))
  go_ret
  exact ⟨er, bs⟩
 rw [if_neg c56] at H
 have c56b0 : (a0_0 == 4) = false := beq_eq_false_iff_ne.mpr c56
 have c56b1 : (a0_0 != 4) = true := bne_iff_ne.mpr c56
 by_cases c67 : a0_0 = 5
 ·rw [if_pos c67] at H
  have c67b0 : (a0_0 == 5) = true := beq_iff_eq.mpr c67
  have c67b1 : (a0_0 != 5) = false := bne_eq_false_iff_eq.mpr c67
  clear c67
  replace H := Option.bind_eq_some_iff.mp H
  obtain ⟨⟨t714, t715, t716, t717, t718⟩, A680, H⟩ := H
  replace H : ((q_Settle.f k a0_2 a0_3 a0_4 a0_5 a0_6 a0_7 a0_8 a0_10 a0_11).bind fun bt720 => (if (t714 == bt720.1 && (t715 == bt720.2.1 && (t716 == bt720.2.2.1 && (t717 == bt720.2.2.2.1)))) = true then (some (t718 == bt720.2.2.2.2)) else (some false))) = some r := H
  have A68 := am A680
  clear A680
  replace H := Option.bind_eq_some_iff.mp H
  obtain ⟨⟨t720, t721, t722, t723, t724⟩, A690, H⟩ := H
  replace H : (if (t714 == t720 && (t715 == t721 && (t716 == t722 && (t717 == t723)))) = true then (some (t718 == t724)) else (some false)) = some r := H
  have A69 := am A690
  clear A690
  by_cases c70 : (t714 == t720 && (t715 == t721 && (t716 == t722 && (t717 == t723)))) = true
  ·rw [if_pos c70] at H
   have c70b0 : (t714 == t720 && (t715 == t721 && (t716 == t722 && (t717 == t723)))) = true := c70
   (try (have c70b1 : decide (t714 = t720 && (t715 == t721 && (t716 == t722 && (t717 == t723)))) = true := by simpa using c70))
   (try (have c70b2 : (t714 == t720 && (t715 == t721 && (t716 == t722 && (t717 == t723)))) = true := by simpa using c70))
   clear c70
   obtain rfl := Option.some.inj H
   go_enter Tryd.func18, Tryd.ntmps18
   go_wp2_with (first | ((with_reducible refine gate_dst (N := 1) rfl ?_); refine box_event ?hg (N := 1) ?hd (cs := #[.int .i64 a0_0, .string a0_1, .string a0_2, .int .u8 a0_3, .int .i64 a0_4, .int .i64 a0_5, .int .i64 a0_6, .int .i64 a0_7, .int .i64 a0_8, .slice A0_9 l0_9.length c0_9, .int .i64 a0_10, .int .i64 a0_11]) (t := 43) ?hr ?_; (case hd => rfl); (case hg => rfl); (case hr => first | (go_simp; done) | (go_simp; rfl)); intro gb688 hg w71 hbox hb; have n0_ := am (below_step bl hb); have n1_ := am (hbox); have n2_ := am ((by rw [hg]; exact (below_size bl) : w.heap.size ≤ gb688)); have n3_ := n2_; clear HB; have HB := n0_; have BK688 := n1_; have GW688 := n2_; have GE688 := n3_; clear n0_ n1_ n2_ n3_; clear hb hbox hg; obtain ⟨⟨hcz72_0, hcz72_1, hcz72_2, hcz72_3, hcz72_4, hcz72_5, hcz72_6, hcz72_7, hcz72_8, hcz72_9, hcz72_10, hcz72_11⟩, hfz72_0, hfz72_1, hfz72_2, hfz72_3, hfz72_4, hfz72_5, hfz72_6, hfz72_7, hfz72_8, hfz72_9, hfz72_10, hfz72_11⟩ := blkAll12 BK688) | ((with_reducible refine gate_callee (f := 16) rfl ?_); refine goesL_ (some 109) rfl rfl Tryd.func16 (by kernel_rfl) rfl #[.agg #[.string a0_2, .int .u8 a0_3, .int .i64 a0_4, .int .i64 a0_5, .int .i64 a0_6, .int .i64 a0_7, .int .i64 a0_8], .int .i64 a0_10, .int .i64 a0_11] rfl ls ?_; (with_reducible refine (d_Settle.calls k a0_2 a0_3 a0_4 a0_5 a0_6 a0_7 a0_8 a0_10 a0_11 t714 t715 t716 t717 t718 _ A68.out).mono ?_); rintro e w73 ⟨rfl, hb⟩; refine ⟨_, rfl, ?_⟩; have n0_ := am (blk_below (bu BK688.out) hb); have n1_ := am (below_step bs hb); clear BK688; clear HB; have BK688 := n0_; have HB := n1_; clear n0_ n1_; (try clear hb); (try clear hb2); (try clear hk); (try clear hi)) | ((with_reducible refine gate_dst (N := 14) rfl ?_); refine box_event ?hg (N := 14) ?hd (cs := #[.int .u8 0, .int .i64 0, .int .i64 0, .int .i64 0]) (t := 37) ?hr ?_; (case hd => rfl); (case hg => rfl); (case hr => first | (go_simp; done) | (go_simp; rfl)); intro gb719 hg w74 hbox hb; have n0_ := am (blk_below (bu BK688.out) hb); have n1_ := am (below_step bs hb); have n2_ := am (hbox); have n3_ := am ((by rw [hg]; exact (below_size bs) : w.heap.size ≤ gb719)); have n4_ := am ((by rw [hg]; exact (below_size bs) : w.heap.size ≤ gb719)); have n5_ := am ((by rw [hg]; exact Nat.ne_of_lt (blk_lt (bu BK688.out)) : gb688 ≠ gb719)); have n6_ := am ((by rw [hg]; exact Nat.ne_of_gt (blk_lt (bu BK688.out)) : gb719 ≠ gb688)); clear BK688; clear HB; have BK688 := n0_; have HB := n1_; have BK719 := n2_; have GW719 := n3_; have GE719 := n4_; have NB688_719 := n5_; have NB719_688 := n6_; clear n0_ n1_ n2_ n3_ n4_ n5_ n6_; clear hb hbox hg; have hnb75 := NB719_688.out; have hnc75 := NB688_719.out; obtain ⟨⟨hcz76_0, hcz76_1, hcz76_2, hcz76_3⟩, hfz76_0, hfz76_1, hfz76_2, hfz76_3⟩ := blkAll4 BK719; obtain ⟨⟨hcz77_0, hcz77_1, hcz77_2, hcz77_3, hcz77_4, hcz77_5, hcz77_6, hcz77_7, hcz77_8, hcz77_9, hcz77_10, hcz77_11⟩, hfz77_0, hfz77_1, hfz77_2, hfz77_3, hfz77_4, hfz77_5, hfz77_6, hfz77_7, hfz77_8, hfz77_9, hfz77_10, hfz77_11⟩ := blkAll12 BK688) | ((with_reducible refine gate_callee (f := 34) rfl ?_); refine goesL_ (some 119) rfl rfl Tryd.func34 (by kernel_rfl) rfl #[.agg #[.string a0_2, .int .u8 a0_3, .int .i64 a0_4, .int .i64 a0_5, .int .i64 a0_6, .int .i64 a0_7, .int .i64 a0_8], .int .i64 a0_10, .int .i64 a0_11] rfl ls ?_; (with_reducible refine (q_Settle.calls k a0_2 a0_3 a0_4 a0_5 a0_6 a0_7 a0_8 a0_10 a0_11 t720 t721 t722 t723 t724 _ A69.out).mono ?_); rintro e w78 ⟨rfl, hb⟩; refine ⟨_, rfl, ?_⟩; have n0_ := am (blk_below (g := gb688) (o := .cells #[.int .i64 a0_0, .string a0_1, .string a0_2, .int .u8 a0_3, .int .i64 a0_4, .int .i64 a0_5, .int .i64 a0_6, .int .i64 a0_7, .int .i64 a0_8, .slice A0_9 l0_9.length c0_9, .int .i64 a0_10, .int .i64 a0_11] 43 (0, 0)) (by refine bu ?_; refine blk_far ?_ NB688_719.out _; refine bu ?_; refine blk_far ?_ NB688_719.out _; refine bu ?_; refine blk_far ?_ NB688_719.out _; refine bu ?_; refine blk_far ?_ NB688_719.out _; refine bu ?_; exact BK688.out) hb); have n1_ := am (blk_below (g := gb719) (o := .cells #[.int .u8 t714, .int .i64 t715, .int .i64 t716, .int .i64 t717] 37 (0, 0)) (by refine bu ?_; refine blk_put (cs := #[.int .u8 t714, .int .i64 t715, .int .i64 t716, .int .i64 0]) ?_ 3 _ rfl; refine bu ?_; refine blk_put (cs := #[.int .u8 t714, .int .i64 t715, .int .i64 0, .int .i64 0]) ?_ 2 _ rfl; refine bu ?_; refine blk_put (cs := #[.int .u8 t714, .int .i64 0, .int .i64 0, .int .i64 0]) ?_ 1 _ rfl; refine bu ?_; refine blk_put (cs := #[.int .u8 0, .int .i64 0, .int .i64 0, .int .i64 0]) ?_ 0 _ rfl; refine bu ?_; exact BK719.out) hb); have n2_ := am (below_step bs hb); clear BK688; clear BK719; clear HB; have BK688 := n0_; have BK719 := n1_; have HB := n2_; clear n0_ n1_ n2_; (try clear hb); (try clear hb2); (try clear hk); (try clear hi)) | ((with_reducible refine gate_dst (N := 16) rfl ?_); refine box_event ?hg (N := 16) ?hd (cs := #[.int .u8 0, .int .i64 0, .int .i64 0, .int .i64 0]) (t := 37) ?hr ?_; (case hd => rfl); (case hg => rfl); (case hr => first | (go_simp; done) | (go_simp; rfl)); intro gb725 hg w79 hbox hb; have n0_ := am (blk_below (bu BK688.out) hb); have n1_ := am (blk_below (bu BK719.out) hb); have n2_ := am (below_step bs hb); have n3_ := am (hbox); have n4_ := am ((by rw [hg]; exact (below_size bs) : w.heap.size ≤ gb725)); have n5_ := am ((by rw [hg]; exact (below_size bs) : w.heap.size ≤ gb725)); have n6_ := am ((by rw [hg]; exact Nat.ne_of_lt (blk_lt (bu BK688.out)) : gb688 ≠ gb725)); have n7_ := am ((by rw [hg]; exact Nat.ne_of_gt (blk_lt (bu BK688.out)) : gb725 ≠ gb688)); have n8_ := am ((by rw [hg]; exact Nat.ne_of_lt (blk_lt (bu BK719.out)) : gb719 ≠ gb725)); have n9_ := am ((by rw [hg]; exact Nat.ne_of_gt (blk_lt (bu BK719.out)) : gb725 ≠ gb719)); clear BK688; clear BK719; clear HB; have BK688 := n0_; have BK719 := n1_; have HB := n2_; have BK725 := n3_; have GW725 := n4_; have GE725 := n5_; have NB688_725 := n6_; have NB725_688 := n7_; have NB719_725 := n8_; have NB725_719 := n9_; clear n0_ n1_ n2_ n3_ n4_ n5_ n6_ n7_ n8_ n9_; clear hb hbox hg; have hnb80 := NB725_688.out; have hnc80 := NB688_725.out; have hnb81 := NB725_719.out; have hnc81 := NB719_725.out; obtain ⟨⟨hcz82_0, hcz82_1, hcz82_2, hcz82_3⟩, hfz82_0, hfz82_1, hfz82_2, hfz82_3⟩ := blkAll4 BK725; obtain ⟨⟨hcz83_0, hcz83_1, hcz83_2, hcz83_3⟩, hfz83_0, hfz83_1, hfz83_2, hfz83_3⟩ := blkAll4 BK719))
   go_ret
   exact ⟨er, bs⟩
  rw [if_neg c70] at H
  have c70b0 : (t714 == t720 && (t715 == t721 && (t716 == t722 && (t717 == t723)))) = false := by simpa using c70
  (try (have c70b1 : decide (t714 = t720 && (t715 == t721 && (t716 == t722 && (t717 == t723)))) = false := by simpa using c70))
  (try (have c70b2 : (t714 == t720 && (t715 == t721 && (t716 == t722 && (t717 == t723)))) = false := by simpa using c70))
  (try (have c70b3 : ¬ (t714 = t720 && (t715 == t721 && (t716 == t722 && (t717 == t723)))) := by simpa using c70))
  clear c70
  obtain rfl := Option.some.inj H
  go_enter Tryd.func18, Tryd.ntmps18
  go_wp2_with (first | ((with_reducible refine gate_dst (N := 1) rfl ?_); refine box_event ?hg (N := 1) ?hd (cs := #[.int .i64 a0_0, .string a0_1, .string a0_2, .int .u8 a0_3, .int .i64 a0_4, .int .i64 a0_5, .int .i64 a0_6, .int .i64 a0_7, .int .i64 a0_8, .slice A0_9 l0_9.length c0_9, .int .i64 a0_10, .int .i64 a0_11]) (t := 43) ?hr ?_; (case hd => rfl); (case hg => rfl); (case hr => first | (go_simp; done) | (go_simp; rfl)); intro gb688 hg w84 hbox hb; have n0_ := am (below_step bl hb); have n1_ := am (hbox); have n2_ := am ((by rw [hg]; exact (below_size bl) : w.heap.size ≤ gb688)); have n3_ := n2_; clear HB; have HB := n0_; have BK688 := n1_; have GW688 := n2_; have GE688 := n3_; clear n0_ n1_ n2_ n3_; clear hb hbox hg; obtain ⟨⟨hcz85_0, hcz85_1, hcz85_2, hcz85_3, hcz85_4, hcz85_5, hcz85_6, hcz85_7, hcz85_8, hcz85_9, hcz85_10, hcz85_11⟩, hfz85_0, hfz85_1, hfz85_2, hfz85_3, hfz85_4, hfz85_5, hfz85_6, hfz85_7, hfz85_8, hfz85_9, hfz85_10, hfz85_11⟩ := blkAll12 BK688) | ((with_reducible refine gate_callee (f := 16) rfl ?_); refine goesL_ (some 109) rfl rfl Tryd.func16 (by kernel_rfl) rfl #[.agg #[.string a0_2, .int .u8 a0_3, .int .i64 a0_4, .int .i64 a0_5, .int .i64 a0_6, .int .i64 a0_7, .int .i64 a0_8], .int .i64 a0_10, .int .i64 a0_11] rfl ls ?_; (with_reducible refine (d_Settle.calls k a0_2 a0_3 a0_4 a0_5 a0_6 a0_7 a0_8 a0_10 a0_11 t714 t715 t716 t717 t718 _ A68.out).mono ?_); rintro e w86 ⟨rfl, hb⟩; refine ⟨_, rfl, ?_⟩; have n0_ := am (blk_below (bu BK688.out) hb); have n1_ := am (below_step bs hb); clear BK688; clear HB; have BK688 := n0_; have HB := n1_; clear n0_ n1_; (try clear hb); (try clear hb2); (try clear hk); (try clear hi)) | ((with_reducible refine gate_dst (N := 14) rfl ?_); refine box_event ?hg (N := 14) ?hd (cs := #[.int .u8 0, .int .i64 0, .int .i64 0, .int .i64 0]) (t := 37) ?hr ?_; (case hd => rfl); (case hg => rfl); (case hr => first | (go_simp; done) | (go_simp; rfl)); intro gb719 hg w87 hbox hb; have n0_ := am (blk_below (bu BK688.out) hb); have n1_ := am (below_step bs hb); have n2_ := am (hbox); have n3_ := am ((by rw [hg]; exact (below_size bs) : w.heap.size ≤ gb719)); have n4_ := am ((by rw [hg]; exact (below_size bs) : w.heap.size ≤ gb719)); have n5_ := am ((by rw [hg]; exact Nat.ne_of_lt (blk_lt (bu BK688.out)) : gb688 ≠ gb719)); have n6_ := am ((by rw [hg]; exact Nat.ne_of_gt (blk_lt (bu BK688.out)) : gb719 ≠ gb688)); clear BK688; clear HB; have BK688 := n0_; have HB := n1_; have BK719 := n2_; have GW719 := n3_; have GE719 := n4_; have NB688_719 := n5_; have NB719_688 := n6_; clear n0_ n1_ n2_ n3_ n4_ n5_ n6_; clear hb hbox hg; have hnb88 := NB719_688.out; have hnc88 := NB688_719.out; obtain ⟨⟨hcz89_0, hcz89_1, hcz89_2, hcz89_3⟩, hfz89_0, hfz89_1, hfz89_2, hfz89_3⟩ := blkAll4 BK719; obtain ⟨⟨hcz90_0, hcz90_1, hcz90_2, hcz90_3, hcz90_4, hcz90_5, hcz90_6, hcz90_7, hcz90_8, hcz90_9, hcz90_10, hcz90_11⟩, hfz90_0, hfz90_1, hfz90_2, hfz90_3, hfz90_4, hfz90_5, hfz90_6, hfz90_7, hfz90_8, hfz90_9, hfz90_10, hfz90_11⟩ := blkAll12 BK688) | ((with_reducible refine gate_callee (f := 34) rfl ?_); refine goesL_ (some 119) rfl rfl Tryd.func34 (by kernel_rfl) rfl #[.agg #[.string a0_2, .int .u8 a0_3, .int .i64 a0_4, .int .i64 a0_5, .int .i64 a0_6, .int .i64 a0_7, .int .i64 a0_8], .int .i64 a0_10, .int .i64 a0_11] rfl ls ?_; (with_reducible refine (q_Settle.calls k a0_2 a0_3 a0_4 a0_5 a0_6 a0_7 a0_8 a0_10 a0_11 t720 t721 t722 t723 t724 _ A69.out).mono ?_); rintro e w91 ⟨rfl, hb⟩; refine ⟨_, rfl, ?_⟩; have n0_ := am (blk_below (g := gb688) (o := .cells #[.int .i64 a0_0, .string a0_1, .string a0_2, .int .u8 a0_3, .int .i64 a0_4, .int .i64 a0_5, .int .i64 a0_6, .int .i64 a0_7, .int .i64 a0_8, .slice A0_9 l0_9.length c0_9, .int .i64 a0_10, .int .i64 a0_11] 43 (0, 0)) (by refine bu ?_; refine blk_far ?_ NB688_719.out _; refine bu ?_; refine blk_far ?_ NB688_719.out _; refine bu ?_; refine blk_far ?_ NB688_719.out _; refine bu ?_; refine blk_far ?_ NB688_719.out _; refine bu ?_; exact BK688.out) hb); have n1_ := am (blk_below (g := gb719) (o := .cells #[.int .u8 t714, .int .i64 t715, .int .i64 t716, .int .i64 t717] 37 (0, 0)) (by refine bu ?_; refine blk_put (cs := #[.int .u8 t714, .int .i64 t715, .int .i64 t716, .int .i64 0]) ?_ 3 _ rfl; refine bu ?_; refine blk_put (cs := #[.int .u8 t714, .int .i64 t715, .int .i64 0, .int .i64 0]) ?_ 2 _ rfl; refine bu ?_; refine blk_put (cs := #[.int .u8 t714, .int .i64 0, .int .i64 0, .int .i64 0]) ?_ 1 _ rfl; refine bu ?_; refine blk_put (cs := #[.int .u8 0, .int .i64 0, .int .i64 0, .int .i64 0]) ?_ 0 _ rfl; refine bu ?_; exact BK719.out) hb); have n2_ := am (below_step bs hb); clear BK688; clear BK719; clear HB; have BK688 := n0_; have BK719 := n1_; have HB := n2_; clear n0_ n1_ n2_; (try clear hb); (try clear hb2); (try clear hk); (try clear hi)) | ((with_reducible refine gate_dst (N := 16) rfl ?_); refine box_event ?hg (N := 16) ?hd (cs := #[.int .u8 0, .int .i64 0, .int .i64 0, .int .i64 0]) (t := 37) ?hr ?_; (case hd => rfl); (case hg => rfl); (case hr => first | (go_simp; done) | (go_simp; rfl)); intro gb725 hg w92 hbox hb; have n0_ := am (blk_below (bu BK688.out) hb); have n1_ := am (blk_below (bu BK719.out) hb); have n2_ := am (below_step bs hb); have n3_ := am (hbox); have n4_ := am ((by rw [hg]; exact (below_size bs) : w.heap.size ≤ gb725)); have n5_ := am ((by rw [hg]; exact (below_size bs) : w.heap.size ≤ gb725)); have n6_ := am ((by rw [hg]; exact Nat.ne_of_lt (blk_lt (bu BK688.out)) : gb688 ≠ gb725)); have n7_ := am ((by rw [hg]; exact Nat.ne_of_gt (blk_lt (bu BK688.out)) : gb725 ≠ gb688)); have n8_ := am ((by rw [hg]; exact Nat.ne_of_lt (blk_lt (bu BK719.out)) : gb719 ≠ gb725)); have n9_ := am ((by rw [hg]; exact Nat.ne_of_gt (blk_lt (bu BK719.out)) : gb725 ≠ gb719)); clear BK688; clear BK719; clear HB; have BK688 := n0_; have BK719 := n1_; have HB := n2_; have BK725 := n3_; have GW725 := n4_; have GE725 := n5_; have NB688_725 := n6_; have NB725_688 := n7_; have NB719_725 := n8_; have NB725_719 := n9_; clear n0_ n1_ n2_ n3_ n4_ n5_ n6_ n7_ n8_ n9_; clear hb hbox hg; have hnb93 := NB725_688.out; have hnc93 := NB688_725.out; have hnb94 := NB725_719.out; have hnc94 := NB719_725.out; obtain ⟨⟨hcz95_0, hcz95_1, hcz95_2, hcz95_3⟩, hfz95_0, hfz95_1, hfz95_2, hfz95_3⟩ := blkAll4 BK725; obtain ⟨⟨hcz96_0, hcz96_1, hcz96_2, hcz96_3⟩, hfz96_0, hfz96_1, hfz96_2, hfz96_3⟩ := blkAll4 BK719))
  go_ret
  exact ⟨er, bs⟩
 rw [if_neg c67] at H
 have c67b0 : (a0_0 == 5) = false := beq_eq_false_iff_ne.mpr c67
 have c67b1 : (a0_0 != 5) = true := bne_iff_ne.mpr c67
 by_cases c97 : a0_0 = 6
 rotate_left
 ·rw [if_neg c97] at H
  have c97b0 : (a0_0 == 6) = false := beq_eq_false_iff_ne.mpr c97
  have c97b1 : (a0_0 != 6) = true := bne_iff_ne.mpr c97
  obtain rfl := Option.some.inj H
  go_enter Tryd.func18, Tryd.ntmps18
  go_wp2_with (first | ((with_reducible refine gate_dst (N := 1) rfl ?_); refine box_event ?hg (N := 1) ?hd (cs := #[.int .i64 a0_0, .string a0_1, .string a0_2, .int .u8 a0_3, .int .i64 a0_4, .int .i64 a0_5, .int .i64 a0_6, .int .i64 a0_7, .int .i64 a0_8, .slice A0_9 l0_9.length c0_9, .int .i64 a0_10, .int .i64 a0_11]) (t := 43) ?hr ?_; (case hd => rfl); (case hg => rfl); (case hr => first | (go_simp; done) | (go_simp; rfl)); intro gb688 hg w154 hbox hb; have n0_ := am (below_step bl hb); have n1_ := am (hbox); have n2_ := am ((by rw [hg]; exact (below_size bl) : w.heap.size ≤ gb688)); have n3_ := n2_; clear HB; have HB := n0_; have BK688 := n1_; have GW688 := n2_; have GE688 := n3_; clear n0_ n1_ n2_ n3_; clear hb hbox hg; obtain ⟨⟨hcz155_0, hcz155_1, hcz155_2, hcz155_3, hcz155_4, hcz155_5, hcz155_6, hcz155_7, hcz155_8, hcz155_9, hcz155_10, hcz155_11⟩, hfz155_0, hfz155_1, hfz155_2, hfz155_3, hfz155_4, hfz155_5, hfz155_6, hfz155_7, hfz155_8, hfz155_9, hfz155_10, hfz155_11⟩ := blkAll12 BK688))
  go_ret
  exact ⟨er, bs⟩
 rw [if_pos c97] at H
 have c97b0 : (a0_0 == 6) = true := beq_iff_eq.mpr c97
 have c97b1 : (a0_0 != 6) = false := bne_eq_false_iff_eq.mpr c97
 clear c97
 replace H := Option.bind_eq_some_iff.mp H
 obtain ⟨⟨t726, t727, t728, t729, t730, t731, t732⟩, A980, H⟩ := H
 replace H : ((q_Single.f k a0_1).bind fun bt734 => (if t726.toList = bt734.1.toList then (if (t727 == bt734.2.1 && (t728 == bt734.2.2.1 && (t729 == bt734.2.2.2.1 && (t730 == bt734.2.2.2.2.1)))) = true then (if t731.toList = bt734.2.2.2.2.2.1.toList then (some (t732 == bt734.2.2.2.2.2.2)) else (some false)) else (some false)) else (some false))) = some r := H
 have A98 := am A980
 clear A980
 replace H := Option.bind_eq_some_iff.mp H
 obtain ⟨⟨t734, t735, t736, t737, t738, t739, t740⟩, A990, H⟩ := H
 replace H : (if t726.toList = t734.toList then (if (t727 == t735 && (t728 == t736 && (t729 == t737 && (t730 == t738)))) = true then (if t731.toList = t739.toList then (some (t732 == t740)) else (some false)) else (some false)) else (some false)) = some r := H
 have A99 := am A990
 clear A990
 by_cases c100 : t726.toList = t734.toList
 rotate_left
 ·rw [if_neg c100] at H
  have c100b0 : (t726.toList == t734.toList) = false := beq_eq_false_iff_ne.mpr c100
  have c100b1 : (t726.toList != t734.toList) = true := bne_iff_ne.mpr c100
  obtain rfl := Option.some.inj H
  go_enter Tryd.func18, Tryd.ntmps18
  go_wp2_with (first | ((with_reducible refine gate_dst (N := 1) rfl ?_); refine box_event ?hg (N := 1) ?hd (cs := #[.int .i64 a0_0, .string a0_1, .string a0_2, .int .u8 a0_3, .int .i64 a0_4, .int .i64 a0_5, .int .i64 a0_6, .int .i64 a0_7, .int .i64 a0_8, .slice A0_9 l0_9.length c0_9, .int .i64 a0_10, .int .i64 a0_11]) (t := 43) ?hr ?_; (case hd => rfl); (case hg => rfl); (case hr => first | (go_simp; done) | (go_simp; rfl)); intro gb688 hg w142 hbox hb; have n0_ := am (below_step bl hb); have n1_ := am (hbox); have n2_ := am ((by rw [hg]; exact (below_size bl) : w.heap.size ≤ gb688)); have n3_ := n2_; clear HB; have HB := n0_; have BK688 := n1_; have GW688 := n2_; have GE688 := n3_; clear n0_ n1_ n2_ n3_; clear hb hbox hg; obtain ⟨⟨hcz143_0, hcz143_1, hcz143_2, hcz143_3, hcz143_4, hcz143_5, hcz143_6, hcz143_7, hcz143_8, hcz143_9, hcz143_10, hcz143_11⟩, hfz143_0, hfz143_1, hfz143_2, hfz143_3, hfz143_4, hfz143_5, hfz143_6, hfz143_7, hfz143_8, hfz143_9, hfz143_10, hfz143_11⟩ := blkAll12 BK688) | ((with_reducible refine gate_callee (f := 23) rfl ?_); refine goesL_ (some 135) rfl rfl Tryd.func23 (by kernel_rfl) rfl #[.string a0_1] rfl ls ?_; (with_reducible refine (d_Single.calls k a0_1 t726 t727 t728 t729 t730 t731 t732 _ A98.out).mono ?_); rintro e w144 ⟨rfl, hb⟩; refine ⟨_, rfl, ?_⟩; have n0_ := am (blk_below (bu BK688.out) hb); have n1_ := am (below_step bs hb); clear BK688; clear HB; have BK688 := n0_; have HB := n1_; clear n0_ n1_; (try clear hb); (try clear hb2); (try clear hk); (try clear hi)) | ((with_reducible refine gate_dst (N := 19) rfl ?_); refine box_event ?hg (N := 19) ?hd (cs := #[.int .u8 0, .int .i64 0, .int .i64 0, .int .i64 0]) (t := 37) ?hr ?_; (case hd => rfl); (case hg => rfl); (case hr => first | (go_simp; done) | (go_simp; rfl)); intro gb733 hg w145 hbox hb; have n0_ := am (blk_below (bu BK688.out) hb); have n1_ := am (below_step bs hb); have n2_ := am (hbox); have n3_ := am ((by rw [hg]; exact (below_size bs) : w.heap.size ≤ gb733)); have n4_ := am ((by rw [hg]; exact (below_size bs) : w.heap.size ≤ gb733)); have n5_ := am ((by rw [hg]; exact Nat.ne_of_lt (blk_lt (bu BK688.out)) : gb688 ≠ gb733)); have n6_ := am ((by rw [hg]; exact Nat.ne_of_gt (blk_lt (bu BK688.out)) : gb733 ≠ gb688)); clear BK688; clear HB; have BK688 := n0_; have HB := n1_; have BK733 := n2_; have GW733 := n3_; have GE733 := n4_; have NB688_733 := n5_; have NB733_688 := n6_; clear n0_ n1_ n2_ n3_ n4_ n5_ n6_; clear hb hbox hg; have hnb146 := NB733_688.out; have hnc146 := NB688_733.out; obtain ⟨⟨hcz147_0, hcz147_1, hcz147_2, hcz147_3⟩, hfz147_0, hfz147_1, hfz147_2, hfz147_3⟩ := blkAll4 BK733; obtain ⟨⟨hcz148_0, hcz148_1, hcz148_2, hcz148_3, hcz148_4, hcz148_5, hcz148_6, hcz148_7, hcz148_8, hcz148_9, hcz148_10, hcz148_11⟩, hfz148_0, hfz148_1, hfz148_2, hfz148_3, hfz148_4, hfz148_5, hfz148_6, hfz148_7, hfz148_8, hfz148_9, hfz148_10, hfz148_11⟩ := blkAll12 BK688) | ((with_reducible refine gate_callee (f := 35) rfl ?_); refine goesL_ (some 143) rfl rfl Tryd.func35 (by kernel_rfl) rfl #[.string a0_1] rfl ls ?_; (with_reducible refine (q_Single.calls k a0_1 t734 t735 t736 t737 t738 t739 t740 _ A99.out).mono ?_); rintro e w149 ⟨rfl, hb⟩; refine ⟨_, rfl, ?_⟩; have n0_ := am (blk_below (g := gb688) (o := .cells #[.int .i64 a0_0, .string a0_1, .string a0_2, .int .u8 a0_3, .int .i64 a0_4, .int .i64 a0_5, .int .i64 a0_6, .int .i64 a0_7, .int .i64 a0_8, .slice A0_9 l0_9.length c0_9, .int .i64 a0_10, .int .i64 a0_11] 43 (0, 0)) (by refine bu ?_; refine blk_far ?_ NB688_733.out _; refine bu ?_; refine blk_far ?_ NB688_733.out _; refine bu ?_; refine blk_far ?_ NB688_733.out _; refine bu ?_; refine blk_far ?_ NB688_733.out _; refine bu ?_; exact BK688.out) hb); have n1_ := am (blk_below (g := gb733) (o := .cells #[.int .u8 t727, .int .i64 t728, .int .i64 t729, .int .i64 t730] 37 (0, 0)) (by refine bu ?_; refine blk_put (cs := #[.int .u8 t727, .int .i64 t728, .int .i64 t729, .int .i64 0]) ?_ 3 _ rfl; refine bu ?_; refine blk_put (cs := #[.int .u8 t727, .int .i64 t728, .int .i64 0, .int .i64 0]) ?_ 2 _ rfl; refine bu ?_; refine blk_put (cs := #[.int .u8 t727, .int .i64 0, .int .i64 0, .int .i64 0]) ?_ 1 _ rfl; refine bu ?_; refine blk_put (cs := #[.int .u8 0, .int .i64 0, .int .i64 0, .int .i64 0]) ?_ 0 _ rfl; refine bu ?_; exact BK733.out) hb); have n2_ := am (below_step bs hb); clear BK688; clear BK733; clear HB; have BK688 := n0_; have BK733 := n1_; have HB := n2_; clear n0_ n1_ n2_; (try clear hb); (try clear hb2); (try clear hk); (try clear hi)) | ((with_reducible refine gate_dst (N := 23) rfl ?_); refine box_event ?hg (N := 23) ?hd (cs := #[.int .u8 0, .int .i64 0, .int .i64 0, .int .i64 0]) (t := 37) ?hr ?_; (case hd => rfl); (case hg => rfl); (case hr => first | (go_simp; done) | (go_simp; rfl)); intro gb741 hg w150 hbox hb; have n0_ := am (blk_below (bu BK688.out) hb); have n1_ := am (blk_below (bu BK733.out) hb); have n2_ := am (below_step bs hb); have n3_ := am (hbox); have n4_ := am ((by rw [hg]; exact (below_size bs) : w.heap.size ≤ gb741)); have n5_ := am ((by rw [hg]; exact (below_size bs) : w.heap.size ≤ gb741)); have n6_ := am ((by rw [hg]; exact Nat.ne_of_lt (blk_lt (bu BK688.out)) : gb688 ≠ gb741)); have n7_ := am ((by rw [hg]; exact Nat.ne_of_gt (blk_lt (bu BK688.out)) : gb741 ≠ gb688)); have n8_ := am ((by rw [hg]; exact Nat.ne_of_lt (blk_lt (bu BK733.out)) : gb733 ≠ gb741)); have n9_ := am ((by rw [hg]; exact Nat.ne_of_gt (blk_lt (bu BK733.out)) : gb741 ≠ gb733)); clear BK688; clear BK733; clear HB; have BK688 := n0_; have BK733 := n1_; have HB := n2_; have BK741 := n3_; have GW741 := n4_; have GE741 := n5_; have NB688_741 := n6_; have NB741_688 := n7_; have NB733_741 := n8_; have NB741_733 := n9_; clear n0_ n1_ n2_ n3_ n4_ n5_ n6_ n7_ n8_ n9_; clear hb hbox hg; have hnb151 := NB741_688.out; have hnc151 := NB688_741.out; have hnb152 := NB741_733.out; have hnc152 := NB733_741.out; obtain ⟨⟨hcz153_0, hcz153_1, hcz153_2, hcz153_3⟩, hfz153_0, hfz153_1, hfz153_2, hfz153_3⟩ := blkAll4 BK741))
  go_ret
  exact ⟨er, bs⟩
 rw [if_pos c100] at H
 have c100b0 : (t726.toList == t734.toList) = true := beq_iff_eq.mpr c100
 have c100b1 : (t726.toList != t734.toList) = false := bne_eq_false_iff_eq.mpr c100
 clear c100
 by_cases c101 : (t727 == t735 && (t728 == t736 && (t729 == t737 && (t730 == t738)))) = true
 rotate_left
 ·rw [if_neg c101] at H
  have c101b0 : (t727 == t735 && (t728 == t736 && (t729 == t737 && (t730 == t738)))) = false := by simpa using c101
  (try (have c101b1 : decide (t727 = t735 && (t728 == t736 && (t729 == t737 && (t730 == t738)))) = false := by simpa using c101))
  (try (have c101b2 : (t727 == t735 && (t728 == t736 && (t729 == t737 && (t730 == t738)))) = false := by simpa using c101))
  (try (have c101b3 : ¬ (t727 = t735 && (t728 == t736 && (t729 == t737 && (t730 == t738)))) := by simpa using c101))
  clear c101
  obtain rfl := Option.some.inj H
  go_enter Tryd.func18, Tryd.ntmps18
  go_wp2_with (first | ((with_reducible refine gate_dst (N := 1) rfl ?_); refine box_event ?hg (N := 1) ?hd (cs := #[.int .i64 a0_0, .string a0_1, .string a0_2, .int .u8 a0_3, .int .i64 a0_4, .int .i64 a0_5, .int .i64 a0_6, .int .i64 a0_7, .int .i64 a0_8, .slice A0_9 l0_9.length c0_9, .int .i64 a0_10, .int .i64 a0_11]) (t := 43) ?hr ?_; (case hd => rfl); (case hg => rfl); (case hr => first | (go_simp; done) | (go_simp; rfl)); intro gb688 hg w129 hbox hb; have n0_ := am (below_step bl hb); have n1_ := am (hbox); have n2_ := am ((by rw [hg]; exact (below_size bl) : w.heap.size ≤ gb688)); have n3_ := n2_; clear HB; have HB := n0_; have BK688 := n1_; have GW688 := n2_; have GE688 := n3_; clear n0_ n1_ n2_ n3_; clear hb hbox hg; obtain ⟨⟨hcz130_0, hcz130_1, hcz130_2, hcz130_3, hcz130_4, hcz130_5, hcz130_6, hcz130_7, hcz130_8, hcz130_9, hcz130_10, hcz130_11⟩, hfz130_0, hfz130_1, hfz130_2, hfz130_3, hfz130_4, hfz130_5, hfz130_6, hfz130_7, hfz130_8, hfz130_9, hfz130_10, hfz130_11⟩ := blkAll12 BK688) | ((with_reducible refine gate_callee (f := 23) rfl ?_); refine goesL_ (some 135) rfl rfl Tryd.func23 (by kernel_rfl) rfl #[.string a0_1] rfl ls ?_; (with_reducible refine (d_Single.calls k a0_1 t726 t727 t728 t729 t730 t731 t732 _ A98.out).mono ?_); rintro e w131 ⟨rfl, hb⟩; refine ⟨_, rfl, ?_⟩; have n0_ := am (blk_below (bu BK688.out) hb); have n1_ := am (below_step bs hb); clear BK688; clear HB; have BK688 := n0_; have HB := n1_; clear n0_ n1_; (try clear hb); (try clear hb2); (try clear hk); (try clear hi)) | ((with_reducible refine gate_dst (N := 19) rfl ?_); refine box_event ?hg (N := 19) ?hd (cs := #[.int .u8 0, .int .i64 0, .int .i64 0, .int .i64 0]) (t := 37) ?hr ?_; (case hd => rfl); (case hg => rfl); (case hr => first | (go_simp; done) | (go_simp; rfl)); intro gb733 hg w132 hbox hb; have n0_ := am (blk_below (bu BK688.out) hb); have n1_ := am (below_step bs hb); have n2_ := am (hbox); have n3_ := am ((by rw [hg]; exact (below_size bs) : w.heap.size ≤ gb733)); have n4_ := am ((by rw [hg]; exact (below_size bs) : w.heap.size ≤ gb733)); have n5_ := am ((by rw [hg]; exact Nat.ne_of_lt (blk_lt (bu BK688.out)) : gb688 ≠ gb733)); have n6_ := am ((by rw [hg]; exact Nat.ne_of_gt (blk_lt (bu BK688.out)) : gb733 ≠ gb688)); clear BK688; clear HB; have BK688 := n0_; have HB := n1_; have BK733 := n2_; have GW733 := n3_; have GE733 := n4_; have NB688_733 := n5_; have NB733_688 := n6_; clear n0_ n1_ n2_ n3_ n4_ n5_ n6_; clear hb hbox hg; have hnb133 := NB733_688.out; have hnc133 := NB688_733.out; obtain ⟨⟨hcz134_0, hcz134_1, hcz134_2, hcz134_3⟩, hfz134_0, hfz134_1, hfz134_2, hfz134_3⟩ := blkAll4 BK733; obtain ⟨⟨hcz135_0, hcz135_1, hcz135_2, hcz135_3, hcz135_4, hcz135_5, hcz135_6, hcz135_7, hcz135_8, hcz135_9, hcz135_10, hcz135_11⟩, hfz135_0, hfz135_1, hfz135_2, hfz135_3, hfz135_4, hfz135_5, hfz135_6, hfz135_7, hfz135_8, hfz135_9, hfz135_10, hfz135_11⟩ := blkAll12 BK688) | ((with_reducible refine gate_callee (f := 35) rfl ?_); refine goesL_ (some 143) rfl rfl Tryd.func35 (by kernel_rfl) rfl #[.string a0_1] rfl ls ?_; (with_reducible refine (q_Single.calls k a0_1 t734 t735 t736 t737 t738 t739 t740 _ A99.out).mono ?_); rintro e w136 ⟨rfl, hb⟩; refine ⟨_, rfl, ?_⟩; have n0_ := am (blk_below (g := gb688) (o := .cells #[.int .i64 a0_0, .string a0_1, .string a0_2, .int .u8 a0_3, .int .i64 a0_4, .int .i64 a0_5, .int .i64 a0_6, .int .i64 a0_7, .int .i64 a0_8, .slice A0_9 l0_9.length c0_9, .int .i64 a0_10, .int .i64 a0_11] 43 (0, 0)) (by refine bu ?_; refine blk_far ?_ NB688_733.out _; refine bu ?_; refine blk_far ?_ NB688_733.out _; refine bu ?_; refine blk_far ?_ NB688_733.out _; refine bu ?_; refine blk_far ?_ NB688_733.out _; refine bu ?_; exact BK688.out) hb); have n1_ := am (blk_below (g := gb733) (o := .cells #[.int .u8 t727, .int .i64 t728, .int .i64 t729, .int .i64 t730] 37 (0, 0)) (by refine bu ?_; refine blk_put (cs := #[.int .u8 t727, .int .i64 t728, .int .i64 t729, .int .i64 0]) ?_ 3 _ rfl; refine bu ?_; refine blk_put (cs := #[.int .u8 t727, .int .i64 t728, .int .i64 0, .int .i64 0]) ?_ 2 _ rfl; refine bu ?_; refine blk_put (cs := #[.int .u8 t727, .int .i64 0, .int .i64 0, .int .i64 0]) ?_ 1 _ rfl; refine bu ?_; refine blk_put (cs := #[.int .u8 0, .int .i64 0, .int .i64 0, .int .i64 0]) ?_ 0 _ rfl; refine bu ?_; exact BK733.out) hb); have n2_ := am (below_step bs hb); clear BK688; clear BK733; clear HB; have BK688 := n0_; have BK733 := n1_; have HB := n2_; clear n0_ n1_ n2_; (try clear hb); (try clear hb2); (try clear hk); (try clear hi)) | ((with_reducible refine gate_dst (N := 23) rfl ?_); refine box_event ?hg (N := 23) ?hd (cs := #[.int .u8 0, .int .i64 0, .int .i64 0, .int .i64 0]) (t := 37) ?hr ?_; (case hd => rfl); (case hg => rfl); (case hr => first | (go_simp; done) | (go_simp; rfl)); intro gb741 hg w137 hbox hb; have n0_ := am (blk_below (bu BK688.out) hb); have n1_ := am (blk_below (bu BK733.out) hb); have n2_ := am (below_step bs hb); have n3_ := am (hbox); have n4_ := am ((by rw [hg]; exact (below_size bs) : w.heap.size ≤ gb741)); have n5_ := am ((by rw [hg]; exact (below_size bs) : w.heap.size ≤ gb741)); have n6_ := am ((by rw [hg]; exact Nat.ne_of_lt (blk_lt (bu BK688.out)) : gb688 ≠ gb741)); have n7_ := am ((by rw [hg]; exact Nat.ne_of_gt (blk_lt (bu BK688.out)) : gb741 ≠ gb688)); have n8_ := am ((by rw [hg]; exact Nat.ne_of_lt (blk_lt (bu BK733.out)) : gb733 ≠ gb741)); have n9_ := am ((by rw [hg]; exact Nat.ne_of_gt (blk_lt (bu BK733.out)) : gb741 ≠ gb733)); clear BK688; clear BK733; clear HB; have BK688 := n0_; have BK733 := n1_; have HB := n2_; have BK741 := n3_; have GW741 := n4_; have GE741 := n5_; have NB688_741 := n6_; have NB741_688 := n7_; have NB733_741 := n8_; have NB741_733 := n9_; clear n0_ n1_ n2_ n3_ n4_ n5_ n6_ n7_ n8_ n9_; clear hb hbox hg; have hnb138 := NB741_688.out; have hnc138 := NB688_741.out; have hnb139 := NB741_733.out; have hnc139 := NB733_741.out; obtain ⟨⟨hcz140_0, hcz140_1, hcz140_2, hcz140_3⟩, hfz140_0, hfz140_1, hfz140_2, hfz140_3⟩ := blkAll4 BK741; obtain ⟨⟨hcz141_0, hcz141_1, hcz141_2, hcz141_3⟩, hfz141_0, hfz141_1, hfz141_2, hfz141_3⟩ := blkAll4 BK733))
  go_ret
  exact ⟨er, bs⟩
 rw [if_pos c101] at H
 have c101b0 : (t727 == t735 && (t728 == t736 && (t729 == t737 && (t730 == t738)))) = true := c101
 (try (have c101b1 : decide (t727 = t735 && (t728 == t736 && (t729 == t737 && (t730 == t738)))) = true := by simpa using c101))
 (try (have c101b2 : (t727 == t735 && (t728 == t736 && (t729 == t737 && (t730 == t738)))) = true := by simpa using c101))
 clear c101
 by_cases c102 : t731.toList = t739.toList
 rotate_left
 ·rw [if_neg c102] at H
  have c102b0 : (t731.toList == t739.toList) = false := beq_eq_false_iff_ne.mpr c102
  have c102b1 : (t731.toList != t739.toList) = true := bne_iff_ne.mpr c102
  obtain rfl := Option.some.inj H
  go_enter Tryd.func18, Tryd.ntmps18
  go_wp2_with (first | ((with_reducible refine gate_dst (N := 1) rfl ?_); refine box_event ?hg (N := 1) ?hd (cs := #[.int .i64 a0_0, .string a0_1, .string a0_2, .int .u8 a0_3, .int .i64 a0_4, .int .i64 a0_5, .int .i64 a0_6, .int .i64 a0_7, .int .i64 a0_8, .slice A0_9 l0_9.length c0_9, .int .i64 a0_10, .int .i64 a0_11]) (t := 43) ?hr ?_; (case hd => rfl); (case hg => rfl); (case hr => first | (go_simp; done) | (go_simp; rfl)); intro gb688 hg w116 hbox hb; have n0_ := am (below_step bl hb); have n1_ := am (hbox); have n2_ := am ((by rw [hg]; exact (below_size bl) : w.heap.size ≤ gb688)); have n3_ := n2_; clear HB; have HB := n0_; have BK688 := n1_; have GW688 := n2_; have GE688 := n3_; clear n0_ n1_ n2_ n3_; clear hb hbox hg; obtain ⟨⟨hcz117_0, hcz117_1, hcz117_2, hcz117_3, hcz117_4, hcz117_5, hcz117_6, hcz117_7, hcz117_8, hcz117_9, hcz117_10, hcz117_11⟩, hfz117_0, hfz117_1, hfz117_2, hfz117_3, hfz117_4, hfz117_5, hfz117_6, hfz117_7, hfz117_8, hfz117_9, hfz117_10, hfz117_11⟩ := blkAll12 BK688) | ((with_reducible refine gate_callee (f := 23) rfl ?_); refine goesL_ (some 135) rfl rfl Tryd.func23 (by kernel_rfl) rfl #[.string a0_1] rfl ls ?_; (with_reducible refine (d_Single.calls k a0_1 t726 t727 t728 t729 t730 t731 t732 _ A98.out).mono ?_); rintro e w118 ⟨rfl, hb⟩; refine ⟨_, rfl, ?_⟩; have n0_ := am (blk_below (bu BK688.out) hb); have n1_ := am (below_step bs hb); clear BK688; clear HB; have BK688 := n0_; have HB := n1_; clear n0_ n1_; (try clear hb); (try clear hb2); (try clear hk); (try clear hi)) | ((with_reducible refine gate_dst (N := 19) rfl ?_); refine box_event ?hg (N := 19) ?hd (cs := #[.int .u8 0, .int .i64 0, .int .i64 0, .int .i64 0]) (t := 37) ?hr ?_; (case hd => rfl); (case hg => rfl); (case hr => first | (go_simp; done) | (go_simp; rfl)); intro gb733 hg w119 hbox hb; have n0_ := am (blk_below (bu BK688.out) hb); have n1_ := am (below_step bs hb); have n2_ := am (hbox); have n3_ := am ((by rw [hg]; exact (below_size bs) : w.heap.size ≤ gb733)); have n4_ := am ((by rw [hg]; exact (below_size bs) : w.heap.size ≤ gb733)); have n5_ := am ((by rw [hg]; exact Nat.ne_of_lt (blk_lt (bu BK688.out)) : gb688 ≠ gb733)); have n6_ := am ((by rw [hg]; exact Nat.ne_of_gt (blk_lt (bu BK688.out)) : gb733 ≠ gb688)); clear BK688; clear HB; have BK688 := n0_; have HB := n1_; have BK733 := n2_; have GW733 := n3_; have GE733 := n4_; have NB688_733 := n5_; have NB733_688 := n6_; clear n0_ n1_ n2_ n3_ n4_ n5_ n6_; clear hb hbox hg; have hnb120 := NB733_688.out; have hnc120 := NB688_733.out; obtain ⟨⟨hcz121_0, hcz121_1, hcz121_2, hcz121_3⟩, hfz121_0, hfz121_1, hfz121_2, hfz121_3⟩ := blkAll4 BK733; obtain ⟨⟨hcz122_0, hcz122_1, hcz122_2, hcz122_3, hcz122_4, hcz122_5, hcz122_6, hcz122_7, hcz122_8, hcz122_9, hcz122_10, hcz122_11⟩, hfz122_0, hfz122_1, hfz122_2, hfz122_3, hfz122_4, hfz122_5, hfz122_6, hfz122_7, hfz122_8, hfz122_9, hfz122_10, hfz122_11⟩ := blkAll12 BK688) | ((with_reducible refine gate_callee (f := 35) rfl ?_); refine goesL_ (some 143) rfl rfl Tryd.func35 (by kernel_rfl) rfl #[.string a0_1] rfl ls ?_; (with_reducible refine (q_Single.calls k a0_1 t734 t735 t736 t737 t738 t739 t740 _ A99.out).mono ?_); rintro e w123 ⟨rfl, hb⟩; refine ⟨_, rfl, ?_⟩; have n0_ := am (blk_below (g := gb688) (o := .cells #[.int .i64 a0_0, .string a0_1, .string a0_2, .int .u8 a0_3, .int .i64 a0_4, .int .i64 a0_5, .int .i64 a0_6, .int .i64 a0_7, .int .i64 a0_8, .slice A0_9 l0_9.length c0_9, .int .i64 a0_10, .int .i64 a0_11] 43 (0, 0)) (by refine bu ?_; refine blk_far ?_ NB688_733.out _; refine bu ?_; refine blk_far ?_ NB688_733.out _; refine bu ?_; refine blk_far ?_ NB688_733.out _; refine bu ?_; refine blk_far ?_ NB688_733.out _; refine bu ?_; exact BK688.out) hb); have n1_ := am (blk_below (g := gb733) (o := .cells #[.int .u8 t727, .int .i64 t728, .int .i64 t729, .int .i64 t730] 37 (0, 0)) (by refine bu ?_; refine blk_put (cs := #[.int .u8 t727, .int .i64 t728, .int .i64 t729, .int .i64 0]) ?_ 3 _ rfl; refine bu ?_; refine blk_put (cs := #[.int .u8 t727, .int .i64 t728, .int .i64 0, .int .i64 0]) ?_ 2 _ rfl; refine bu ?_; refine blk_put (cs := #[.int .u8 t727, .int .i64 0, .int .i64 0, .int .i64 0]) ?_ 1 _ rfl; refine bu ?_; refine blk_put (cs := #[.int .u8 0, .int .i64 0, .int .i64 0, .int .i64 0]) ?_ 0 _ rfl; refine bu ?_; exact BK733.out) hb); have n2_ := am (below_step bs hb); clear BK688; clear BK733; clear HB; have BK688 := n0_; have BK733 := n1_; have HB := n2_; clear n0_ n1_ n2_; (try clear hb); (try clear hb2); (try clear hk); (try clear hi)) | ((with_reducible refine gate_dst (N := 23) rfl ?_); refine box_event ?hg (N := 23) ?hd (cs := #[.int .u8 0, .int .i64 0, .int .i64 0, .int .i64 0]) (t := 37) ?hr ?_; (case hd => rfl); (case hg => rfl); (case hr => first | (go_simp; done) | (go_simp; rfl)); intro gb741 hg w124 hbox hb; have n0_ := am (blk_below (bu BK688.out) hb); have n1_ := am (blk_below (bu BK733.out) hb); have n2_ := am (below_step bs hb); have n3_ := am (hbox); have n4_ := am ((by rw [hg]; exact (below_size bs) : w.heap.size ≤ gb741)); have n5_ := am ((by rw [hg]; exact (below_size bs) : w.heap.size ≤ gb741)); have n6_ := am ((by rw [hg]; exact Nat.ne_of_lt (blk_lt (bu BK688.out)) : gb688 ≠ gb741)); have n7_ := am ((by rw [hg]; exact Nat.ne_of_gt (blk_lt (bu BK688.out)) : gb741 ≠ gb688)); have n8_ := am ((by rw [hg]; exact Nat.ne_of_lt (blk_lt (bu BK733.out)) : gb733 ≠ gb741)); have n9_ := am ((by rw [hg]; exact Nat.ne_of_gt (blk_lt (bu BK733.out)) : gb741 ≠ gb733)); clear BK688; clear BK733; clear HB; have BK688 := n0_; have BK733 := n1_; have HB := n2_; have BK741 := n3_; have GW741 := n4_; have GE741 := n5_; have NB688_741 := n6_; have NB741_688 := n7_; have NB733_741 := n8_; have NB741_733 := n9_; clear n0_ n1_ n2_ n3_ n4_ n5_ n6_ n7_ n8_ n9_; clear hb hbox hg; have hnb125 := NB741_688.out; have hnc125 := NB688_741.out; have hnb126 := NB741_733.out; have hnc126 := NB733_741.out; obtain ⟨⟨hcz127_0, hcz127_1, hcz127_2, hcz127_3⟩, hfz127_0, hfz127_1, hfz127_2, hfz127_3⟩ := blkAll4 BK741; obtain ⟨⟨hcz128_0, hcz128_1, hcz128_2, hcz128_3⟩, hfz128_0, hfz128_1, hfz128_2, hfz128_3⟩ := blkAll4 BK733))
  go_ret
  exact ⟨er, bs⟩
 rw [if_pos c102] at H
 have c102b0 : (t731.toList == t739.toList) = true := beq_iff_eq.mpr c102
 have c102b1 : (t731.toList != t739.toList) = false := bne_eq_false_iff_eq.mpr c102
 clear c102
 obtain rfl := Option.some.inj H
 go_enter Tryd.func18, Tryd.ntmps18
 go_wp2_with (first | ((with_reducible refine gate_dst (N := 1) rfl ?_); refine box_event ?hg (N := 1) ?hd (cs := #[.int .i64 a0_0, .string a0_1, .string a0_2, .int .u8 a0_3, .int .i64 a0_4, .int .i64 a0_5, .int .i64 a0_6, .int .i64 a0_7, .int .i64 a0_8, .slice A0_9 l0_9.length c0_9, .int .i64 a0_10, .int .i64 a0_11]) (t := 43) ?hr ?_; (case hd => rfl); (case hg => rfl); (case hr => first | (go_simp; done) | (go_simp; rfl)); intro gb688 hg w103 hbox hb; have n0_ := am (below_step bl hb); have n1_ := am (hbox); have n2_ := am ((by rw [hg]; exact (below_size bl) : w.heap.size ≤ gb688)); have n3_ := n2_; clear HB; have HB := n0_; have BK688 := n1_; have GW688 := n2_; have GE688 := n3_; clear n0_ n1_ n2_ n3_; clear hb hbox hg; obtain ⟨⟨hcz104_0, hcz104_1, hcz104_2, hcz104_3, hcz104_4, hcz104_5, hcz104_6, hcz104_7, hcz104_8, hcz104_9, hcz104_10, hcz104_11⟩, hfz104_0, hfz104_1, hfz104_2, hfz104_3, hfz104_4, hfz104_5, hfz104_6, hfz104_7, hfz104_8, hfz104_9, hfz104_10, hfz104_11⟩ := blkAll12 BK688) | ((with_reducible refine gate_callee (f := 23) rfl ?_); refine goesL_ (some 135) rfl rfl Tryd.func23 (by kernel_rfl) rfl #[.string a0_1] rfl ls ?_; (with_reducible refine (d_Single.calls k a0_1 t726 t727 t728 t729 t730 t731 t732 _ A98.out).mono ?_); rintro e w105 ⟨rfl, hb⟩; refine ⟨_, rfl, ?_⟩; have n0_ := am (blk_below (bu BK688.out) hb); have n1_ := am (below_step bs hb); clear BK688; clear HB; have BK688 := n0_; have HB := n1_; clear n0_ n1_; (try clear hb); (try clear hb2); (try clear hk); (try clear hi)) | ((with_reducible refine gate_dst (N := 19) rfl ?_); refine box_event ?hg (N := 19) ?hd (cs := #[.int .u8 0, .int .i64 0, .int .i64 0, .int .i64 0]) (t := 37) ?hr ?_; (case hd => rfl); (case hg => rfl); (case hr => first | (go_simp; done) | (go_simp; rfl)); intro gb733 hg w106 hbox hb; have n0_ := am (blk_below (bu BK688.out) hb); have n1_ := am (below_step bs hb); have n2_ := am (hbox); have n3_ := am ((by rw [hg]; exact (below_size bs) : w.heap.size ≤ gb733)); have n4_ := am ((by rw [hg]; exact (below_size bs) : w.heap.size ≤ gb733)); have n5_ := am ((by rw [hg]; exact Nat.ne_of_lt (blk_lt (bu BK688.out)) : gb688 ≠ gb733)); have n6_ := am ((by rw [hg]; exact Nat.ne_of_gt (blk_lt (bu BK688.out)) : gb733 ≠ gb688)); clear BK688; clear HB; have BK688 := n0_; have HB := n1_; have BK733 := n2_; have GW733 := n3_; have GE733 := n4_; have NB688_733 := n5_; have NB733_688 := n6_; clear n0_ n1_ n2_ n3_ n4_ n5_ n6_; clear hb hbox hg; have hnb107 := NB733_688.out; have hnc107 := NB688_733.out; obtain ⟨⟨hcz108_0, hcz108_1, hcz108_2, hcz108_3⟩, hfz108_0, hfz108_1, hfz108_2, hfz108_3⟩ := blkAll4 BK733; obtain ⟨⟨hcz109_0, hcz109_1, hcz109_2, hcz109_3, hcz109_4, hcz109_5, hcz109_6, hcz109_7, hcz109_8, hcz109_9, hcz109_10, hcz109_11⟩, hfz109_0, hfz109_1, hfz109_2, hfz109_3, hfz109_4, hfz109_5, hfz109_6, hfz109_7, hfz109_8, hfz109_9, hfz109_10, hfz109_11⟩ := blkAll12 BK688) | ((with_reducible refine gate_callee (f := 35) rfl ?_); refine goesL_ (some 143) rfl rfl Tryd.func35 (by kernel_rfl) rfl #[.string a0_1] rfl ls ?_; (with_reducible refine (q_Single.calls k a0_1 t734 t735 t736 t737 t738 t739 t740 _ A99.out).mono ?_); rintro e w110 ⟨rfl, hb⟩; refine ⟨_, rfl, ?_⟩; have n0_ := am (blk_below (g := gb688) (o := .cells #[.int .i64 a0_0, .string a0_1, .string a0_2, .int .u8 a0_3, .int .i64 a0_4, .int .i64 a0_5, .int .i64 a0_6, .int .i64 a0_7, .int .i64 a0_8, .slice A0_9 l0_9.length c0_9, .int .i64 a0_10, .int .i64 a0_11] 43 (0, 0)) (by refine bu ?_; refine blk_far ?_ NB688_733.out _; refine bu ?_; refine blk_far ?_ NB688_733.out _; refine bu ?_; refine blk_far ?_ NB688_733.out _; refine bu ?_; refine blk_far ?_ NB688_733.out _; refine bu ?_; exact BK688.out) hb); have n1_ := am (blk_below (g := gb733) (o := .cells #[.int .u8 t727, .int .i64 t728, .int .i64 t729, .int .i64 t730] 37 (0, 0)) (by refine bu ?_; refine blk_put (cs := #[.int .u8 t727, .int .i64 t728, .int .i64 t729, .int .i64 0]) ?_ 3 _ rfl; refine bu ?_; refine blk_put (cs := #[.int .u8 t727, .int .i64 t728, .int .i64 0, .int .i64 0]) ?_ 2 _ rfl; refine bu ?_; refine blk_put (cs := #[.int .u8 t727, .int .i64 0, .int .i64 0, .int .i64 0]) ?_ 1 _ rfl; refine bu ?_; refine blk_put (cs := #[.int .u8 0, .int .i64 0, .int .i64 0, .int .i64 0]) ?_ 0 _ rfl; refine bu ?_; exact BK733.out) hb); have n2_ := am (below_step bs hb); clear BK688; clear BK733; clear HB; have BK688 := n0_; have BK733 := n1_; have HB := n2_; clear n0_ n1_ n2_; (try clear hb); (try clear hb2); (try clear hk); (try clear hi)) | ((with_reducible refine gate_dst (N := 23) rfl ?_); refine box_event ?hg (N := 23) ?hd (cs := #[.int .u8 0, .int .i64 0, .int .i64 0, .int .i64 0]) (t := 37) ?hr ?_; (case hd => rfl); (case hg => rfl); (case hr => first | (go_simp; done) | (go_simp; rfl)); intro gb741 hg w111 hbox hb; have n0_ := am (blk_below (bu BK688.out) hb); have n1_ := am (blk_below (bu BK733.out) hb); have n2_ := am (below_step bs hb); have n3_ := am (hbox); have n4_ := am ((by rw [hg]; exact (below_size bs) : w.heap.size ≤ gb741)); have n5_ := am ((by rw [hg]; exact (below_size bs) : w.heap.size ≤ gb741)); have n6_ := am ((by rw [hg]; exact Nat.ne_of_lt (blk_lt (bu BK688.out)) : gb688 ≠ gb741)); have n7_ := am ((by rw [hg]; exact Nat.ne_of_gt (blk_lt (bu BK688.out)) : gb741 ≠ gb688)); have n8_ := am ((by rw [hg]; exact Nat.ne_of_lt (blk_lt (bu BK733.out)) : gb733 ≠ gb741)); have n9_ := am ((by rw [hg]; exact Nat.ne_of_gt (blk_lt (bu BK733.out)) : gb741 ≠ gb733)); clear BK688; clear BK733; clear HB; have BK688 := n0_; have BK733 := n1_; have HB := n2_; have BK741 := n3_; have GW741 := n4_; have GE741 := n5_; have NB688_741 := n6_; have NB741_688 := n7_; have NB733_741 := n8_; have NB741_733 := n9_; clear n0_ n1_ n2_ n3_ n4_ n5_ n6_ n7_ n8_ n9_; clear hb hbox hg; have hnb112 := NB741_688.out; have hnc112 := NB688_741.out; have hnb113 := NB741_733.out; have hnc113 := NB733_741.out; obtain ⟨⟨hcz114_0, hcz114_1, hcz114_2, hcz114_3⟩, hfz114_0, hfz114_1, hfz114_2, hfz114_3⟩ := blkAll4 BK741; obtain ⟨⟨hcz115_0, hcz115_1, hcz115_2, hcz115_3⟩, hfz115_0, hfz115_1, hfz115_2, hfz115_3⟩ := blkAll4 BK733))
 go_ret
 exact ⟨er, bs⟩
end Go.Proofs.YtlmijjekaelhcaaDoor.EDi
