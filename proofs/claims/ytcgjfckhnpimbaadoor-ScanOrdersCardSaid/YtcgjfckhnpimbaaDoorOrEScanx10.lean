/-
  A text of this session's own.
-/
import Derived.Test.YtcgjfckhnpimbaaDoorOrEScanx10h
namespace Go.Proofs.YtcgjfckhnpimbaaDoor.EScan
open Go.RowKit Go.Proofs.YtcgjfckhnpimbaaDoorW.PrintWords Go.Proofs.YtcgjfckhnpimbaaDoorW.PrintLast Go.Proofs.YtcgjfckhnpimbaaDoorW.PrintMore
attribute [local go_sem] max2_int min2_int max_two min_two max_three min_three max_four min_four   -- for this text's walks alone
attribute [local go_sem high] eqA23
set_option linter.unusedVariables false
set_option linter.unusedSimpArgs false
set_option maxHeartbeats 8000000 in
set_option maxRecDepth 100000 in
theorem scOrd.calls (k : Nat) (a0_0 : Bool) (a0_1 : ByteArray) (a0_2 : Int) (a1_0 : Bool) (a1_1 : ByteArray) (a1_2 : Int) (a2_0 : Bool) (a2_1 : ByteArray) (a2_2 : Int) (w : World) (h : scOrd.f k a0_0 a0_1 a0_2 a1_0 a1_1 a1_2 a2_0 a2_1 a2_2 = some true) :
  Calls Tryd.prog 3 #[.agg #[.bool a0_0, .string a0_1, .int .i64 a0_2], .agg #[.bool a1_0, .string a1_1, .int .i64 a1_2], .agg #[.bool a2_0, .string a2_1, .int .i64 a2_2]] w fun e w' => e = .returned (.bool true) ∧ Below w.heap.size w w' := by
 have hu23 := Tryd.underlying23
 have HB := Aside0.mk (Below.refl w.heap.size w)
 have H : ((scan_Cmp.f k false (⟨#[57]⟩ : ByteArray) 1 false (⟨#[49, 48, 48]⟩ : ByteArray) 0).bind fun bt137 => (if bt137.2 = 0 then (scOrd.j0 k (bt137.1 != (-1)) a0_0 a0_1 a0_2 a1_0 a1_1 a1_2 a2_0 a2_1 a2_2) else (scOrd.j0 k true a0_0 a0_1 a0_2 a1_0 a1_1 a1_2 a2_0 a2_1 a2_2))) = some true := h
 clear h
 replace H := Option.bind_eq_some_iff.mp H
 obtain ⟨⟨t137, t138⟩, A40, H⟩ := H
 replace H : (if t138 = 0 then (scOrd.j0 k (t137 != (-1)) a0_0 a0_1 a0_2 a1_0 a1_1 a1_2 a2_0 a2_1 a2_2) else (scOrd.j0 k true a0_0 a0_1 a0_2 a1_0 a1_1 a1_2 a2_0 a2_1 a2_2)) = some true := H
 have A4 := Aside0.mk A40
 clear A40
 have HC5 := Aside0.mk H
 clear H
 go_enter Tryd.func3, Tryd.ntmps3
 go_upto_region 2 with (first | ((with_reducible refine gate_dst (N := 3) rfl ?_); refine box_event ?hg (N := 3) ?hd (cs := #[.bool a0_0, .string a0_1, .int .i64 a0_2]) (t := 23) ?hr ?_; (case hd => rfl); (case hg => rfl); (case hr => first | (go_simp; done) | (go_simp; rfl)); intro gb134 hg w6 hbox hb; have n0_ := Aside0.mk (below_step (by repeat (first | (with_reducible first | exact HB.out | apply below_alloc | apply pw_below_drewN | apply below_drew1) | exact HB.out)) hb); have n1_ := Aside0.mk (hbox); have n2_ := Aside0.mk ((by rw [hg]; exact (below_size (by repeat (first | (with_reducible first | exact HB.out | apply below_alloc | apply pw_below_drewN | apply below_drew1) | exact HB.out))) : w.heap.size ≤ gb134)); have n3_ := Aside0.mk ((by rw [hg]; exact (below_size (by repeat (first | (with_reducible first | exact HB.out | apply below_alloc | apply pw_below_drewN | apply below_drew1) | exact HB.out))) : w.heap.size ≤ gb134)); clear HB; have HB := n0_; have BK134 := n1_; have GW134 := n2_; have GE134 := n3_; clear n0_ n1_ n2_ n3_; clear hb hbox hg) | ((with_reducible refine gate_dst (N := 4) rfl ?_); refine box_event ?hg (N := 4) ?hd (cs := #[.bool a1_0, .string a1_1, .int .i64 a1_2]) (t := 23) ?hr ?_; (case hd => rfl); (case hg => rfl); (case hr => first | (go_simp; done) | (go_simp; rfl)); intro gb135 hg w7 hbox hb; have n0_ := Aside0.mk (blk_below (g := gb134) (o := .cells #[.bool a0_0, .string a0_1, .int .i64 a0_2] 23 (0, 0)) (by (with_reducible repeat (first | refine blk_drewN ?_ _ | refine blk_drew ?_ | refine blk_alloc ?_ _)); exact BK134.out) hb); have n1_ := Aside0.mk (below_step (by repeat (first | (with_reducible first | exact HB.out | apply below_alloc | apply pw_below_drewN | apply below_drew1 | refine below_set ?_ GE134.out) | exact HB.out)) hb); have n2_ := Aside0.mk (hbox); have n3_ := Aside0.mk ((by rw [hg]; exact (below_size (by repeat (first | (with_reducible first | exact HB.out | apply below_alloc | apply pw_below_drewN | apply below_drew1 | refine below_set ?_ GE134.out) | exact HB.out))) : w.heap.size ≤ gb135)); have n4_ := Aside0.mk ((by rw [hg]; exact (below_size (by repeat (first | (with_reducible first | exact HB.out | apply below_alloc | apply pw_below_drewN | apply below_drew1 | refine below_set ?_ GE134.out) | exact HB.out))) : w.heap.size ≤ gb135)); have n5_ := Aside0.mk ((by rw [hg]; exact Nat.ne_of_lt (blk_lt (g := gb134) (o := .cells #[.bool a0_0, .string a0_1, .int .i64 a0_2] 23 (0, 0)) (by (with_reducible repeat (first | refine blk_drewN ?_ _ | refine blk_drew ?_ | refine blk_alloc ?_ _)); exact BK134.out)) : gb134 ≠ gb135)); have n6_ := Aside0.mk ((by rw [hg]; exact Nat.ne_of_gt (blk_lt (g := gb134) (o := .cells #[.bool a0_0, .string a0_1, .int .i64 a0_2] 23 (0, 0)) (by (with_reducible repeat (first | refine blk_drewN ?_ _ | refine blk_drew ?_ | refine blk_alloc ?_ _)); exact BK134.out)) : gb135 ≠ gb134)); clear BK134; clear HB; have BK134 := n0_; have HB := n1_; have BK135 := n2_; have GW135 := n3_; have GE135 := n4_; have NB134_135 := n5_; have NB135_134 := n6_; clear n0_ n1_ n2_ n3_ n4_ n5_ n6_; clear hb hbox hg) | ((with_reducible refine gate_dst (N := 5) rfl ?_); refine box_event ?hg (N := 5) ?hd (cs := #[.bool a2_0, .string a2_1, .int .i64 a2_2]) (t := 23) ?hr ?_; (case hd => rfl); (case hg => rfl); (case hr => first | (go_simp; done) | (go_simp; rfl)); intro gb136 hg w8 hbox hb; have n0_ := Aside0.mk (blk_below (g := gb134) (o := .cells #[.bool a0_0, .string a0_1, .int .i64 a0_2] 23 (0, 0)) (by (with_reducible repeat (first | refine blk_drewN ?_ _ | refine blk_drew ?_ | refine blk_alloc ?_ _)); exact BK134.out) hb); have n1_ := Aside0.mk (blk_below (g := gb135) (o := .cells #[.bool a1_0, .string a1_1, .int .i64 a1_2] 23 (0, 0)) (by (with_reducible repeat (first | refine blk_drewN ?_ _ | refine blk_drew ?_ | refine blk_alloc ?_ _)); exact BK135.out) hb); have n2_ := Aside0.mk (below_step (by repeat (first | (with_reducible first | exact HB.out | apply below_alloc | apply pw_below_drewN | apply below_drew1 | refine below_set ?_ GE134.out | refine below_set ?_ GE135.out) | exact HB.out)) hb); have n3_ := Aside0.mk (hbox); have n4_ := Aside0.mk ((by rw [hg]; exact (below_size (by repeat (first | (with_reducible first | exact HB.out | apply below_alloc | apply pw_below_drewN | apply below_drew1 | refine below_set ?_ GE134.out | refine below_set ?_ GE135.out) | exact HB.out))) : w.heap.size ≤ gb136)); have n5_ := Aside0.mk ((by rw [hg]; exact (below_size (by repeat (first | (with_reducible first | exact HB.out | apply below_alloc | apply pw_below_drewN | apply below_drew1 | refine below_set ?_ GE134.out | refine below_set ?_ GE135.out) | exact HB.out))) : w.heap.size ≤ gb136)); have n6_ := Aside0.mk ((by rw [hg]; exact Nat.ne_of_lt (blk_lt (g := gb134) (o := .cells #[.bool a0_0, .string a0_1, .int .i64 a0_2] 23 (0, 0)) (by (with_reducible repeat (first | refine blk_drewN ?_ _ | refine blk_drew ?_ | refine blk_alloc ?_ _)); exact BK134.out)) : gb134 ≠ gb136)); have n7_ := Aside0.mk ((by rw [hg]; exact Nat.ne_of_gt (blk_lt (g := gb134) (o := .cells #[.bool a0_0, .string a0_1, .int .i64 a0_2] 23 (0, 0)) (by (with_reducible repeat (first | refine blk_drewN ?_ _ | refine blk_drew ?_ | refine blk_alloc ?_ _)); exact BK134.out)) : gb136 ≠ gb134)); have n8_ := Aside0.mk ((by rw [hg]; exact Nat.ne_of_lt (blk_lt (g := gb135) (o := .cells #[.bool a1_0, .string a1_1, .int .i64 a1_2] 23 (0, 0)) (by (with_reducible repeat (first | refine blk_drewN ?_ _ | refine blk_drew ?_ | refine blk_alloc ?_ _)); exact BK135.out)) : gb135 ≠ gb136)); have n9_ := Aside0.mk ((by rw [hg]; exact Nat.ne_of_gt (blk_lt (g := gb135) (o := .cells #[.bool a1_0, .string a1_1, .int .i64 a1_2] 23 (0, 0)) (by (with_reducible repeat (first | refine blk_drewN ?_ _ | refine blk_drew ?_ | refine blk_alloc ?_ _)); exact BK135.out)) : gb136 ≠ gb135)); clear BK134; clear BK135; clear HB; have BK134 := n0_; have BK135 := n1_; have HB := n2_; have BK136 := n3_; have GW136 := n4_; have GE136 := n5_; have NB134_136 := n6_; have NB136_134 := n7_; have NB135_136 := n8_; have NB136_135 := n9_; clear n0_ n1_ n2_ n3_ n4_ n5_ n6_ n7_ n8_ n9_; clear hb hbox hg) | ((with_reducible refine gate_callee (f := 9) rfl ?_); refine goesL_ (some 32) rfl rfl Tryd.func9 (by kernel_rfl) rfl #[.agg #[.bool false, .string (⟨#[57]⟩ : ByteArray), .int .i64 1], .agg #[.bool false, .string (⟨#[49, 48, 48]⟩ : ByteArray), .int .i64 0]] rfl (by (try simp only [List.map_toArray, List.map_cons, List.map_nil]); first | done | rfl | (simp only [List.length_drop, List.length_take]; rfl)) ?_; (with_reducible refine (scan_Cmp.calls k false (⟨#[57]⟩ : ByteArray) 1 false (⟨#[49, 48, 48]⟩ : ByteArray) 0 t137 t138 _ A4.out).mono ?_); rintro e w9 ⟨rfl, hb⟩; refine ⟨_, rfl, ?_⟩; have n0_ := Aside0.mk (blk_below (g := gb134) (o := .cells #[.bool a0_0, .string a0_1, .int .i64 a0_2] 23 (0, 0)) (by (with_reducible repeat (first | refine blk_drewN ?_ _ | refine blk_drew ?_ | refine blk_alloc ?_ _)); exact BK134.out) hb); have n1_ := Aside0.mk (blk_below (g := gb135) (o := .cells #[.bool a1_0, .string a1_1, .int .i64 a1_2] 23 (0, 0)) (by (with_reducible repeat (first | refine blk_drewN ?_ _ | refine blk_drew ?_ | refine blk_alloc ?_ _)); exact BK135.out) hb); have n2_ := Aside0.mk (blk_below (g := gb136) (o := .cells #[.bool a2_0, .string a2_1, .int .i64 a2_2] 23 (0, 0)) (by (with_reducible repeat (first | refine blk_drewN ?_ _ | refine blk_drew ?_ | refine blk_alloc ?_ _)); exact BK136.out) hb); have n3_ := Aside0.mk (below_step (by repeat (first | (with_reducible first | exact HB.out | apply below_alloc | apply pw_below_drewN | apply below_drew1 | refine below_set ?_ GE134.out | refine below_set ?_ GE135.out | refine below_set ?_ GE136.out) | exact HB.out)) hb); clear BK134; clear BK135; clear BK136; clear HB; have BK134 := n0_; have BK135 := n1_; have BK136 := n2_; have HB := n3_; clear n0_ n1_ n2_ n3_; (try clear hb); (try clear hb2); (try clear hk); (try clear hi)))
 (try simp only [Act.put, List.setIfInBounds_toArray, List.set_cons_zero, List.set_cons_succ])
 go_cut [40] (fun v40 wc => ∃ (kq : Nat) (x40_4 : Bool), v40 = .bool x40_4 ∧ Aside0 (scOrd.j0 kq x40_4 a0_0 a0_1 a0_2 a1_0 a1_1 a1_2 a2_0 a2_1 a2_2 = some true) ∧ Aside0 (kq ≤ k) ∧ Aside0 (wc.heap[gb134]? = some (.cells #[.bool a0_0, .string a0_1, .int .i64 a0_2] 23 (0, 0))) ∧ Aside0 (wc.heap[gb135]? = some (.cells #[.bool a1_0, .string a1_1, .int .i64 a1_2] 23 (0, 0))) ∧ Aside0 (wc.heap[gb136]? = some (.cells #[.bool a2_0, .string a2_1, .int .i64 a2_2] 23 (0, 0))) ∧ Aside0 (Below w.heap.size w wc))
 case first => as_aux_lemma =>
  have H := HC5.out
  clear HC5
  by_cases c10 : t138 = 0
  ·rw [if_pos c10] at H
   have c10b0 : (t138 == 0) = true := beq_iff_eq.mpr c10
   have c10b1 : (t138 != 0) = false := bne_eq_false_iff_eq.mpr c10
   clear c10
   (first | rw [c10b0] | (simp only [i64_w, i32_w]; rw [c10b0]) | skip)
   have H' := Aside0.mk H
   clear H
   go_wp2
   go_meet
   case rel => exact ⟨_, ((t137 != (-1))), (by first | rfl | (simp; done) | (simp [*]; done)), H', ⟨by first | omega | exact Nat.le_refl _⟩, ⟨by (with_reducible repeat (first | refine blk_drewN ?_ _ | refine blk_drew ?_ | refine blk_alloc ?_ _)); exact BK134.out⟩, ⟨by (with_reducible repeat (first | refine blk_drewN ?_ _ | refine blk_drew ?_ | refine blk_alloc ?_ _)); exact BK135.out⟩, ⟨by (with_reducible repeat (first | refine blk_drewN ?_ _ | refine blk_drew ?_ | refine blk_alloc ?_ _)); exact BK136.out⟩, ⟨by repeat (first | (with_reducible first | exact HB.out | apply below_alloc | apply pw_below_drewN | apply below_drew1 | refine below_set ?_ GE134.out | refine below_set ?_ GE135.out | refine below_set ?_ GE136.out) | exact HB.out)⟩⟩
  ·rw [if_neg c10] at H
   have c10b0 : (t138 == 0) = false := beq_eq_false_iff_ne.mpr c10
   have c10b1 : (t138 != 0) = true := bne_iff_ne.mpr c10
   (first | rw [c10b0] | (simp only [i64_w, i32_w]; rw [c10b0]) | skip)
   have H' := Aside0.mk H
   clear H
   go_wp2
   go_meet
   case rel => exact ⟨_, (true), (by first | rfl | (simp; done) | (simp [*]; done)), H', ⟨by first | omega | exact Nat.le_refl _⟩, ⟨by (with_reducible repeat (first | refine blk_drewN ?_ _ | refine blk_drew ?_ | refine blk_alloc ?_ _)); exact BK134.out⟩, ⟨by (with_reducible repeat (first | refine blk_drewN ?_ _ | refine blk_drew ?_ | refine blk_alloc ?_ _)); exact BK135.out⟩, ⟨by (with_reducible repeat (first | refine blk_drewN ?_ _ | refine blk_drew ?_ | refine blk_alloc ?_ _)); exact BK136.out⟩, ⟨by repeat (first | (with_reducible first | exact HB.out | apply below_alloc | apply pw_below_drewN | apply below_drew1 | refine below_set ?_ GE134.out | refine below_set ?_ GE135.out | refine below_set ?_ GE136.out) | exact HB.out)⟩⟩
 case rest => as_aux_lemma =>
  clear HC5
  try clear c1
  try clear p2
  try clear c3
  try clear c9
  try clear c10
  try clear c10b0
  try clear c10b1
  obtain ⟨kq, x40_4, rfl, HA, HJ4, BK134, BK135, BK136, HB⟩ := hcut
  cases kq with
  | zero => exact absurd HA.out (by simp [scOrd.j0])
  | succ kj4 =>
   have H := HA.out
   clear HA
   simp only [scOrd.j0] at H
   by_cases c11 : x40_4 = true
   ·subst c11
    have H1 : (some false) = some true := by rw [if_pos rfl] at H; exact H
    clear H
    have H := H1
    clear H1
    exact absurd H (by simp)
   ·replace c11 := Bool.eq_false_iff.mpr c11
    subst c11
    have H1 : ((abacuslaw08_is.f kj4 a0_0 a0_1 a0_2).bind fun t139 => (if t139 = true then ((abacuslaw08_is.f kj4 a1_0 a1_1 a1_2).bind fun t140 => (if t140 = true then ((abacuslaw08_is.f kj4 a2_0 a2_1 a2_2).bind fun t141 => (if t141 = true then (if a0_2 < 576460752303423488 then (if a1_2 < 576460752303423488 then (if a2_2 < 576460752303423488 then (if a0_2 > (-576460752303423488) then (if a1_2 > (-576460752303423488) then (scOrd.j1 kj4 (decide (a2_2 > (-576460752303423488))) a0_0 a0_1 a0_2 a1_0 a1_1 a1_2 a2_0 a2_1 a2_2) else (scOrd.j1 kj4 false a0_0 a0_1 a0_2 a1_0 a1_1 a1_2 a2_0 a2_1 a2_2)) else (scOrd.j1 kj4 false a0_0 a0_1 a0_2 a1_0 a1_1 a1_2 a2_0 a2_1 a2_2)) else (scOrd.j1 kj4 false a0_0 a0_1 a0_2 a1_0 a1_1 a1_2 a2_0 a2_1 a2_2)) else (scOrd.j1 kj4 false a0_0 a0_1 a0_2 a1_0 a1_1 a1_2 a2_0 a2_1 a2_2)) else (scOrd.j1 kj4 false a0_0 a0_1 a0_2 a1_0 a1_1 a1_2 a2_0 a2_1 a2_2)) else (scOrd.j1 kj4 false a0_0 a0_1 a0_2 a1_0 a1_1 a1_2 a2_0 a2_1 a2_2))) else (scOrd.j1 kj4 false a0_0 a0_1 a0_2 a1_0 a1_1 a1_2 a2_0 a2_1 a2_2))) else (scOrd.j1 kj4 false a0_0 a0_1 a0_2 a1_0 a1_1 a1_2 a2_0 a2_1 a2_2))) = some true := by rw [if_neg (show ¬ (false = true) by decide)] at H; exact H
    clear H
    have H := H1
    clear H1
    have HC12 := Aside0.mk H
    clear H
    go_upto_region 4 with (fail)
    go_cut [9] (fun v9 wc => ∃ (kq : Nat) (x9_11 : Bool), v9 = .bool x9_11 ∧ Aside0 (scOrd.j1 kq x9_11 a0_0 a0_1 a0_2 a1_0 a1_1 a1_2 a2_0 a2_1 a2_2 = some true) ∧ Aside0 (kq ≤ kj4) ∧ Aside0 (wc.heap[gb134]? = some (.cells #[.bool a0_0, .string a0_1, .int .i64 a0_2] 23 (0, 0))) ∧ Aside0 (wc.heap[gb135]? = some (.cells #[.bool a1_0, .string a1_1, .int .i64 a1_2] 23 (0, 0))) ∧ Aside0 (wc.heap[gb136]? = some (.cells #[.bool a2_0, .string a2_1, .int .i64 a2_2] 23 (0, 0))) ∧ Aside0 (Below w.heap.size w wc))
    case first => as_aux_lemma =>
     have H := HC12.out
     clear HC12
     replace H := Option.bind_eq_some_iff.mp H
     obtain ⟨t139, A130, H⟩ := H
     replace H : (if t139 = true then ((abacuslaw08_is.f kj4 a1_0 a1_1 a1_2).bind fun t140 => (if t140 = true then ((abacuslaw08_is.f kj4 a2_0 a2_1 a2_2).bind fun t141 => (if t141 = true then (if a0_2 < 576460752303423488 then (if a1_2 < 576460752303423488 then (if a2_2 < 576460752303423488 then (if a0_2 > (-576460752303423488) then (if a1_2 > (-576460752303423488) then (scOrd.j1 kj4 (decide (a2_2 > (-576460752303423488))) a0_0 a0_1 a0_2 a1_0 a1_1 a1_2 a2_0 a2_1 a2_2) else (scOrd.j1 kj4 false a0_0 a0_1 a0_2 a1_0 a1_1 a1_2 a2_0 a2_1 a2_2)) else (scOrd.j1 kj4 false a0_0 a0_1 a0_2 a1_0 a1_1 a1_2 a2_0 a2_1 a2_2)) else (scOrd.j1 kj4 false a0_0 a0_1 a0_2 a1_0 a1_1 a1_2 a2_0 a2_1 a2_2)) else (scOrd.j1 kj4 false a0_0 a0_1 a0_2 a1_0 a1_1 a1_2 a2_0 a2_1 a2_2)) else (scOrd.j1 kj4 false a0_0 a0_1 a0_2 a1_0 a1_1 a1_2 a2_0 a2_1 a2_2)) else (scOrd.j1 kj4 false a0_0 a0_1 a0_2 a1_0 a1_1 a1_2 a2_0 a2_1 a2_2))) else (scOrd.j1 kj4 false a0_0 a0_1 a0_2 a1_0 a1_1 a1_2 a2_0 a2_1 a2_2))) else (scOrd.j1 kj4 false a0_0 a0_1 a0_2 a1_0 a1_1 a1_2 a2_0 a2_1 a2_2)) = some true := H
     have A13 := Aside0.mk A130
     clear A130
     by_cases c14 : t139 = true
     ·subst c14
      have H1 : ((abacuslaw08_is.f kj4 a1_0 a1_1 a1_2).bind fun t140 => (if t140 = true then ((abacuslaw08_is.f kj4 a2_0 a2_1 a2_2).bind fun t141 => (if t141 = true then (if a0_2 < 576460752303423488 then (if a1_2 < 576460752303423488 then (if a2_2 < 576460752303423488 then (if a0_2 > (-576460752303423488) then (if a1_2 > (-576460752303423488) then (scOrd.j1 kj4 (decide (a2_2 > (-576460752303423488))) a0_0 a0_1 a0_2 a1_0 a1_1 a1_2 a2_0 a2_1 a2_2) else (scOrd.j1 kj4 false a0_0 a0_1 a0_2 a1_0 a1_1 a1_2 a2_0 a2_1 a2_2)) else (scOrd.j1 kj4 false a0_0 a0_1 a0_2 a1_0 a1_1 a1_2 a2_0 a2_1 a2_2)) else (scOrd.j1 kj4 false a0_0 a0_1 a0_2 a1_0 a1_1 a1_2 a2_0 a2_1 a2_2)) else (scOrd.j1 kj4 false a0_0 a0_1 a0_2 a1_0 a1_1 a1_2 a2_0 a2_1 a2_2)) else (scOrd.j1 kj4 false a0_0 a0_1 a0_2 a1_0 a1_1 a1_2 a2_0 a2_1 a2_2)) else (scOrd.j1 kj4 false a0_0 a0_1 a0_2 a1_0 a1_1 a1_2 a2_0 a2_1 a2_2))) else (scOrd.j1 kj4 false a0_0 a0_1 a0_2 a1_0 a1_1 a1_2 a2_0 a2_1 a2_2))) = some true := by rw [if_pos rfl] at H; exact H
      clear H
      have H := H1
      clear H1
      replace H := Option.bind_eq_some_iff.mp H
      obtain ⟨t140, A150, H⟩ := H
      replace H : (if t140 = true then ((abacuslaw08_is.f kj4 a2_0 a2_1 a2_2).bind fun t141 => (if t141 = true then (if a0_2 < 576460752303423488 then (if a1_2 < 576460752303423488 then (if a2_2 < 576460752303423488 then (if a0_2 > (-576460752303423488) then (if a1_2 > (-576460752303423488) then (scOrd.j1 kj4 (decide (a2_2 > (-576460752303423488))) a0_0 a0_1 a0_2 a1_0 a1_1 a1_2 a2_0 a2_1 a2_2) else (scOrd.j1 kj4 false a0_0 a0_1 a0_2 a1_0 a1_1 a1_2 a2_0 a2_1 a2_2)) else (scOrd.j1 kj4 false a0_0 a0_1 a0_2 a1_0 a1_1 a1_2 a2_0 a2_1 a2_2)) else (scOrd.j1 kj4 false a0_0 a0_1 a0_2 a1_0 a1_1 a1_2 a2_0 a2_1 a2_2)) else (scOrd.j1 kj4 false a0_0 a0_1 a0_2 a1_0 a1_1 a1_2 a2_0 a2_1 a2_2)) else (scOrd.j1 kj4 false a0_0 a0_1 a0_2 a1_0 a1_1 a1_2 a2_0 a2_1 a2_2)) else (scOrd.j1 kj4 false a0_0 a0_1 a0_2 a1_0 a1_1 a1_2 a2_0 a2_1 a2_2))) else (scOrd.j1 kj4 false a0_0 a0_1 a0_2 a1_0 a1_1 a1_2 a2_0 a2_1 a2_2)) = some true := H
      have A15 := Aside0.mk A150
      clear A150
      by_cases c16 : t140 = true
      ·subst c16
       have H1 : ((abacuslaw08_is.f kj4 a2_0 a2_1 a2_2).bind fun t141 => (if t141 = true then (if a0_2 < 576460752303423488 then (if a1_2 < 576460752303423488 then (if a2_2 < 576460752303423488 then (if a0_2 > (-576460752303423488) then (if a1_2 > (-576460752303423488) then (scOrd.j1 kj4 (decide (a2_2 > (-576460752303423488))) a0_0 a0_1 a0_2 a1_0 a1_1 a1_2 a2_0 a2_1 a2_2) else (scOrd.j1 kj4 false a0_0 a0_1 a0_2 a1_0 a1_1 a1_2 a2_0 a2_1 a2_2)) else (scOrd.j1 kj4 false a0_0 a0_1 a0_2 a1_0 a1_1 a1_2 a2_0 a2_1 a2_2)) else (scOrd.j1 kj4 false a0_0 a0_1 a0_2 a1_0 a1_1 a1_2 a2_0 a2_1 a2_2)) else (scOrd.j1 kj4 false a0_0 a0_1 a0_2 a1_0 a1_1 a1_2 a2_0 a2_1 a2_2)) else (scOrd.j1 kj4 false a0_0 a0_1 a0_2 a1_0 a1_1 a1_2 a2_0 a2_1 a2_2)) else (scOrd.j1 kj4 false a0_0 a0_1 a0_2 a1_0 a1_1 a1_2 a2_0 a2_1 a2_2))) = some true := by rw [if_pos rfl] at H; exact H
       clear H
       have H := H1
       clear H1
       replace H := Option.bind_eq_some_iff.mp H
       obtain ⟨t141, A170, H⟩ := H
       replace H : (if t141 = true then (if a0_2 < 576460752303423488 then (if a1_2 < 576460752303423488 then (if a2_2 < 576460752303423488 then (if a0_2 > (-576460752303423488) then (if a1_2 > (-576460752303423488) then (scOrd.j1 kj4 (decide (a2_2 > (-576460752303423488))) a0_0 a0_1 a0_2 a1_0 a1_1 a1_2 a2_0 a2_1 a2_2) else (scOrd.j1 kj4 false a0_0 a0_1 a0_2 a1_0 a1_1 a1_2 a2_0 a2_1 a2_2)) else (scOrd.j1 kj4 false a0_0 a0_1 a0_2 a1_0 a1_1 a1_2 a2_0 a2_1 a2_2)) else (scOrd.j1 kj4 false a0_0 a0_1 a0_2 a1_0 a1_1 a1_2 a2_0 a2_1 a2_2)) else (scOrd.j1 kj4 false a0_0 a0_1 a0_2 a1_0 a1_1 a1_2 a2_0 a2_1 a2_2)) else (scOrd.j1 kj4 false a0_0 a0_1 a0_2 a1_0 a1_1 a1_2 a2_0 a2_1 a2_2)) else (scOrd.j1 kj4 false a0_0 a0_1 a0_2 a1_0 a1_1 a1_2 a2_0 a2_1 a2_2)) = some true := H
       have A17 := Aside0.mk A170
       clear A170
       by_cases c18 : t141 = true
       ·subst c18
        have H1 : (if a0_2 < 576460752303423488 then (if a1_2 < 576460752303423488 then (if a2_2 < 576460752303423488 then (if a0_2 > (-576460752303423488) then (if a1_2 > (-576460752303423488) then (scOrd.j1 kj4 (decide (a2_2 > (-576460752303423488))) a0_0 a0_1 a0_2 a1_0 a1_1 a1_2 a2_0 a2_1 a2_2) else (scOrd.j1 kj4 false a0_0 a0_1 a0_2 a1_0 a1_1 a1_2 a2_0 a2_1 a2_2)) else (scOrd.j1 kj4 false a0_0 a0_1 a0_2 a1_0 a1_1 a1_2 a2_0 a2_1 a2_2)) else (scOrd.j1 kj4 false a0_0 a0_1 a0_2 a1_0 a1_1 a1_2 a2_0 a2_1 a2_2)) else (scOrd.j1 kj4 false a0_0 a0_1 a0_2 a1_0 a1_1 a1_2 a2_0 a2_1 a2_2)) else (scOrd.j1 kj4 false a0_0 a0_1 a0_2 a1_0 a1_1 a1_2 a2_0 a2_1 a2_2)) = some true := by rw [if_pos rfl] at H; exact H
        clear H
        have H := H1
        clear H1
        by_cases c19 : a0_2 < 576460752303423488
        ·rw [if_pos c19] at H
         have c19b0 : decide (a0_2 < 576460752303423488) = true := decide_eq_true c19
         clear c19
         (first | rw [c19b0] | (simp only [i64_w, i32_w]; rw [c19b0]) | skip)
         by_cases c20 : a1_2 < 576460752303423488
         ·rw [if_pos c20] at H
          have c20b0 : decide (a1_2 < 576460752303423488) = true := decide_eq_true c20
          clear c20
          by_cases c21 : a2_2 < 576460752303423488
          ·rw [if_pos c21] at H
           have c21b0 : decide (a2_2 < 576460752303423488) = true := decide_eq_true c21
           clear c21
           by_cases c22 : a0_2 > (-576460752303423488)
           ·rw [if_pos c22] at H
            have c22b0 : decide ((-576460752303423488) < a0_2) = true := decide_eq_true c22
            clear c22
            by_cases c23 : a1_2 > (-576460752303423488)
            ·rw [if_pos c23] at H
             have c23b0 : decide ((-576460752303423488) < a1_2) = true := decide_eq_true c23
             clear c23
             have H' := Aside0.mk H
             clear H
             have hnb24 := NB134_135.out
             have hnc24 := NB135_134.out
             have hnb25 := NB134_136.out
             have hnc25 := NB136_134.out
             have hcz26_0 : wc.cell? ⟨gb134, 0, none⟩ = some (.bool a0_0) := (blk_cell BK134.out 0).trans rfl
             have hcz26_1 : wc.cell? ⟨gb134, 1, none⟩ = some (.string a0_1) := (blk_cell BK134.out 1).trans rfl
             have hcz26_2 : wc.cell? ⟨gb134, 2, none⟩ = some (.int .i64 a0_2) := (blk_cell BK134.out 2).trans rfl
             have hfz26_0 := blk_frozen BK134.out 0
             have hfz26_1 := blk_frozen BK134.out 1
             have hfz26_2 := blk_frozen BK134.out 2
             go_wp2_with (first | ((with_reducible refine gate_callee (f := 10) rfl ?_); refine goesL_ (some 42) rfl rfl Tryd.func10 (by kernel_rfl) rfl #[.agg #[.bool a0_0, .string a0_1, .int .i64 a0_2]] rfl (by (try simp only [List.map_toArray, List.map_cons, List.map_nil]); first | done | rfl | (simp only [List.length_drop, List.length_take]; rfl)) ?_; (with_reducible refine (abacuslaw08_is.calls kj4 a0_0 a0_1 a0_2 true _ A13.out).mono ?_); rintro e w27 ⟨rfl, hb⟩; refine ⟨_, rfl, ?_⟩; have n0_ := Aside0.mk (blk_below (g := gb134) (o := .cells #[.bool a0_0, .string a0_1, .int .i64 a0_2] 23 (0, 0)) (by (with_reducible repeat (first | refine blk_drewN ?_ _ | refine blk_drew ?_ | refine blk_alloc ?_ _)); exact BK134.out) hb); have n1_ := Aside0.mk (blk_below (g := gb135) (o := .cells #[.bool a1_0, .string a1_1, .int .i64 a1_2] 23 (0, 0)) (by (with_reducible repeat (first | refine blk_drewN ?_ _ | refine blk_drew ?_ | refine blk_alloc ?_ _)); exact BK135.out) hb); have n2_ := Aside0.mk (blk_below (g := gb136) (o := .cells #[.bool a2_0, .string a2_1, .int .i64 a2_2] 23 (0, 0)) (by (with_reducible repeat (first | refine blk_drewN ?_ _ | refine blk_drew ?_ | refine blk_alloc ?_ _)); exact BK136.out) hb); have n3_ := Aside0.mk (below_step (by repeat (first | (with_reducible first | exact HB.out | apply below_alloc | apply pw_below_drewN | apply below_drew1 | refine below_set ?_ GE134.out | refine below_set ?_ GE135.out | refine below_set ?_ GE136.out) | exact HB.out)) hb); clear BK134; clear BK135; clear BK136; clear HB; have BK134 := n0_; have BK135 := n1_; have BK136 := n2_; have HB := n3_; clear n0_ n1_ n2_ n3_; (try clear hb); (try clear hb2); (try clear hk); (try clear hi); have hnb28 := NB135_136.out; have hnc28 := NB136_135.out; have hcz29_0 : w27.cell? ⟨gb135, 0, none⟩ = some (.bool a1_0) := (blk_cell BK135.out 0).trans rfl; have hcz29_1 : w27.cell? ⟨gb135, 1, none⟩ = some (.string a1_1) := (blk_cell BK135.out 1).trans rfl; have hcz29_2 : w27.cell? ⟨gb135, 2, none⟩ = some (.int .i64 a1_2) := (blk_cell BK135.out 2).trans rfl; have hfz29_0 := blk_frozen BK135.out 0; have hfz29_1 := blk_frozen BK135.out 1; have hfz29_2 := blk_frozen BK135.out 2) | (go_at_call 10; (with_reducible refine (abacuslaw08_is.calls kj4 a1_0 a1_1 a1_2 true _ A15.out).mono ?_); rintro e w30 ⟨rfl, hb⟩; have n0_ := Aside0.mk (blk_below (g := gb134) (o := .cells #[.bool a0_0, .string a0_1, .int .i64 a0_2] 23 (0, 0)) (by (with_reducible repeat (first | refine blk_drewN ?_ _ | refine blk_drew ?_ | refine blk_alloc ?_ _)); exact BK134.out) hb); have n1_ := Aside0.mk (blk_below (g := gb135) (o := .cells #[.bool a1_0, .string a1_1, .int .i64 a1_2] 23 (0, 0)) (by (with_reducible repeat (first | refine blk_drewN ?_ _ | refine blk_drew ?_ | refine blk_alloc ?_ _)); exact BK135.out) hb); have n2_ := Aside0.mk (blk_below (g := gb136) (o := .cells #[.bool a2_0, .string a2_1, .int .i64 a2_2] 23 (0, 0)) (by (with_reducible repeat (first | refine blk_drewN ?_ _ | refine blk_drew ?_ | refine blk_alloc ?_ _)); exact BK136.out) hb); have n3_ := Aside0.mk (below_step (by repeat (first | (with_reducible first | exact HB.out | apply below_alloc | apply pw_below_drewN | apply below_drew1 | refine below_set ?_ GE134.out | refine below_set ?_ GE135.out | refine below_set ?_ GE136.out) | exact HB.out)) hb); clear BK134; clear BK135; clear BK136; clear HB; have BK134 := n0_; have BK135 := n1_; have BK136 := n2_; have HB := n3_; clear n0_ n1_ n2_ n3_; (try clear hb); (try clear hb2); (try clear hk); (try clear hi); have hcz31_0 : w30.cell? ⟨gb136, 0, none⟩ = some (.bool a2_0) := (blk_cell BK136.out 0).trans rfl; have hcz31_1 : w30.cell? ⟨gb136, 1, none⟩ = some (.string a2_1) := (blk_cell BK136.out 1).trans rfl; have hcz31_2 : w30.cell? ⟨gb136, 2, none⟩ = some (.int .i64 a2_2) := (blk_cell BK136.out 2).trans rfl; have hfz31_0 := blk_frozen BK136.out 0; have hfz31_1 := blk_frozen BK136.out 1; have hfz31_2 := blk_frozen BK136.out 2) | (go_at_call 10; (with_reducible refine (abacuslaw08_is.calls kj4 a2_0 a2_1 a2_2 true _ A17.out).mono ?_); rintro e w32 ⟨rfl, hb⟩; have n0_ := Aside0.mk (blk_below (g := gb134) (o := .cells #[.bool a0_0, .string a0_1, .int .i64 a0_2] 23 (0, 0)) (by (with_reducible repeat (first | refine blk_drewN ?_ _ | refine blk_drew ?_ | refine blk_alloc ?_ _)); exact BK134.out) hb); have n1_ := Aside0.mk (blk_below (g := gb135) (o := .cells #[.bool a1_0, .string a1_1, .int .i64 a1_2] 23 (0, 0)) (by (with_reducible repeat (first | refine blk_drewN ?_ _ | refine blk_drew ?_ | refine blk_alloc ?_ _)); exact BK135.out) hb); have n2_ := Aside0.mk (blk_below (g := gb136) (o := .cells #[.bool a2_0, .string a2_1, .int .i64 a2_2] 23 (0, 0)) (by (with_reducible repeat (first | refine blk_drewN ?_ _ | refine blk_drew ?_ | refine blk_alloc ?_ _)); exact BK136.out) hb); have n3_ := Aside0.mk (below_step (by repeat (first | (with_reducible first | exact HB.out | apply below_alloc | apply pw_below_drewN | apply below_drew1 | refine below_set ?_ GE134.out | refine below_set ?_ GE135.out | refine below_set ?_ GE136.out) | exact HB.out)) hb); clear BK134; clear BK135; clear BK136; clear HB; have BK134 := n0_; have BK135 := n1_; have BK136 := n2_; have HB := n3_; clear n0_ n1_ n2_ n3_; (try clear hb); (try clear hb2); (try clear hk); (try clear hi); have hcz33_0 : w32.cell? ⟨gb134, 0, none⟩ = some (.bool a0_0) := (blk_cell BK134.out 0).trans rfl; have hcz33_1 : w32.cell? ⟨gb134, 1, none⟩ = some (.string a0_1) := (blk_cell BK134.out 1).trans rfl; have hcz33_2 : w32.cell? ⟨gb134, 2, none⟩ = some (.int .i64 a0_2) := (blk_cell BK134.out 2).trans rfl; have hfz33_0 := blk_frozen BK134.out 0; have hfz33_1 := blk_frozen BK134.out 1; have hfz33_2 := blk_frozen BK134.out 2; have hcz34_0 : w32.cell? ⟨gb135, 0, none⟩ = some (.bool a1_0) := (blk_cell BK135.out 0).trans rfl; have hcz34_1 : w32.cell? ⟨gb135, 1, none⟩ = some (.string a1_1) := (blk_cell BK135.out 1).trans rfl; have hcz34_2 : w32.cell? ⟨gb135, 2, none⟩ = some (.int .i64 a1_2) := (blk_cell BK135.out 2).trans rfl; have hfz34_0 := blk_frozen BK135.out 0; have hfz34_1 := blk_frozen BK135.out 1; have hfz34_2 := blk_frozen BK135.out 2; have hcz35_0 : w32.cell? ⟨gb136, 0, none⟩ = some (.bool a2_0) := (blk_cell BK136.out 0).trans rfl; have hcz35_1 : w32.cell? ⟨gb136, 1, none⟩ = some (.string a2_1) := (blk_cell BK136.out 1).trans rfl; have hcz35_2 : w32.cell? ⟨gb136, 2, none⟩ = some (.int .i64 a2_2) := (blk_cell BK136.out 2).trans rfl; have hfz35_0 := blk_frozen BK136.out 0; have hfz35_1 := blk_frozen BK136.out 1; have hfz35_2 := blk_frozen BK136.out 2))
             go_meet
             case rel => exact ⟨_, (decide (a2_2 > (-576460752303423488))), (by first | rfl | (simp; done) | (simp [*]; done)), H', ⟨by have := HJ4.out; first | omega | exact Nat.le_refl _⟩, ⟨by (with_reducible repeat (first | refine blk_drewN ?_ _ | refine blk_drew ?_ | refine blk_alloc ?_ _)); exact BK134.out⟩, ⟨by (with_reducible repeat (first | refine blk_drewN ?_ _ | refine blk_drew ?_ | refine blk_alloc ?_ _)); exact BK135.out⟩, ⟨by (with_reducible repeat (first | refine blk_drewN ?_ _ | refine blk_drew ?_ | refine blk_alloc ?_ _)); exact BK136.out⟩, ⟨by repeat (first | (with_reducible first | exact HB.out | apply below_alloc | apply pw_below_drewN | apply below_drew1 | refine below_set ?_ GE134.out | refine below_set ?_ GE135.out | refine below_set ?_ GE136.out) | exact HB.out)⟩⟩
            ·rw [if_neg c23] at H
             have c23b0 : decide ((-576460752303423488) < a1_2) = false := decide_eq_false c23
             clear c23
             have H' := Aside0.mk H
             clear H
             have hnb36 := NB134_135.out
             have hnc36 := NB135_134.out
             have hnb37 := NB134_136.out
             have hnc37 := NB136_134.out
             have hcz38_0 : wc.cell? ⟨gb134, 0, none⟩ = some (.bool a0_0) := (blk_cell BK134.out 0).trans rfl
             have hcz38_1 : wc.cell? ⟨gb134, 1, none⟩ = some (.string a0_1) := (blk_cell BK134.out 1).trans rfl
             have hcz38_2 : wc.cell? ⟨gb134, 2, none⟩ = some (.int .i64 a0_2) := (blk_cell BK134.out 2).trans rfl
             have hfz38_0 := blk_frozen BK134.out 0
             have hfz38_1 := blk_frozen BK134.out 1
             have hfz38_2 := blk_frozen BK134.out 2
             go_wp2_with (first | ((with_reducible refine gate_callee (f := 10) rfl ?_); refine goesL_ (some 42) rfl rfl Tryd.func10 (by kernel_rfl) rfl #[.agg #[.bool a0_0, .string a0_1, .int .i64 a0_2]] rfl (by (try simp only [List.map_toArray, List.map_cons, List.map_nil]); first | done | rfl | (simp only [List.length_drop, List.length_take]; rfl)) ?_; (with_reducible refine (abacuslaw08_is.calls kj4 a0_0 a0_1 a0_2 true _ A13.out).mono ?_); rintro e w39 ⟨rfl, hb⟩; refine ⟨_, rfl, ?_⟩; have n0_ := Aside0.mk (blk_below (g := gb134) (o := .cells #[.bool a0_0, .string a0_1, .int .i64 a0_2] 23 (0, 0)) (by (with_reducible repeat (first | refine blk_drewN ?_ _ | refine blk_drew ?_ | refine blk_alloc ?_ _)); exact BK134.out) hb); have n1_ := Aside0.mk (blk_below (g := gb135) (o := .cells #[.bool a1_0, .string a1_1, .int .i64 a1_2] 23 (0, 0)) (by (with_reducible repeat (first | refine blk_drewN ?_ _ | refine blk_drew ?_ | refine blk_alloc ?_ _)); exact BK135.out) hb); have n2_ := Aside0.mk (blk_below (g := gb136) (o := .cells #[.bool a2_0, .string a2_1, .int .i64 a2_2] 23 (0, 0)) (by (with_reducible repeat (first | refine blk_drewN ?_ _ | refine blk_drew ?_ | refine blk_alloc ?_ _)); exact BK136.out) hb); have n3_ := Aside0.mk (below_step (by repeat (first | (with_reducible first | exact HB.out | apply below_alloc | apply pw_below_drewN | apply below_drew1 | refine below_set ?_ GE134.out | refine below_set ?_ GE135.out | refine below_set ?_ GE136.out) | exact HB.out)) hb); clear BK134; clear BK135; clear BK136; clear HB; have BK134 := n0_; have BK135 := n1_; have BK136 := n2_; have HB := n3_; clear n0_ n1_ n2_ n3_; (try clear hb); (try clear hb2); (try clear hk); (try clear hi); have hnb40 := NB135_136.out; have hnc40 := NB136_135.out; have hcz41_0 : w39.cell? ⟨gb135, 0, none⟩ = some (.bool a1_0) := (blk_cell BK135.out 0).trans rfl; have hcz41_1 : w39.cell? ⟨gb135, 1, none⟩ = some (.string a1_1) := (blk_cell BK135.out 1).trans rfl; have hcz41_2 : w39.cell? ⟨gb135, 2, none⟩ = some (.int .i64 a1_2) := (blk_cell BK135.out 2).trans rfl; have hfz41_0 := blk_frozen BK135.out 0; have hfz41_1 := blk_frozen BK135.out 1; have hfz41_2 := blk_frozen BK135.out 2) | (go_at_call 10; (with_reducible refine (abacuslaw08_is.calls kj4 a1_0 a1_1 a1_2 true _ A15.out).mono ?_); rintro e w42 ⟨rfl, hb⟩; have n0_ := Aside0.mk (blk_below (g := gb134) (o := .cells #[.bool a0_0, .string a0_1, .int .i64 a0_2] 23 (0, 0)) (by (with_reducible repeat (first | refine blk_drewN ?_ _ | refine blk_drew ?_ | refine blk_alloc ?_ _)); exact BK134.out) hb); have n1_ := Aside0.mk (blk_below (g := gb135) (o := .cells #[.bool a1_0, .string a1_1, .int .i64 a1_2] 23 (0, 0)) (by (with_reducible repeat (first | refine blk_drewN ?_ _ | refine blk_drew ?_ | refine blk_alloc ?_ _)); exact BK135.out) hb); have n2_ := Aside0.mk (blk_below (g := gb136) (o := .cells #[.bool a2_0, .string a2_1, .int .i64 a2_2] 23 (0, 0)) (by (with_reducible repeat (first | refine blk_drewN ?_ _ | refine blk_drew ?_ | refine blk_alloc ?_ _)); exact BK136.out) hb); have n3_ := Aside0.mk (below_step (by repeat (first | (with_reducible first | exact HB.out | apply below_alloc | apply pw_below_drewN | apply below_drew1 | refine below_set ?_ GE134.out | refine below_set ?_ GE135.out | refine below_set ?_ GE136.out) | exact HB.out)) hb); clear BK134; clear BK135; clear BK136; clear HB; have BK134 := n0_; have BK135 := n1_; have BK136 := n2_; have HB := n3_; clear n0_ n1_ n2_ n3_; (try clear hb); (try clear hb2); (try clear hk); (try clear hi); have hcz43_0 : w42.cell? ⟨gb136, 0, none⟩ = some (.bool a2_0) := (blk_cell BK136.out 0).trans rfl; have hcz43_1 : w42.cell? ⟨gb136, 1, none⟩ = some (.string a2_1) := (blk_cell BK136.out 1).trans rfl; have hcz43_2 : w42.cell? ⟨gb136, 2, none⟩ = some (.int .i64 a2_2) := (blk_cell BK136.out 2).trans rfl; have hfz43_0 := blk_frozen BK136.out 0; have hfz43_1 := blk_frozen BK136.out 1; have hfz43_2 := blk_frozen BK136.out 2) | (go_at_call 10; (with_reducible refine (abacuslaw08_is.calls kj4 a2_0 a2_1 a2_2 true _ A17.out).mono ?_); rintro e w44 ⟨rfl, hb⟩; have n0_ := Aside0.mk (blk_below (g := gb134) (o := .cells #[.bool a0_0, .string a0_1, .int .i64 a0_2] 23 (0, 0)) (by (with_reducible repeat (first | refine blk_drewN ?_ _ | refine blk_drew ?_ | refine blk_alloc ?_ _)); exact BK134.out) hb); have n1_ := Aside0.mk (blk_below (g := gb135) (o := .cells #[.bool a1_0, .string a1_1, .int .i64 a1_2] 23 (0, 0)) (by (with_reducible repeat (first | refine blk_drewN ?_ _ | refine blk_drew ?_ | refine blk_alloc ?_ _)); exact BK135.out) hb); have n2_ := Aside0.mk (blk_below (g := gb136) (o := .cells #[.bool a2_0, .string a2_1, .int .i64 a2_2] 23 (0, 0)) (by (with_reducible repeat (first | refine blk_drewN ?_ _ | refine blk_drew ?_ | refine blk_alloc ?_ _)); exact BK136.out) hb); have n3_ := Aside0.mk (below_step (by repeat (first | (with_reducible first | exact HB.out | apply below_alloc | apply pw_below_drewN | apply below_drew1 | refine below_set ?_ GE134.out | refine below_set ?_ GE135.out | refine below_set ?_ GE136.out) | exact HB.out)) hb); clear BK134; clear BK135; clear BK136; clear HB; have BK134 := n0_; have BK135 := n1_; have BK136 := n2_; have HB := n3_; clear n0_ n1_ n2_ n3_; (try clear hb); (try clear hb2); (try clear hk); (try clear hi); have hcz45_0 : w44.cell? ⟨gb134, 0, none⟩ = some (.bool a0_0) := (blk_cell BK134.out 0).trans rfl; have hcz45_1 : w44.cell? ⟨gb134, 1, none⟩ = some (.string a0_1) := (blk_cell BK134.out 1).trans rfl; have hcz45_2 : w44.cell? ⟨gb134, 2, none⟩ = some (.int .i64 a0_2) := (blk_cell BK134.out 2).trans rfl; have hfz45_0 := blk_frozen BK134.out 0; have hfz45_1 := blk_frozen BK134.out 1; have hfz45_2 := blk_frozen BK134.out 2; have hcz46_0 : w44.cell? ⟨gb135, 0, none⟩ = some (.bool a1_0) := (blk_cell BK135.out 0).trans rfl; have hcz46_1 : w44.cell? ⟨gb135, 1, none⟩ = some (.string a1_1) := (blk_cell BK135.out 1).trans rfl; have hcz46_2 : w44.cell? ⟨gb135, 2, none⟩ = some (.int .i64 a1_2) := (blk_cell BK135.out 2).trans rfl; have hfz46_0 := blk_frozen BK135.out 0; have hfz46_1 := blk_frozen BK135.out 1; have hfz46_2 := blk_frozen BK135.out 2; have hcz47_0 : w44.cell? ⟨gb136, 0, none⟩ = some (.bool a2_0) := (blk_cell BK136.out 0).trans rfl; have hcz47_1 : w44.cell? ⟨gb136, 1, none⟩ = some (.string a2_1) := (blk_cell BK136.out 1).trans rfl; have hcz47_2 : w44.cell? ⟨gb136, 2, none⟩ = some (.int .i64 a2_2) := (blk_cell BK136.out 2).trans rfl; have hfz47_0 := blk_frozen BK136.out 0; have hfz47_1 := blk_frozen BK136.out 1; have hfz47_2 := blk_frozen BK136.out 2))
             go_meet
             case rel => exact ⟨_, (false), (by first | rfl | (simp; done) | (simp [*]; done)), H', ⟨by have := HJ4.out; first | omega | exact Nat.le_refl _⟩, ⟨by (with_reducible repeat (first | refine blk_drewN ?_ _ | refine blk_drew ?_ | refine blk_alloc ?_ _)); exact BK134.out⟩, ⟨by (with_reducible repeat (first | refine blk_drewN ?_ _ | refine blk_drew ?_ | refine blk_alloc ?_ _)); exact BK135.out⟩, ⟨by (with_reducible repeat (first | refine blk_drewN ?_ _ | refine blk_drew ?_ | refine blk_alloc ?_ _)); exact BK136.out⟩, ⟨by repeat (first | (with_reducible first | exact HB.out | apply below_alloc | apply pw_below_drewN | apply below_drew1 | refine below_set ?_ GE134.out | refine below_set ?_ GE135.out | refine below_set ?_ GE136.out) | exact HB.out)⟩⟩
           ·rw [if_neg c22] at H
            have c22b0 : decide ((-576460752303423488) < a0_2) = false := decide_eq_false c22
            clear c22
            have H' := Aside0.mk H
            clear H
            have hnb48 := NB134_135.out
            have hnc48 := NB135_134.out
            have hnb49 := NB134_136.out
            have hnc49 := NB136_134.out
            have hcz50_0 : wc.cell? ⟨gb134, 0, none⟩ = some (.bool a0_0) := (blk_cell BK134.out 0).trans rfl
            have hcz50_1 : wc.cell? ⟨gb134, 1, none⟩ = some (.string a0_1) := (blk_cell BK134.out 1).trans rfl
            have hcz50_2 : wc.cell? ⟨gb134, 2, none⟩ = some (.int .i64 a0_2) := (blk_cell BK134.out 2).trans rfl
            have hfz50_0 := blk_frozen BK134.out 0
            have hfz50_1 := blk_frozen BK134.out 1
            have hfz50_2 := blk_frozen BK134.out 2
            go_wp2_with (first | ((with_reducible refine gate_callee (f := 10) rfl ?_); refine goesL_ (some 42) rfl rfl Tryd.func10 (by kernel_rfl) rfl #[.agg #[.bool a0_0, .string a0_1, .int .i64 a0_2]] rfl (by (try simp only [List.map_toArray, List.map_cons, List.map_nil]); first | done | rfl | (simp only [List.length_drop, List.length_take]; rfl)) ?_; (with_reducible refine (abacuslaw08_is.calls kj4 a0_0 a0_1 a0_2 true _ A13.out).mono ?_); rintro e w51 ⟨rfl, hb⟩; refine ⟨_, rfl, ?_⟩; have n0_ := Aside0.mk (blk_below (g := gb134) (o := .cells #[.bool a0_0, .string a0_1, .int .i64 a0_2] 23 (0, 0)) (by (with_reducible repeat (first | refine blk_drewN ?_ _ | refine blk_drew ?_ | refine blk_alloc ?_ _)); exact BK134.out) hb); have n1_ := Aside0.mk (blk_below (g := gb135) (o := .cells #[.bool a1_0, .string a1_1, .int .i64 a1_2] 23 (0, 0)) (by (with_reducible repeat (first | refine blk_drewN ?_ _ | refine blk_drew ?_ | refine blk_alloc ?_ _)); exact BK135.out) hb); have n2_ := Aside0.mk (blk_below (g := gb136) (o := .cells #[.bool a2_0, .string a2_1, .int .i64 a2_2] 23 (0, 0)) (by (with_reducible repeat (first | refine blk_drewN ?_ _ | refine blk_drew ?_ | refine blk_alloc ?_ _)); exact BK136.out) hb); have n3_ := Aside0.mk (below_step (by repeat (first | (with_reducible first | exact HB.out | apply below_alloc | apply pw_below_drewN | apply below_drew1 | refine below_set ?_ GE134.out | refine below_set ?_ GE135.out | refine below_set ?_ GE136.out) | exact HB.out)) hb); clear BK134; clear BK135; clear BK136; clear HB; have BK134 := n0_; have BK135 := n1_; have BK136 := n2_; have HB := n3_; clear n0_ n1_ n2_ n3_; (try clear hb); (try clear hb2); (try clear hk); (try clear hi); have hnb52 := NB135_136.out; have hnc52 := NB136_135.out; have hcz53_0 : w51.cell? ⟨gb135, 0, none⟩ = some (.bool a1_0) := (blk_cell BK135.out 0).trans rfl; have hcz53_1 : w51.cell? ⟨gb135, 1, none⟩ = some (.string a1_1) := (blk_cell BK135.out 1).trans rfl; have hcz53_2 : w51.cell? ⟨gb135, 2, none⟩ = some (.int .i64 a1_2) := (blk_cell BK135.out 2).trans rfl; have hfz53_0 := blk_frozen BK135.out 0; have hfz53_1 := blk_frozen BK135.out 1; have hfz53_2 := blk_frozen BK135.out 2) | (go_at_call 10; (with_reducible refine (abacuslaw08_is.calls kj4 a1_0 a1_1 a1_2 true _ A15.out).mono ?_); rintro e w54 ⟨rfl, hb⟩; have n0_ := Aside0.mk (blk_below (g := gb134) (o := .cells #[.bool a0_0, .string a0_1, .int .i64 a0_2] 23 (0, 0)) (by (with_reducible repeat (first | refine blk_drewN ?_ _ | refine blk_drew ?_ | refine blk_alloc ?_ _)); exact BK134.out) hb); have n1_ := Aside0.mk (blk_below (g := gb135) (o := .cells #[.bool a1_0, .string a1_1, .int .i64 a1_2] 23 (0, 0)) (by (with_reducible repeat (first | refine blk_drewN ?_ _ | refine blk_drew ?_ | refine blk_alloc ?_ _)); exact BK135.out) hb); have n2_ := Aside0.mk (blk_below (g := gb136) (o := .cells #[.bool a2_0, .string a2_1, .int .i64 a2_2] 23 (0, 0)) (by (with_reducible repeat (first | refine blk_drewN ?_ _ | refine blk_drew ?_ | refine blk_alloc ?_ _)); exact BK136.out) hb); have n3_ := Aside0.mk (below_step (by repeat (first | (with_reducible first | exact HB.out | apply below_alloc | apply pw_below_drewN | apply below_drew1 | refine below_set ?_ GE134.out | refine below_set ?_ GE135.out | refine below_set ?_ GE136.out) | exact HB.out)) hb); clear BK134; clear BK135; clear BK136; clear HB; have BK134 := n0_; have BK135 := n1_; have BK136 := n2_; have HB := n3_; clear n0_ n1_ n2_ n3_; (try clear hb); (try clear hb2); (try clear hk); (try clear hi); have hcz55_0 : w54.cell? ⟨gb136, 0, none⟩ = some (.bool a2_0) := (blk_cell BK136.out 0).trans rfl; have hcz55_1 : w54.cell? ⟨gb136, 1, none⟩ = some (.string a2_1) := (blk_cell BK136.out 1).trans rfl; have hcz55_2 : w54.cell? ⟨gb136, 2, none⟩ = some (.int .i64 a2_2) := (blk_cell BK136.out 2).trans rfl; have hfz55_0 := blk_frozen BK136.out 0; have hfz55_1 := blk_frozen BK136.out 1; have hfz55_2 := blk_frozen BK136.out 2) | (go_at_call 10; (with_reducible refine (abacuslaw08_is.calls kj4 a2_0 a2_1 a2_2 true _ A17.out).mono ?_); rintro e w56 ⟨rfl, hb⟩; have n0_ := Aside0.mk (blk_below (g := gb134) (o := .cells #[.bool a0_0, .string a0_1, .int .i64 a0_2] 23 (0, 0)) (by (with_reducible repeat (first | refine blk_drewN ?_ _ | refine blk_drew ?_ | refine blk_alloc ?_ _)); exact BK134.out) hb); have n1_ := Aside0.mk (blk_below (g := gb135) (o := .cells #[.bool a1_0, .string a1_1, .int .i64 a1_2] 23 (0, 0)) (by (with_reducible repeat (first | refine blk_drewN ?_ _ | refine blk_drew ?_ | refine blk_alloc ?_ _)); exact BK135.out) hb); have n2_ := Aside0.mk (blk_below (g := gb136) (o := .cells #[.bool a2_0, .string a2_1, .int .i64 a2_2] 23 (0, 0)) (by (with_reducible repeat (first | refine blk_drewN ?_ _ | refine blk_drew ?_ | refine blk_alloc ?_ _)); exact BK136.out) hb); have n3_ := Aside0.mk (below_step (by repeat (first | (with_reducible first | exact HB.out | apply below_alloc | apply pw_below_drewN | apply below_drew1 | refine below_set ?_ GE134.out | refine below_set ?_ GE135.out | refine below_set ?_ GE136.out) | exact HB.out)) hb); clear BK134; clear BK135; clear BK136; clear HB; have BK134 := n0_; have BK135 := n1_; have BK136 := n2_; have HB := n3_; clear n0_ n1_ n2_ n3_; (try clear hb); (try clear hb2); (try clear hk); (try clear hi); have hcz57_0 : w56.cell? ⟨gb134, 0, none⟩ = some (.bool a0_0) := (blk_cell BK134.out 0).trans rfl; have hcz57_1 : w56.cell? ⟨gb134, 1, none⟩ = some (.string a0_1) := (blk_cell BK134.out 1).trans rfl; have hcz57_2 : w56.cell? ⟨gb134, 2, none⟩ = some (.int .i64 a0_2) := (blk_cell BK134.out 2).trans rfl; have hfz57_0 := blk_frozen BK134.out 0; have hfz57_1 := blk_frozen BK134.out 1; have hfz57_2 := blk_frozen BK134.out 2; have hcz58_0 : w56.cell? ⟨gb135, 0, none⟩ = some (.bool a1_0) := (blk_cell BK135.out 0).trans rfl; have hcz58_1 : w56.cell? ⟨gb135, 1, none⟩ = some (.string a1_1) := (blk_cell BK135.out 1).trans rfl; have hcz58_2 : w56.cell? ⟨gb135, 2, none⟩ = some (.int .i64 a1_2) := (blk_cell BK135.out 2).trans rfl; have hfz58_0 := blk_frozen BK135.out 0; have hfz58_1 := blk_frozen BK135.out 1; have hfz58_2 := blk_frozen BK135.out 2; have hcz59_0 : w56.cell? ⟨gb136, 0, none⟩ = some (.bool a2_0) := (blk_cell BK136.out 0).trans rfl; have hcz59_1 : w56.cell? ⟨gb136, 1, none⟩ = some (.string a2_1) := (blk_cell BK136.out 1).trans rfl; have hcz59_2 : w56.cell? ⟨gb136, 2, none⟩ = some (.int .i64 a2_2) := (blk_cell BK136.out 2).trans rfl; have hfz59_0 := blk_frozen BK136.out 0; have hfz59_1 := blk_frozen BK136.out 1; have hfz59_2 := blk_frozen BK136.out 2))
            go_meet
            case rel => exact ⟨_, (false), (by first | rfl | (simp; done) | (simp [*]; done)), H', ⟨by have := HJ4.out; first | omega | exact Nat.le_refl _⟩, ⟨by (with_reducible repeat (first | refine blk_drewN ?_ _ | refine blk_drew ?_ | refine blk_alloc ?_ _)); exact BK134.out⟩, ⟨by (with_reducible repeat (first | refine blk_drewN ?_ _ | refine blk_drew ?_ | refine blk_alloc ?_ _)); exact BK135.out⟩, ⟨by (with_reducible repeat (first | refine blk_drewN ?_ _ | refine blk_drew ?_ | refine blk_alloc ?_ _)); exact BK136.out⟩, ⟨by repeat (first | (with_reducible first | exact HB.out | apply below_alloc | apply pw_below_drewN | apply below_drew1 | refine below_set ?_ GE134.out | refine below_set ?_ GE135.out | refine below_set ?_ GE136.out) | exact HB.out)⟩⟩
          ·rw [if_neg c21] at H
           have c21b0 : decide (a2_2 < 576460752303423488) = false := decide_eq_false c21
           clear c21
           have H' := Aside0.mk H
           clear H
           have hnb60 := NB134_135.out
           have hnc60 := NB135_134.out
           have hnb61 := NB134_136.out
           have hnc61 := NB136_134.out
           have hcz62_0 : wc.cell? ⟨gb134, 0, none⟩ = some (.bool a0_0) := (blk_cell BK134.out 0).trans rfl
           have hcz62_1 : wc.cell? ⟨gb134, 1, none⟩ = some (.string a0_1) := (blk_cell BK134.out 1).trans rfl
           have hcz62_2 : wc.cell? ⟨gb134, 2, none⟩ = some (.int .i64 a0_2) := (blk_cell BK134.out 2).trans rfl
           have hfz62_0 := blk_frozen BK134.out 0
           have hfz62_1 := blk_frozen BK134.out 1
           have hfz62_2 := blk_frozen BK134.out 2
           go_wp2_with (first | ((with_reducible refine gate_callee (f := 10) rfl ?_); refine goesL_ (some 42) rfl rfl Tryd.func10 (by kernel_rfl) rfl #[.agg #[.bool a0_0, .string a0_1, .int .i64 a0_2]] rfl (by (try simp only [List.map_toArray, List.map_cons, List.map_nil]); first | done | rfl | (simp only [List.length_drop, List.length_take]; rfl)) ?_; (with_reducible refine (abacuslaw08_is.calls kj4 a0_0 a0_1 a0_2 true _ A13.out).mono ?_); rintro e w63 ⟨rfl, hb⟩; refine ⟨_, rfl, ?_⟩; have n0_ := Aside0.mk (blk_below (g := gb134) (o := .cells #[.bool a0_0, .string a0_1, .int .i64 a0_2] 23 (0, 0)) (by (with_reducible repeat (first | refine blk_drewN ?_ _ | refine blk_drew ?_ | refine blk_alloc ?_ _)); exact BK134.out) hb); have n1_ := Aside0.mk (blk_below (g := gb135) (o := .cells #[.bool a1_0, .string a1_1, .int .i64 a1_2] 23 (0, 0)) (by (with_reducible repeat (first | refine blk_drewN ?_ _ | refine blk_drew ?_ | refine blk_alloc ?_ _)); exact BK135.out) hb); have n2_ := Aside0.mk (blk_below (g := gb136) (o := .cells #[.bool a2_0, .string a2_1, .int .i64 a2_2] 23 (0, 0)) (by (with_reducible repeat (first | refine blk_drewN ?_ _ | refine blk_drew ?_ | refine blk_alloc ?_ _)); exact BK136.out) hb); have n3_ := Aside0.mk (below_step (by repeat (first | (with_reducible first | exact HB.out | apply below_alloc | apply pw_below_drewN | apply below_drew1 | refine below_set ?_ GE134.out | refine below_set ?_ GE135.out | refine below_set ?_ GE136.out) | exact HB.out)) hb); clear BK134; clear BK135; clear BK136; clear HB; have BK134 := n0_; have BK135 := n1_; have BK136 := n2_; have HB := n3_; clear n0_ n1_ n2_ n3_; (try clear hb); (try clear hb2); (try clear hk); (try clear hi); have hnb64 := NB135_136.out; have hnc64 := NB136_135.out; have hcz65_0 : w63.cell? ⟨gb135, 0, none⟩ = some (.bool a1_0) := (blk_cell BK135.out 0).trans rfl; have hcz65_1 : w63.cell? ⟨gb135, 1, none⟩ = some (.string a1_1) := (blk_cell BK135.out 1).trans rfl; have hcz65_2 : w63.cell? ⟨gb135, 2, none⟩ = some (.int .i64 a1_2) := (blk_cell BK135.out 2).trans rfl; have hfz65_0 := blk_frozen BK135.out 0; have hfz65_1 := blk_frozen BK135.out 1; have hfz65_2 := blk_frozen BK135.out 2) | (go_at_call 10; (with_reducible refine (abacuslaw08_is.calls kj4 a1_0 a1_1 a1_2 true _ A15.out).mono ?_); rintro e w66 ⟨rfl, hb⟩; have n0_ := Aside0.mk (blk_below (g := gb134) (o := .cells #[.bool a0_0, .string a0_1, .int .i64 a0_2] 23 (0, 0)) (by (with_reducible repeat (first | refine blk_drewN ?_ _ | refine blk_drew ?_ | refine blk_alloc ?_ _)); exact BK134.out) hb); have n1_ := Aside0.mk (blk_below (g := gb135) (o := .cells #[.bool a1_0, .string a1_1, .int .i64 a1_2] 23 (0, 0)) (by (with_reducible repeat (first | refine blk_drewN ?_ _ | refine blk_drew ?_ | refine blk_alloc ?_ _)); exact BK135.out) hb); have n2_ := Aside0.mk (blk_below (g := gb136) (o := .cells #[.bool a2_0, .string a2_1, .int .i64 a2_2] 23 (0, 0)) (by (with_reducible repeat (first | refine blk_drewN ?_ _ | refine blk_drew ?_ | refine blk_alloc ?_ _)); exact BK136.out) hb); have n3_ := Aside0.mk (below_step (by repeat (first | (with_reducible first | exact HB.out | apply below_alloc | apply pw_below_drewN | apply below_drew1 | refine below_set ?_ GE134.out | refine below_set ?_ GE135.out | refine below_set ?_ GE136.out) | exact HB.out)) hb); clear BK134; clear BK135; clear BK136; clear HB; have BK134 := n0_; have BK135 := n1_; have BK136 := n2_; have HB := n3_; clear n0_ n1_ n2_ n3_; (try clear hb); (try clear hb2); (try clear hk); (try clear hi); have hcz67_0 : w66.cell? ⟨gb136, 0, none⟩ = some (.bool a2_0) := (blk_cell BK136.out 0).trans rfl; have hcz67_1 : w66.cell? ⟨gb136, 1, none⟩ = some (.string a2_1) := (blk_cell BK136.out 1).trans rfl; have hcz67_2 : w66.cell? ⟨gb136, 2, none⟩ = some (.int .i64 a2_2) := (blk_cell BK136.out 2).trans rfl; have hfz67_0 := blk_frozen BK136.out 0; have hfz67_1 := blk_frozen BK136.out 1; have hfz67_2 := blk_frozen BK136.out 2) | (go_at_call 10; (with_reducible refine (abacuslaw08_is.calls kj4 a2_0 a2_1 a2_2 true _ A17.out).mono ?_); rintro e w68 ⟨rfl, hb⟩; have n0_ := Aside0.mk (blk_below (g := gb134) (o := .cells #[.bool a0_0, .string a0_1, .int .i64 a0_2] 23 (0, 0)) (by (with_reducible repeat (first | refine blk_drewN ?_ _ | refine blk_drew ?_ | refine blk_alloc ?_ _)); exact BK134.out) hb); have n1_ := Aside0.mk (blk_below (g := gb135) (o := .cells #[.bool a1_0, .string a1_1, .int .i64 a1_2] 23 (0, 0)) (by (with_reducible repeat (first | refine blk_drewN ?_ _ | refine blk_drew ?_ | refine blk_alloc ?_ _)); exact BK135.out) hb); have n2_ := Aside0.mk (blk_below (g := gb136) (o := .cells #[.bool a2_0, .string a2_1, .int .i64 a2_2] 23 (0, 0)) (by (with_reducible repeat (first | refine blk_drewN ?_ _ | refine blk_drew ?_ | refine blk_alloc ?_ _)); exact BK136.out) hb); have n3_ := Aside0.mk (below_step (by repeat (first | (with_reducible first | exact HB.out | apply below_alloc | apply pw_below_drewN | apply below_drew1 | refine below_set ?_ GE134.out | refine below_set ?_ GE135.out | refine below_set ?_ GE136.out) | exact HB.out)) hb); clear BK134; clear BK135; clear BK136; clear HB; have BK134 := n0_; have BK135 := n1_; have BK136 := n2_; have HB := n3_; clear n0_ n1_ n2_ n3_; (try clear hb); (try clear hb2); (try clear hk); (try clear hi); have hcz69_0 : w68.cell? ⟨gb134, 0, none⟩ = some (.bool a0_0) := (blk_cell BK134.out 0).trans rfl; have hcz69_1 : w68.cell? ⟨gb134, 1, none⟩ = some (.string a0_1) := (blk_cell BK134.out 1).trans rfl; have hcz69_2 : w68.cell? ⟨gb134, 2, none⟩ = some (.int .i64 a0_2) := (blk_cell BK134.out 2).trans rfl; have hfz69_0 := blk_frozen BK134.out 0; have hfz69_1 := blk_frozen BK134.out 1; have hfz69_2 := blk_frozen BK134.out 2; have hcz70_0 : w68.cell? ⟨gb135, 0, none⟩ = some (.bool a1_0) := (blk_cell BK135.out 0).trans rfl; have hcz70_1 : w68.cell? ⟨gb135, 1, none⟩ = some (.string a1_1) := (blk_cell BK135.out 1).trans rfl; have hcz70_2 : w68.cell? ⟨gb135, 2, none⟩ = some (.int .i64 a1_2) := (blk_cell BK135.out 2).trans rfl; have hfz70_0 := blk_frozen BK135.out 0; have hfz70_1 := blk_frozen BK135.out 1; have hfz70_2 := blk_frozen BK135.out 2; have hcz71_0 : w68.cell? ⟨gb136, 0, none⟩ = some (.bool a2_0) := (blk_cell BK136.out 0).trans rfl; have hcz71_1 : w68.cell? ⟨gb136, 1, none⟩ = some (.string a2_1) := (blk_cell BK136.out 1).trans rfl; have hcz71_2 : w68.cell? ⟨gb136, 2, none⟩ = some (.int .i64 a2_2) := (blk_cell BK136.out 2).trans rfl; have hfz71_0 := blk_frozen BK136.out 0; have hfz71_1 := blk_frozen BK136.out 1; have hfz71_2 := blk_frozen BK136.out 2))
           go_meet
           case rel => exact ⟨_, (false), (by first | rfl | (simp; done) | (simp [*]; done)), H', ⟨by have := HJ4.out; first | omega | exact Nat.le_refl _⟩, ⟨by (with_reducible repeat (first | refine blk_drewN ?_ _ | refine blk_drew ?_ | refine blk_alloc ?_ _)); exact BK134.out⟩, ⟨by (with_reducible repeat (first | refine blk_drewN ?_ _ | refine blk_drew ?_ | refine blk_alloc ?_ _)); exact BK135.out⟩, ⟨by (with_reducible repeat (first | refine blk_drewN ?_ _ | refine blk_drew ?_ | refine blk_alloc ?_ _)); exact BK136.out⟩, ⟨by repeat (first | (with_reducible first | exact HB.out | apply below_alloc | apply pw_below_drewN | apply below_drew1 | refine below_set ?_ GE134.out | refine below_set ?_ GE135.out | refine below_set ?_ GE136.out) | exact HB.out)⟩⟩
         ·rw [if_neg c20] at H
          have c20b0 : decide (a1_2 < 576460752303423488) = false := decide_eq_false c20
          clear c20
          have H' := Aside0.mk H
          clear H
          have hnb72 := NB134_135.out
          have hnc72 := NB135_134.out
          have hnb73 := NB134_136.out
          have hnc73 := NB136_134.out
          have hcz74_0 : wc.cell? ⟨gb134, 0, none⟩ = some (.bool a0_0) := (blk_cell BK134.out 0).trans rfl
          have hcz74_1 : wc.cell? ⟨gb134, 1, none⟩ = some (.string a0_1) := (blk_cell BK134.out 1).trans rfl
          have hcz74_2 : wc.cell? ⟨gb134, 2, none⟩ = some (.int .i64 a0_2) := (blk_cell BK134.out 2).trans rfl
          have hfz74_0 := blk_frozen BK134.out 0
          have hfz74_1 := blk_frozen BK134.out 1
          have hfz74_2 := blk_frozen BK134.out 2
          go_wp2_with (first | ((with_reducible refine gate_callee (f := 10) rfl ?_); refine goesL_ (some 42) rfl rfl Tryd.func10 (by kernel_rfl) rfl #[.agg #[.bool a0_0, .string a0_1, .int .i64 a0_2]] rfl (by (try simp only [List.map_toArray, List.map_cons, List.map_nil]); first | done | rfl | (simp only [List.length_drop, List.length_take]; rfl)) ?_; (with_reducible refine (abacuslaw08_is.calls kj4 a0_0 a0_1 a0_2 true _ A13.out).mono ?_); rintro e w75 ⟨rfl, hb⟩; refine ⟨_, rfl, ?_⟩; have n0_ := Aside0.mk (blk_below (g := gb134) (o := .cells #[.bool a0_0, .string a0_1, .int .i64 a0_2] 23 (0, 0)) (by (with_reducible repeat (first | refine blk_drewN ?_ _ | refine blk_drew ?_ | refine blk_alloc ?_ _)); exact BK134.out) hb); have n1_ := Aside0.mk (blk_below (g := gb135) (o := .cells #[.bool a1_0, .string a1_1, .int .i64 a1_2] 23 (0, 0)) (by (with_reducible repeat (first | refine blk_drewN ?_ _ | refine blk_drew ?_ | refine blk_alloc ?_ _)); exact BK135.out) hb); have n2_ := Aside0.mk (blk_below (g := gb136) (o := .cells #[.bool a2_0, .string a2_1, .int .i64 a2_2] 23 (0, 0)) (by (with_reducible repeat (first | refine blk_drewN ?_ _ | refine blk_drew ?_ | refine blk_alloc ?_ _)); exact BK136.out) hb); have n3_ := Aside0.mk (below_step (by repeat (first | (with_reducible first | exact HB.out | apply below_alloc | apply pw_below_drewN | apply below_drew1 | refine below_set ?_ GE134.out | refine below_set ?_ GE135.out | refine below_set ?_ GE136.out) | exact HB.out)) hb); clear BK134; clear BK135; clear BK136; clear HB; have BK134 := n0_; have BK135 := n1_; have BK136 := n2_; have HB := n3_; clear n0_ n1_ n2_ n3_; (try clear hb); (try clear hb2); (try clear hk); (try clear hi); have hnb76 := NB135_136.out; have hnc76 := NB136_135.out; have hcz77_0 : w75.cell? ⟨gb135, 0, none⟩ = some (.bool a1_0) := (blk_cell BK135.out 0).trans rfl; have hcz77_1 : w75.cell? ⟨gb135, 1, none⟩ = some (.string a1_1) := (blk_cell BK135.out 1).trans rfl; have hcz77_2 : w75.cell? ⟨gb135, 2, none⟩ = some (.int .i64 a1_2) := (blk_cell BK135.out 2).trans rfl; have hfz77_0 := blk_frozen BK135.out 0; have hfz77_1 := blk_frozen BK135.out 1; have hfz77_2 := blk_frozen BK135.out 2) | (go_at_call 10; (with_reducible refine (abacuslaw08_is.calls kj4 a1_0 a1_1 a1_2 true _ A15.out).mono ?_); rintro e w78 ⟨rfl, hb⟩; have n0_ := Aside0.mk (blk_below (g := gb134) (o := .cells #[.bool a0_0, .string a0_1, .int .i64 a0_2] 23 (0, 0)) (by (with_reducible repeat (first | refine blk_drewN ?_ _ | refine blk_drew ?_ | refine blk_alloc ?_ _)); exact BK134.out) hb); have n1_ := Aside0.mk (blk_below (g := gb135) (o := .cells #[.bool a1_0, .string a1_1, .int .i64 a1_2] 23 (0, 0)) (by (with_reducible repeat (first | refine blk_drewN ?_ _ | refine blk_drew ?_ | refine blk_alloc ?_ _)); exact BK135.out) hb); have n2_ := Aside0.mk (blk_below (g := gb136) (o := .cells #[.bool a2_0, .string a2_1, .int .i64 a2_2] 23 (0, 0)) (by (with_reducible repeat (first | refine blk_drewN ?_ _ | refine blk_drew ?_ | refine blk_alloc ?_ _)); exact BK136.out) hb); have n3_ := Aside0.mk (below_step (by repeat (first | (with_reducible first | exact HB.out | apply below_alloc | apply pw_below_drewN | apply below_drew1 | refine below_set ?_ GE134.out | refine below_set ?_ GE135.out | refine below_set ?_ GE136.out) | exact HB.out)) hb); clear BK134; clear BK135; clear BK136; clear HB; have BK134 := n0_; have BK135 := n1_; have BK136 := n2_; have HB := n3_; clear n0_ n1_ n2_ n3_; (try clear hb); (try clear hb2); (try clear hk); (try clear hi); have hcz79_0 : w78.cell? ⟨gb136, 0, none⟩ = some (.bool a2_0) := (blk_cell BK136.out 0).trans rfl; have hcz79_1 : w78.cell? ⟨gb136, 1, none⟩ = some (.string a2_1) := (blk_cell BK136.out 1).trans rfl; have hcz79_2 : w78.cell? ⟨gb136, 2, none⟩ = some (.int .i64 a2_2) := (blk_cell BK136.out 2).trans rfl; have hfz79_0 := blk_frozen BK136.out 0; have hfz79_1 := blk_frozen BK136.out 1; have hfz79_2 := blk_frozen BK136.out 2) | (go_at_call 10; (with_reducible refine (abacuslaw08_is.calls kj4 a2_0 a2_1 a2_2 true _ A17.out).mono ?_); rintro e w80 ⟨rfl, hb⟩; have n0_ := Aside0.mk (blk_below (g := gb134) (o := .cells #[.bool a0_0, .string a0_1, .int .i64 a0_2] 23 (0, 0)) (by (with_reducible repeat (first | refine blk_drewN ?_ _ | refine blk_drew ?_ | refine blk_alloc ?_ _)); exact BK134.out) hb); have n1_ := Aside0.mk (blk_below (g := gb135) (o := .cells #[.bool a1_0, .string a1_1, .int .i64 a1_2] 23 (0, 0)) (by (with_reducible repeat (first | refine blk_drewN ?_ _ | refine blk_drew ?_ | refine blk_alloc ?_ _)); exact BK135.out) hb); have n2_ := Aside0.mk (blk_below (g := gb136) (o := .cells #[.bool a2_0, .string a2_1, .int .i64 a2_2] 23 (0, 0)) (by (with_reducible repeat (first | refine blk_drewN ?_ _ | refine blk_drew ?_ | refine blk_alloc ?_ _)); exact BK136.out) hb); have n3_ := Aside0.mk (below_step (by repeat (first | (with_reducible first | exact HB.out | apply below_alloc | apply pw_below_drewN | apply below_drew1 | refine below_set ?_ GE134.out | refine below_set ?_ GE135.out | refine below_set ?_ GE136.out) | exact HB.out)) hb); clear BK134; clear BK135; clear BK136; clear HB; have BK134 := n0_; have BK135 := n1_; have BK136 := n2_; have HB := n3_; clear n0_ n1_ n2_ n3_; (try clear hb); (try clear hb2); (try clear hk); (try clear hi); have hcz81_0 : w80.cell? ⟨gb134, 0, none⟩ = some (.bool a0_0) := (blk_cell BK134.out 0).trans rfl; have hcz81_1 : w80.cell? ⟨gb134, 1, none⟩ = some (.string a0_1) := (blk_cell BK134.out 1).trans rfl; have hcz81_2 : w80.cell? ⟨gb134, 2, none⟩ = some (.int .i64 a0_2) := (blk_cell BK134.out 2).trans rfl; have hfz81_0 := blk_frozen BK134.out 0; have hfz81_1 := blk_frozen BK134.out 1; have hfz81_2 := blk_frozen BK134.out 2; have hcz82_0 : w80.cell? ⟨gb135, 0, none⟩ = some (.bool a1_0) := (blk_cell BK135.out 0).trans rfl; have hcz82_1 : w80.cell? ⟨gb135, 1, none⟩ = some (.string a1_1) := (blk_cell BK135.out 1).trans rfl; have hcz82_2 : w80.cell? ⟨gb135, 2, none⟩ = some (.int .i64 a1_2) := (blk_cell BK135.out 2).trans rfl; have hfz82_0 := blk_frozen BK135.out 0; have hfz82_1 := blk_frozen BK135.out 1; have hfz82_2 := blk_frozen BK135.out 2))
          go_meet
          case rel => exact ⟨_, (false), (by first | rfl | (simp; done) | (simp [*]; done)), H', ⟨by have := HJ4.out; first | omega | exact Nat.le_refl _⟩, ⟨by (with_reducible repeat (first | refine blk_drewN ?_ _ | refine blk_drew ?_ | refine blk_alloc ?_ _)); exact BK134.out⟩, ⟨by (with_reducible repeat (first | refine blk_drewN ?_ _ | refine blk_drew ?_ | refine blk_alloc ?_ _)); exact BK135.out⟩, ⟨by (with_reducible repeat (first | refine blk_drewN ?_ _ | refine blk_drew ?_ | refine blk_alloc ?_ _)); exact BK136.out⟩, ⟨by repeat (first | (with_reducible first | exact HB.out | apply below_alloc | apply pw_below_drewN | apply below_drew1 | refine below_set ?_ GE134.out | refine below_set ?_ GE135.out | refine below_set ?_ GE136.out) | exact HB.out)⟩⟩
        ·rw [if_neg c19] at H
         have c19b0 : decide (a0_2 < 576460752303423488) = false := decide_eq_false c19
         clear c19
         (first | rw [c19b0] | (simp only [i64_w, i32_w]; rw [c19b0]) | skip)
         have H' := Aside0.mk H
         clear H
         have hnb83 := NB134_135.out
         have hnc83 := NB135_134.out
         have hnb84 := NB134_136.out
         have hnc84 := NB136_134.out
         have hcz85_0 : wc.cell? ⟨gb134, 0, none⟩ = some (.bool a0_0) := (blk_cell BK134.out 0).trans rfl
         have hcz85_1 : wc.cell? ⟨gb134, 1, none⟩ = some (.string a0_1) := (blk_cell BK134.out 1).trans rfl
         have hcz85_2 : wc.cell? ⟨gb134, 2, none⟩ = some (.int .i64 a0_2) := (blk_cell BK134.out 2).trans rfl
         have hfz85_0 := blk_frozen BK134.out 0
         have hfz85_1 := blk_frozen BK134.out 1
         have hfz85_2 := blk_frozen BK134.out 2
         go_wp2_with (first | ((with_reducible refine gate_callee (f := 10) rfl ?_); refine goesL_ (some 42) rfl rfl Tryd.func10 (by kernel_rfl) rfl #[.agg #[.bool a0_0, .string a0_1, .int .i64 a0_2]] rfl (by (try simp only [List.map_toArray, List.map_cons, List.map_nil]); first | done | rfl | (simp only [List.length_drop, List.length_take]; rfl)) ?_; (with_reducible refine (abacuslaw08_is.calls kj4 a0_0 a0_1 a0_2 true _ A13.out).mono ?_); rintro e w86 ⟨rfl, hb⟩; refine ⟨_, rfl, ?_⟩; have n0_ := Aside0.mk (blk_below (g := gb134) (o := .cells #[.bool a0_0, .string a0_1, .int .i64 a0_2] 23 (0, 0)) (by (with_reducible repeat (first | refine blk_drewN ?_ _ | refine blk_drew ?_ | refine blk_alloc ?_ _)); exact BK134.out) hb); have n1_ := Aside0.mk (blk_below (g := gb135) (o := .cells #[.bool a1_0, .string a1_1, .int .i64 a1_2] 23 (0, 0)) (by (with_reducible repeat (first | refine blk_drewN ?_ _ | refine blk_drew ?_ | refine blk_alloc ?_ _)); exact BK135.out) hb); have n2_ := Aside0.mk (blk_below (g := gb136) (o := .cells #[.bool a2_0, .string a2_1, .int .i64 a2_2] 23 (0, 0)) (by (with_reducible repeat (first | refine blk_drewN ?_ _ | refine blk_drew ?_ | refine blk_alloc ?_ _)); exact BK136.out) hb); have n3_ := Aside0.mk (below_step (by repeat (first | (with_reducible first | exact HB.out | apply below_alloc | apply pw_below_drewN | apply below_drew1 | refine below_set ?_ GE134.out | refine below_set ?_ GE135.out | refine below_set ?_ GE136.out) | exact HB.out)) hb); clear BK134; clear BK135; clear BK136; clear HB; have BK134 := n0_; have BK135 := n1_; have BK136 := n2_; have HB := n3_; clear n0_ n1_ n2_ n3_; (try clear hb); (try clear hb2); (try clear hk); (try clear hi); have hnb87 := NB135_136.out; have hnc87 := NB136_135.out; have hcz88_0 : w86.cell? ⟨gb135, 0, none⟩ = some (.bool a1_0) := (blk_cell BK135.out 0).trans rfl; have hcz88_1 : w86.cell? ⟨gb135, 1, none⟩ = some (.string a1_1) := (blk_cell BK135.out 1).trans rfl; have hcz88_2 : w86.cell? ⟨gb135, 2, none⟩ = some (.int .i64 a1_2) := (blk_cell BK135.out 2).trans rfl; have hfz88_0 := blk_frozen BK135.out 0; have hfz88_1 := blk_frozen BK135.out 1; have hfz88_2 := blk_frozen BK135.out 2) | (go_at_call 10; (with_reducible refine (abacuslaw08_is.calls kj4 a1_0 a1_1 a1_2 true _ A15.out).mono ?_); rintro e w89 ⟨rfl, hb⟩; have n0_ := Aside0.mk (blk_below (g := gb134) (o := .cells #[.bool a0_0, .string a0_1, .int .i64 a0_2] 23 (0, 0)) (by (with_reducible repeat (first | refine blk_drewN ?_ _ | refine blk_drew ?_ | refine blk_alloc ?_ _)); exact BK134.out) hb); have n1_ := Aside0.mk (blk_below (g := gb135) (o := .cells #[.bool a1_0, .string a1_1, .int .i64 a1_2] 23 (0, 0)) (by (with_reducible repeat (first | refine blk_drewN ?_ _ | refine blk_drew ?_ | refine blk_alloc ?_ _)); exact BK135.out) hb); have n2_ := Aside0.mk (blk_below (g := gb136) (o := .cells #[.bool a2_0, .string a2_1, .int .i64 a2_2] 23 (0, 0)) (by (with_reducible repeat (first | refine blk_drewN ?_ _ | refine blk_drew ?_ | refine blk_alloc ?_ _)); exact BK136.out) hb); have n3_ := Aside0.mk (below_step (by repeat (first | (with_reducible first | exact HB.out | apply below_alloc | apply pw_below_drewN | apply below_drew1 | refine below_set ?_ GE134.out | refine below_set ?_ GE135.out | refine below_set ?_ GE136.out) | exact HB.out)) hb); clear BK134; clear BK135; clear BK136; clear HB; have BK134 := n0_; have BK135 := n1_; have BK136 := n2_; have HB := n3_; clear n0_ n1_ n2_ n3_; (try clear hb); (try clear hb2); (try clear hk); (try clear hi); have hcz90_0 : w89.cell? ⟨gb136, 0, none⟩ = some (.bool a2_0) := (blk_cell BK136.out 0).trans rfl; have hcz90_1 : w89.cell? ⟨gb136, 1, none⟩ = some (.string a2_1) := (blk_cell BK136.out 1).trans rfl; have hcz90_2 : w89.cell? ⟨gb136, 2, none⟩ = some (.int .i64 a2_2) := (blk_cell BK136.out 2).trans rfl; have hfz90_0 := blk_frozen BK136.out 0; have hfz90_1 := blk_frozen BK136.out 1; have hfz90_2 := blk_frozen BK136.out 2) | (go_at_call 10; (with_reducible refine (abacuslaw08_is.calls kj4 a2_0 a2_1 a2_2 true _ A17.out).mono ?_); rintro e w91 ⟨rfl, hb⟩; have n0_ := Aside0.mk (blk_below (g := gb134) (o := .cells #[.bool a0_0, .string a0_1, .int .i64 a0_2] 23 (0, 0)) (by (with_reducible repeat (first | refine blk_drewN ?_ _ | refine blk_drew ?_ | refine blk_alloc ?_ _)); exact BK134.out) hb); have n1_ := Aside0.mk (blk_below (g := gb135) (o := .cells #[.bool a1_0, .string a1_1, .int .i64 a1_2] 23 (0, 0)) (by (with_reducible repeat (first | refine blk_drewN ?_ _ | refine blk_drew ?_ | refine blk_alloc ?_ _)); exact BK135.out) hb); have n2_ := Aside0.mk (blk_below (g := gb136) (o := .cells #[.bool a2_0, .string a2_1, .int .i64 a2_2] 23 (0, 0)) (by (with_reducible repeat (first | refine blk_drewN ?_ _ | refine blk_drew ?_ | refine blk_alloc ?_ _)); exact BK136.out) hb); have n3_ := Aside0.mk (below_step (by repeat (first | (with_reducible first | exact HB.out | apply below_alloc | apply pw_below_drewN | apply below_drew1 | refine below_set ?_ GE134.out | refine below_set ?_ GE135.out | refine below_set ?_ GE136.out) | exact HB.out)) hb); clear BK134; clear BK135; clear BK136; clear HB; have BK134 := n0_; have BK135 := n1_; have BK136 := n2_; have HB := n3_; clear n0_ n1_ n2_ n3_; (try clear hb); (try clear hb2); (try clear hk); (try clear hi); have hcz92_0 : w91.cell? ⟨gb134, 0, none⟩ = some (.bool a0_0) := (blk_cell BK134.out 0).trans rfl; have hcz92_1 : w91.cell? ⟨gb134, 1, none⟩ = some (.string a0_1) := (blk_cell BK134.out 1).trans rfl; have hcz92_2 : w91.cell? ⟨gb134, 2, none⟩ = some (.int .i64 a0_2) := (blk_cell BK134.out 2).trans rfl; have hfz92_0 := blk_frozen BK134.out 0; have hfz92_1 := blk_frozen BK134.out 1; have hfz92_2 := blk_frozen BK134.out 2))
         go_meet
         case rel => exact ⟨_, (false), (by first | rfl | (simp; done) | (simp [*]; done)), H', ⟨by have := HJ4.out; first | omega | exact Nat.le_refl _⟩, ⟨by (with_reducible repeat (first | refine blk_drewN ?_ _ | refine blk_drew ?_ | refine blk_alloc ?_ _)); exact BK134.out⟩, ⟨by (with_reducible repeat (first | refine blk_drewN ?_ _ | refine blk_drew ?_ | refine blk_alloc ?_ _)); exact BK135.out⟩, ⟨by (with_reducible repeat (first | refine blk_drewN ?_ _ | refine blk_drew ?_ | refine blk_alloc ?_ _)); exact BK136.out⟩, ⟨by repeat (first | (with_reducible first | exact HB.out | apply below_alloc | apply pw_below_drewN | apply below_drew1 | refine below_set ?_ GE134.out | refine below_set ?_ GE135.out | refine below_set ?_ GE136.out) | exact HB.out)⟩⟩
       ·replace c18 := Bool.eq_false_iff.mpr c18
        subst c18
        have H1 : (scOrd.j1 kj4 false a0_0 a0_1 a0_2 a1_0 a1_1 a1_2 a2_0 a2_1 a2_2) = some true := by rw [if_neg (show ¬ (false = true) by decide)] at H; exact H
        clear H
        have H := H1
        clear H1
        have H' := Aside0.mk H
        clear H
        have hnb93 := NB134_135.out
        have hnc93 := NB135_134.out
        have hnb94 := NB134_136.out
        have hnc94 := NB136_134.out
        have hcz95_0 : wc.cell? ⟨gb134, 0, none⟩ = some (.bool a0_0) := (blk_cell BK134.out 0).trans rfl
        have hcz95_1 : wc.cell? ⟨gb134, 1, none⟩ = some (.string a0_1) := (blk_cell BK134.out 1).trans rfl
        have hcz95_2 : wc.cell? ⟨gb134, 2, none⟩ = some (.int .i64 a0_2) := (blk_cell BK134.out 2).trans rfl
        have hfz95_0 := blk_frozen BK134.out 0
        have hfz95_1 := blk_frozen BK134.out 1
        have hfz95_2 := blk_frozen BK134.out 2
        go_wp2_with (first | ((with_reducible refine gate_callee (f := 10) rfl ?_); refine goesL_ (some 42) rfl rfl Tryd.func10 (by kernel_rfl) rfl #[.agg #[.bool a0_0, .string a0_1, .int .i64 a0_2]] rfl (by (try simp only [List.map_toArray, List.map_cons, List.map_nil]); first | done | rfl | (simp only [List.length_drop, List.length_take]; rfl)) ?_; (with_reducible refine (abacuslaw08_is.calls kj4 a0_0 a0_1 a0_2 true _ A13.out).mono ?_); rintro e w96 ⟨rfl, hb⟩; refine ⟨_, rfl, ?_⟩; have n0_ := Aside0.mk (blk_below (g := gb134) (o := .cells #[.bool a0_0, .string a0_1, .int .i64 a0_2] 23 (0, 0)) (by (with_reducible repeat (first | refine blk_drewN ?_ _ | refine blk_drew ?_ | refine blk_alloc ?_ _)); exact BK134.out) hb); have n1_ := Aside0.mk (blk_below (g := gb135) (o := .cells #[.bool a1_0, .string a1_1, .int .i64 a1_2] 23 (0, 0)) (by (with_reducible repeat (first | refine blk_drewN ?_ _ | refine blk_drew ?_ | refine blk_alloc ?_ _)); exact BK135.out) hb); have n2_ := Aside0.mk (blk_below (g := gb136) (o := .cells #[.bool a2_0, .string a2_1, .int .i64 a2_2] 23 (0, 0)) (by (with_reducible repeat (first | refine blk_drewN ?_ _ | refine blk_drew ?_ | refine blk_alloc ?_ _)); exact BK136.out) hb); have n3_ := Aside0.mk (below_step (by repeat (first | (with_reducible first | exact HB.out | apply below_alloc | apply pw_below_drewN | apply below_drew1 | refine below_set ?_ GE134.out | refine below_set ?_ GE135.out | refine below_set ?_ GE136.out) | exact HB.out)) hb); clear BK134; clear BK135; clear BK136; clear HB; have BK134 := n0_; have BK135 := n1_; have BK136 := n2_; have HB := n3_; clear n0_ n1_ n2_ n3_; (try clear hb); (try clear hb2); (try clear hk); (try clear hi); have hnb97 := NB135_136.out; have hnc97 := NB136_135.out; have hcz98_0 : w96.cell? ⟨gb135, 0, none⟩ = some (.bool a1_0) := (blk_cell BK135.out 0).trans rfl; have hcz98_1 : w96.cell? ⟨gb135, 1, none⟩ = some (.string a1_1) := (blk_cell BK135.out 1).trans rfl; have hcz98_2 : w96.cell? ⟨gb135, 2, none⟩ = some (.int .i64 a1_2) := (blk_cell BK135.out 2).trans rfl; have hfz98_0 := blk_frozen BK135.out 0; have hfz98_1 := blk_frozen BK135.out 1; have hfz98_2 := blk_frozen BK135.out 2) | (go_at_call 10; (with_reducible refine (abacuslaw08_is.calls kj4 a1_0 a1_1 a1_2 true _ A15.out).mono ?_); rintro e w99 ⟨rfl, hb⟩; have n0_ := Aside0.mk (blk_below (g := gb134) (o := .cells #[.bool a0_0, .string a0_1, .int .i64 a0_2] 23 (0, 0)) (by (with_reducible repeat (first | refine blk_drewN ?_ _ | refine blk_drew ?_ | refine blk_alloc ?_ _)); exact BK134.out) hb); have n1_ := Aside0.mk (blk_below (g := gb135) (o := .cells #[.bool a1_0, .string a1_1, .int .i64 a1_2] 23 (0, 0)) (by (with_reducible repeat (first | refine blk_drewN ?_ _ | refine blk_drew ?_ | refine blk_alloc ?_ _)); exact BK135.out) hb); have n2_ := Aside0.mk (blk_below (g := gb136) (o := .cells #[.bool a2_0, .string a2_1, .int .i64 a2_2] 23 (0, 0)) (by (with_reducible repeat (first | refine blk_drewN ?_ _ | refine blk_drew ?_ | refine blk_alloc ?_ _)); exact BK136.out) hb); have n3_ := Aside0.mk (below_step (by repeat (first | (with_reducible first | exact HB.out | apply below_alloc | apply pw_below_drewN | apply below_drew1 | refine below_set ?_ GE134.out | refine below_set ?_ GE135.out | refine below_set ?_ GE136.out) | exact HB.out)) hb); clear BK134; clear BK135; clear BK136; clear HB; have BK134 := n0_; have BK135 := n1_; have BK136 := n2_; have HB := n3_; clear n0_ n1_ n2_ n3_; (try clear hb); (try clear hb2); (try clear hk); (try clear hi); have hcz100_0 : w99.cell? ⟨gb136, 0, none⟩ = some (.bool a2_0) := (blk_cell BK136.out 0).trans rfl; have hcz100_1 : w99.cell? ⟨gb136, 1, none⟩ = some (.string a2_1) := (blk_cell BK136.out 1).trans rfl; have hcz100_2 : w99.cell? ⟨gb136, 2, none⟩ = some (.int .i64 a2_2) := (blk_cell BK136.out 2).trans rfl; have hfz100_0 := blk_frozen BK136.out 0; have hfz100_1 := blk_frozen BK136.out 1; have hfz100_2 := blk_frozen BK136.out 2) | (go_at_call 10; (with_reducible refine (abacuslaw08_is.calls kj4 a2_0 a2_1 a2_2 false _ A17.out).mono ?_); rintro e w101 ⟨rfl, hb⟩; have n0_ := Aside0.mk (blk_below (g := gb134) (o := .cells #[.bool a0_0, .string a0_1, .int .i64 a0_2] 23 (0, 0)) (by (with_reducible repeat (first | refine blk_drewN ?_ _ | refine blk_drew ?_ | refine blk_alloc ?_ _)); exact BK134.out) hb); have n1_ := Aside0.mk (blk_below (g := gb135) (o := .cells #[.bool a1_0, .string a1_1, .int .i64 a1_2] 23 (0, 0)) (by (with_reducible repeat (first | refine blk_drewN ?_ _ | refine blk_drew ?_ | refine blk_alloc ?_ _)); exact BK135.out) hb); have n2_ := Aside0.mk (blk_below (g := gb136) (o := .cells #[.bool a2_0, .string a2_1, .int .i64 a2_2] 23 (0, 0)) (by (with_reducible repeat (first | refine blk_drewN ?_ _ | refine blk_drew ?_ | refine blk_alloc ?_ _)); exact BK136.out) hb); have n3_ := Aside0.mk (below_step (by repeat (first | (with_reducible first | exact HB.out | apply below_alloc | apply pw_below_drewN | apply below_drew1 | refine below_set ?_ GE134.out | refine below_set ?_ GE135.out | refine below_set ?_ GE136.out) | exact HB.out)) hb); clear BK134; clear BK135; clear BK136; clear HB; have BK134 := n0_; have BK135 := n1_; have BK136 := n2_; have HB := n3_; clear n0_ n1_ n2_ n3_; (try clear hb); (try clear hb2); (try clear hk); (try clear hi)))
        go_meet
        case rel => exact ⟨_, (false), (by first | rfl | (simp; done) | (simp [*]; done)), H', ⟨by have := HJ4.out; first | omega | exact Nat.le_refl _⟩, ⟨by (with_reducible repeat (first | refine blk_drewN ?_ _ | refine blk_drew ?_ | refine blk_alloc ?_ _)); exact BK134.out⟩, ⟨by (with_reducible repeat (first | refine blk_drewN ?_ _ | refine blk_drew ?_ | refine blk_alloc ?_ _)); exact BK135.out⟩, ⟨by (with_reducible repeat (first | refine blk_drewN ?_ _ | refine blk_drew ?_ | refine blk_alloc ?_ _)); exact BK136.out⟩, ⟨by repeat (first | (with_reducible first | exact HB.out | apply below_alloc | apply pw_below_drewN | apply below_drew1 | refine below_set ?_ GE134.out | refine below_set ?_ GE135.out | refine below_set ?_ GE136.out) | exact HB.out)⟩⟩
      ·replace c16 := Bool.eq_false_iff.mpr c16
       subst c16
       have H1 : (scOrd.j1 kj4 false a0_0 a0_1 a0_2 a1_0 a1_1 a1_2 a2_0 a2_1 a2_2) = some true := by rw [if_neg (show ¬ (false = true) by decide)] at H; exact H
       clear H
       have H := H1
       clear H1
       have H' := Aside0.mk H
       clear H
       have hnb102 := NB134_135.out
       have hnc102 := NB135_134.out
       have hnb103 := NB134_136.out
       have hnc103 := NB136_134.out
       have hcz104_0 : wc.cell? ⟨gb134, 0, none⟩ = some (.bool a0_0) := (blk_cell BK134.out 0).trans rfl
       have hcz104_1 : wc.cell? ⟨gb134, 1, none⟩ = some (.string a0_1) := (blk_cell BK134.out 1).trans rfl
       have hcz104_2 : wc.cell? ⟨gb134, 2, none⟩ = some (.int .i64 a0_2) := (blk_cell BK134.out 2).trans rfl
       have hfz104_0 := blk_frozen BK134.out 0
       have hfz104_1 := blk_frozen BK134.out 1
       have hfz104_2 := blk_frozen BK134.out 2
       go_wp2_with (first | ((with_reducible refine gate_callee (f := 10) rfl ?_); refine goesL_ (some 42) rfl rfl Tryd.func10 (by kernel_rfl) rfl #[.agg #[.bool a0_0, .string a0_1, .int .i64 a0_2]] rfl (by (try simp only [List.map_toArray, List.map_cons, List.map_nil]); first | done | rfl | (simp only [List.length_drop, List.length_take]; rfl)) ?_; (with_reducible refine (abacuslaw08_is.calls kj4 a0_0 a0_1 a0_2 true _ A13.out).mono ?_); rintro e w105 ⟨rfl, hb⟩; refine ⟨_, rfl, ?_⟩; have n0_ := Aside0.mk (blk_below (g := gb134) (o := .cells #[.bool a0_0, .string a0_1, .int .i64 a0_2] 23 (0, 0)) (by (with_reducible repeat (first | refine blk_drewN ?_ _ | refine blk_drew ?_ | refine blk_alloc ?_ _)); exact BK134.out) hb); have n1_ := Aside0.mk (blk_below (g := gb135) (o := .cells #[.bool a1_0, .string a1_1, .int .i64 a1_2] 23 (0, 0)) (by (with_reducible repeat (first | refine blk_drewN ?_ _ | refine blk_drew ?_ | refine blk_alloc ?_ _)); exact BK135.out) hb); have n2_ := Aside0.mk (blk_below (g := gb136) (o := .cells #[.bool a2_0, .string a2_1, .int .i64 a2_2] 23 (0, 0)) (by (with_reducible repeat (first | refine blk_drewN ?_ _ | refine blk_drew ?_ | refine blk_alloc ?_ _)); exact BK136.out) hb); have n3_ := Aside0.mk (below_step (by repeat (first | (with_reducible first | exact HB.out | apply below_alloc | apply pw_below_drewN | apply below_drew1 | refine below_set ?_ GE134.out | refine below_set ?_ GE135.out | refine below_set ?_ GE136.out) | exact HB.out)) hb); clear BK134; clear BK135; clear BK136; clear HB; have BK134 := n0_; have BK135 := n1_; have BK136 := n2_; have HB := n3_; clear n0_ n1_ n2_ n3_; (try clear hb); (try clear hb2); (try clear hk); (try clear hi); have hnb106 := NB135_136.out; have hnc106 := NB136_135.out; have hcz107_0 : w105.cell? ⟨gb135, 0, none⟩ = some (.bool a1_0) := (blk_cell BK135.out 0).trans rfl; have hcz107_1 : w105.cell? ⟨gb135, 1, none⟩ = some (.string a1_1) := (blk_cell BK135.out 1).trans rfl; have hcz107_2 : w105.cell? ⟨gb135, 2, none⟩ = some (.int .i64 a1_2) := (blk_cell BK135.out 2).trans rfl; have hfz107_0 := blk_frozen BK135.out 0; have hfz107_1 := blk_frozen BK135.out 1; have hfz107_2 := blk_frozen BK135.out 2) | (go_at_call 10; (with_reducible refine (abacuslaw08_is.calls kj4 a1_0 a1_1 a1_2 false _ A15.out).mono ?_); rintro e w108 ⟨rfl, hb⟩; have n0_ := Aside0.mk (blk_below (g := gb134) (o := .cells #[.bool a0_0, .string a0_1, .int .i64 a0_2] 23 (0, 0)) (by (with_reducible repeat (first | refine blk_drewN ?_ _ | refine blk_drew ?_ | refine blk_alloc ?_ _)); exact BK134.out) hb); have n1_ := Aside0.mk (blk_below (g := gb135) (o := .cells #[.bool a1_0, .string a1_1, .int .i64 a1_2] 23 (0, 0)) (by (with_reducible repeat (first | refine blk_drewN ?_ _ | refine blk_drew ?_ | refine blk_alloc ?_ _)); exact BK135.out) hb); have n2_ := Aside0.mk (blk_below (g := gb136) (o := .cells #[.bool a2_0, .string a2_1, .int .i64 a2_2] 23 (0, 0)) (by (with_reducible repeat (first | refine blk_drewN ?_ _ | refine blk_drew ?_ | refine blk_alloc ?_ _)); exact BK136.out) hb); have n3_ := Aside0.mk (below_step (by repeat (first | (with_reducible first | exact HB.out | apply below_alloc | apply pw_below_drewN | apply below_drew1 | refine below_set ?_ GE134.out | refine below_set ?_ GE135.out | refine below_set ?_ GE136.out) | exact HB.out)) hb); clear BK134; clear BK135; clear BK136; clear HB; have BK134 := n0_; have BK135 := n1_; have BK136 := n2_; have HB := n3_; clear n0_ n1_ n2_ n3_; (try clear hb); (try clear hb2); (try clear hk); (try clear hi)))
       go_meet
       case rel => exact ⟨_, (false), (by first | rfl | (simp; done) | (simp [*]; done)), H', ⟨by have := HJ4.out; first | omega | exact Nat.le_refl _⟩, ⟨by (with_reducible repeat (first | refine blk_drewN ?_ _ | refine blk_drew ?_ | refine blk_alloc ?_ _)); exact BK134.out⟩, ⟨by (with_reducible repeat (first | refine blk_drewN ?_ _ | refine blk_drew ?_ | refine blk_alloc ?_ _)); exact BK135.out⟩, ⟨by (with_reducible repeat (first | refine blk_drewN ?_ _ | refine blk_drew ?_ | refine blk_alloc ?_ _)); exact BK136.out⟩, ⟨by repeat (first | (with_reducible first | exact HB.out | apply below_alloc | apply pw_below_drewN | apply below_drew1 | refine below_set ?_ GE134.out | refine below_set ?_ GE135.out | refine below_set ?_ GE136.out) | exact HB.out)⟩⟩
     ·replace c14 := Bool.eq_false_iff.mpr c14
      subst c14
      have H1 : (scOrd.j1 kj4 false a0_0 a0_1 a0_2 a1_0 a1_1 a1_2 a2_0 a2_1 a2_2) = some true := by rw [if_neg (show ¬ (false = true) by decide)] at H; exact H
      clear H
      have H := H1
      clear H1
      have H' := Aside0.mk H
      clear H
      have hnb109 := NB134_135.out
      have hnc109 := NB135_134.out
      have hnb110 := NB134_136.out
      have hnc110 := NB136_134.out
      have hcz111_0 : wc.cell? ⟨gb134, 0, none⟩ = some (.bool a0_0) := (blk_cell BK134.out 0).trans rfl
      have hcz111_1 : wc.cell? ⟨gb134, 1, none⟩ = some (.string a0_1) := (blk_cell BK134.out 1).trans rfl
      have hcz111_2 : wc.cell? ⟨gb134, 2, none⟩ = some (.int .i64 a0_2) := (blk_cell BK134.out 2).trans rfl
      have hfz111_0 := blk_frozen BK134.out 0
      have hfz111_1 := blk_frozen BK134.out 1
      have hfz111_2 := blk_frozen BK134.out 2
      go_wp2_with (first | ((with_reducible refine gate_callee (f := 10) rfl ?_); refine goesL_ (some 42) rfl rfl Tryd.func10 (by kernel_rfl) rfl #[.agg #[.bool a0_0, .string a0_1, .int .i64 a0_2]] rfl (by (try simp only [List.map_toArray, List.map_cons, List.map_nil]); first | done | rfl | (simp only [List.length_drop, List.length_take]; rfl)) ?_; (with_reducible refine (abacuslaw08_is.calls kj4 a0_0 a0_1 a0_2 false _ A13.out).mono ?_); rintro e w112 ⟨rfl, hb⟩; refine ⟨_, rfl, ?_⟩; have n0_ := Aside0.mk (blk_below (g := gb134) (o := .cells #[.bool a0_0, .string a0_1, .int .i64 a0_2] 23 (0, 0)) (by (with_reducible repeat (first | refine blk_drewN ?_ _ | refine blk_drew ?_ | refine blk_alloc ?_ _)); exact BK134.out) hb); have n1_ := Aside0.mk (blk_below (g := gb135) (o := .cells #[.bool a1_0, .string a1_1, .int .i64 a1_2] 23 (0, 0)) (by (with_reducible repeat (first | refine blk_drewN ?_ _ | refine blk_drew ?_ | refine blk_alloc ?_ _)); exact BK135.out) hb); have n2_ := Aside0.mk (blk_below (g := gb136) (o := .cells #[.bool a2_0, .string a2_1, .int .i64 a2_2] 23 (0, 0)) (by (with_reducible repeat (first | refine blk_drewN ?_ _ | refine blk_drew ?_ | refine blk_alloc ?_ _)); exact BK136.out) hb); have n3_ := Aside0.mk (below_step (by repeat (first | (with_reducible first | exact HB.out | apply below_alloc | apply pw_below_drewN | apply below_drew1 | refine below_set ?_ GE134.out | refine below_set ?_ GE135.out | refine below_set ?_ GE136.out) | exact HB.out)) hb); clear BK134; clear BK135; clear BK136; clear HB; have BK134 := n0_; have BK135 := n1_; have BK136 := n2_; have HB := n3_; clear n0_ n1_ n2_ n3_; (try clear hb); (try clear hb2); (try clear hk); (try clear hi)))
      go_meet
      case rel => exact ⟨_, (false), (by first | rfl | (simp; done) | (simp [*]; done)), H', ⟨by have := HJ4.out; first | omega | exact Nat.le_refl _⟩, ⟨by (with_reducible repeat (first | refine blk_drewN ?_ _ | refine blk_drew ?_ | refine blk_alloc ?_ _)); exact BK134.out⟩, ⟨by (with_reducible repeat (first | refine blk_drewN ?_ _ | refine blk_drew ?_ | refine blk_alloc ?_ _)); exact BK135.out⟩, ⟨by (with_reducible repeat (first | refine blk_drewN ?_ _ | refine blk_drew ?_ | refine blk_alloc ?_ _)); exact BK136.out⟩, ⟨by repeat (first | (with_reducible first | exact HB.out | apply below_alloc | apply pw_below_drewN | apply below_drew1 | refine below_set ?_ GE134.out | refine below_set ?_ GE135.out | refine below_set ?_ GE136.out) | exact HB.out)⟩⟩
    case rest => as_aux_lemma =>
     clear HC12
     try clear c1
     try clear c2
     try clear p2
     try clear c3
     try clear c4
     try clear c5
     try clear c6
     try clear c7
     try clear c8
     try clear c9
     try clear c10
     try clear c10b0
     try clear c10b1
     try clear c11
     try clear c14
     try clear c16
     try clear c18
     try clear c19
     try clear c19b0
     try clear c20
     try clear c20b0
     try clear c21
     try clear c21b0
     try clear c22
     try clear c22b0
     try clear c23
     try clear c23b0
     try clear c24
     try clear c25
     try clear c28
     try clear c36
     try clear c37
     try clear c40
     try clear c48
     try clear c49
     try clear c52
     try clear c60
     try clear c61
     try clear c64
     try clear c72
     try clear c73
     try clear c76
     try clear c83
     try clear c84
     try clear c87
     try clear c93
     try clear c94
     try clear c97
     try clear c102
     try clear c103
     try clear c106
     try clear c109
     try clear c110
     try clear hcz100_0
     try clear hcz100_1
     try clear hcz100_2
     try clear hcz104_0
     try clear hcz104_1
     try clear hcz104_2
     try clear hcz107_0
     try clear hcz107_1
     try clear hcz107_2
     try clear hcz111_0
     try clear hcz111_1
     try clear hcz111_2
     try clear hcz26_0
     try clear hcz26_1
     try clear hcz26_2
     try clear hcz29_0
     try clear hcz29_1
     try clear hcz29_2
     try clear hcz31_0
     try clear hcz31_1
     try clear hcz31_2
     try clear hcz33_0
     try clear hcz33_1
     try clear hcz33_2
     try clear hcz34_0
     try clear hcz34_1
     try clear hcz34_2
     try clear hcz35_0
     try clear hcz35_1
     try clear hcz35_2
     try clear hcz38_0
     try clear hcz38_1
     try clear hcz38_2
     try clear hcz41_0
     try clear hcz41_1
     try clear hcz41_2
     try clear hcz43_0
     try clear hcz43_1
     try clear hcz43_2
     try clear hcz45_0
     try clear hcz45_1
     try clear hcz45_2
     try clear hcz46_0
     try clear hcz46_1
     try clear hcz46_2
     try clear hcz47_0
     try clear hcz47_1
     try clear hcz47_2
     try clear hcz50_0
     try clear hcz50_1
     try clear hcz50_2
     try clear hcz53_0
     try clear hcz53_1
     try clear hcz53_2
     try clear hcz55_0
     try clear hcz55_1
     try clear hcz55_2
     try clear hcz57_0
     try clear hcz57_1
     try clear hcz57_2
     try clear hcz58_0
     try clear hcz58_1
     try clear hcz58_2
     try clear hcz59_0
     try clear hcz59_1
     try clear hcz59_2
     try clear hcz62_0
     try clear hcz62_1
     try clear hcz62_2
     try clear hcz65_0
     try clear hcz65_1
     try clear hcz65_2
     try clear hcz67_0
     try clear hcz67_1
     try clear hcz67_2
     try clear hcz69_0
     try clear hcz69_1
     try clear hcz69_2
     try clear hcz70_0
     try clear hcz70_1
     try clear hcz70_2
     try clear hcz71_0
     try clear hcz71_1
     try clear hcz71_2
     try clear hcz74_0
     try clear hcz74_1
     try clear hcz74_2
     try clear hcz77_0
     try clear hcz77_1
     try clear hcz77_2
     try clear hcz79_0
     try clear hcz79_1
     try clear hcz79_2
     try clear hcz81_0
     try clear hcz81_1
     try clear hcz81_2
     try clear hcz82_0
     try clear hcz82_1
     try clear hcz82_2
     try clear hcz85_0
     try clear hcz85_1
     try clear hcz85_2
     try clear hcz88_0
     try clear hcz88_1
     try clear hcz88_2
     try clear hcz90_0
     try clear hcz90_1
     try clear hcz90_2
     try clear hcz92_0
     try clear hcz92_1
     try clear hcz92_2
     try clear hcz95_0
     try clear hcz95_1
     try clear hcz95_2
     try clear hcz98_0
     try clear hcz98_1
     try clear hcz98_2
     try clear hfz100_0
     try clear hfz100_1
     try clear hfz100_2
     try clear hfz104_0
     try clear hfz104_1
     try clear hfz104_2
     try clear hfz107_0
     try clear hfz107_1
     try clear hfz107_2
     try clear hfz111_0
     try clear hfz111_1
     try clear hfz111_2
     try clear hfz26_0
     try clear hfz26_1
     try clear hfz26_2
     try clear hfz29_0
     try clear hfz29_1
     try clear hfz29_2
     try clear hfz31_0
     try clear hfz31_1
     try clear hfz31_2
     try clear hfz33_0
     try clear hfz33_1
     try clear hfz33_2
     try clear hfz34_0
     try clear hfz34_1
     try clear hfz34_2
     try clear hfz35_0
     try clear hfz35_1
     try clear hfz35_2
     try clear hfz38_0
     try clear hfz38_1
     try clear hfz38_2
     try clear hfz41_0
     try clear hfz41_1
     try clear hfz41_2
     try clear hfz43_0
     try clear hfz43_1
     try clear hfz43_2
     try clear hfz45_0
     try clear hfz45_1
     try clear hfz45_2
     try clear hfz46_0
     try clear hfz46_1
     try clear hfz46_2
     try clear hfz47_0
     try clear hfz47_1
     try clear hfz47_2
     try clear hfz50_0
     try clear hfz50_1
     try clear hfz50_2
     try clear hfz53_0
     try clear hfz53_1
     try clear hfz53_2
     try clear hfz55_0
     try clear hfz55_1
     try clear hfz55_2
     try clear hfz57_0
     try clear hfz57_1
     try clear hfz57_2
     try clear hfz58_0
     try clear hfz58_1
     try clear hfz58_2
     try clear hfz59_0
     try clear hfz59_1
     try clear hfz59_2
     try clear hfz62_0
     try clear hfz62_1
     try clear hfz62_2
     try clear hfz65_0
     try clear hfz65_1
     try clear hfz65_2
     try clear hfz67_0
     try clear hfz67_1
     try clear hfz67_2
     try clear hfz69_0
     try clear hfz69_1
     try clear hfz69_2
     try clear hfz70_0
     try clear hfz70_1
     try clear hfz70_2
     try clear hfz71_0
     try clear hfz71_1
     try clear hfz71_2
     try clear hfz74_0
     try clear hfz74_1
     try clear hfz74_2
     try clear hfz77_0
     try clear hfz77_1
     try clear hfz77_2
     try clear hfz79_0
     try clear hfz79_1
     try clear hfz79_2
     try clear hfz81_0
     try clear hfz81_1
     try clear hfz81_2
     try clear hfz82_0
     try clear hfz82_1
     try clear hfz82_2
     try clear hfz85_0
     try clear hfz85_1
     try clear hfz85_2
     try clear hfz88_0
     try clear hfz88_1
     try clear hfz88_2
     try clear hfz90_0
     try clear hfz90_1
     try clear hfz90_2
     try clear hfz92_0
     try clear hfz92_1
     try clear hfz92_2
     try clear hfz95_0
     try clear hfz95_1
     try clear hfz95_2
     try clear hfz98_0
     try clear hfz98_1
     try clear hfz98_2
     try clear p2
     obtain ⟨kq, x9_11, rfl, HA, HJ11, BK134, BK135, BK136, HB⟩ := hcut
     cases kq with
     | zero => exact absurd HA.out (by simp [scOrd.j1])
     | succ kj11 =>
      have H := HA.out
      clear HA
      simp only [scOrd.j1] at H
      by_cases c113 : x9_11 = true
      ·subst c113
       have H1 : ((scan_Cmp.f kj11 a0_0 a0_1 a0_2 a1_0 a1_1 a1_2).bind fun bt142 => ((scan_Cmp.f kj11 a1_0 a1_1 a1_2 a0_0 a0_1 a0_2).bind fun bt144 => ((scan_Cmp.f kj11 a1_0 a1_1 a1_2 a2_0 a2_1 a2_2).bind fun bt146 => ((scan_Cmp.f kj11 a0_0 a0_1 a0_2 a2_0 a2_1 a2_2).bind fun bt148 => ((abacuslaw08_moved.f a0_0 a0_1 a0_2 288230376151711744).bind fun bt150 => ((abacuslaw08_moved.f a1_0 a1_1 a1_2 288230376151711744).bind fun bt153 => ((scan_Cmp.f kj11 bt150.1 bt150.2.1 bt150.2.2 bt153.1 bt153.2.1 bt153.2.2).bind fun bt156 => ((abacuslaw08_turned.f a0_0 a0_1 a0_2).bind fun bt158 => ((abacuslaw08_turned.f a1_0 a1_1 a1_2).bind fun bt161 => ((scan_Cmp.f kj11 bt158.1 bt158.2.1 bt158.2.2 bt161.1 bt161.2.1 bt161.2.2).bind fun bt164 => (if 2 + a0_1.size ≤ 9223372036854775807 then (if ((⟨#[48, 48]⟩ : ByteArray) ++ a0_1).size + 3 ≤ 9223372036854775807 then ((scan_Cmp.f kj11 a0_0 (((⟨#[48, 48]⟩ : ByteArray) ++ a0_1) ++ (⟨#[48, 48, 48]⟩ : ByteArray)) (wrap64 (a0_2 - 3)) a1_0 a1_1 a1_2).bind fun bt166 => ((scan_Norm.f kj11 a0_0 a0_1 a0_2).bind fun bt168 => ((scan_Norm.f kj11 a1_0 a1_1 a1_2).bind fun bt173 => (if bt142.2 = 0 then (if bt144.2 = 0 then (if bt146.2 = 0 then (if bt148.2 = 0 then (if bt156.2 = 0 then (if bt164.2 = 0 then (if bt166.2 = 0 then (if bt168.2.2.2 = 0 then (scOrd.j2 kj11 bt142.1 bt144.1 bt146.1 bt148.1 bt156.1 bt164.1 bt166.1 (bt173.2.2.2 != 0) bt168.1 bt168.2.1 bt168.2.2.1 bt173.1 bt173.2.1 bt173.2.2.1) else (scOrd.j2 kj11 bt142.1 bt144.1 bt146.1 bt148.1 bt156.1 bt164.1 bt166.1 true bt168.1 bt168.2.1 bt168.2.2.1 bt173.1 bt173.2.1 bt173.2.2.1)) else (scOrd.j2 kj11 bt142.1 bt144.1 bt146.1 bt148.1 bt156.1 bt164.1 bt166.1 true bt168.1 bt168.2.1 bt168.2.2.1 bt173.1 bt173.2.1 bt173.2.2.1)) else (scOrd.j2 kj11 bt142.1 bt144.1 bt146.1 bt148.1 bt156.1 bt164.1 bt166.1 true bt168.1 bt168.2.1 bt168.2.2.1 bt173.1 bt173.2.1 bt173.2.2.1)) else (scOrd.j2 kj11 bt142.1 bt144.1 bt146.1 bt148.1 bt156.1 bt164.1 bt166.1 true bt168.1 bt168.2.1 bt168.2.2.1 bt173.1 bt173.2.1 bt173.2.2.1)) else (scOrd.j2 kj11 bt142.1 bt144.1 bt146.1 bt148.1 bt156.1 bt164.1 bt166.1 true bt168.1 bt168.2.1 bt168.2.2.1 bt173.1 bt173.2.1 bt173.2.2.1)) else (scOrd.j2 kj11 bt142.1 bt144.1 bt146.1 bt148.1 bt156.1 bt164.1 bt166.1 true bt168.1 bt168.2.1 bt168.2.2.1 bt173.1 bt173.2.1 bt173.2.2.1)) else (scOrd.j2 kj11 bt142.1 bt144.1 bt146.1 bt148.1 bt156.1 bt164.1 bt166.1 true bt168.1 bt168.2.1 bt168.2.2.1 bt173.1 bt173.2.1 bt173.2.2.1)) else (scOrd.j2 kj11 bt142.1 bt144.1 bt146.1 bt148.1 bt156.1 bt164.1 bt166.1 true bt168.1 bt168.2.1 bt168.2.2.1 bt173.1 bt173.2.1 bt173.2.2.1))))) else (none)) else (none)))))))))))) = some true := by rw [if_pos rfl] at H; exact H
       clear H
       have H := H1
       clear H1
       replace H := Option.bind_eq_some_iff.mp H
       obtain ⟨⟨t142, t143⟩, A1140, H⟩ := H
       replace H : ((scan_Cmp.f kj11 a1_0 a1_1 a1_2 a0_0 a0_1 a0_2).bind fun bt144 => ((scan_Cmp.f kj11 a1_0 a1_1 a1_2 a2_0 a2_1 a2_2).bind fun bt146 => ((scan_Cmp.f kj11 a0_0 a0_1 a0_2 a2_0 a2_1 a2_2).bind fun bt148 => ((abacuslaw08_moved.f a0_0 a0_1 a0_2 288230376151711744).bind fun bt150 => ((abacuslaw08_moved.f a1_0 a1_1 a1_2 288230376151711744).bind fun bt153 => ((scan_Cmp.f kj11 bt150.1 bt150.2.1 bt150.2.2 bt153.1 bt153.2.1 bt153.2.2).bind fun bt156 => ((abacuslaw08_turned.f a0_0 a0_1 a0_2).bind fun bt158 => ((abacuslaw08_turned.f a1_0 a1_1 a1_2).bind fun bt161 => ((scan_Cmp.f kj11 bt158.1 bt158.2.1 bt158.2.2 bt161.1 bt161.2.1 bt161.2.2).bind fun bt164 => (if 2 + a0_1.size ≤ 9223372036854775807 then (if ((⟨#[48, 48]⟩ : ByteArray) ++ a0_1).size + 3 ≤ 9223372036854775807 then ((scan_Cmp.f kj11 a0_0 (((⟨#[48, 48]⟩ : ByteArray) ++ a0_1) ++ (⟨#[48, 48, 48]⟩ : ByteArray)) (wrap64 (a0_2 - 3)) a1_0 a1_1 a1_2).bind fun bt166 => ((scan_Norm.f kj11 a0_0 a0_1 a0_2).bind fun bt168 => ((scan_Norm.f kj11 a1_0 a1_1 a1_2).bind fun bt173 => (if t143 = 0 then (if bt144.2 = 0 then (if bt146.2 = 0 then (if bt148.2 = 0 then (if bt156.2 = 0 then (if bt164.2 = 0 then (if bt166.2 = 0 then (if bt168.2.2.2 = 0 then (scOrd.j2 kj11 t142 bt144.1 bt146.1 bt148.1 bt156.1 bt164.1 bt166.1 (bt173.2.2.2 != 0) bt168.1 bt168.2.1 bt168.2.2.1 bt173.1 bt173.2.1 bt173.2.2.1) else (scOrd.j2 kj11 t142 bt144.1 bt146.1 bt148.1 bt156.1 bt164.1 bt166.1 true bt168.1 bt168.2.1 bt168.2.2.1 bt173.1 bt173.2.1 bt173.2.2.1)) else (scOrd.j2 kj11 t142 bt144.1 bt146.1 bt148.1 bt156.1 bt164.1 bt166.1 true bt168.1 bt168.2.1 bt168.2.2.1 bt173.1 bt173.2.1 bt173.2.2.1)) else (scOrd.j2 kj11 t142 bt144.1 bt146.1 bt148.1 bt156.1 bt164.1 bt166.1 true bt168.1 bt168.2.1 bt168.2.2.1 bt173.1 bt173.2.1 bt173.2.2.1)) else (scOrd.j2 kj11 t142 bt144.1 bt146.1 bt148.1 bt156.1 bt164.1 bt166.1 true bt168.1 bt168.2.1 bt168.2.2.1 bt173.1 bt173.2.1 bt173.2.2.1)) else (scOrd.j2 kj11 t142 bt144.1 bt146.1 bt148.1 bt156.1 bt164.1 bt166.1 true bt168.1 bt168.2.1 bt168.2.2.1 bt173.1 bt173.2.1 bt173.2.2.1)) else (scOrd.j2 kj11 t142 bt144.1 bt146.1 bt148.1 bt156.1 bt164.1 bt166.1 true bt168.1 bt168.2.1 bt168.2.2.1 bt173.1 bt173.2.1 bt173.2.2.1)) else (scOrd.j2 kj11 t142 bt144.1 bt146.1 bt148.1 bt156.1 bt164.1 bt166.1 true bt168.1 bt168.2.1 bt168.2.2.1 bt173.1 bt173.2.1 bt173.2.2.1)) else (scOrd.j2 kj11 t142 bt144.1 bt146.1 bt148.1 bt156.1 bt164.1 bt166.1 true bt168.1 bt168.2.1 bt168.2.2.1 bt173.1 bt173.2.1 bt173.2.2.1))))) else (none)) else (none))))))))))) = some true := H
       have A114 := Aside0.mk A1140
       clear A1140
       replace H := Option.bind_eq_some_iff.mp H
       obtain ⟨⟨t144, t145⟩, A1150, H⟩ := H
       replace H : ((scan_Cmp.f kj11 a1_0 a1_1 a1_2 a2_0 a2_1 a2_2).bind fun bt146 => ((scan_Cmp.f kj11 a0_0 a0_1 a0_2 a2_0 a2_1 a2_2).bind fun bt148 => ((abacuslaw08_moved.f a0_0 a0_1 a0_2 288230376151711744).bind fun bt150 => ((abacuslaw08_moved.f a1_0 a1_1 a1_2 288230376151711744).bind fun bt153 => ((scan_Cmp.f kj11 bt150.1 bt150.2.1 bt150.2.2 bt153.1 bt153.2.1 bt153.2.2).bind fun bt156 => ((abacuslaw08_turned.f a0_0 a0_1 a0_2).bind fun bt158 => ((abacuslaw08_turned.f a1_0 a1_1 a1_2).bind fun bt161 => ((scan_Cmp.f kj11 bt158.1 bt158.2.1 bt158.2.2 bt161.1 bt161.2.1 bt161.2.2).bind fun bt164 => (if 2 + a0_1.size ≤ 9223372036854775807 then (if ((⟨#[48, 48]⟩ : ByteArray) ++ a0_1).size + 3 ≤ 9223372036854775807 then ((scan_Cmp.f kj11 a0_0 (((⟨#[48, 48]⟩ : ByteArray) ++ a0_1) ++ (⟨#[48, 48, 48]⟩ : ByteArray)) (wrap64 (a0_2 - 3)) a1_0 a1_1 a1_2).bind fun bt166 => ((scan_Norm.f kj11 a0_0 a0_1 a0_2).bind fun bt168 => ((scan_Norm.f kj11 a1_0 a1_1 a1_2).bind fun bt173 => (if t143 = 0 then (if t145 = 0 then (if bt146.2 = 0 then (if bt148.2 = 0 then (if bt156.2 = 0 then (if bt164.2 = 0 then (if bt166.2 = 0 then (if bt168.2.2.2 = 0 then (scOrd.j2 kj11 t142 t144 bt146.1 bt148.1 bt156.1 bt164.1 bt166.1 (bt173.2.2.2 != 0) bt168.1 bt168.2.1 bt168.2.2.1 bt173.1 bt173.2.1 bt173.2.2.1) else (scOrd.j2 kj11 t142 t144 bt146.1 bt148.1 bt156.1 bt164.1 bt166.1 true bt168.1 bt168.2.1 bt168.2.2.1 bt173.1 bt173.2.1 bt173.2.2.1)) else (scOrd.j2 kj11 t142 t144 bt146.1 bt148.1 bt156.1 bt164.1 bt166.1 true bt168.1 bt168.2.1 bt168.2.2.1 bt173.1 bt173.2.1 bt173.2.2.1)) else (scOrd.j2 kj11 t142 t144 bt146.1 bt148.1 bt156.1 bt164.1 bt166.1 true bt168.1 bt168.2.1 bt168.2.2.1 bt173.1 bt173.2.1 bt173.2.2.1)) else (scOrd.j2 kj11 t142 t144 bt146.1 bt148.1 bt156.1 bt164.1 bt166.1 true bt168.1 bt168.2.1 bt168.2.2.1 bt173.1 bt173.2.1 bt173.2.2.1)) else (scOrd.j2 kj11 t142 t144 bt146.1 bt148.1 bt156.1 bt164.1 bt166.1 true bt168.1 bt168.2.1 bt168.2.2.1 bt173.1 bt173.2.1 bt173.2.2.1)) else (scOrd.j2 kj11 t142 t144 bt146.1 bt148.1 bt156.1 bt164.1 bt166.1 true bt168.1 bt168.2.1 bt168.2.2.1 bt173.1 bt173.2.1 bt173.2.2.1)) else (scOrd.j2 kj11 t142 t144 bt146.1 bt148.1 bt156.1 bt164.1 bt166.1 true bt168.1 bt168.2.1 bt168.2.2.1 bt173.1 bt173.2.1 bt173.2.2.1)) else (scOrd.j2 kj11 t142 t144 bt146.1 bt148.1 bt156.1 bt164.1 bt166.1 true bt168.1 bt168.2.1 bt168.2.2.1 bt173.1 bt173.2.1 bt173.2.2.1))))) else (none)) else (none)))))))))) = some true := H
       have A115 := Aside0.mk A1150
       clear A1150
       replace H := Option.bind_eq_some_iff.mp H
       obtain ⟨⟨t146, t147⟩, A1160, H⟩ := H
       replace H : ((scan_Cmp.f kj11 a0_0 a0_1 a0_2 a2_0 a2_1 a2_2).bind fun bt148 => ((abacuslaw08_moved.f a0_0 a0_1 a0_2 288230376151711744).bind fun bt150 => ((abacuslaw08_moved.f a1_0 a1_1 a1_2 288230376151711744).bind fun bt153 => ((scan_Cmp.f kj11 bt150.1 bt150.2.1 bt150.2.2 bt153.1 bt153.2.1 bt153.2.2).bind fun bt156 => ((abacuslaw08_turned.f a0_0 a0_1 a0_2).bind fun bt158 => ((abacuslaw08_turned.f a1_0 a1_1 a1_2).bind fun bt161 => ((scan_Cmp.f kj11 bt158.1 bt158.2.1 bt158.2.2 bt161.1 bt161.2.1 bt161.2.2).bind fun bt164 => (if 2 + a0_1.size ≤ 9223372036854775807 then (if ((⟨#[48, 48]⟩ : ByteArray) ++ a0_1).size + 3 ≤ 9223372036854775807 then ((scan_Cmp.f kj11 a0_0 (((⟨#[48, 48]⟩ : ByteArray) ++ a0_1) ++ (⟨#[48, 48, 48]⟩ : ByteArray)) (wrap64 (a0_2 - 3)) a1_0 a1_1 a1_2).bind fun bt166 => ((scan_Norm.f kj11 a0_0 a0_1 a0_2).bind fun bt168 => ((scan_Norm.f kj11 a1_0 a1_1 a1_2).bind fun bt173 => (if t143 = 0 then (if t145 = 0 then (if t147 = 0 then (if bt148.2 = 0 then (if bt156.2 = 0 then (if bt164.2 = 0 then (if bt166.2 = 0 then (if bt168.2.2.2 = 0 then (scOrd.j2 kj11 t142 t144 t146 bt148.1 bt156.1 bt164.1 bt166.1 (bt173.2.2.2 != 0) bt168.1 bt168.2.1 bt168.2.2.1 bt173.1 bt173.2.1 bt173.2.2.1) else (scOrd.j2 kj11 t142 t144 t146 bt148.1 bt156.1 bt164.1 bt166.1 true bt168.1 bt168.2.1 bt168.2.2.1 bt173.1 bt173.2.1 bt173.2.2.1)) else (scOrd.j2 kj11 t142 t144 t146 bt148.1 bt156.1 bt164.1 bt166.1 true bt168.1 bt168.2.1 bt168.2.2.1 bt173.1 bt173.2.1 bt173.2.2.1)) else (scOrd.j2 kj11 t142 t144 t146 bt148.1 bt156.1 bt164.1 bt166.1 true bt168.1 bt168.2.1 bt168.2.2.1 bt173.1 bt173.2.1 bt173.2.2.1)) else (scOrd.j2 kj11 t142 t144 t146 bt148.1 bt156.1 bt164.1 bt166.1 true bt168.1 bt168.2.1 bt168.2.2.1 bt173.1 bt173.2.1 bt173.2.2.1)) else (scOrd.j2 kj11 t142 t144 t146 bt148.1 bt156.1 bt164.1 bt166.1 true bt168.1 bt168.2.1 bt168.2.2.1 bt173.1 bt173.2.1 bt173.2.2.1)) else (scOrd.j2 kj11 t142 t144 t146 bt148.1 bt156.1 bt164.1 bt166.1 true bt168.1 bt168.2.1 bt168.2.2.1 bt173.1 bt173.2.1 bt173.2.2.1)) else (scOrd.j2 kj11 t142 t144 t146 bt148.1 bt156.1 bt164.1 bt166.1 true bt168.1 bt168.2.1 bt168.2.2.1 bt173.1 bt173.2.1 bt173.2.2.1)) else (scOrd.j2 kj11 t142 t144 t146 bt148.1 bt156.1 bt164.1 bt166.1 true bt168.1 bt168.2.1 bt168.2.2.1 bt173.1 bt173.2.1 bt173.2.2.1))))) else (none)) else (none))))))))) = some true := H
       have A116 := Aside0.mk A1160
       clear A1160
       replace H := Option.bind_eq_some_iff.mp H
       obtain ⟨⟨t148, t149⟩, A1170, H⟩ := H
       replace H : ((abacuslaw08_moved.f a0_0 a0_1 a0_2 288230376151711744).bind fun bt150 => ((abacuslaw08_moved.f a1_0 a1_1 a1_2 288230376151711744).bind fun bt153 => ((scan_Cmp.f kj11 bt150.1 bt150.2.1 bt150.2.2 bt153.1 bt153.2.1 bt153.2.2).bind fun bt156 => ((abacuslaw08_turned.f a0_0 a0_1 a0_2).bind fun bt158 => ((abacuslaw08_turned.f a1_0 a1_1 a1_2).bind fun bt161 => ((scan_Cmp.f kj11 bt158.1 bt158.2.1 bt158.2.2 bt161.1 bt161.2.1 bt161.2.2).bind fun bt164 => (if 2 + a0_1.size ≤ 9223372036854775807 then (if ((⟨#[48, 48]⟩ : ByteArray) ++ a0_1).size + 3 ≤ 9223372036854775807 then ((scan_Cmp.f kj11 a0_0 (((⟨#[48, 48]⟩ : ByteArray) ++ a0_1) ++ (⟨#[48, 48, 48]⟩ : ByteArray)) (wrap64 (a0_2 - 3)) a1_0 a1_1 a1_2).bind fun bt166 => ((scan_Norm.f kj11 a0_0 a0_1 a0_2).bind fun bt168 => ((scan_Norm.f kj11 a1_0 a1_1 a1_2).bind fun bt173 => (if t143 = 0 then (if t145 = 0 then (if t147 = 0 then (if t149 = 0 then (if bt156.2 = 0 then (if bt164.2 = 0 then (if bt166.2 = 0 then (if bt168.2.2.2 = 0 then (scOrd.j2 kj11 t142 t144 t146 t148 bt156.1 bt164.1 bt166.1 (bt173.2.2.2 != 0) bt168.1 bt168.2.1 bt168.2.2.1 bt173.1 bt173.2.1 bt173.2.2.1) else (scOrd.j2 kj11 t142 t144 t146 t148 bt156.1 bt164.1 bt166.1 true bt168.1 bt168.2.1 bt168.2.2.1 bt173.1 bt173.2.1 bt173.2.2.1)) else (scOrd.j2 kj11 t142 t144 t146 t148 bt156.1 bt164.1 bt166.1 true bt168.1 bt168.2.1 bt168.2.2.1 bt173.1 bt173.2.1 bt173.2.2.1)) else (scOrd.j2 kj11 t142 t144 t146 t148 bt156.1 bt164.1 bt166.1 true bt168.1 bt168.2.1 bt168.2.2.1 bt173.1 bt173.2.1 bt173.2.2.1)) else (scOrd.j2 kj11 t142 t144 t146 t148 bt156.1 bt164.1 bt166.1 true bt168.1 bt168.2.1 bt168.2.2.1 bt173.1 bt173.2.1 bt173.2.2.1)) else (scOrd.j2 kj11 t142 t144 t146 t148 bt156.1 bt164.1 bt166.1 true bt168.1 bt168.2.1 bt168.2.2.1 bt173.1 bt173.2.1 bt173.2.2.1)) else (scOrd.j2 kj11 t142 t144 t146 t148 bt156.1 bt164.1 bt166.1 true bt168.1 bt168.2.1 bt168.2.2.1 bt173.1 bt173.2.1 bt173.2.2.1)) else (scOrd.j2 kj11 t142 t144 t146 t148 bt156.1 bt164.1 bt166.1 true bt168.1 bt168.2.1 bt168.2.2.1 bt173.1 bt173.2.1 bt173.2.2.1)) else (scOrd.j2 kj11 t142 t144 t146 t148 bt156.1 bt164.1 bt166.1 true bt168.1 bt168.2.1 bt168.2.2.1 bt173.1 bt173.2.1 bt173.2.2.1))))) else (none)) else (none)))))))) = some true := H
       have A117 := Aside0.mk A1170
       clear A1170
       replace H := Option.bind_eq_some_iff.mp H
       obtain ⟨⟨t150, t151, t152⟩, A1180, H⟩ := H
       replace H : ((abacuslaw08_moved.f a1_0 a1_1 a1_2 288230376151711744).bind fun bt153 => ((scan_Cmp.f kj11 t150 t151 t152 bt153.1 bt153.2.1 bt153.2.2).bind fun bt156 => ((abacuslaw08_turned.f a0_0 a0_1 a0_2).bind fun bt158 => ((abacuslaw08_turned.f a1_0 a1_1 a1_2).bind fun bt161 => ((scan_Cmp.f kj11 bt158.1 bt158.2.1 bt158.2.2 bt161.1 bt161.2.1 bt161.2.2).bind fun bt164 => (if 2 + a0_1.size ≤ 9223372036854775807 then (if ((⟨#[48, 48]⟩ : ByteArray) ++ a0_1).size + 3 ≤ 9223372036854775807 then ((scan_Cmp.f kj11 a0_0 (((⟨#[48, 48]⟩ : ByteArray) ++ a0_1) ++ (⟨#[48, 48, 48]⟩ : ByteArray)) (wrap64 (a0_2 - 3)) a1_0 a1_1 a1_2).bind fun bt166 => ((scan_Norm.f kj11 a0_0 a0_1 a0_2).bind fun bt168 => ((scan_Norm.f kj11 a1_0 a1_1 a1_2).bind fun bt173 => (if t143 = 0 then (if t145 = 0 then (if t147 = 0 then (if t149 = 0 then (if bt156.2 = 0 then (if bt164.2 = 0 then (if bt166.2 = 0 then (if bt168.2.2.2 = 0 then (scOrd.j2 kj11 t142 t144 t146 t148 bt156.1 bt164.1 bt166.1 (bt173.2.2.2 != 0) bt168.1 bt168.2.1 bt168.2.2.1 bt173.1 bt173.2.1 bt173.2.2.1) else (scOrd.j2 kj11 t142 t144 t146 t148 bt156.1 bt164.1 bt166.1 true bt168.1 bt168.2.1 bt168.2.2.1 bt173.1 bt173.2.1 bt173.2.2.1)) else (scOrd.j2 kj11 t142 t144 t146 t148 bt156.1 bt164.1 bt166.1 true bt168.1 bt168.2.1 bt168.2.2.1 bt173.1 bt173.2.1 bt173.2.2.1)) else (scOrd.j2 kj11 t142 t144 t146 t148 bt156.1 bt164.1 bt166.1 true bt168.1 bt168.2.1 bt168.2.2.1 bt173.1 bt173.2.1 bt173.2.2.1)) else (scOrd.j2 kj11 t142 t144 t146 t148 bt156.1 bt164.1 bt166.1 true bt168.1 bt168.2.1 bt168.2.2.1 bt173.1 bt173.2.1 bt173.2.2.1)) else (scOrd.j2 kj11 t142 t144 t146 t148 bt156.1 bt164.1 bt166.1 true bt168.1 bt168.2.1 bt168.2.2.1 bt173.1 bt173.2.1 bt173.2.2.1)) else (scOrd.j2 kj11 t142 t144 t146 t148 bt156.1 bt164.1 bt166.1 true bt168.1 bt168.2.1 bt168.2.2.1 bt173.1 bt173.2.1 bt173.2.2.1)) else (scOrd.j2 kj11 t142 t144 t146 t148 bt156.1 bt164.1 bt166.1 true bt168.1 bt168.2.1 bt168.2.2.1 bt173.1 bt173.2.1 bt173.2.2.1)) else (scOrd.j2 kj11 t142 t144 t146 t148 bt156.1 bt164.1 bt166.1 true bt168.1 bt168.2.1 bt168.2.2.1 bt173.1 bt173.2.1 bt173.2.2.1))))) else (none)) else (none))))))) = some true := H
       have A118 := Aside0.mk A1180
       clear A1180
       replace H := Option.bind_eq_some_iff.mp H
       obtain ⟨⟨t153, t154, t155⟩, A1190, H⟩ := H
       replace H : ((scan_Cmp.f kj11 t150 t151 t152 t153 t154 t155).bind fun bt156 => ((abacuslaw08_turned.f a0_0 a0_1 a0_2).bind fun bt158 => ((abacuslaw08_turned.f a1_0 a1_1 a1_2).bind fun bt161 => ((scan_Cmp.f kj11 bt158.1 bt158.2.1 bt158.2.2 bt161.1 bt161.2.1 bt161.2.2).bind fun bt164 => (if 2 + a0_1.size ≤ 9223372036854775807 then (if ((⟨#[48, 48]⟩ : ByteArray) ++ a0_1).size + 3 ≤ 9223372036854775807 then ((scan_Cmp.f kj11 a0_0 (((⟨#[48, 48]⟩ : ByteArray) ++ a0_1) ++ (⟨#[48, 48, 48]⟩ : ByteArray)) (wrap64 (a0_2 - 3)) a1_0 a1_1 a1_2).bind fun bt166 => ((scan_Norm.f kj11 a0_0 a0_1 a0_2).bind fun bt168 => ((scan_Norm.f kj11 a1_0 a1_1 a1_2).bind fun bt173 => (if t143 = 0 then (if t145 = 0 then (if t147 = 0 then (if t149 = 0 then (if bt156.2 = 0 then (if bt164.2 = 0 then (if bt166.2 = 0 then (if bt168.2.2.2 = 0 then (scOrd.j2 kj11 t142 t144 t146 t148 bt156.1 bt164.1 bt166.1 (bt173.2.2.2 != 0) bt168.1 bt168.2.1 bt168.2.2.1 bt173.1 bt173.2.1 bt173.2.2.1) else (scOrd.j2 kj11 t142 t144 t146 t148 bt156.1 bt164.1 bt166.1 true bt168.1 bt168.2.1 bt168.2.2.1 bt173.1 bt173.2.1 bt173.2.2.1)) else (scOrd.j2 kj11 t142 t144 t146 t148 bt156.1 bt164.1 bt166.1 true bt168.1 bt168.2.1 bt168.2.2.1 bt173.1 bt173.2.1 bt173.2.2.1)) else (scOrd.j2 kj11 t142 t144 t146 t148 bt156.1 bt164.1 bt166.1 true bt168.1 bt168.2.1 bt168.2.2.1 bt173.1 bt173.2.1 bt173.2.2.1)) else (scOrd.j2 kj11 t142 t144 t146 t148 bt156.1 bt164.1 bt166.1 true bt168.1 bt168.2.1 bt168.2.2.1 bt173.1 bt173.2.1 bt173.2.2.1)) else (scOrd.j2 kj11 t142 t144 t146 t148 bt156.1 bt164.1 bt166.1 true bt168.1 bt168.2.1 bt168.2.2.1 bt173.1 bt173.2.1 bt173.2.2.1)) else (scOrd.j2 kj11 t142 t144 t146 t148 bt156.1 bt164.1 bt166.1 true bt168.1 bt168.2.1 bt168.2.2.1 bt173.1 bt173.2.1 bt173.2.2.1)) else (scOrd.j2 kj11 t142 t144 t146 t148 bt156.1 bt164.1 bt166.1 true bt168.1 bt168.2.1 bt168.2.2.1 bt173.1 bt173.2.1 bt173.2.2.1)) else (scOrd.j2 kj11 t142 t144 t146 t148 bt156.1 bt164.1 bt166.1 true bt168.1 bt168.2.1 bt168.2.2.1 bt173.1 bt173.2.1 bt173.2.2.1))))) else (none)) else (none)))))) = some true := H
       have A119 := Aside0.mk A1190
       clear A1190
       replace H := Option.bind_eq_some_iff.mp H
       obtain ⟨⟨t156, t157⟩, A1200, H⟩ := H
       replace H : ((abacuslaw08_turned.f a0_0 a0_1 a0_2).bind fun bt158 => ((abacuslaw08_turned.f a1_0 a1_1 a1_2).bind fun bt161 => ((scan_Cmp.f kj11 bt158.1 bt158.2.1 bt158.2.2 bt161.1 bt161.2.1 bt161.2.2).bind fun bt164 => (if 2 + a0_1.size ≤ 9223372036854775807 then (if ((⟨#[48, 48]⟩ : ByteArray) ++ a0_1).size + 3 ≤ 9223372036854775807 then ((scan_Cmp.f kj11 a0_0 (((⟨#[48, 48]⟩ : ByteArray) ++ a0_1) ++ (⟨#[48, 48, 48]⟩ : ByteArray)) (wrap64 (a0_2 - 3)) a1_0 a1_1 a1_2).bind fun bt166 => ((scan_Norm.f kj11 a0_0 a0_1 a0_2).bind fun bt168 => ((scan_Norm.f kj11 a1_0 a1_1 a1_2).bind fun bt173 => (if t143 = 0 then (if t145 = 0 then (if t147 = 0 then (if t149 = 0 then (if t157 = 0 then (if bt164.2 = 0 then (if bt166.2 = 0 then (if bt168.2.2.2 = 0 then (scOrd.j2 kj11 t142 t144 t146 t148 t156 bt164.1 bt166.1 (bt173.2.2.2 != 0) bt168.1 bt168.2.1 bt168.2.2.1 bt173.1 bt173.2.1 bt173.2.2.1) else (scOrd.j2 kj11 t142 t144 t146 t148 t156 bt164.1 bt166.1 true bt168.1 bt168.2.1 bt168.2.2.1 bt173.1 bt173.2.1 bt173.2.2.1)) else (scOrd.j2 kj11 t142 t144 t146 t148 t156 bt164.1 bt166.1 true bt168.1 bt168.2.1 bt168.2.2.1 bt173.1 bt173.2.1 bt173.2.2.1)) else (scOrd.j2 kj11 t142 t144 t146 t148 t156 bt164.1 bt166.1 true bt168.1 bt168.2.1 bt168.2.2.1 bt173.1 bt173.2.1 bt173.2.2.1)) else (scOrd.j2 kj11 t142 t144 t146 t148 t156 bt164.1 bt166.1 true bt168.1 bt168.2.1 bt168.2.2.1 bt173.1 bt173.2.1 bt173.2.2.1)) else (scOrd.j2 kj11 t142 t144 t146 t148 t156 bt164.1 bt166.1 true bt168.1 bt168.2.1 bt168.2.2.1 bt173.1 bt173.2.1 bt173.2.2.1)) else (scOrd.j2 kj11 t142 t144 t146 t148 t156 bt164.1 bt166.1 true bt168.1 bt168.2.1 bt168.2.2.1 bt173.1 bt173.2.1 bt173.2.2.1)) else (scOrd.j2 kj11 t142 t144 t146 t148 t156 bt164.1 bt166.1 true bt168.1 bt168.2.1 bt168.2.2.1 bt173.1 bt173.2.1 bt173.2.2.1)) else (scOrd.j2 kj11 t142 t144 t146 t148 t156 bt164.1 bt166.1 true bt168.1 bt168.2.1 bt168.2.2.1 bt173.1 bt173.2.1 bt173.2.2.1))))) else (none)) else (none))))) = some true := H
       have A120 := Aside0.mk A1200
       clear A1200
       replace H := Option.bind_eq_some_iff.mp H
       obtain ⟨⟨t158, t159, t160⟩, A1210, H⟩ := H
       replace H : ((abacuslaw08_turned.f a1_0 a1_1 a1_2).bind fun bt161 => ((scan_Cmp.f kj11 t158 t159 t160 bt161.1 bt161.2.1 bt161.2.2).bind fun bt164 => (if 2 + a0_1.size ≤ 9223372036854775807 then (if ((⟨#[48, 48]⟩ : ByteArray) ++ a0_1).size + 3 ≤ 9223372036854775807 then ((scan_Cmp.f kj11 a0_0 (((⟨#[48, 48]⟩ : ByteArray) ++ a0_1) ++ (⟨#[48, 48, 48]⟩ : ByteArray)) (wrap64 (a0_2 - 3)) a1_0 a1_1 a1_2).bind fun bt166 => ((scan_Norm.f kj11 a0_0 a0_1 a0_2).bind fun bt168 => ((scan_Norm.f kj11 a1_0 a1_1 a1_2).bind fun bt173 => (if t143 = 0 then (if t145 = 0 then (if t147 = 0 then (if t149 = 0 then (if t157 = 0 then (if bt164.2 = 0 then (if bt166.2 = 0 then (if bt168.2.2.2 = 0 then (scOrd.j2 kj11 t142 t144 t146 t148 t156 bt164.1 bt166.1 (bt173.2.2.2 != 0) bt168.1 bt168.2.1 bt168.2.2.1 bt173.1 bt173.2.1 bt173.2.2.1) else (scOrd.j2 kj11 t142 t144 t146 t148 t156 bt164.1 bt166.1 true bt168.1 bt168.2.1 bt168.2.2.1 bt173.1 bt173.2.1 bt173.2.2.1)) else (scOrd.j2 kj11 t142 t144 t146 t148 t156 bt164.1 bt166.1 true bt168.1 bt168.2.1 bt168.2.2.1 bt173.1 bt173.2.1 bt173.2.2.1)) else (scOrd.j2 kj11 t142 t144 t146 t148 t156 bt164.1 bt166.1 true bt168.1 bt168.2.1 bt168.2.2.1 bt173.1 bt173.2.1 bt173.2.2.1)) else (scOrd.j2 kj11 t142 t144 t146 t148 t156 bt164.1 bt166.1 true bt168.1 bt168.2.1 bt168.2.2.1 bt173.1 bt173.2.1 bt173.2.2.1)) else (scOrd.j2 kj11 t142 t144 t146 t148 t156 bt164.1 bt166.1 true bt168.1 bt168.2.1 bt168.2.2.1 bt173.1 bt173.2.1 bt173.2.2.1)) else (scOrd.j2 kj11 t142 t144 t146 t148 t156 bt164.1 bt166.1 true bt168.1 bt168.2.1 bt168.2.2.1 bt173.1 bt173.2.1 bt173.2.2.1)) else (scOrd.j2 kj11 t142 t144 t146 t148 t156 bt164.1 bt166.1 true bt168.1 bt168.2.1 bt168.2.2.1 bt173.1 bt173.2.1 bt173.2.2.1)) else (scOrd.j2 kj11 t142 t144 t146 t148 t156 bt164.1 bt166.1 true bt168.1 bt168.2.1 bt168.2.2.1 bt173.1 bt173.2.1 bt173.2.2.1))))) else (none)) else (none)))) = some true := H
       have A121 := Aside0.mk A1210
       clear A1210
       replace H := Option.bind_eq_some_iff.mp H
       obtain ⟨⟨t161, t162, t163⟩, A1220, H⟩ := H
       replace H : ((scan_Cmp.f kj11 t158 t159 t160 t161 t162 t163).bind fun bt164 => (if 2 + a0_1.size ≤ 9223372036854775807 then (if ((⟨#[48, 48]⟩ : ByteArray) ++ a0_1).size + 3 ≤ 9223372036854775807 then ((scan_Cmp.f kj11 a0_0 (((⟨#[48, 48]⟩ : ByteArray) ++ a0_1) ++ (⟨#[48, 48, 48]⟩ : ByteArray)) (wrap64 (a0_2 - 3)) a1_0 a1_1 a1_2).bind fun bt166 => ((scan_Norm.f kj11 a0_0 a0_1 a0_2).bind fun bt168 => ((scan_Norm.f kj11 a1_0 a1_1 a1_2).bind fun bt173 => (if t143 = 0 then (if t145 = 0 then (if t147 = 0 then (if t149 = 0 then (if t157 = 0 then (if bt164.2 = 0 then (if bt166.2 = 0 then (if bt168.2.2.2 = 0 then (scOrd.j2 kj11 t142 t144 t146 t148 t156 bt164.1 bt166.1 (bt173.2.2.2 != 0) bt168.1 bt168.2.1 bt168.2.2.1 bt173.1 bt173.2.1 bt173.2.2.1) else (scOrd.j2 kj11 t142 t144 t146 t148 t156 bt164.1 bt166.1 true bt168.1 bt168.2.1 bt168.2.2.1 bt173.1 bt173.2.1 bt173.2.2.1)) else (scOrd.j2 kj11 t142 t144 t146 t148 t156 bt164.1 bt166.1 true bt168.1 bt168.2.1 bt168.2.2.1 bt173.1 bt173.2.1 bt173.2.2.1)) else (scOrd.j2 kj11 t142 t144 t146 t148 t156 bt164.1 bt166.1 true bt168.1 bt168.2.1 bt168.2.2.1 bt173.1 bt173.2.1 bt173.2.2.1)) else (scOrd.j2 kj11 t142 t144 t146 t148 t156 bt164.1 bt166.1 true bt168.1 bt168.2.1 bt168.2.2.1 bt173.1 bt173.2.1 bt173.2.2.1)) else (scOrd.j2 kj11 t142 t144 t146 t148 t156 bt164.1 bt166.1 true bt168.1 bt168.2.1 bt168.2.2.1 bt173.1 bt173.2.1 bt173.2.2.1)) else (scOrd.j2 kj11 t142 t144 t146 t148 t156 bt164.1 bt166.1 true bt168.1 bt168.2.1 bt168.2.2.1 bt173.1 bt173.2.1 bt173.2.2.1)) else (scOrd.j2 kj11 t142 t144 t146 t148 t156 bt164.1 bt166.1 true bt168.1 bt168.2.1 bt168.2.2.1 bt173.1 bt173.2.1 bt173.2.2.1)) else (scOrd.j2 kj11 t142 t144 t146 t148 t156 bt164.1 bt166.1 true bt168.1 bt168.2.1 bt168.2.2.1 bt173.1 bt173.2.1 bt173.2.2.1))))) else (none)) else (none))) = some true := H
       have A122 := Aside0.mk A1220
       clear A1220
       replace H := Option.bind_eq_some_iff.mp H
       obtain ⟨⟨t164, t165⟩, A1230, H⟩ := H
       replace H : (if 2 + a0_1.size ≤ 9223372036854775807 then (if ((⟨#[48, 48]⟩ : ByteArray) ++ a0_1).size + 3 ≤ 9223372036854775807 then ((scan_Cmp.f kj11 a0_0 (((⟨#[48, 48]⟩ : ByteArray) ++ a0_1) ++ (⟨#[48, 48, 48]⟩ : ByteArray)) (wrap64 (a0_2 - 3)) a1_0 a1_1 a1_2).bind fun bt166 => ((scan_Norm.f kj11 a0_0 a0_1 a0_2).bind fun bt168 => ((scan_Norm.f kj11 a1_0 a1_1 a1_2).bind fun bt173 => (if t143 = 0 then (if t145 = 0 then (if t147 = 0 then (if t149 = 0 then (if t157 = 0 then (if t165 = 0 then (if bt166.2 = 0 then (if bt168.2.2.2 = 0 then (scOrd.j2 kj11 t142 t144 t146 t148 t156 t164 bt166.1 (bt173.2.2.2 != 0) bt168.1 bt168.2.1 bt168.2.2.1 bt173.1 bt173.2.1 bt173.2.2.1) else (scOrd.j2 kj11 t142 t144 t146 t148 t156 t164 bt166.1 true bt168.1 bt168.2.1 bt168.2.2.1 bt173.1 bt173.2.1 bt173.2.2.1)) else (scOrd.j2 kj11 t142 t144 t146 t148 t156 t164 bt166.1 true bt168.1 bt168.2.1 bt168.2.2.1 bt173.1 bt173.2.1 bt173.2.2.1)) else (scOrd.j2 kj11 t142 t144 t146 t148 t156 t164 bt166.1 true bt168.1 bt168.2.1 bt168.2.2.1 bt173.1 bt173.2.1 bt173.2.2.1)) else (scOrd.j2 kj11 t142 t144 t146 t148 t156 t164 bt166.1 true bt168.1 bt168.2.1 bt168.2.2.1 bt173.1 bt173.2.1 bt173.2.2.1)) else (scOrd.j2 kj11 t142 t144 t146 t148 t156 t164 bt166.1 true bt168.1 bt168.2.1 bt168.2.2.1 bt173.1 bt173.2.1 bt173.2.2.1)) else (scOrd.j2 kj11 t142 t144 t146 t148 t156 t164 bt166.1 true bt168.1 bt168.2.1 bt168.2.2.1 bt173.1 bt173.2.1 bt173.2.2.1)) else (scOrd.j2 kj11 t142 t144 t146 t148 t156 t164 bt166.1 true bt168.1 bt168.2.1 bt168.2.2.1 bt173.1 bt173.2.1 bt173.2.2.1)) else (scOrd.j2 kj11 t142 t144 t146 t148 t156 t164 bt166.1 true bt168.1 bt168.2.1 bt168.2.2.1 bt173.1 bt173.2.1 bt173.2.2.1))))) else (none)) else (none)) = some true := H
       have A123 := Aside0.mk A1230
       clear A1230
       by_cases c124 : 2 + a0_1.size ≤ 9223372036854775807
       ·rw [if_pos c124] at H
        have c124b0 := eq_true c124
        have c124b1 : decide (2 + a0_1.size ≤ 9223372036854775807) = true := decide_eq_true c124
        try have c124b2 : (9223372036854775807 < 2 + a0_1.size) = False := eq_false (Nat.not_lt.2 c124)
        by_cases c125 : ((⟨#[48, 48]⟩ : ByteArray) ++ a0_1).size + 3 ≤ 9223372036854775807
        ·rw [if_pos c125] at H
         have c125b0 := eq_true c125
         have c125b1 : decide (((⟨#[48, 48]⟩ : ByteArray) ++ a0_1).size + 3 ≤ 9223372036854775807) = true := decide_eq_true c125
         try have c125b2 : (9223372036854775807 < ((⟨#[48, 48]⟩ : ByteArray) ++ a0_1).size + 3) = False := eq_false (Nat.not_lt.2 c125)
         (try (have c125b3 : (9223372036854775807 < 2 + a0_1.size + 3) = False := by have h_ := c125b2; simp only [ByteArray.size_append] at h_; exact h_))
         replace H := Option.bind_eq_some_iff.mp H
         obtain ⟨⟨t166, t167⟩, A1260, H⟩ := H
         replace H : ((scan_Norm.f kj11 a0_0 a0_1 a0_2).bind fun bt168 => ((scan_Norm.f kj11 a1_0 a1_1 a1_2).bind fun bt173 => (if t143 = 0 then (if t145 = 0 then (if t147 = 0 then (if t149 = 0 then (if t157 = 0 then (if t165 = 0 then (if t167 = 0 then (if bt168.2.2.2 = 0 then (scOrd.j2 kj11 t142 t144 t146 t148 t156 t164 t166 (bt173.2.2.2 != 0) bt168.1 bt168.2.1 bt168.2.2.1 bt173.1 bt173.2.1 bt173.2.2.1) else (scOrd.j2 kj11 t142 t144 t146 t148 t156 t164 t166 true bt168.1 bt168.2.1 bt168.2.2.1 bt173.1 bt173.2.1 bt173.2.2.1)) else (scOrd.j2 kj11 t142 t144 t146 t148 t156 t164 t166 true bt168.1 bt168.2.1 bt168.2.2.1 bt173.1 bt173.2.1 bt173.2.2.1)) else (scOrd.j2 kj11 t142 t144 t146 t148 t156 t164 t166 true bt168.1 bt168.2.1 bt168.2.2.1 bt173.1 bt173.2.1 bt173.2.2.1)) else (scOrd.j2 kj11 t142 t144 t146 t148 t156 t164 t166 true bt168.1 bt168.2.1 bt168.2.2.1 bt173.1 bt173.2.1 bt173.2.2.1)) else (scOrd.j2 kj11 t142 t144 t146 t148 t156 t164 t166 true bt168.1 bt168.2.1 bt168.2.2.1 bt173.1 bt173.2.1 bt173.2.2.1)) else (scOrd.j2 kj11 t142 t144 t146 t148 t156 t164 t166 true bt168.1 bt168.2.1 bt168.2.2.1 bt173.1 bt173.2.1 bt173.2.2.1)) else (scOrd.j2 kj11 t142 t144 t146 t148 t156 t164 t166 true bt168.1 bt168.2.1 bt168.2.2.1 bt173.1 bt173.2.1 bt173.2.2.1)) else (scOrd.j2 kj11 t142 t144 t146 t148 t156 t164 t166 true bt168.1 bt168.2.1 bt168.2.2.1 bt173.1 bt173.2.1 bt173.2.2.1)))) = some true := H
         have A126 := Aside0.mk A1260
         clear A1260
         replace H := Option.bind_eq_some_iff.mp H
         obtain ⟨⟨t168, t169, t170, t171⟩, A1270, H⟩ := H
         replace H : ((scan_Norm.f kj11 a1_0 a1_1 a1_2).bind fun bt173 => (if t143 = 0 then (if t145 = 0 then (if t147 = 0 then (if t149 = 0 then (if t157 = 0 then (if t165 = 0 then (if t167 = 0 then (if t171 = 0 then (scOrd.j2 kj11 t142 t144 t146 t148 t156 t164 t166 (bt173.2.2.2 != 0) t168 t169 t170 bt173.1 bt173.2.1 bt173.2.2.1) else (scOrd.j2 kj11 t142 t144 t146 t148 t156 t164 t166 true t168 t169 t170 bt173.1 bt173.2.1 bt173.2.2.1)) else (scOrd.j2 kj11 t142 t144 t146 t148 t156 t164 t166 true t168 t169 t170 bt173.1 bt173.2.1 bt173.2.2.1)) else (scOrd.j2 kj11 t142 t144 t146 t148 t156 t164 t166 true t168 t169 t170 bt173.1 bt173.2.1 bt173.2.2.1)) else (scOrd.j2 kj11 t142 t144 t146 t148 t156 t164 t166 true t168 t169 t170 bt173.1 bt173.2.1 bt173.2.2.1)) else (scOrd.j2 kj11 t142 t144 t146 t148 t156 t164 t166 true t168 t169 t170 bt173.1 bt173.2.1 bt173.2.2.1)) else (scOrd.j2 kj11 t142 t144 t146 t148 t156 t164 t166 true t168 t169 t170 bt173.1 bt173.2.1 bt173.2.2.1)) else (scOrd.j2 kj11 t142 t144 t146 t148 t156 t164 t166 true t168 t169 t170 bt173.1 bt173.2.1 bt173.2.2.1)) else (scOrd.j2 kj11 t142 t144 t146 t148 t156 t164 t166 true t168 t169 t170 bt173.1 bt173.2.1 bt173.2.2.1))) = some true := H
         have A127 := Aside0.mk A1270
         clear A1270
         replace H := Option.bind_eq_some_iff.mp H
         obtain ⟨⟨t173, t174, t175, t176⟩, A1280, H⟩ := H
         replace H : (if t143 = 0 then (if t145 = 0 then (if t147 = 0 then (if t149 = 0 then (if t157 = 0 then (if t165 = 0 then (if t167 = 0 then (if t171 = 0 then (scOrd.j2 kj11 t142 t144 t146 t148 t156 t164 t166 (t176 != 0) t168 t169 t170 t173 t174 t175) else (scOrd.j2 kj11 t142 t144 t146 t148 t156 t164 t166 true t168 t169 t170 t173 t174 t175)) else (scOrd.j2 kj11 t142 t144 t146 t148 t156 t164 t166 true t168 t169 t170 t173 t174 t175)) else (scOrd.j2 kj11 t142 t144 t146 t148 t156 t164 t166 true t168 t169 t170 t173 t174 t175)) else (scOrd.j2 kj11 t142 t144 t146 t148 t156 t164 t166 true t168 t169 t170 t173 t174 t175)) else (scOrd.j2 kj11 t142 t144 t146 t148 t156 t164 t166 true t168 t169 t170 t173 t174 t175)) else (scOrd.j2 kj11 t142 t144 t146 t148 t156 t164 t166 true t168 t169 t170 t173 t174 t175)) else (scOrd.j2 kj11 t142 t144 t146 t148 t156 t164 t166 true t168 t169 t170 t173 t174 t175)) else (scOrd.j2 kj11 t142 t144 t146 t148 t156 t164 t166 true t168 t169 t170 t173 t174 t175)) = some true := H
         have A128 := Aside0.mk A1280
         clear A1280
         have HC129 := Aside0.mk H
         clear H
         have hnb130 := NB134_135.out
         have hnc130 := NB135_134.out
         have hnb131 := NB134_136.out
         have hnc131 := NB136_134.out
         have hcz132_0 : wc.cell? ⟨gb134, 0, none⟩ = some (.bool a0_0) := (blk_cell BK134.out 0).trans rfl
         have hcz132_1 : wc.cell? ⟨gb134, 1, none⟩ = some (.string a0_1) := (blk_cell BK134.out 1).trans rfl
         have hcz132_2 : wc.cell? ⟨gb134, 2, none⟩ = some (.int .i64 a0_2) := (blk_cell BK134.out 2).trans rfl
         have hfz132_0 := blk_frozen BK134.out 0
         have hfz132_1 := blk_frozen BK134.out 1
         have hfz132_2 := blk_frozen BK134.out 2
         have hnb133 := NB135_136.out
         have hnc133 := NB136_135.out
         have hcz134_0 : wc.cell? ⟨gb135, 0, none⟩ = some (.bool a1_0) := (blk_cell BK135.out 0).trans rfl
         have hcz134_1 : wc.cell? ⟨gb135, 1, none⟩ = some (.string a1_1) := (blk_cell BK135.out 1).trans rfl
         have hcz134_2 : wc.cell? ⟨gb135, 2, none⟩ = some (.int .i64 a1_2) := (blk_cell BK135.out 2).trans rfl
         have hfz134_0 := blk_frozen BK135.out 0
         have hfz134_1 := blk_frozen BK135.out 1
         have hfz134_2 := blk_frozen BK135.out 2
         try go_wp2_with (first | ((with_reducible refine gate_callee (f := 9) rfl ?_); refine goesL_ (some 86) rfl rfl Tryd.func9 (by kernel_rfl) rfl #[.agg #[.bool a0_0, .string a0_1, .int .i64 a0_2], .agg #[.bool a1_0, .string a1_1, .int .i64 a1_2]] rfl (by (try simp only [List.map_toArray, List.map_cons, List.map_nil]); first | done | rfl | (simp only [List.length_drop, List.length_take]; rfl)) ?_; (with_reducible refine (scan_Cmp.calls kj11 a0_0 a0_1 a0_2 a1_0 a1_1 a1_2 t142 t143 _ A114.out).mono ?_); rintro e w135 ⟨rfl, hb⟩; refine ⟨_, rfl, ?_⟩; have n0_ := Aside0.mk (blk_below (g := gb134) (o := .cells #[.bool a0_0, .string a0_1, .int .i64 a0_2] 23 (0, 0)) (by (with_reducible repeat (first | refine blk_drewN ?_ _ | refine blk_drew ?_ | refine blk_alloc ?_ _)); exact BK134.out) hb); have n1_ := Aside0.mk (blk_below (g := gb135) (o := .cells #[.bool a1_0, .string a1_1, .int .i64 a1_2] 23 (0, 0)) (by (with_reducible repeat (first | refine blk_drewN ?_ _ | refine blk_drew ?_ | refine blk_alloc ?_ _)); exact BK135.out) hb); have n2_ := Aside0.mk (blk_below (g := gb136) (o := .cells #[.bool a2_0, .string a2_1, .int .i64 a2_2] 23 (0, 0)) (by (with_reducible repeat (first | refine blk_drewN ?_ _ | refine blk_drew ?_ | refine blk_alloc ?_ _)); exact BK136.out) hb); have n3_ := Aside0.mk (below_step (by repeat (first | (with_reducible first | exact HB.out | apply below_alloc | apply pw_below_drewN | apply below_drew1 | refine below_set ?_ GE134.out | refine below_set ?_ GE135.out | refine below_set ?_ GE136.out) | exact HB.out)) hb); clear BK134; clear BK135; clear BK136; clear HB; have BK134 := n0_; have BK135 := n1_; have BK136 := n2_; have HB := n3_; clear n0_ n1_ n2_ n3_; (try clear hb); (try clear hb2); (try clear hk); (try clear hi); have hcz136_0 : w135.cell? ⟨gb135, 0, none⟩ = some (.bool a1_0) := (blk_cell BK135.out 0).trans rfl; have hcz136_1 : w135.cell? ⟨gb135, 1, none⟩ = some (.string a1_1) := (blk_cell BK135.out 1).trans rfl; have hcz136_2 : w135.cell? ⟨gb135, 2, none⟩ = some (.int .i64 a1_2) := (blk_cell BK135.out 2).trans rfl; have hfz136_0 := blk_frozen BK135.out 0; have hfz136_1 := blk_frozen BK135.out 1; have hfz136_2 := blk_frozen BK135.out 2; have hcz137_0 : w135.cell? ⟨gb134, 0, none⟩ = some (.bool a0_0) := (blk_cell BK134.out 0).trans rfl; have hcz137_1 : w135.cell? ⟨gb134, 1, none⟩ = some (.string a0_1) := (blk_cell BK134.out 1).trans rfl; have hcz137_2 : w135.cell? ⟨gb134, 2, none⟩ = some (.int .i64 a0_2) := (blk_cell BK134.out 2).trans rfl; have hfz137_0 := blk_frozen BK134.out 0; have hfz137_1 := blk_frozen BK134.out 1; have hfz137_2 := blk_frozen BK134.out 2) | ((with_reducible refine gate_callee (f := 9) rfl ?_); refine goesL_ (some 92) rfl rfl Tryd.func9 (by kernel_rfl) rfl #[.agg #[.bool a1_0, .string a1_1, .int .i64 a1_2], .agg #[.bool a0_0, .string a0_1, .int .i64 a0_2]] rfl (by (try simp only [List.map_toArray, List.map_cons, List.map_nil]); first | done | rfl | (simp only [List.length_drop, List.length_take]; rfl)) ?_; (with_reducible refine (scan_Cmp.calls kj11 a1_0 a1_1 a1_2 a0_0 a0_1 a0_2 t144 t145 _ A115.out).mono ?_); rintro e w138 ⟨rfl, hb⟩; refine ⟨_, rfl, ?_⟩; have n0_ := Aside0.mk (blk_below (g := gb134) (o := .cells #[.bool a0_0, .string a0_1, .int .i64 a0_2] 23 (0, 0)) (by (with_reducible repeat (first | refine blk_drewN ?_ _ | refine blk_drew ?_ | refine blk_alloc ?_ _)); exact BK134.out) hb); have n1_ := Aside0.mk (blk_below (g := gb135) (o := .cells #[.bool a1_0, .string a1_1, .int .i64 a1_2] 23 (0, 0)) (by (with_reducible repeat (first | refine blk_drewN ?_ _ | refine blk_drew ?_ | refine blk_alloc ?_ _)); exact BK135.out) hb); have n2_ := Aside0.mk (blk_below (g := gb136) (o := .cells #[.bool a2_0, .string a2_1, .int .i64 a2_2] 23 (0, 0)) (by (with_reducible repeat (first | refine blk_drewN ?_ _ | refine blk_drew ?_ | refine blk_alloc ?_ _)); exact BK136.out) hb); have n3_ := Aside0.mk (below_step (by repeat (first | (with_reducible first | exact HB.out | apply below_alloc | apply pw_below_drewN | apply below_drew1 | refine below_set ?_ GE134.out | refine below_set ?_ GE135.out | refine below_set ?_ GE136.out) | exact HB.out)) hb); clear BK134; clear BK135; clear BK136; clear HB; have BK134 := n0_; have BK135 := n1_; have BK136 := n2_; have HB := n3_; clear n0_ n1_ n2_ n3_; (try clear hb); (try clear hb2); (try clear hk); (try clear hi); have hcz139_0 : w138.cell? ⟨gb135, 0, none⟩ = some (.bool a1_0) := (blk_cell BK135.out 0).trans rfl; have hcz139_1 : w138.cell? ⟨gb135, 1, none⟩ = some (.string a1_1) := (blk_cell BK135.out 1).trans rfl; have hcz139_2 : w138.cell? ⟨gb135, 2, none⟩ = some (.int .i64 a1_2) := (blk_cell BK135.out 2).trans rfl; have hfz139_0 := blk_frozen BK135.out 0; have hfz139_1 := blk_frozen BK135.out 1; have hfz139_2 := blk_frozen BK135.out 2; have hcz140_0 : w138.cell? ⟨gb136, 0, none⟩ = some (.bool a2_0) := (blk_cell BK136.out 0).trans rfl; have hcz140_1 : w138.cell? ⟨gb136, 1, none⟩ = some (.string a2_1) := (blk_cell BK136.out 1).trans rfl; have hcz140_2 : w138.cell? ⟨gb136, 2, none⟩ = some (.int .i64 a2_2) := (blk_cell BK136.out 2).trans rfl; have hfz140_0 := blk_frozen BK136.out 0; have hfz140_1 := blk_frozen BK136.out 1; have hfz140_2 := blk_frozen BK136.out 2) | ((with_reducible refine gate_callee (f := 9) rfl ?_); refine goesL_ (some 98) rfl rfl Tryd.func9 (by kernel_rfl) rfl #[.agg #[.bool a1_0, .string a1_1, .int .i64 a1_2], .agg #[.bool a2_0, .string a2_1, .int .i64 a2_2]] rfl (by (try simp only [List.map_toArray, List.map_cons, List.map_nil]); first | done | rfl | (simp only [List.length_drop, List.length_take]; rfl)) ?_; (with_reducible refine (scan_Cmp.calls kj11 a1_0 a1_1 a1_2 a2_0 a2_1 a2_2 t146 t147 _ A116.out).mono ?_); rintro e w141 ⟨rfl, hb⟩; refine ⟨_, rfl, ?_⟩; have n0_ := Aside0.mk (blk_below (g := gb134) (o := .cells #[.bool a0_0, .string a0_1, .int .i64 a0_2] 23 (0, 0)) (by (with_reducible repeat (first | refine blk_drewN ?_ _ | refine blk_drew ?_ | refine blk_alloc ?_ _)); exact BK134.out) hb); have n1_ := Aside0.mk (blk_below (g := gb135) (o := .cells #[.bool a1_0, .string a1_1, .int .i64 a1_2] 23 (0, 0)) (by (with_reducible repeat (first | refine blk_drewN ?_ _ | refine blk_drew ?_ | refine blk_alloc ?_ _)); exact BK135.out) hb); have n2_ := Aside0.mk (blk_below (g := gb136) (o := .cells #[.bool a2_0, .string a2_1, .int .i64 a2_2] 23 (0, 0)) (by (with_reducible repeat (first | refine blk_drewN ?_ _ | refine blk_drew ?_ | refine blk_alloc ?_ _)); exact BK136.out) hb); have n3_ := Aside0.mk (below_step (by repeat (first | (with_reducible first | exact HB.out | apply below_alloc | apply pw_below_drewN | apply below_drew1 | refine below_set ?_ GE134.out | refine below_set ?_ GE135.out | refine below_set ?_ GE136.out) | exact HB.out)) hb); clear BK134; clear BK135; clear BK136; clear HB; have BK134 := n0_; have BK135 := n1_; have BK136 := n2_; have HB := n3_; clear n0_ n1_ n2_ n3_; (try clear hb); (try clear hb2); (try clear hk); (try clear hi); have hcz142_0 : w141.cell? ⟨gb134, 0, none⟩ = some (.bool a0_0) := (blk_cell BK134.out 0).trans rfl; have hcz142_1 : w141.cell? ⟨gb134, 1, none⟩ = some (.string a0_1) := (blk_cell BK134.out 1).trans rfl; have hcz142_2 : w141.cell? ⟨gb134, 2, none⟩ = some (.int .i64 a0_2) := (blk_cell BK134.out 2).trans rfl; have hfz142_0 := blk_frozen BK134.out 0; have hfz142_1 := blk_frozen BK134.out 1; have hfz142_2 := blk_frozen BK134.out 2; have hcz143_0 : w141.cell? ⟨gb136, 0, none⟩ = some (.bool a2_0) := (blk_cell BK136.out 0).trans rfl; have hcz143_1 : w141.cell? ⟨gb136, 1, none⟩ = some (.string a2_1) := (blk_cell BK136.out 1).trans rfl; have hcz143_2 : w141.cell? ⟨gb136, 2, none⟩ = some (.int .i64 a2_2) := (blk_cell BK136.out 2).trans rfl; have hfz143_0 := blk_frozen BK136.out 0; have hfz143_1 := blk_frozen BK136.out 1; have hfz143_2 := blk_frozen BK136.out 2) | ((with_reducible refine gate_callee (f := 9) rfl ?_); refine goesL_ (some 104) rfl rfl Tryd.func9 (by kernel_rfl) rfl #[.agg #[.bool a0_0, .string a0_1, .int .i64 a0_2], .agg #[.bool a2_0, .string a2_1, .int .i64 a2_2]] rfl (by (try simp only [List.map_toArray, List.map_cons, List.map_nil]); first | done | rfl | (simp only [List.length_drop, List.length_take]; rfl)) ?_; (with_reducible refine (scan_Cmp.calls kj11 a0_0 a0_1 a0_2 a2_0 a2_1 a2_2 t148 t149 _ A117.out).mono ?_); rintro e w144 ⟨rfl, hb⟩; refine ⟨_, rfl, ?_⟩; have n0_ := Aside0.mk (blk_below (g := gb134) (o := .cells #[.bool a0_0, .string a0_1, .int .i64 a0_2] 23 (0, 0)) (by (with_reducible repeat (first | refine blk_drewN ?_ _ | refine blk_drew ?_ | refine blk_alloc ?_ _)); exact BK134.out) hb); have n1_ := Aside0.mk (blk_below (g := gb135) (o := .cells #[.bool a1_0, .string a1_1, .int .i64 a1_2] 23 (0, 0)) (by (with_reducible repeat (first | refine blk_drewN ?_ _ | refine blk_drew ?_ | refine blk_alloc ?_ _)); exact BK135.out) hb); have n2_ := Aside0.mk (blk_below (g := gb136) (o := .cells #[.bool a2_0, .string a2_1, .int .i64 a2_2] 23 (0, 0)) (by (with_reducible repeat (first | refine blk_drewN ?_ _ | refine blk_drew ?_ | refine blk_alloc ?_ _)); exact BK136.out) hb); have n3_ := Aside0.mk (below_step (by repeat (first | (with_reducible first | exact HB.out | apply below_alloc | apply pw_below_drewN | apply below_drew1 | refine below_set ?_ GE134.out | refine below_set ?_ GE135.out | refine below_set ?_ GE136.out) | exact HB.out)) hb); clear BK134; clear BK135; clear BK136; clear HB; have BK134 := n0_; have BK135 := n1_; have BK136 := n2_; have HB := n3_; clear n0_ n1_ n2_ n3_; (try clear hb); (try clear hb2); (try clear hk); (try clear hi)))
         have n0_ := Aside0.mk (blk_drew BK134.out)
         have n1_ := Aside0.mk (blk_drew BK135.out)
         have n2_ := Aside0.mk (blk_drew BK136.out)
         have n3_ := Aside0.mk (below_drew1 HB.out)
         clear BK134
         clear BK135
         clear BK136
         clear HB
         have BK134 := n0_
         have BK135 := n1_
         have BK136 := n2_
         have HB := n3_
         clear n0_ n1_ n2_ n3_
         refine start_ (n := 10) (S := fun w' => w'.cell? ⟨gb134, 0, none⟩ = some (.bool a0_0) ∧ w'.cell? ⟨gb134, 1, none⟩ = some (.string a0_1) ∧ w'.cell? ⟨gb134, 2, none⟩ = some (.int .i64 a0_2) ∧ w'.cell? ⟨gb135, 0, none⟩ = some (.bool a1_0) ∧ w'.cell? ⟨gb135, 1, none⟩ = some (.string a1_1) ∧ w'.cell? ⟨gb135, 2, none⟩ = some (.int .i64 a1_2)) (ds := []) #[false, false, false, false, false, false, false, false, false, false] (by kernel_rfl) rfl rfl ⟨(blk_cell BK134.out 0).trans rfl, (blk_cell BK134.out 1).trans rfl, (blk_cell BK134.out 2).trans rfl, (blk_cell BK135.out 0).trans rfl, (blk_cell BK135.out 1).trans rfl, (blk_cell BK135.out 2).trans rfl⟩ (fun hHeld => ?_); refine with_tabW scOrd.tab11 scOrd.bits11 (fun HT_ HW_ => ?_)
         generalize w144.drew = w145 at BK134 BK135 BK136 HB hHeld ⊢
         refine take_ (i := 0) (N := some 108) (v := ?_) (a' := ?_) #[true, false, false, false, false, false, false, false, false, false] rfl rfl (take_ofW HT_.out HW_.out (by kernel_rfl)) (fun _ _ _ h => h) (Or.inl ⟨by rfl, ?_⟩) hHeld ?_ ?_
         rotate_left
         ·rintro w' ⟨s0, s1, s2, s3, s4, s5⟩
          go_simp
          with_reducible rfl
         rotate_left
         ·simp only [Act.put, List.setIfInBounds_toArray, List.set_cons_zero, List.set_cons_succ, i64_w, i32_w]
          rfl
         refine take_ (i := 2) (N := some 110) (v := ?_) (a' := ?_) #[true, false, true, false, false, false, false, false, false, false] rfl rfl (take_ofW HT_.out HW_.out (by kernel_rfl)) (fun _ _ _ h => h) (Or.inl ⟨by rfl, ?_⟩) hHeld ?_ ?_
         rotate_left
         ·rintro w' ⟨s0, s1, s2, s3, s4, s5⟩
          go_simp
          with_reducible rfl
         rotate_left
         ·simp only [Act.put, List.setIfInBounds_toArray, List.set_cons_zero, List.set_cons_succ, i64_w, i32_w]
          rfl
         refine one_ (i := 1) (N := some 109) #[true, true, true, false, false, false, false, false, false, false] rfl rfl (one_of HT_.out (by kernel_rfl)) (by decide) (fun K hK => ?_)
         refine goes_ Tryd.func11 (by kernel_rfl) rfl #[.agg #[.bool a0_0, .string a0_1, .int .i64 a0_2], .int .i64 288230376151711744] (by rfl) rfl rfl (by (try simp only [List.map_toArray, List.map_cons, List.map_nil]); first | done | rfl | (simp only [List.length_drop, List.length_take]; rfl)) ?_
         with_reducible refine (abacuslaw08_moved.calls a0_0 a0_1 a0_2 288230376151711744 t150 t151 t152 _ A118.out).mono ?_
         rintro e w146 ⟨rfl, hb⟩
         refine ⟨_, rfl, ?_⟩
         have n0_ := Aside0.mk (blk_below (g := gb134) (o := .cells #[.bool a0_0, .string a0_1, .int .i64 a0_2] 23 (0, 0)) (by (with_reducible repeat (first | refine blk_drewN ?_ _ | refine blk_drew ?_ | refine blk_alloc ?_ _)); exact BK134.out) hb)
         have n1_ := Aside0.mk (blk_below (g := gb135) (o := .cells #[.bool a1_0, .string a1_1, .int .i64 a1_2] 23 (0, 0)) (by (with_reducible repeat (first | refine blk_drewN ?_ _ | refine blk_drew ?_ | refine blk_alloc ?_ _)); exact BK135.out) hb)
         have n2_ := Aside0.mk (blk_below (g := gb136) (o := .cells #[.bool a2_0, .string a2_1, .int .i64 a2_2] 23 (0, 0)) (by (with_reducible repeat (first | refine blk_drewN ?_ _ | refine blk_drew ?_ | refine blk_alloc ?_ _)); exact BK136.out) hb)
         have n3_ := Aside0.mk (below_step (by repeat (first | (with_reducible first | exact HB.out | apply below_alloc | apply pw_below_drewN | apply below_drew1 | refine below_set ?_ GE134.out | refine below_set ?_ GE135.out | refine below_set ?_ GE136.out) | exact HB.out)) hb)
         clear BK134
         clear BK135
         clear BK136
         clear HB
         have BK134 := n0_
         have BK135 := n1_
         have BK136 := n2_
         have HB := n3_
         clear n0_ n1_ n2_ n3_
         (try clear hb)
         (try clear hb2)
         (try clear hk)
         (try clear hi)
         refine hK.out _ _ ⟨(blk_cell BK134.out 0).trans rfl, (blk_cell BK134.out 1).trans rfl, (blk_cell BK134.out 2).trans rfl, (blk_cell BK135.out 0).trans rfl, (blk_cell BK135.out 1).trans rfl, (blk_cell BK135.out 2).trans rfl⟩ (fun hHeld => ?_)
         clear hK K
         refine norm_ (a' := ?_) ?_ ?_
         rotate_left
         ·show Act.put _ (some 109) _ = _
          simp only [Act.put, List.setIfInBounds_toArray, List.set_cons_zero, List.set_cons_succ, i64_w, i32_w]
          rfl
         refine one_ (i := 3) (N := some 111) #[true, true, true, true, false, false, false, false, false, false] rfl rfl (one_of HT_.out (by kernel_rfl)) (by decide) (fun K hK => ?_)
         refine goes_ Tryd.func11 (by kernel_rfl) rfl #[.agg #[.bool a1_0, .string a1_1, .int .i64 a1_2], .int .i64 288230376151711744] (by rfl) rfl rfl (by (try simp only [List.map_toArray, List.map_cons, List.map_nil]); first | done | rfl | (simp only [List.length_drop, List.length_take]; rfl)) ?_
         with_reducible refine (abacuslaw08_moved.calls a1_0 a1_1 a1_2 288230376151711744 t153 t154 t155 _ A119.out).mono ?_
         rintro e w147 ⟨rfl, hb⟩
         refine ⟨_, rfl, ?_⟩
         have n0_ := Aside0.mk (blk_below (g := gb134) (o := .cells #[.bool a0_0, .string a0_1, .int .i64 a0_2] 23 (0, 0)) (by (with_reducible repeat (first | refine blk_drewN ?_ _ | refine blk_drew ?_ | refine blk_alloc ?_ _)); exact BK134.out) hb)
         have n1_ := Aside0.mk (blk_below (g := gb135) (o := .cells #[.bool a1_0, .string a1_1, .int .i64 a1_2] 23 (0, 0)) (by (with_reducible repeat (first | refine blk_drewN ?_ _ | refine blk_drew ?_ | refine blk_alloc ?_ _)); exact BK135.out) hb)
         have n2_ := Aside0.mk (blk_below (g := gb136) (o := .cells #[.bool a2_0, .string a2_1, .int .i64 a2_2] 23 (0, 0)) (by (with_reducible repeat (first | refine blk_drewN ?_ _ | refine blk_drew ?_ | refine blk_alloc ?_ _)); exact BK136.out) hb)
         have n3_ := Aside0.mk (below_step (by repeat (first | (with_reducible first | exact HB.out | apply below_alloc | apply pw_below_drewN | apply below_drew1 | refine below_set ?_ GE134.out | refine below_set ?_ GE135.out | refine below_set ?_ GE136.out) | exact HB.out)) hb)
         clear BK134
         clear BK135
         clear BK136
         clear HB
         have BK134 := n0_
         have BK135 := n1_
         have BK136 := n2_
         have HB := n3_
         clear n0_ n1_ n2_ n3_
         (try clear hb)
         (try clear hb2)
         (try clear hk)
         (try clear hi)
         refine hK.out _ _ ⟨(blk_cell BK134.out 0).trans rfl, (blk_cell BK134.out 1).trans rfl, (blk_cell BK134.out 2).trans rfl, (blk_cell BK135.out 0).trans rfl, (blk_cell BK135.out 1).trans rfl, (blk_cell BK135.out 2).trans rfl⟩ (fun hHeld => ?_)
         clear hK K
         refine norm_ (a' := ?_) ?_ ?_
         rotate_left
         ·show Act.put _ (some 111) _ = _
          simp only [Act.put, List.setIfInBounds_toArray, List.set_cons_zero, List.set_cons_succ, i64_w, i32_w]
          rfl
         refine one_ (i := 4) (N := some 112) #[true, true, true, true, true, false, false, false, false, false] rfl rfl (one_of HT_.out (by kernel_rfl)) (by decide) (fun K hK => ?_)
         refine goes_ Tryd.func9 (by kernel_rfl) rfl #[.agg #[.bool t150, .string t151, .int .i64 t152], .agg #[.bool t153, .string t154, .int .i64 t155]] (by rfl) rfl rfl (by (try simp only [List.map_toArray, List.map_cons, List.map_nil]); first | done | rfl | (simp only [List.length_drop, List.length_take]; rfl)) ?_
         with_reducible refine (scan_Cmp.calls kj11 t150 t151 t152 t153 t154 t155 t156 t157 _ A120.out).mono ?_
         rintro e w148 ⟨rfl, hb⟩
         refine ⟨_, rfl, ?_⟩
         have n0_ := Aside0.mk (blk_below (g := gb134) (o := .cells #[.bool a0_0, .string a0_1, .int .i64 a0_2] 23 (0, 0)) (by (with_reducible repeat (first | refine blk_drewN ?_ _ | refine blk_drew ?_ | refine blk_alloc ?_ _)); exact BK134.out) hb)
         have n1_ := Aside0.mk (blk_below (g := gb135) (o := .cells #[.bool a1_0, .string a1_1, .int .i64 a1_2] 23 (0, 0)) (by (with_reducible repeat (first | refine blk_drewN ?_ _ | refine blk_drew ?_ | refine blk_alloc ?_ _)); exact BK135.out) hb)
         have n2_ := Aside0.mk (blk_below (g := gb136) (o := .cells #[.bool a2_0, .string a2_1, .int .i64 a2_2] 23 (0, 0)) (by (with_reducible repeat (first | refine blk_drewN ?_ _ | refine blk_drew ?_ | refine blk_alloc ?_ _)); exact BK136.out) hb)
         have n3_ := Aside0.mk (below_step (by repeat (first | (with_reducible first | exact HB.out | apply below_alloc | apply pw_below_drewN | apply below_drew1 | refine below_set ?_ GE134.out | refine below_set ?_ GE135.out | refine below_set ?_ GE136.out) | exact HB.out)) hb)
         clear BK134
         clear BK135
         clear BK136
         clear HB
         have BK134 := n0_
         have BK135 := n1_
         have BK136 := n2_
         have HB := n3_
         clear n0_ n1_ n2_ n3_
         (try clear hb)
         (try clear hb2)
         (try clear hk)
         (try clear hi)
         refine hK.out _ _ ⟨(blk_cell BK134.out 0).trans rfl, (blk_cell BK134.out 1).trans rfl, (blk_cell BK134.out 2).trans rfl, (blk_cell BK135.out 0).trans rfl, (blk_cell BK135.out 1).trans rfl, (blk_cell BK135.out 2).trans rfl⟩ (fun hHeld => ?_)
         clear hK K
         refine norm_ (a' := ?_) ?_ ?_
         rotate_left
         ·show Act.put _ (some 112) _ = _
          simp only [Act.put, List.setIfInBounds_toArray, List.set_cons_zero, List.set_cons_succ, i64_w, i32_w]
          rfl
         refine pure_ (i := 5) (N := some 107) (v := ?_) (a' := ?_) #[true, true, true, true, true, true, false, false, false, false] rfl rfl (any_of HT_.out (by kernel_rfl)) (fun _ _ _ h => h) (Or.inl ⟨by rfl, ?_⟩) ?_ ?_
         rotate_left
         ·intro w'
          go_simp
          with_reducible rfl
         rotate_left
         ·simp only [Act.put, List.setIfInBounds_toArray, List.set_cons_zero, List.set_cons_succ, i64_w, i32_w]
          rfl
         refine pure_ (i := 6) (N := some 113) (v := ?_) (a' := ?_) #[true, true, true, true, true, true, true, false, false, false] rfl rfl (any_of HT_.out (by kernel_rfl)) (fun _ _ _ h => h) (Or.inl ⟨by rfl, ?_⟩) ?_ ?_
         rotate_left
         ·intro w'
          go_simp
          with_reducible rfl
         rotate_left
         ·simp only [Act.put, List.setIfInBounds_toArray, List.set_cons_zero, List.set_cons_succ, i64_w, i32_w]
          rfl
         refine pure_ (i := 7) (N := some 114) (v := ?_) (a' := ?_) #[true, true, true, true, true, true, true, true, false, false] rfl rfl (any_of HT_.out (by kernel_rfl)) (fun _ _ _ h => h) (Or.inl ⟨by rfl, ?_⟩) ?_ ?_
         rotate_left
         ·intro w'
          go_simp
          with_reducible rfl
         rotate_left
         ·simp only [Act.put, List.setIfInBounds_toArray, List.set_cons_zero, List.set_cons_succ, i64_w, i32_w]
          rfl
         refine pure_ (i := 8) (N := some 18) (v := ?_) (a' := ?_) #[true, true, true, true, true, true, true, true, true, false] rfl rfl (any_of HT_.out (by kernel_rfl)) (fun _ _ _ h => h) (Or.inl ⟨by rfl, ?_⟩) ?_ ?_
         rotate_left
         ·intro w'
          go_simp
          with_reducible rfl
         rotate_left
         ·simp only [Act.put, List.setIfInBounds_toArray, List.set_cons_zero, List.set_cons_succ, i64_w, i32_w]
          rfl
         refine pure_ (i := 9) (N := some 19) (v := ?_) (a' := ?_) #[true, true, true, true, true, true, true, true, true, true] rfl rfl (any_of HT_.out (by kernel_rfl)) (fun _ _ _ h => h) (Or.inl ⟨by rfl, ?_⟩) ?_ ?_
         rotate_left
         ·intro w'
          go_simp
          with_reducible rfl
         rotate_left
         ·simp only [Act.put, List.setIfInBounds_toArray, List.set_cons_zero, List.set_cons_succ, i64_w, i32_w]
          rfl
         refine done_ (done_of HT_.out (by kernel_rfl)) ?_
         try go_wp2
         have n0_ := Aside0.mk (blk_drew BK134.out)
         have n1_ := Aside0.mk (blk_drew BK135.out)
         have n2_ := Aside0.mk (blk_drew BK136.out)
         have n3_ := Aside0.mk (below_drew1 HB.out)
         clear BK134
         clear BK135
         clear BK136
         clear HB
         have BK134 := n0_
         have BK135 := n1_
         have BK136 := n2_
         have HB := n3_
         clear n0_ n1_ n2_ n3_
         refine start_ (n := 10) (S := fun w' => w'.cell? ⟨gb134, 0, none⟩ = some (.bool a0_0) ∧ w'.cell? ⟨gb134, 1, none⟩ = some (.string a0_1) ∧ w'.cell? ⟨gb134, 2, none⟩ = some (.int .i64 a0_2) ∧ w'.cell? ⟨gb135, 0, none⟩ = some (.bool a1_0) ∧ w'.cell? ⟨gb135, 1, none⟩ = some (.string a1_1) ∧ w'.cell? ⟨gb135, 2, none⟩ = some (.int .i64 a1_2)) (ds := []) #[false, false, false, false, false, false, false, false, false, false] (by kernel_rfl) rfl rfl ⟨(blk_cell BK134.out 0).trans rfl, (blk_cell BK134.out 1).trans rfl, (blk_cell BK134.out 2).trans rfl, (blk_cell BK135.out 0).trans rfl, (blk_cell BK135.out 1).trans rfl, (blk_cell BK135.out 2).trans rfl⟩ (fun hHeld => ?_); refine with_tabW scOrd.tab12 scOrd.bits12 (fun HT_ HW_ => ?_)
         generalize w148.drew = w149 at BK134 BK135 BK136 HB hHeld ⊢
         refine take_ (i := 0) (N := some 116) (v := ?_) (a' := ?_) #[true, false, false, false, false, false, false, false, false, false] rfl rfl (take_ofW HT_.out HW_.out (by kernel_rfl)) (fun _ _ _ h => h) (Or.inl ⟨by rfl, ?_⟩) hHeld ?_ ?_
         rotate_left
         ·rintro w' ⟨s0, s1, s2, s3, s4, s5⟩
          go_simp
          with_reducible rfl
         rotate_left
         ·simp only [Act.put, List.setIfInBounds_toArray, List.set_cons_zero, List.set_cons_succ, i64_w, i32_w]
          rfl
         refine take_ (i := 2) (N := some 118) (v := ?_) (a' := ?_) #[true, false, true, false, false, false, false, false, false, false] rfl rfl (take_ofW HT_.out HW_.out (by kernel_rfl)) (fun _ _ _ h => h) (Or.inl ⟨by rfl, ?_⟩) hHeld ?_ ?_
         rotate_left
         ·rintro w' ⟨s0, s1, s2, s3, s4, s5⟩
          go_simp
          with_reducible rfl
         rotate_left
         ·simp only [Act.put, List.setIfInBounds_toArray, List.set_cons_zero, List.set_cons_succ, i64_w, i32_w]
          rfl
         refine one_ (i := 1) (N := some 117) #[true, true, true, false, false, false, false, false, false, false] rfl rfl (one_of HT_.out (by kernel_rfl)) (by decide) (fun K hK => ?_)
         refine goes_ Tryd.func12 (by kernel_rfl) rfl #[.agg #[.bool a0_0, .string a0_1, .int .i64 a0_2]] (by rfl) rfl rfl (by (try simp only [List.map_toArray, List.map_cons, List.map_nil]); first | done | rfl | (simp only [List.length_drop, List.length_take]; rfl)) ?_
         with_reducible refine (abacuslaw08_turned.calls a0_0 a0_1 a0_2 t158 t159 t160 _ A121.out).mono ?_
         rintro e w150 ⟨rfl, hb⟩
         refine ⟨_, rfl, ?_⟩
         have n0_ := Aside0.mk (blk_below (g := gb134) (o := .cells #[.bool a0_0, .string a0_1, .int .i64 a0_2] 23 (0, 0)) (by (with_reducible repeat (first | refine blk_drewN ?_ _ | refine blk_drew ?_ | refine blk_alloc ?_ _)); exact BK134.out) hb)
         have n1_ := Aside0.mk (blk_below (g := gb135) (o := .cells #[.bool a1_0, .string a1_1, .int .i64 a1_2] 23 (0, 0)) (by (with_reducible repeat (first | refine blk_drewN ?_ _ | refine blk_drew ?_ | refine blk_alloc ?_ _)); exact BK135.out) hb)
         have n2_ := Aside0.mk (blk_below (g := gb136) (o := .cells #[.bool a2_0, .string a2_1, .int .i64 a2_2] 23 (0, 0)) (by (with_reducible repeat (first | refine blk_drewN ?_ _ | refine blk_drew ?_ | refine blk_alloc ?_ _)); exact BK136.out) hb)
         have n3_ := Aside0.mk (below_step (by repeat (first | (with_reducible first | exact HB.out | apply below_alloc | apply pw_below_drewN | apply below_drew1 | refine below_set ?_ GE134.out | refine below_set ?_ GE135.out | refine below_set ?_ GE136.out) | exact HB.out)) hb)
         clear BK134
         clear BK135
         clear BK136
         clear HB
         have BK134 := n0_
         have BK135 := n1_
         have BK136 := n2_
         have HB := n3_
         clear n0_ n1_ n2_ n3_
         (try clear hb)
         (try clear hb2)
         (try clear hk)
         (try clear hi)
         refine hK.out _ _ ⟨(blk_cell BK134.out 0).trans rfl, (blk_cell BK134.out 1).trans rfl, (blk_cell BK134.out 2).trans rfl, (blk_cell BK135.out 0).trans rfl, (blk_cell BK135.out 1).trans rfl, (blk_cell BK135.out 2).trans rfl⟩ (fun hHeld => ?_)
         clear hK K
         refine norm_ (a' := ?_) ?_ ?_
         rotate_left
         ·show Act.put _ (some 117) _ = _
          simp only [Act.put, List.setIfInBounds_toArray, List.set_cons_zero, List.set_cons_succ, i64_w, i32_w]
          rfl
         refine one_ (i := 3) (N := some 119) #[true, true, true, true, false, false, false, false, false, false] rfl rfl (one_of HT_.out (by kernel_rfl)) (by decide) (fun K hK => ?_)
         refine goes_ Tryd.func12 (by kernel_rfl) rfl #[.agg #[.bool a1_0, .string a1_1, .int .i64 a1_2]] (by rfl) rfl rfl (by (try simp only [List.map_toArray, List.map_cons, List.map_nil]); first | done | rfl | (simp only [List.length_drop, List.length_take]; rfl)) ?_
         with_reducible refine (abacuslaw08_turned.calls a1_0 a1_1 a1_2 t161 t162 t163 _ A122.out).mono ?_
         rintro e w151 ⟨rfl, hb⟩
         refine ⟨_, rfl, ?_⟩
         have n0_ := Aside0.mk (blk_below (g := gb134) (o := .cells #[.bool a0_0, .string a0_1, .int .i64 a0_2] 23 (0, 0)) (by (with_reducible repeat (first | refine blk_drewN ?_ _ | refine blk_drew ?_ | refine blk_alloc ?_ _)); exact BK134.out) hb)
         have n1_ := Aside0.mk (blk_below (g := gb135) (o := .cells #[.bool a1_0, .string a1_1, .int .i64 a1_2] 23 (0, 0)) (by (with_reducible repeat (first | refine blk_drewN ?_ _ | refine blk_drew ?_ | refine blk_alloc ?_ _)); exact BK135.out) hb)
         have n2_ := Aside0.mk (blk_below (g := gb136) (o := .cells #[.bool a2_0, .string a2_1, .int .i64 a2_2] 23 (0, 0)) (by (with_reducible repeat (first | refine blk_drewN ?_ _ | refine blk_drew ?_ | refine blk_alloc ?_ _)); exact BK136.out) hb)
         have n3_ := Aside0.mk (below_step (by repeat (first | (with_reducible first | exact HB.out | apply below_alloc | apply pw_below_drewN | apply below_drew1 | refine below_set ?_ GE134.out | refine below_set ?_ GE135.out | refine below_set ?_ GE136.out) | exact HB.out)) hb)
         clear BK134
         clear BK135
         clear BK136
         clear HB
         have BK134 := n0_
         have BK135 := n1_
         have BK136 := n2_
         have HB := n3_
         clear n0_ n1_ n2_ n3_
         (try clear hb)
         (try clear hb2)
         (try clear hk)
         (try clear hi)
         refine hK.out _ _ ⟨(blk_cell BK134.out 0).trans rfl, (blk_cell BK134.out 1).trans rfl, (blk_cell BK134.out 2).trans rfl, (blk_cell BK135.out 0).trans rfl, (blk_cell BK135.out 1).trans rfl, (blk_cell BK135.out 2).trans rfl⟩ (fun hHeld => ?_)
         clear hK K
         refine norm_ (a' := ?_) ?_ ?_
         rotate_left
         ·show Act.put _ (some 119) _ = _
          simp only [Act.put, List.setIfInBounds_toArray, List.set_cons_zero, List.set_cons_succ, i64_w, i32_w]
          rfl
         refine one_ (i := 4) (N := some 120) #[true, true, true, true, true, false, false, false, false, false] rfl rfl (one_of HT_.out (by kernel_rfl)) (by decide) (fun K hK => ?_)
         refine goes_ Tryd.func9 (by kernel_rfl) rfl #[.agg #[.bool t158, .string t159, .int .i64 t160], .agg #[.bool t161, .string t162, .int .i64 t163]] (by rfl) rfl rfl (by (try simp only [List.map_toArray, List.map_cons, List.map_nil]); first | done | rfl | (simp only [List.length_drop, List.length_take]; rfl)) ?_
         with_reducible refine (scan_Cmp.calls kj11 t158 t159 t160 t161 t162 t163 t164 t165 _ A123.out).mono ?_
         rintro e w152 ⟨rfl, hb⟩
         refine ⟨_, rfl, ?_⟩
         have n0_ := Aside0.mk (blk_below (g := gb134) (o := .cells #[.bool a0_0, .string a0_1, .int .i64 a0_2] 23 (0, 0)) (by (with_reducible repeat (first | refine blk_drewN ?_ _ | refine blk_drew ?_ | refine blk_alloc ?_ _)); exact BK134.out) hb)
         have n1_ := Aside0.mk (blk_below (g := gb135) (o := .cells #[.bool a1_0, .string a1_1, .int .i64 a1_2] 23 (0, 0)) (by (with_reducible repeat (first | refine blk_drewN ?_ _ | refine blk_drew ?_ | refine blk_alloc ?_ _)); exact BK135.out) hb)
         have n2_ := Aside0.mk (blk_below (g := gb136) (o := .cells #[.bool a2_0, .string a2_1, .int .i64 a2_2] 23 (0, 0)) (by (with_reducible repeat (first | refine blk_drewN ?_ _ | refine blk_drew ?_ | refine blk_alloc ?_ _)); exact BK136.out) hb)
         have n3_ := Aside0.mk (below_step (by repeat (first | (with_reducible first | exact HB.out | apply below_alloc | apply pw_below_drewN | apply below_drew1 | refine below_set ?_ GE134.out | refine below_set ?_ GE135.out | refine below_set ?_ GE136.out) | exact HB.out)) hb)
         clear BK134
         clear BK135
         clear BK136
         clear HB
         have BK134 := n0_
         have BK135 := n1_
         have BK136 := n2_
         have HB := n3_
         clear n0_ n1_ n2_ n3_
         (try clear hb)
         (try clear hb2)
         (try clear hk)
         (try clear hi)
         refine hK.out _ _ ⟨(blk_cell BK134.out 0).trans rfl, (blk_cell BK134.out 1).trans rfl, (blk_cell BK134.out 2).trans rfl, (blk_cell BK135.out 0).trans rfl, (blk_cell BK135.out 1).trans rfl, (blk_cell BK135.out 2).trans rfl⟩ (fun hHeld => ?_)
         clear hK K
         refine norm_ (a' := ?_) ?_ ?_
         rotate_left
         ·show Act.put _ (some 120) _ = _
          simp only [Act.put, List.setIfInBounds_toArray, List.set_cons_zero, List.set_cons_succ, i64_w, i32_w]
          rfl
         refine pure_ (i := 5) (N := some 115) (v := ?_) (a' := ?_) #[true, true, true, true, true, true, false, false, false, false] rfl rfl (any_of HT_.out (by kernel_rfl)) (fun _ _ _ h => h) (Or.inl ⟨by rfl, ?_⟩) ?_ ?_
         rotate_left
         ·intro w'
          go_simp
          with_reducible rfl
         rotate_left
         ·simp only [Act.put, List.setIfInBounds_toArray, List.set_cons_zero, List.set_cons_succ, i64_w, i32_w]
          rfl
         refine pure_ (i := 6) (N := some 121) (v := ?_) (a' := ?_) #[true, true, true, true, true, true, true, false, false, false] rfl rfl (any_of HT_.out (by kernel_rfl)) (fun _ _ _ h => h) (Or.inl ⟨by rfl, ?_⟩) ?_ ?_
         rotate_left
         ·intro w'
          go_simp
          with_reducible rfl
         rotate_left
         ·simp only [Act.put, List.setIfInBounds_toArray, List.set_cons_zero, List.set_cons_succ, i64_w, i32_w]
          rfl
         refine pure_ (i := 7) (N := some 122) (v := ?_) (a' := ?_) #[true, true, true, true, true, true, true, true, false, false] rfl rfl (any_of HT_.out (by kernel_rfl)) (fun _ _ _ h => h) (Or.inl ⟨by rfl, ?_⟩) ?_ ?_
         rotate_left
         ·intro w'
          go_simp
          with_reducible rfl
         rotate_left
         ·simp only [Act.put, List.setIfInBounds_toArray, List.set_cons_zero, List.set_cons_succ, i64_w, i32_w]
          rfl
         refine pure_ (i := 8) (N := some 20) (v := ?_) (a' := ?_) #[true, true, true, true, true, true, true, true, true, false] rfl rfl (any_of HT_.out (by kernel_rfl)) (fun _ _ _ h => h) (Or.inl ⟨by rfl, ?_⟩) ?_ ?_
         rotate_left
         ·intro w'
          go_simp
          with_reducible rfl
         rotate_left
         ·simp only [Act.put, List.setIfInBounds_toArray, List.set_cons_zero, List.set_cons_succ, i64_w, i32_w]
          rfl
         refine pure_ (i := 9) (N := some 21) (v := ?_) (a' := ?_) #[true, true, true, true, true, true, true, true, true, true] rfl rfl (any_of HT_.out (by kernel_rfl)) (fun _ _ _ h => h) (Or.inl ⟨by rfl, ?_⟩) ?_ ?_
         rotate_left
         ·intro w'
          go_simp
          with_reducible rfl
         rotate_left
         ·simp only [Act.put, List.setIfInBounds_toArray, List.set_cons_zero, List.set_cons_succ, i64_w, i32_w]
          rfl
         refine done_ (done_of HT_.out (by kernel_rfl)) ?_
         have hcz153_0 : w152.cell? ⟨gb134, 0, none⟩ = some (.bool a0_0) := (blk_cell BK134.out 0).trans rfl
         have hcz153_1 : w152.cell? ⟨gb134, 1, none⟩ = some (.string a0_1) := (blk_cell BK134.out 1).trans rfl
         have hcz153_2 : w152.cell? ⟨gb134, 2, none⟩ = some (.int .i64 a0_2) := (blk_cell BK134.out 2).trans rfl
         have hfz153_0 := blk_frozen BK134.out 0
         have hfz153_1 := blk_frozen BK134.out 1
         have hfz153_2 := blk_frozen BK134.out 2
         have hcz154_0 : w152.cell? ⟨gb135, 0, none⟩ = some (.bool a1_0) := (blk_cell BK135.out 0).trans rfl
         have hcz154_1 : w152.cell? ⟨gb135, 1, none⟩ = some (.string a1_1) := (blk_cell BK135.out 1).trans rfl
         have hcz154_2 : w152.cell? ⟨gb135, 2, none⟩ = some (.int .i64 a1_2) := (blk_cell BK135.out 2).trans rfl
         have hfz154_0 := blk_frozen BK135.out 0
         have hfz154_1 := blk_frozen BK135.out 1
         have hfz154_2 := blk_frozen BK135.out 2
         go_upto_region 16 with (first | ((with_reducible refine gate_callee (f := 9) rfl ?_); refine goesL_ (some 135) rfl rfl Tryd.func9 (by kernel_rfl) rfl #[.agg #[.bool a0_0, .string (((⟨#[48, 48]⟩ : ByteArray) ++ a0_1) ++ (⟨#[48, 48, 48]⟩ : ByteArray)), .int .i64 (wrap64 (a0_2 - 3))], .agg #[.bool a1_0, .string a1_1, .int .i64 a1_2]] rfl (by (try simp only [List.map_toArray, List.map_cons, List.map_nil]); first | done | rfl | (simp only [List.length_drop, List.length_take]; rfl)) ?_; (with_reducible refine (scan_Cmp.calls kj11 a0_0 (((⟨#[48, 48]⟩ : ByteArray) ++ a0_1) ++ (⟨#[48, 48, 48]⟩ : ByteArray)) (wrap64 (a0_2 - 3)) a1_0 a1_1 a1_2 t166 t167 _ A126.out).mono ?_); rintro e w155 ⟨rfl, hb⟩; refine ⟨_, rfl, ?_⟩; have n0_ := Aside0.mk (blk_below (g := gb134) (o := .cells #[.bool a0_0, .string a0_1, .int .i64 a0_2] 23 (0, 0)) (by (with_reducible repeat (first | refine blk_drewN ?_ _ | refine blk_drew ?_ | refine blk_alloc ?_ _)); exact BK134.out) hb); have n1_ := Aside0.mk (blk_below (g := gb135) (o := .cells #[.bool a1_0, .string a1_1, .int .i64 a1_2] 23 (0, 0)) (by (with_reducible repeat (first | refine blk_drewN ?_ _ | refine blk_drew ?_ | refine blk_alloc ?_ _)); exact BK135.out) hb); have n2_ := Aside0.mk (blk_below (g := gb136) (o := .cells #[.bool a2_0, .string a2_1, .int .i64 a2_2] 23 (0, 0)) (by (with_reducible repeat (first | refine blk_drewN ?_ _ | refine blk_drew ?_ | refine blk_alloc ?_ _)); exact BK136.out) hb); have n3_ := Aside0.mk (below_step (by repeat (first | (with_reducible first | exact HB.out | apply below_alloc | apply pw_below_drewN | apply below_drew1 | refine below_set ?_ GE134.out | refine below_set ?_ GE135.out | refine below_set ?_ GE136.out) | exact HB.out)) hb); clear BK134; clear BK135; clear BK136; clear HB; have BK134 := n0_; have BK135 := n1_; have BK136 := n2_; have HB := n3_; clear n0_ n1_ n2_ n3_; (try clear hb); (try clear hb2); (try clear hk); (try clear hi); have hcz156_0 : w155.cell? ⟨gb134, 0, none⟩ = some (.bool a0_0) := (blk_cell BK134.out 0).trans rfl; have hcz156_1 : w155.cell? ⟨gb134, 1, none⟩ = some (.string a0_1) := (blk_cell BK134.out 1).trans rfl; have hcz156_2 : w155.cell? ⟨gb134, 2, none⟩ = some (.int .i64 a0_2) := (blk_cell BK134.out 2).trans rfl; have hfz156_0 := blk_frozen BK134.out 0; have hfz156_1 := blk_frozen BK134.out 1; have hfz156_2 := blk_frozen BK134.out 2) | ((with_reducible refine gate_callee (f := 13) rfl ?_); refine goesL_ (some 140) rfl rfl Tryd.func13 (by kernel_rfl) rfl #[.agg #[.bool a0_0, .string a0_1, .int .i64 a0_2]] rfl (by (try simp only [List.map_toArray, List.map_cons, List.map_nil]); first | done | rfl | (simp only [List.length_drop, List.length_take]; rfl)) ?_; (with_reducible refine (scan_Norm.calls kj11 a0_0 a0_1 a0_2 t168 t169 t170 t171 _ A127.out).mono ?_); rintro e w157 ⟨rfl, hb⟩; refine ⟨_, rfl, ?_⟩; have n0_ := Aside0.mk (blk_below (g := gb134) (o := .cells #[.bool a0_0, .string a0_1, .int .i64 a0_2] 23 (0, 0)) (by (with_reducible repeat (first | refine blk_drewN ?_ _ | refine blk_drew ?_ | refine blk_alloc ?_ _)); exact BK134.out) hb); have n1_ := Aside0.mk (blk_below (g := gb135) (o := .cells #[.bool a1_0, .string a1_1, .int .i64 a1_2] 23 (0, 0)) (by (with_reducible repeat (first | refine blk_drewN ?_ _ | refine blk_drew ?_ | refine blk_alloc ?_ _)); exact BK135.out) hb); have n2_ := Aside0.mk (blk_below (g := gb136) (o := .cells #[.bool a2_0, .string a2_1, .int .i64 a2_2] 23 (0, 0)) (by (with_reducible repeat (first | refine blk_drewN ?_ _ | refine blk_drew ?_ | refine blk_alloc ?_ _)); exact BK136.out) hb); have n3_ := Aside0.mk (below_step (by repeat (first | (with_reducible first | exact HB.out | apply below_alloc | apply pw_below_drewN | apply below_drew1 | refine below_set ?_ GE134.out | refine below_set ?_ GE135.out | refine below_set ?_ GE136.out) | exact HB.out)) hb); clear BK134; clear BK135; clear BK136; clear HB; have BK134 := n0_; have BK135 := n1_; have BK136 := n2_; have HB := n3_; clear n0_ n1_ n2_ n3_; (try clear hb); (try clear hb2); (try clear hk); (try clear hi)) | ((with_reducible refine gate_dst (N := 24) rfl ?_); refine box_event ?hg (N := 24) ?hd (cs := #[.bool false, .string (⟨#[]⟩ : ByteArray), .int .i64 0]) (t := 23) ?hr ?_; (case hd => rfl); (case hg => rfl); (case hr => first | (go_simp; done) | (go_simp; rfl)); intro gb172 hg w158 hbox hb; have n0_ := Aside0.mk (blk_below (g := gb134) (o := .cells #[.bool a0_0, .string a0_1, .int .i64 a0_2] 23 (0, 0)) (by (with_reducible repeat (first | refine blk_drewN ?_ _ | refine blk_drew ?_ | refine blk_alloc ?_ _)); exact BK134.out) hb); have n1_ := Aside0.mk (blk_below (g := gb135) (o := .cells #[.bool a1_0, .string a1_1, .int .i64 a1_2] 23 (0, 0)) (by (with_reducible repeat (first | refine blk_drewN ?_ _ | refine blk_drew ?_ | refine blk_alloc ?_ _)); exact BK135.out) hb); have n2_ := Aside0.mk (blk_below (g := gb136) (o := .cells #[.bool a2_0, .string a2_1, .int .i64 a2_2] 23 (0, 0)) (by (with_reducible repeat (first | refine blk_drewN ?_ _ | refine blk_drew ?_ | refine blk_alloc ?_ _)); exact BK136.out) hb); have n3_ := Aside0.mk (below_step (by repeat (first | (with_reducible first | exact HB.out | apply below_alloc | apply pw_below_drewN | apply below_drew1 | refine below_set ?_ GE134.out | refine below_set ?_ GE135.out | refine below_set ?_ GE136.out) | exact HB.out)) hb); have n4_ := Aside0.mk (hbox); have n5_ := Aside0.mk ((by rw [hg]; exact (below_size (by repeat (first | (with_reducible first | exact HB.out | apply below_alloc | apply pw_below_drewN | apply below_drew1 | refine below_set ?_ GE134.out | refine below_set ?_ GE135.out | refine below_set ?_ GE136.out) | exact HB.out))) : w.heap.size ≤ gb172)); have n6_ := Aside0.mk ((by rw [hg]; exact (below_size (by repeat (first | (with_reducible first | exact HB.out | apply below_alloc | apply pw_below_drewN | apply below_drew1 | refine below_set ?_ GE134.out | refine below_set ?_ GE135.out | refine below_set ?_ GE136.out) | exact HB.out))) : w.heap.size ≤ gb172)); have n7_ := Aside0.mk ((by rw [hg]; exact Nat.ne_of_lt (blk_lt (g := gb134) (o := .cells #[.bool a0_0, .string a0_1, .int .i64 a0_2] 23 (0, 0)) (by (with_reducible repeat (first | refine blk_drewN ?_ _ | refine blk_drew ?_ | refine blk_alloc ?_ _)); exact BK134.out)) : gb134 ≠ gb172)); have n8_ := Aside0.mk ((by rw [hg]; exact Nat.ne_of_gt (blk_lt (g := gb134) (o := .cells #[.bool a0_0, .string a0_1, .int .i64 a0_2] 23 (0, 0)) (by (with_reducible repeat (first | refine blk_drewN ?_ _ | refine blk_drew ?_ | refine blk_alloc ?_ _)); exact BK134.out)) : gb172 ≠ gb134)); have n9_ := Aside0.mk ((by rw [hg]; exact Nat.ne_of_lt (blk_lt (g := gb135) (o := .cells #[.bool a1_0, .string a1_1, .int .i64 a1_2] 23 (0, 0)) (by (with_reducible repeat (first | refine blk_drewN ?_ _ | refine blk_drew ?_ | refine blk_alloc ?_ _)); exact BK135.out)) : gb135 ≠ gb172)); have n10_ := Aside0.mk ((by rw [hg]; exact Nat.ne_of_gt (blk_lt (g := gb135) (o := .cells #[.bool a1_0, .string a1_1, .int .i64 a1_2] 23 (0, 0)) (by (with_reducible repeat (first | refine blk_drewN ?_ _ | refine blk_drew ?_ | refine blk_alloc ?_ _)); exact BK135.out)) : gb172 ≠ gb135)); have n11_ := Aside0.mk ((by rw [hg]; exact Nat.ne_of_lt (blk_lt (g := gb136) (o := .cells #[.bool a2_0, .string a2_1, .int .i64 a2_2] 23 (0, 0)) (by (with_reducible repeat (first | refine blk_drewN ?_ _ | refine blk_drew ?_ | refine blk_alloc ?_ _)); exact BK136.out)) : gb136 ≠ gb172)); have n12_ := Aside0.mk ((by rw [hg]; exact Nat.ne_of_gt (blk_lt (g := gb136) (o := .cells #[.bool a2_0, .string a2_1, .int .i64 a2_2] 23 (0, 0)) (by (with_reducible repeat (first | refine blk_drewN ?_ _ | refine blk_drew ?_ | refine blk_alloc ?_ _)); exact BK136.out)) : gb172 ≠ gb136)); clear BK134; clear BK135; clear BK136; clear HB; have BK134 := n0_; have BK135 := n1_; have BK136 := n2_; have HB := n3_; have BK172 := n4_; have GW172 := n5_; have GE172 := n6_; have NB134_172 := n7_; have NB172_134 := n8_; have NB135_172 := n9_; have NB172_135 := n10_; have NB136_172 := n11_; have NB172_136 := n12_; clear n0_ n1_ n2_ n3_ n4_ n5_ n6_ n7_ n8_ n9_ n10_ n11_ n12_; clear hb hbox hg; have hnb159 := NB172_134.out; have hnc159 := NB134_172.out; have hnb160 := NB172_135.out; have hnc160 := NB135_172.out; have hnb161 := NB172_136.out; have hnc161 := NB136_172.out; have hcz162_0 : w158.cell? ⟨gb172, 0, none⟩ = some (.bool false) := (blk_cell BK172.out 0).trans rfl; have hcz162_1 : w158.cell? ⟨gb172, 1, none⟩ = some (.string (⟨#[]⟩ : ByteArray)) := (blk_cell BK172.out 1).trans rfl; have hcz162_2 : w158.cell? ⟨gb172, 2, none⟩ = some (.int .i64 0) := (blk_cell BK172.out 2).trans rfl; have hfz162_0 := blk_frozen BK172.out 0; have hfz162_1 := blk_frozen BK172.out 1; have hfz162_2 := blk_frozen BK172.out 2; have hcz163_0 : w158.cell? ⟨gb135, 0, none⟩ = some (.bool a1_0) := (blk_cell BK135.out 0).trans rfl; have hcz163_1 : w158.cell? ⟨gb135, 1, none⟩ = some (.string a1_1) := (blk_cell BK135.out 1).trans rfl; have hcz163_2 : w158.cell? ⟨gb135, 2, none⟩ = some (.int .i64 a1_2) := (blk_cell BK135.out 2).trans rfl; have hfz163_0 := blk_frozen BK135.out 0; have hfz163_1 := blk_frozen BK135.out 1; have hfz163_2 := blk_frozen BK135.out 2) | ((with_reducible refine gate_callee (f := 13) rfl ?_); refine goesL_ (some 145) rfl rfl Tryd.func13 (by kernel_rfl) rfl #[.agg #[.bool a1_0, .string a1_1, .int .i64 a1_2]] rfl (by (try simp only [List.map_toArray, List.map_cons, List.map_nil]); first | done | rfl | (simp only [List.length_drop, List.length_take]; rfl)) ?_; (with_reducible refine (scan_Norm.calls kj11 a1_0 a1_1 a1_2 t173 t174 t175 t176 _ A128.out).mono ?_); rintro e w164 ⟨rfl, hb⟩; refine ⟨_, rfl, ?_⟩; have n0_ := Aside0.mk (blk_below (g := gb134) (o := .cells #[.bool a0_0, .string a0_1, .int .i64 a0_2] 23 (0, 0)) (by (with_reducible repeat (first | refine blk_drewN ?_ _ | refine blk_drew ?_ | refine blk_alloc ?_ _)); refine blk_far ?_ NB134_172.out _; (with_reducible repeat (first | refine blk_drewN ?_ _ | refine blk_drew ?_ | refine blk_alloc ?_ _)); refine blk_far ?_ NB134_172.out _; (with_reducible repeat (first | refine blk_drewN ?_ _ | refine blk_drew ?_ | refine blk_alloc ?_ _)); refine blk_far ?_ NB134_172.out _; (with_reducible repeat (first | refine blk_drewN ?_ _ | refine blk_drew ?_ | refine blk_alloc ?_ _)); exact BK134.out) hb); have n1_ := Aside0.mk (blk_below (g := gb135) (o := .cells #[.bool a1_0, .string a1_1, .int .i64 a1_2] 23 (0, 0)) (by (with_reducible repeat (first | refine blk_drewN ?_ _ | refine blk_drew ?_ | refine blk_alloc ?_ _)); refine blk_far ?_ NB135_172.out _; (with_reducible repeat (first | refine blk_drewN ?_ _ | refine blk_drew ?_ | refine blk_alloc ?_ _)); refine blk_far ?_ NB135_172.out _; (with_reducible repeat (first | refine blk_drewN ?_ _ | refine blk_drew ?_ | refine blk_alloc ?_ _)); refine blk_far ?_ NB135_172.out _; (with_reducible repeat (first | refine blk_drewN ?_ _ | refine blk_drew ?_ | refine blk_alloc ?_ _)); exact BK135.out) hb); have n2_ := Aside0.mk (blk_below (g := gb136) (o := .cells #[.bool a2_0, .string a2_1, .int .i64 a2_2] 23 (0, 0)) (by (with_reducible repeat (first | refine blk_drewN ?_ _ | refine blk_drew ?_ | refine blk_alloc ?_ _)); refine blk_far ?_ NB136_172.out _; (with_reducible repeat (first | refine blk_drewN ?_ _ | refine blk_drew ?_ | refine blk_alloc ?_ _)); refine blk_far ?_ NB136_172.out _; (with_reducible repeat (first | refine blk_drewN ?_ _ | refine blk_drew ?_ | refine blk_alloc ?_ _)); refine blk_far ?_ NB136_172.out _; (with_reducible repeat (first | refine blk_drewN ?_ _ | refine blk_drew ?_ | refine blk_alloc ?_ _)); exact BK136.out) hb); have n3_ := Aside0.mk (blk_below (g := gb172) (o := .cells #[.bool t168, .string t169, .int .i64 t170] 23 (0, 0)) (by (with_reducible repeat (first | refine blk_drewN ?_ _ | refine blk_drew ?_ | refine blk_alloc ?_ _)); refine blk_put (cs := #[.bool t168, .string t169, .int .i64 0]) ?_ 2 _ rfl; (with_reducible repeat (first | refine blk_drewN ?_ _ | refine blk_drew ?_ | refine blk_alloc ?_ _)); refine blk_put (cs := #[.bool t168, .string (⟨#[]⟩ : ByteArray), .int .i64 0]) ?_ 1 _ rfl; (with_reducible repeat (first | refine blk_drewN ?_ _ | refine blk_drew ?_ | refine blk_alloc ?_ _)); refine blk_put (cs := #[.bool false, .string (⟨#[]⟩ : ByteArray), .int .i64 0]) ?_ 0 _ rfl; (with_reducible repeat (first | refine blk_drewN ?_ _ | refine blk_drew ?_ | refine blk_alloc ?_ _)); exact BK172.out) hb); have n4_ := Aside0.mk (below_step (by repeat (first | (with_reducible first | exact HB.out | apply below_alloc | apply pw_below_drewN | apply below_drew1 | refine below_set ?_ GE134.out | refine below_set ?_ GE135.out | refine below_set ?_ GE136.out | refine below_set ?_ GE172.out) | exact HB.out)) hb); clear BK134; clear BK135; clear BK136; clear BK172; clear HB; have BK134 := n0_; have BK135 := n1_; have BK136 := n2_; have BK172 := n3_; have HB := n4_; clear n0_ n1_ n2_ n3_ n4_; (try clear hb); (try clear hb2); (try clear hk); (try clear hi)) | ((with_reducible refine gate_dst (N := 26) rfl ?_); refine box_event ?hg (N := 26) ?hd (cs := #[.bool false, .string (⟨#[]⟩ : ByteArray), .int .i64 0]) (t := 23) ?hr ?_; (case hd => rfl); (case hg => rfl); (case hr => first | (go_simp; done) | (go_simp; rfl)); intro gb177 hg w165 hbox hb; have n0_ := Aside0.mk (blk_below (g := gb134) (o := .cells #[.bool a0_0, .string a0_1, .int .i64 a0_2] 23 (0, 0)) (by (with_reducible repeat (first | refine blk_drewN ?_ _ | refine blk_drew ?_ | refine blk_alloc ?_ _)); exact BK134.out) hb); have n1_ := Aside0.mk (blk_below (g := gb135) (o := .cells #[.bool a1_0, .string a1_1, .int .i64 a1_2] 23 (0, 0)) (by (with_reducible repeat (first | refine blk_drewN ?_ _ | refine blk_drew ?_ | refine blk_alloc ?_ _)); exact BK135.out) hb); have n2_ := Aside0.mk (blk_below (g := gb136) (o := .cells #[.bool a2_0, .string a2_1, .int .i64 a2_2] 23 (0, 0)) (by (with_reducible repeat (first | refine blk_drewN ?_ _ | refine blk_drew ?_ | refine blk_alloc ?_ _)); exact BK136.out) hb); have n3_ := Aside0.mk (blk_below (g := gb172) (o := .cells #[.bool t168, .string t169, .int .i64 t170] 23 (0, 0)) (by (with_reducible repeat (first | refine blk_drewN ?_ _ | refine blk_drew ?_ | refine blk_alloc ?_ _)); exact BK172.out) hb); have n4_ := Aside0.mk (below_step (by repeat (first | (with_reducible first | exact HB.out | apply below_alloc | apply pw_below_drewN | apply below_drew1 | refine below_set ?_ GE134.out | refine below_set ?_ GE135.out | refine below_set ?_ GE136.out | refine below_set ?_ GE172.out) | exact HB.out)) hb); have n5_ := Aside0.mk (hbox); have n6_ := Aside0.mk ((by rw [hg]; exact (below_size (by repeat (first | (with_reducible first | exact HB.out | apply below_alloc | apply pw_below_drewN | apply below_drew1 | refine below_set ?_ GE134.out | refine below_set ?_ GE135.out | refine below_set ?_ GE136.out | refine below_set ?_ GE172.out) | exact HB.out))) : w.heap.size ≤ gb177)); have n7_ := Aside0.mk ((by rw [hg]; exact (below_size (by repeat (first | (with_reducible first | exact HB.out | apply below_alloc | apply pw_below_drewN | apply below_drew1 | refine below_set ?_ GE134.out | refine below_set ?_ GE135.out | refine below_set ?_ GE136.out | refine below_set ?_ GE172.out) | exact HB.out))) : w.heap.size ≤ gb177)); have n8_ := Aside0.mk ((by rw [hg]; exact Nat.ne_of_lt (blk_lt (g := gb134) (o := .cells #[.bool a0_0, .string a0_1, .int .i64 a0_2] 23 (0, 0)) (by (with_reducible repeat (first | refine blk_drewN ?_ _ | refine blk_drew ?_ | refine blk_alloc ?_ _)); exact BK134.out)) : gb134 ≠ gb177)); have n9_ := Aside0.mk ((by rw [hg]; exact Nat.ne_of_gt (blk_lt (g := gb134) (o := .cells #[.bool a0_0, .string a0_1, .int .i64 a0_2] 23 (0, 0)) (by (with_reducible repeat (first | refine blk_drewN ?_ _ | refine blk_drew ?_ | refine blk_alloc ?_ _)); exact BK134.out)) : gb177 ≠ gb134)); have n10_ := Aside0.mk ((by rw [hg]; exact Nat.ne_of_lt (blk_lt (g := gb135) (o := .cells #[.bool a1_0, .string a1_1, .int .i64 a1_2] 23 (0, 0)) (by (with_reducible repeat (first | refine blk_drewN ?_ _ | refine blk_drew ?_ | refine blk_alloc ?_ _)); exact BK135.out)) : gb135 ≠ gb177)); have n11_ := Aside0.mk ((by rw [hg]; exact Nat.ne_of_gt (blk_lt (g := gb135) (o := .cells #[.bool a1_0, .string a1_1, .int .i64 a1_2] 23 (0, 0)) (by (with_reducible repeat (first | refine blk_drewN ?_ _ | refine blk_drew ?_ | refine blk_alloc ?_ _)); exact BK135.out)) : gb177 ≠ gb135)); have n12_ := Aside0.mk ((by rw [hg]; exact Nat.ne_of_lt (blk_lt (g := gb136) (o := .cells #[.bool a2_0, .string a2_1, .int .i64 a2_2] 23 (0, 0)) (by (with_reducible repeat (first | refine blk_drewN ?_ _ | refine blk_drew ?_ | refine blk_alloc ?_ _)); exact BK136.out)) : gb136 ≠ gb177)); have n13_ := Aside0.mk ((by rw [hg]; exact Nat.ne_of_gt (blk_lt (g := gb136) (o := .cells #[.bool a2_0, .string a2_1, .int .i64 a2_2] 23 (0, 0)) (by (with_reducible repeat (first | refine blk_drewN ?_ _ | refine blk_drew ?_ | refine blk_alloc ?_ _)); exact BK136.out)) : gb177 ≠ gb136)); have n14_ := Aside0.mk ((by rw [hg]; exact Nat.ne_of_lt (blk_lt (g := gb172) (o := .cells #[.bool t168, .string t169, .int .i64 t170] 23 (0, 0)) (by (with_reducible repeat (first | refine blk_drewN ?_ _ | refine blk_drew ?_ | refine blk_alloc ?_ _)); exact BK172.out)) : gb172 ≠ gb177)); have n15_ := Aside0.mk ((by rw [hg]; exact Nat.ne_of_gt (blk_lt (g := gb172) (o := .cells #[.bool t168, .string t169, .int .i64 t170] 23 (0, 0)) (by (with_reducible repeat (first | refine blk_drewN ?_ _ | refine blk_drew ?_ | refine blk_alloc ?_ _)); exact BK172.out)) : gb177 ≠ gb172)); clear BK134; clear BK135; clear BK136; clear BK172; clear HB; have BK134 := n0_; have BK135 := n1_; have BK136 := n2_; have BK172 := n3_; have HB := n4_; have BK177 := n5_; have GW177 := n6_; have GE177 := n7_; have NB134_177 := n8_; have NB177_134 := n9_; have NB135_177 := n10_; have NB177_135 := n11_; have NB136_177 := n12_; have NB177_136 := n13_; have NB172_177 := n14_; have NB177_172 := n15_; clear n0_ n1_ n2_ n3_ n4_ n5_ n6_ n7_ n8_ n9_ n10_ n11_ n12_ n13_ n14_ n15_; clear hb hbox hg; have hnb166 := NB177_134.out; have hnc166 := NB134_177.out; have hnb167 := NB177_135.out; have hnc167 := NB135_177.out; have hnb168 := NB177_136.out; have hnc168 := NB136_177.out; have hnb169 := NB177_172.out; have hnc169 := NB172_177.out; have hcz170_0 : w165.cell? ⟨gb177, 0, none⟩ = some (.bool false) := (blk_cell BK177.out 0).trans rfl; have hcz170_1 : w165.cell? ⟨gb177, 1, none⟩ = some (.string (⟨#[]⟩ : ByteArray)) := (blk_cell BK177.out 1).trans rfl; have hcz170_2 : w165.cell? ⟨gb177, 2, none⟩ = some (.int .i64 0) := (blk_cell BK177.out 2).trans rfl; have hfz170_0 := blk_frozen BK177.out 0; have hfz170_1 := blk_frozen BK177.out 1; have hfz170_2 := blk_frozen BK177.out 2))
         (try simp only [Act.put, List.setIfInBounds_toArray, List.set_cons_zero, List.set_cons_succ])
         go_cut [181] (fun v181 wc => ∃ (kq : Nat) (x181_128 : Bool), v181 = .bool x181_128 ∧ Aside0 (scOrd.j2 kq t142 t144 t146 t148 t156 t164 t166 x181_128 t168 t169 t170 t173 t174 t175 = some true) ∧ Aside0 (kq ≤ kj11) ∧ Aside0 (wc.heap[gb134]? = some (.cells #[.bool a0_0, .string a0_1, .int .i64 a0_2] 23 (0, 0))) ∧ Aside0 (wc.heap[gb135]? = some (.cells #[.bool a1_0, .string a1_1, .int .i64 a1_2] 23 (0, 0))) ∧ Aside0 (wc.heap[gb136]? = some (.cells #[.bool a2_0, .string a2_1, .int .i64 a2_2] 23 (0, 0))) ∧ Aside0 (wc.heap[gb172]? = some (.cells #[.bool t168, .string t169, .int .i64 t170] 23 (0, 0))) ∧ Aside0 (wc.heap[gb177]? = some (.cells #[.bool t173, .string t174, .int .i64 t175] 23 (0, 0))) ∧ Aside0 (Below w.heap.size w wc))
         case first => as_aux_lemma =>
          have H := HC129.out
          clear HC129
          by_cases c171 : t143 = 0
          ·rw [if_pos c171] at H
           have c171b0 : (t143 == 0) = true := beq_iff_eq.mpr c171
           have c171b1 : (t143 != 0) = false := bne_eq_false_iff_eq.mpr c171
           clear c171
           (first | rw [c171b0] | (simp only [i64_w, i32_w]; rw [c171b0]) | skip)
           by_cases c172 : t145 = 0
           ·rw [if_pos c172] at H
            have c172b0 : (t145 == 0) = true := beq_iff_eq.mpr c172
            have c172b1 : (t145 != 0) = false := bne_eq_false_iff_eq.mpr c172
            clear c172
            by_cases c173 : t147 = 0
            ·rw [if_pos c173] at H
             have c173b0 : (t147 == 0) = true := beq_iff_eq.mpr c173
             have c173b1 : (t147 != 0) = false := bne_eq_false_iff_eq.mpr c173
             clear c173
             by_cases c174 : t149 = 0
             ·rw [if_pos c174] at H
              have c174b0 : (t149 == 0) = true := beq_iff_eq.mpr c174
              have c174b1 : (t149 != 0) = false := bne_eq_false_iff_eq.mpr c174
              clear c174
              by_cases c175 : t157 = 0
              ·rw [if_pos c175] at H
               have c175b0 : (t157 == 0) = true := beq_iff_eq.mpr c175
               have c175b1 : (t157 != 0) = false := bne_eq_false_iff_eq.mpr c175
               clear c175
               by_cases c176 : t165 = 0
               ·rw [if_pos c176] at H
                have c176b0 : (t165 == 0) = true := beq_iff_eq.mpr c176
                have c176b1 : (t165 != 0) = false := bne_eq_false_iff_eq.mpr c176
                clear c176
                by_cases c177 : t167 = 0
                ·rw [if_pos c177] at H
                 have c177b0 : (t167 == 0) = true := beq_iff_eq.mpr c177
                 have c177b1 : (t167 != 0) = false := bne_eq_false_iff_eq.mpr c177
                 clear c177
                 by_cases c178 : t171 = 0
                 ·rw [if_pos c178] at H
                  have c178b0 : (t171 == 0) = true := beq_iff_eq.mpr c178
                  have c178b1 : (t171 != 0) = false := bne_eq_false_iff_eq.mpr c178
                  clear c178
                  have H' := Aside0.mk H
                  clear H
                  go_wp2
                  go_meet
                  case rel => exact ⟨_, ((t176 != 0)), (by first | rfl | (simp; done) | (simp [*]; done)), H', ⟨by have := HJ4.out; have := HJ11.out; first | omega | exact Nat.le_refl _⟩, ⟨by (with_reducible repeat (first | refine blk_drewN ?_ _ | refine blk_drew ?_ | refine blk_alloc ?_ _)); refine blk_far ?_ NB134_177.out _; (with_reducible repeat (first | refine blk_drewN ?_ _ | refine blk_drew ?_ | refine blk_alloc ?_ _)); refine blk_far ?_ NB134_177.out _; (with_reducible repeat (first | refine blk_drewN ?_ _ | refine blk_drew ?_ | refine blk_alloc ?_ _)); refine blk_far ?_ NB134_177.out _; (with_reducible repeat (first | refine blk_drewN ?_ _ | refine blk_drew ?_ | refine blk_alloc ?_ _)); exact BK134.out⟩, ⟨by (with_reducible repeat (first | refine blk_drewN ?_ _ | refine blk_drew ?_ | refine blk_alloc ?_ _)); refine blk_far ?_ NB135_177.out _; (with_reducible repeat (first | refine blk_drewN ?_ _ | refine blk_drew ?_ | refine blk_alloc ?_ _)); refine blk_far ?_ NB135_177.out _; (with_reducible repeat (first | refine blk_drewN ?_ _ | refine blk_drew ?_ | refine blk_alloc ?_ _)); refine blk_far ?_ NB135_177.out _; (with_reducible repeat (first | refine blk_drewN ?_ _ | refine blk_drew ?_ | refine blk_alloc ?_ _)); exact BK135.out⟩, ⟨by (with_reducible repeat (first | refine blk_drewN ?_ _ | refine blk_drew ?_ | refine blk_alloc ?_ _)); refine blk_far ?_ NB136_177.out _; (with_reducible repeat (first | refine blk_drewN ?_ _ | refine blk_drew ?_ | refine blk_alloc ?_ _)); refine blk_far ?_ NB136_177.out _; (with_reducible repeat (first | refine blk_drewN ?_ _ | refine blk_drew ?_ | refine blk_alloc ?_ _)); refine blk_far ?_ NB136_177.out _; (with_reducible repeat (first | refine blk_drewN ?_ _ | refine blk_drew ?_ | refine blk_alloc ?_ _)); exact BK136.out⟩, ⟨by (with_reducible repeat (first | refine blk_drewN ?_ _ | refine blk_drew ?_ | refine blk_alloc ?_ _)); refine blk_far ?_ NB172_177.out _; (with_reducible repeat (first | refine blk_drewN ?_ _ | refine blk_drew ?_ | refine blk_alloc ?_ _)); refine blk_far ?_ NB172_177.out _; (with_reducible repeat (first | refine blk_drewN ?_ _ | refine blk_drew ?_ | refine blk_alloc ?_ _)); refine blk_far ?_ NB172_177.out _; (with_reducible repeat (first | refine blk_drewN ?_ _ | refine blk_drew ?_ | refine blk_alloc ?_ _)); exact BK172.out⟩, ⟨by (with_reducible repeat (first | refine blk_drewN ?_ _ | refine blk_drew ?_ | refine blk_alloc ?_ _)); refine blk_put (cs := #[.bool t173, .string t174, .int .i64 0]) ?_ 2 _ rfl; (with_reducible repeat (first | refine blk_drewN ?_ _ | refine blk_drew ?_ | refine blk_alloc ?_ _)); refine blk_put (cs := #[.bool t173, .string (⟨#[]⟩ : ByteArray), .int .i64 0]) ?_ 1 _ rfl; (with_reducible repeat (first | refine blk_drewN ?_ _ | refine blk_drew ?_ | refine blk_alloc ?_ _)); refine blk_put (cs := #[.bool false, .string (⟨#[]⟩ : ByteArray), .int .i64 0]) ?_ 0 _ rfl; (with_reducible repeat (first | refine blk_drewN ?_ _ | refine blk_drew ?_ | refine blk_alloc ?_ _)); exact BK177.out⟩, ⟨by repeat (first | (with_reducible first | exact HB.out | apply below_alloc | apply pw_below_drewN | apply below_drew1 | refine below_set ?_ GE134.out | refine below_set ?_ GE135.out | refine below_set ?_ GE136.out | refine below_set ?_ GE172.out | refine below_set ?_ GE177.out) | exact HB.out)⟩⟩
                 ·rw [if_neg c178] at H
                  have c178b0 : (t171 == 0) = false := beq_eq_false_iff_ne.mpr c178
                  have c178b1 : (t171 != 0) = true := bne_iff_ne.mpr c178
                  have H' := Aside0.mk H
                  clear H
                  go_wp2
                  go_meet
                  case rel => exact ⟨_, (true), (by first | rfl | (simp; done) | (simp [*]; done)), H', ⟨by have := HJ4.out; have := HJ11.out; first | omega | exact Nat.le_refl _⟩, ⟨by (with_reducible repeat (first | refine blk_drewN ?_ _ | refine blk_drew ?_ | refine blk_alloc ?_ _)); refine blk_far ?_ NB134_177.out _; (with_reducible repeat (first | refine blk_drewN ?_ _ | refine blk_drew ?_ | refine blk_alloc ?_ _)); refine blk_far ?_ NB134_177.out _; (with_reducible repeat (first | refine blk_drewN ?_ _ | refine blk_drew ?_ | refine blk_alloc ?_ _)); refine blk_far ?_ NB134_177.out _; (with_reducible repeat (first | refine blk_drewN ?_ _ | refine blk_drew ?_ | refine blk_alloc ?_ _)); exact BK134.out⟩, ⟨by (with_reducible repeat (first | refine blk_drewN ?_ _ | refine blk_drew ?_ | refine blk_alloc ?_ _)); refine blk_far ?_ NB135_177.out _; (with_reducible repeat (first | refine blk_drewN ?_ _ | refine blk_drew ?_ | refine blk_alloc ?_ _)); refine blk_far ?_ NB135_177.out _; (with_reducible repeat (first | refine blk_drewN ?_ _ | refine blk_drew ?_ | refine blk_alloc ?_ _)); refine blk_far ?_ NB135_177.out _; (with_reducible repeat (first | refine blk_drewN ?_ _ | refine blk_drew ?_ | refine blk_alloc ?_ _)); exact BK135.out⟩, ⟨by (with_reducible repeat (first | refine blk_drewN ?_ _ | refine blk_drew ?_ | refine blk_alloc ?_ _)); refine blk_far ?_ NB136_177.out _; (with_reducible repeat (first | refine blk_drewN ?_ _ | refine blk_drew ?_ | refine blk_alloc ?_ _)); refine blk_far ?_ NB136_177.out _; (with_reducible repeat (first | refine blk_drewN ?_ _ | refine blk_drew ?_ | refine blk_alloc ?_ _)); refine blk_far ?_ NB136_177.out _; (with_reducible repeat (first | refine blk_drewN ?_ _ | refine blk_drew ?_ | refine blk_alloc ?_ _)); exact BK136.out⟩, ⟨by (with_reducible repeat (first | refine blk_drewN ?_ _ | refine blk_drew ?_ | refine blk_alloc ?_ _)); refine blk_far ?_ NB172_177.out _; (with_reducible repeat (first | refine blk_drewN ?_ _ | refine blk_drew ?_ | refine blk_alloc ?_ _)); refine blk_far ?_ NB172_177.out _; (with_reducible repeat (first | refine blk_drewN ?_ _ | refine blk_drew ?_ | refine blk_alloc ?_ _)); refine blk_far ?_ NB172_177.out _; (with_reducible repeat (first | refine blk_drewN ?_ _ | refine blk_drew ?_ | refine blk_alloc ?_ _)); exact BK172.out⟩, ⟨by (with_reducible repeat (first | refine blk_drewN ?_ _ | refine blk_drew ?_ | refine blk_alloc ?_ _)); refine blk_put (cs := #[.bool t173, .string t174, .int .i64 0]) ?_ 2 _ rfl; (with_reducible repeat (first | refine blk_drewN ?_ _ | refine blk_drew ?_ | refine blk_alloc ?_ _)); refine blk_put (cs := #[.bool t173, .string (⟨#[]⟩ : ByteArray), .int .i64 0]) ?_ 1 _ rfl; (with_reducible repeat (first | refine blk_drewN ?_ _ | refine blk_drew ?_ | refine blk_alloc ?_ _)); refine blk_put (cs := #[.bool false, .string (⟨#[]⟩ : ByteArray), .int .i64 0]) ?_ 0 _ rfl; (with_reducible repeat (first | refine blk_drewN ?_ _ | refine blk_drew ?_ | refine blk_alloc ?_ _)); exact BK177.out⟩, ⟨by repeat (first | (with_reducible first | exact HB.out | apply below_alloc | apply pw_below_drewN | apply below_drew1 | refine below_set ?_ GE134.out | refine below_set ?_ GE135.out | refine below_set ?_ GE136.out | refine below_set ?_ GE172.out | refine below_set ?_ GE177.out) | exact HB.out)⟩⟩
                ·rw [if_neg c177] at H
                 have c177b0 : (t167 == 0) = false := beq_eq_false_iff_ne.mpr c177
                 have c177b1 : (t167 != 0) = true := bne_iff_ne.mpr c177
                 have H' := Aside0.mk H
                 clear H
                 go_wp2
                 go_meet
                 case rel => exact ⟨_, (true), (by first | rfl | (simp; done) | (simp [*]; done)), H', ⟨by have := HJ4.out; have := HJ11.out; first | omega | exact Nat.le_refl _⟩, ⟨by (with_reducible repeat (first | refine blk_drewN ?_ _ | refine blk_drew ?_ | refine blk_alloc ?_ _)); refine blk_far ?_ NB134_177.out _; (with_reducible repeat (first | refine blk_drewN ?_ _ | refine blk_drew ?_ | refine blk_alloc ?_ _)); refine blk_far ?_ NB134_177.out _; (with_reducible repeat (first | refine blk_drewN ?_ _ | refine blk_drew ?_ | refine blk_alloc ?_ _)); refine blk_far ?_ NB134_177.out _; (with_reducible repeat (first | refine blk_drewN ?_ _ | refine blk_drew ?_ | refine blk_alloc ?_ _)); exact BK134.out⟩, ⟨by (with_reducible repeat (first | refine blk_drewN ?_ _ | refine blk_drew ?_ | refine blk_alloc ?_ _)); refine blk_far ?_ NB135_177.out _; (with_reducible repeat (first | refine blk_drewN ?_ _ | refine blk_drew ?_ | refine blk_alloc ?_ _)); refine blk_far ?_ NB135_177.out _; (with_reducible repeat (first | refine blk_drewN ?_ _ | refine blk_drew ?_ | refine blk_alloc ?_ _)); refine blk_far ?_ NB135_177.out _; (with_reducible repeat (first | refine blk_drewN ?_ _ | refine blk_drew ?_ | refine blk_alloc ?_ _)); exact BK135.out⟩, ⟨by (with_reducible repeat (first | refine blk_drewN ?_ _ | refine blk_drew ?_ | refine blk_alloc ?_ _)); refine blk_far ?_ NB136_177.out _; (with_reducible repeat (first | refine blk_drewN ?_ _ | refine blk_drew ?_ | refine blk_alloc ?_ _)); refine blk_far ?_ NB136_177.out _; (with_reducible repeat (first | refine blk_drewN ?_ _ | refine blk_drew ?_ | refine blk_alloc ?_ _)); refine blk_far ?_ NB136_177.out _; (with_reducible repeat (first | refine blk_drewN ?_ _ | refine blk_drew ?_ | refine blk_alloc ?_ _)); exact BK136.out⟩, ⟨by (with_reducible repeat (first | refine blk_drewN ?_ _ | refine blk_drew ?_ | refine blk_alloc ?_ _)); refine blk_far ?_ NB172_177.out _; (with_reducible repeat (first | refine blk_drewN ?_ _ | refine blk_drew ?_ | refine blk_alloc ?_ _)); refine blk_far ?_ NB172_177.out _; (with_reducible repeat (first | refine blk_drewN ?_ _ | refine blk_drew ?_ | refine blk_alloc ?_ _)); refine blk_far ?_ NB172_177.out _; (with_reducible repeat (first | refine blk_drewN ?_ _ | refine blk_drew ?_ | refine blk_alloc ?_ _)); exact BK172.out⟩, ⟨by (with_reducible repeat (first | refine blk_drewN ?_ _ | refine blk_drew ?_ | refine blk_alloc ?_ _)); refine blk_put (cs := #[.bool t173, .string t174, .int .i64 0]) ?_ 2 _ rfl; (with_reducible repeat (first | refine blk_drewN ?_ _ | refine blk_drew ?_ | refine blk_alloc ?_ _)); refine blk_put (cs := #[.bool t173, .string (⟨#[]⟩ : ByteArray), .int .i64 0]) ?_ 1 _ rfl; (with_reducible repeat (first | refine blk_drewN ?_ _ | refine blk_drew ?_ | refine blk_alloc ?_ _)); refine blk_put (cs := #[.bool false, .string (⟨#[]⟩ : ByteArray), .int .i64 0]) ?_ 0 _ rfl; (with_reducible repeat (first | refine blk_drewN ?_ _ | refine blk_drew ?_ | refine blk_alloc ?_ _)); exact BK177.out⟩, ⟨by repeat (first | (with_reducible first | exact HB.out | apply below_alloc | apply pw_below_drewN | apply below_drew1 | refine below_set ?_ GE134.out | refine below_set ?_ GE135.out | refine below_set ?_ GE136.out | refine below_set ?_ GE172.out | refine below_set ?_ GE177.out) | exact HB.out)⟩⟩
               ·rw [if_neg c176] at H
                have c176b0 : (t165 == 0) = false := beq_eq_false_iff_ne.mpr c176
                have c176b1 : (t165 != 0) = true := bne_iff_ne.mpr c176
                have H' := Aside0.mk H
                clear H
                go_wp2
                go_meet
                case rel => exact ⟨_, (true), (by first | rfl | (simp; done) | (simp [*]; done)), H', ⟨by have := HJ4.out; have := HJ11.out; first | omega | exact Nat.le_refl _⟩, ⟨by (with_reducible repeat (first | refine blk_drewN ?_ _ | refine blk_drew ?_ | refine blk_alloc ?_ _)); refine blk_far ?_ NB134_177.out _; (with_reducible repeat (first | refine blk_drewN ?_ _ | refine blk_drew ?_ | refine blk_alloc ?_ _)); refine blk_far ?_ NB134_177.out _; (with_reducible repeat (first | refine blk_drewN ?_ _ | refine blk_drew ?_ | refine blk_alloc ?_ _)); refine blk_far ?_ NB134_177.out _; (with_reducible repeat (first | refine blk_drewN ?_ _ | refine blk_drew ?_ | refine blk_alloc ?_ _)); exact BK134.out⟩, ⟨by (with_reducible repeat (first | refine blk_drewN ?_ _ | refine blk_drew ?_ | refine blk_alloc ?_ _)); refine blk_far ?_ NB135_177.out _; (with_reducible repeat (first | refine blk_drewN ?_ _ | refine blk_drew ?_ | refine blk_alloc ?_ _)); refine blk_far ?_ NB135_177.out _; (with_reducible repeat (first | refine blk_drewN ?_ _ | refine blk_drew ?_ | refine blk_alloc ?_ _)); refine blk_far ?_ NB135_177.out _; (with_reducible repeat (first | refine blk_drewN ?_ _ | refine blk_drew ?_ | refine blk_alloc ?_ _)); exact BK135.out⟩, ⟨by (with_reducible repeat (first | refine blk_drewN ?_ _ | refine blk_drew ?_ | refine blk_alloc ?_ _)); refine blk_far ?_ NB136_177.out _; (with_reducible repeat (first | refine blk_drewN ?_ _ | refine blk_drew ?_ | refine blk_alloc ?_ _)); refine blk_far ?_ NB136_177.out _; (with_reducible repeat (first | refine blk_drewN ?_ _ | refine blk_drew ?_ | refine blk_alloc ?_ _)); refine blk_far ?_ NB136_177.out _; (with_reducible repeat (first | refine blk_drewN ?_ _ | refine blk_drew ?_ | refine blk_alloc ?_ _)); exact BK136.out⟩, ⟨by (with_reducible repeat (first | refine blk_drewN ?_ _ | refine blk_drew ?_ | refine blk_alloc ?_ _)); refine blk_far ?_ NB172_177.out _; (with_reducible repeat (first | refine blk_drewN ?_ _ | refine blk_drew ?_ | refine blk_alloc ?_ _)); refine blk_far ?_ NB172_177.out _; (with_reducible repeat (first | refine blk_drewN ?_ _ | refine blk_drew ?_ | refine blk_alloc ?_ _)); refine blk_far ?_ NB172_177.out _; (with_reducible repeat (first | refine blk_drewN ?_ _ | refine blk_drew ?_ | refine blk_alloc ?_ _)); exact BK172.out⟩, ⟨by (with_reducible repeat (first | refine blk_drewN ?_ _ | refine blk_drew ?_ | refine blk_alloc ?_ _)); refine blk_put (cs := #[.bool t173, .string t174, .int .i64 0]) ?_ 2 _ rfl; (with_reducible repeat (first | refine blk_drewN ?_ _ | refine blk_drew ?_ | refine blk_alloc ?_ _)); refine blk_put (cs := #[.bool t173, .string (⟨#[]⟩ : ByteArray), .int .i64 0]) ?_ 1 _ rfl; (with_reducible repeat (first | refine blk_drewN ?_ _ | refine blk_drew ?_ | refine blk_alloc ?_ _)); refine blk_put (cs := #[.bool false, .string (⟨#[]⟩ : ByteArray), .int .i64 0]) ?_ 0 _ rfl; (with_reducible repeat (first | refine blk_drewN ?_ _ | refine blk_drew ?_ | refine blk_alloc ?_ _)); exact BK177.out⟩, ⟨by repeat (first | (with_reducible first | exact HB.out | apply below_alloc | apply pw_below_drewN | apply below_drew1 | refine below_set ?_ GE134.out | refine below_set ?_ GE135.out | refine below_set ?_ GE136.out | refine below_set ?_ GE172.out | refine below_set ?_ GE177.out) | exact HB.out)⟩⟩
              ·rw [if_neg c175] at H
               have c175b0 : (t157 == 0) = false := beq_eq_false_iff_ne.mpr c175
               have c175b1 : (t157 != 0) = true := bne_iff_ne.mpr c175
               have H' := Aside0.mk H
               clear H
               go_wp2
               go_meet
               case rel => exact ⟨_, (true), (by first | rfl | (simp; done) | (simp [*]; done)), H', ⟨by have := HJ4.out; have := HJ11.out; first | omega | exact Nat.le_refl _⟩, ⟨by (with_reducible repeat (first | refine blk_drewN ?_ _ | refine blk_drew ?_ | refine blk_alloc ?_ _)); refine blk_far ?_ NB134_177.out _; (with_reducible repeat (first | refine blk_drewN ?_ _ | refine blk_drew ?_ | refine blk_alloc ?_ _)); refine blk_far ?_ NB134_177.out _; (with_reducible repeat (first | refine blk_drewN ?_ _ | refine blk_drew ?_ | refine blk_alloc ?_ _)); refine blk_far ?_ NB134_177.out _; (with_reducible repeat (first | refine blk_drewN ?_ _ | refine blk_drew ?_ | refine blk_alloc ?_ _)); exact BK134.out⟩, ⟨by (with_reducible repeat (first | refine blk_drewN ?_ _ | refine blk_drew ?_ | refine blk_alloc ?_ _)); refine blk_far ?_ NB135_177.out _; (with_reducible repeat (first | refine blk_drewN ?_ _ | refine blk_drew ?_ | refine blk_alloc ?_ _)); refine blk_far ?_ NB135_177.out _; (with_reducible repeat (first | refine blk_drewN ?_ _ | refine blk_drew ?_ | refine blk_alloc ?_ _)); refine blk_far ?_ NB135_177.out _; (with_reducible repeat (first | refine blk_drewN ?_ _ | refine blk_drew ?_ | refine blk_alloc ?_ _)); exact BK135.out⟩, ⟨by (with_reducible repeat (first | refine blk_drewN ?_ _ | refine blk_drew ?_ | refine blk_alloc ?_ _)); refine blk_far ?_ NB136_177.out _; (with_reducible repeat (first | refine blk_drewN ?_ _ | refine blk_drew ?_ | refine blk_alloc ?_ _)); refine blk_far ?_ NB136_177.out _; (with_reducible repeat (first | refine blk_drewN ?_ _ | refine blk_drew ?_ | refine blk_alloc ?_ _)); refine blk_far ?_ NB136_177.out _; (with_reducible repeat (first | refine blk_drewN ?_ _ | refine blk_drew ?_ | refine blk_alloc ?_ _)); exact BK136.out⟩, ⟨by (with_reducible repeat (first | refine blk_drewN ?_ _ | refine blk_drew ?_ | refine blk_alloc ?_ _)); refine blk_far ?_ NB172_177.out _; (with_reducible repeat (first | refine blk_drewN ?_ _ | refine blk_drew ?_ | refine blk_alloc ?_ _)); refine blk_far ?_ NB172_177.out _; (with_reducible repeat (first | refine blk_drewN ?_ _ | refine blk_drew ?_ | refine blk_alloc ?_ _)); refine blk_far ?_ NB172_177.out _; (with_reducible repeat (first | refine blk_drewN ?_ _ | refine blk_drew ?_ | refine blk_alloc ?_ _)); exact BK172.out⟩, ⟨by (with_reducible repeat (first | refine blk_drewN ?_ _ | refine blk_drew ?_ | refine blk_alloc ?_ _)); refine blk_put (cs := #[.bool t173, .string t174, .int .i64 0]) ?_ 2 _ rfl; (with_reducible repeat (first | refine blk_drewN ?_ _ | refine blk_drew ?_ | refine blk_alloc ?_ _)); refine blk_put (cs := #[.bool t173, .string (⟨#[]⟩ : ByteArray), .int .i64 0]) ?_ 1 _ rfl; (with_reducible repeat (first | refine blk_drewN ?_ _ | refine blk_drew ?_ | refine blk_alloc ?_ _)); refine blk_put (cs := #[.bool false, .string (⟨#[]⟩ : ByteArray), .int .i64 0]) ?_ 0 _ rfl; (with_reducible repeat (first | refine blk_drewN ?_ _ | refine blk_drew ?_ | refine blk_alloc ?_ _)); exact BK177.out⟩, ⟨by repeat (first | (with_reducible first | exact HB.out | apply below_alloc | apply pw_below_drewN | apply below_drew1 | refine below_set ?_ GE134.out | refine below_set ?_ GE135.out | refine below_set ?_ GE136.out | refine below_set ?_ GE172.out | refine below_set ?_ GE177.out) | exact HB.out)⟩⟩
             ·rw [if_neg c174] at H
              have c174b0 : (t149 == 0) = false := beq_eq_false_iff_ne.mpr c174
              have c174b1 : (t149 != 0) = true := bne_iff_ne.mpr c174
              have H' := Aside0.mk H
              clear H
              go_wp2
              go_meet
              case rel => exact ⟨_, (true), (by first | rfl | (simp; done) | (simp [*]; done)), H', ⟨by have := HJ4.out; have := HJ11.out; first | omega | exact Nat.le_refl _⟩, ⟨by (with_reducible repeat (first | refine blk_drewN ?_ _ | refine blk_drew ?_ | refine blk_alloc ?_ _)); refine blk_far ?_ NB134_177.out _; (with_reducible repeat (first | refine blk_drewN ?_ _ | refine blk_drew ?_ | refine blk_alloc ?_ _)); refine blk_far ?_ NB134_177.out _; (with_reducible repeat (first | refine blk_drewN ?_ _ | refine blk_drew ?_ | refine blk_alloc ?_ _)); refine blk_far ?_ NB134_177.out _; (with_reducible repeat (first | refine blk_drewN ?_ _ | refine blk_drew ?_ | refine blk_alloc ?_ _)); exact BK134.out⟩, ⟨by (with_reducible repeat (first | refine blk_drewN ?_ _ | refine blk_drew ?_ | refine blk_alloc ?_ _)); refine blk_far ?_ NB135_177.out _; (with_reducible repeat (first | refine blk_drewN ?_ _ | refine blk_drew ?_ | refine blk_alloc ?_ _)); refine blk_far ?_ NB135_177.out _; (with_reducible repeat (first | refine blk_drewN ?_ _ | refine blk_drew ?_ | refine blk_alloc ?_ _)); refine blk_far ?_ NB135_177.out _; (with_reducible repeat (first | refine blk_drewN ?_ _ | refine blk_drew ?_ | refine blk_alloc ?_ _)); exact BK135.out⟩, ⟨by (with_reducible repeat (first | refine blk_drewN ?_ _ | refine blk_drew ?_ | refine blk_alloc ?_ _)); refine blk_far ?_ NB136_177.out _; (with_reducible repeat (first | refine blk_drewN ?_ _ | refine blk_drew ?_ | refine blk_alloc ?_ _)); refine blk_far ?_ NB136_177.out _; (with_reducible repeat (first | refine blk_drewN ?_ _ | refine blk_drew ?_ | refine blk_alloc ?_ _)); refine blk_far ?_ NB136_177.out _; (with_reducible repeat (first | refine blk_drewN ?_ _ | refine blk_drew ?_ | refine blk_alloc ?_ _)); exact BK136.out⟩, ⟨by (with_reducible repeat (first | refine blk_drewN ?_ _ | refine blk_drew ?_ | refine blk_alloc ?_ _)); refine blk_far ?_ NB172_177.out _; (with_reducible repeat (first | refine blk_drewN ?_ _ | refine blk_drew ?_ | refine blk_alloc ?_ _)); refine blk_far ?_ NB172_177.out _; (with_reducible repeat (first | refine blk_drewN ?_ _ | refine blk_drew ?_ | refine blk_alloc ?_ _)); refine blk_far ?_ NB172_177.out _; (with_reducible repeat (first | refine blk_drewN ?_ _ | refine blk_drew ?_ | refine blk_alloc ?_ _)); exact BK172.out⟩, ⟨by (with_reducible repeat (first | refine blk_drewN ?_ _ | refine blk_drew ?_ | refine blk_alloc ?_ _)); refine blk_put (cs := #[.bool t173, .string t174, .int .i64 0]) ?_ 2 _ rfl; (with_reducible repeat (first | refine blk_drewN ?_ _ | refine blk_drew ?_ | refine blk_alloc ?_ _)); refine blk_put (cs := #[.bool t173, .string (⟨#[]⟩ : ByteArray), .int .i64 0]) ?_ 1 _ rfl; (with_reducible repeat (first | refine blk_drewN ?_ _ | refine blk_drew ?_ | refine blk_alloc ?_ _)); refine blk_put (cs := #[.bool false, .string (⟨#[]⟩ : ByteArray), .int .i64 0]) ?_ 0 _ rfl; (with_reducible repeat (first | refine blk_drewN ?_ _ | refine blk_drew ?_ | refine blk_alloc ?_ _)); exact BK177.out⟩, ⟨by repeat (first | (with_reducible first | exact HB.out | apply below_alloc | apply pw_below_drewN | apply below_drew1 | refine below_set ?_ GE134.out | refine below_set ?_ GE135.out | refine below_set ?_ GE136.out | refine below_set ?_ GE172.out | refine below_set ?_ GE177.out) | exact HB.out)⟩⟩
            ·rw [if_neg c173] at H
             have c173b0 : (t147 == 0) = false := beq_eq_false_iff_ne.mpr c173
             have c173b1 : (t147 != 0) = true := bne_iff_ne.mpr c173
             have H' := Aside0.mk H
             clear H
             go_wp2
             go_meet
             case rel => exact ⟨_, (true), (by first | rfl | (simp; done) | (simp [*]; done)), H', ⟨by have := HJ4.out; have := HJ11.out; first | omega | exact Nat.le_refl _⟩, ⟨by (with_reducible repeat (first | refine blk_drewN ?_ _ | refine blk_drew ?_ | refine blk_alloc ?_ _)); refine blk_far ?_ NB134_177.out _; (with_reducible repeat (first | refine blk_drewN ?_ _ | refine blk_drew ?_ | refine blk_alloc ?_ _)); refine blk_far ?_ NB134_177.out _; (with_reducible repeat (first | refine blk_drewN ?_ _ | refine blk_drew ?_ | refine blk_alloc ?_ _)); refine blk_far ?_ NB134_177.out _; (with_reducible repeat (first | refine blk_drewN ?_ _ | refine blk_drew ?_ | refine blk_alloc ?_ _)); exact BK134.out⟩, ⟨by (with_reducible repeat (first | refine blk_drewN ?_ _ | refine blk_drew ?_ | refine blk_alloc ?_ _)); refine blk_far ?_ NB135_177.out _; (with_reducible repeat (first | refine blk_drewN ?_ _ | refine blk_drew ?_ | refine blk_alloc ?_ _)); refine blk_far ?_ NB135_177.out _; (with_reducible repeat (first | refine blk_drewN ?_ _ | refine blk_drew ?_ | refine blk_alloc ?_ _)); refine blk_far ?_ NB135_177.out _; (with_reducible repeat (first | refine blk_drewN ?_ _ | refine blk_drew ?_ | refine blk_alloc ?_ _)); exact BK135.out⟩, ⟨by (with_reducible repeat (first | refine blk_drewN ?_ _ | refine blk_drew ?_ | refine blk_alloc ?_ _)); refine blk_far ?_ NB136_177.out _; (with_reducible repeat (first | refine blk_drewN ?_ _ | refine blk_drew ?_ | refine blk_alloc ?_ _)); refine blk_far ?_ NB136_177.out _; (with_reducible repeat (first | refine blk_drewN ?_ _ | refine blk_drew ?_ | refine blk_alloc ?_ _)); refine blk_far ?_ NB136_177.out _; (with_reducible repeat (first | refine blk_drewN ?_ _ | refine blk_drew ?_ | refine blk_alloc ?_ _)); exact BK136.out⟩, ⟨by (with_reducible repeat (first | refine blk_drewN ?_ _ | refine blk_drew ?_ | refine blk_alloc ?_ _)); refine blk_far ?_ NB172_177.out _; (with_reducible repeat (first | refine blk_drewN ?_ _ | refine blk_drew ?_ | refine blk_alloc ?_ _)); refine blk_far ?_ NB172_177.out _; (with_reducible repeat (first | refine blk_drewN ?_ _ | refine blk_drew ?_ | refine blk_alloc ?_ _)); refine blk_far ?_ NB172_177.out _; (with_reducible repeat (first | refine blk_drewN ?_ _ | refine blk_drew ?_ | refine blk_alloc ?_ _)); exact BK172.out⟩, ⟨by (with_reducible repeat (first | refine blk_drewN ?_ _ | refine blk_drew ?_ | refine blk_alloc ?_ _)); refine blk_put (cs := #[.bool t173, .string t174, .int .i64 0]) ?_ 2 _ rfl; (with_reducible repeat (first | refine blk_drewN ?_ _ | refine blk_drew ?_ | refine blk_alloc ?_ _)); refine blk_put (cs := #[.bool t173, .string (⟨#[]⟩ : ByteArray), .int .i64 0]) ?_ 1 _ rfl; (with_reducible repeat (first | refine blk_drewN ?_ _ | refine blk_drew ?_ | refine blk_alloc ?_ _)); refine blk_put (cs := #[.bool false, .string (⟨#[]⟩ : ByteArray), .int .i64 0]) ?_ 0 _ rfl; (with_reducible repeat (first | refine blk_drewN ?_ _ | refine blk_drew ?_ | refine blk_alloc ?_ _)); exact BK177.out⟩, ⟨by repeat (first | (with_reducible first | exact HB.out | apply below_alloc | apply pw_below_drewN | apply below_drew1 | refine below_set ?_ GE134.out | refine below_set ?_ GE135.out | refine below_set ?_ GE136.out | refine below_set ?_ GE172.out | refine below_set ?_ GE177.out) | exact HB.out)⟩⟩
           ·rw [if_neg c172] at H
            have c172b0 : (t145 == 0) = false := beq_eq_false_iff_ne.mpr c172
            have c172b1 : (t145 != 0) = true := bne_iff_ne.mpr c172
            have H' := Aside0.mk H
            clear H
            go_wp2
            go_meet
            case rel => exact ⟨_, (true), (by first | rfl | (simp; done) | (simp [*]; done)), H', ⟨by have := HJ4.out; have := HJ11.out; first | omega | exact Nat.le_refl _⟩, ⟨by (with_reducible repeat (first | refine blk_drewN ?_ _ | refine blk_drew ?_ | refine blk_alloc ?_ _)); refine blk_far ?_ NB134_177.out _; (with_reducible repeat (first | refine blk_drewN ?_ _ | refine blk_drew ?_ | refine blk_alloc ?_ _)); refine blk_far ?_ NB134_177.out _; (with_reducible repeat (first | refine blk_drewN ?_ _ | refine blk_drew ?_ | refine blk_alloc ?_ _)); refine blk_far ?_ NB134_177.out _; (with_reducible repeat (first | refine blk_drewN ?_ _ | refine blk_drew ?_ | refine blk_alloc ?_ _)); exact BK134.out⟩, ⟨by (with_reducible repeat (first | refine blk_drewN ?_ _ | refine blk_drew ?_ | refine blk_alloc ?_ _)); refine blk_far ?_ NB135_177.out _; (with_reducible repeat (first | refine blk_drewN ?_ _ | refine blk_drew ?_ | refine blk_alloc ?_ _)); refine blk_far ?_ NB135_177.out _; (with_reducible repeat (first | refine blk_drewN ?_ _ | refine blk_drew ?_ | refine blk_alloc ?_ _)); refine blk_far ?_ NB135_177.out _; (with_reducible repeat (first | refine blk_drewN ?_ _ | refine blk_drew ?_ | refine blk_alloc ?_ _)); exact BK135.out⟩, ⟨by (with_reducible repeat (first | refine blk_drewN ?_ _ | refine blk_drew ?_ | refine blk_alloc ?_ _)); refine blk_far ?_ NB136_177.out _; (with_reducible repeat (first | refine blk_drewN ?_ _ | refine blk_drew ?_ | refine blk_alloc ?_ _)); refine blk_far ?_ NB136_177.out _; (with_reducible repeat (first | refine blk_drewN ?_ _ | refine blk_drew ?_ | refine blk_alloc ?_ _)); refine blk_far ?_ NB136_177.out _; (with_reducible repeat (first | refine blk_drewN ?_ _ | refine blk_drew ?_ | refine blk_alloc ?_ _)); exact BK136.out⟩, ⟨by (with_reducible repeat (first | refine blk_drewN ?_ _ | refine blk_drew ?_ | refine blk_alloc ?_ _)); refine blk_far ?_ NB172_177.out _; (with_reducible repeat (first | refine blk_drewN ?_ _ | refine blk_drew ?_ | refine blk_alloc ?_ _)); refine blk_far ?_ NB172_177.out _; (with_reducible repeat (first | refine blk_drewN ?_ _ | refine blk_drew ?_ | refine blk_alloc ?_ _)); refine blk_far ?_ NB172_177.out _; (with_reducible repeat (first | refine blk_drewN ?_ _ | refine blk_drew ?_ | refine blk_alloc ?_ _)); exact BK172.out⟩, ⟨by (with_reducible repeat (first | refine blk_drewN ?_ _ | refine blk_drew ?_ | refine blk_alloc ?_ _)); refine blk_put (cs := #[.bool t173, .string t174, .int .i64 0]) ?_ 2 _ rfl; (with_reducible repeat (first | refine blk_drewN ?_ _ | refine blk_drew ?_ | refine blk_alloc ?_ _)); refine blk_put (cs := #[.bool t173, .string (⟨#[]⟩ : ByteArray), .int .i64 0]) ?_ 1 _ rfl; (with_reducible repeat (first | refine blk_drewN ?_ _ | refine blk_drew ?_ | refine blk_alloc ?_ _)); refine blk_put (cs := #[.bool false, .string (⟨#[]⟩ : ByteArray), .int .i64 0]) ?_ 0 _ rfl; (with_reducible repeat (first | refine blk_drewN ?_ _ | refine blk_drew ?_ | refine blk_alloc ?_ _)); exact BK177.out⟩, ⟨by repeat (first | (with_reducible first | exact HB.out | apply below_alloc | apply pw_below_drewN | apply below_drew1 | refine below_set ?_ GE134.out | refine below_set ?_ GE135.out | refine below_set ?_ GE136.out | refine below_set ?_ GE172.out | refine below_set ?_ GE177.out) | exact HB.out)⟩⟩
          ·rw [if_neg c171] at H
           have c171b0 : (t143 == 0) = false := beq_eq_false_iff_ne.mpr c171
           have c171b1 : (t143 != 0) = true := bne_iff_ne.mpr c171
           (first | rw [c171b0] | (simp only [i64_w, i32_w]; rw [c171b0]) | skip)
           have H' := Aside0.mk H
           clear H
           go_wp2
           go_meet
           case rel => exact ⟨_, (true), (by first | rfl | (simp; done) | (simp [*]; done)), H', ⟨by have := HJ4.out; have := HJ11.out; first | omega | exact Nat.le_refl _⟩, ⟨by (with_reducible repeat (first | refine blk_drewN ?_ _ | refine blk_drew ?_ | refine blk_alloc ?_ _)); refine blk_far ?_ NB134_177.out _; (with_reducible repeat (first | refine blk_drewN ?_ _ | refine blk_drew ?_ | refine blk_alloc ?_ _)); refine blk_far ?_ NB134_177.out _; (with_reducible repeat (first | refine blk_drewN ?_ _ | refine blk_drew ?_ | refine blk_alloc ?_ _)); refine blk_far ?_ NB134_177.out _; (with_reducible repeat (first | refine blk_drewN ?_ _ | refine blk_drew ?_ | refine blk_alloc ?_ _)); exact BK134.out⟩, ⟨by (with_reducible repeat (first | refine blk_drewN ?_ _ | refine blk_drew ?_ | refine blk_alloc ?_ _)); refine blk_far ?_ NB135_177.out _; (with_reducible repeat (first | refine blk_drewN ?_ _ | refine blk_drew ?_ | refine blk_alloc ?_ _)); refine blk_far ?_ NB135_177.out _; (with_reducible repeat (first | refine blk_drewN ?_ _ | refine blk_drew ?_ | refine blk_alloc ?_ _)); refine blk_far ?_ NB135_177.out _; (with_reducible repeat (first | refine blk_drewN ?_ _ | refine blk_drew ?_ | refine blk_alloc ?_ _)); exact BK135.out⟩, ⟨by (with_reducible repeat (first | refine blk_drewN ?_ _ | refine blk_drew ?_ | refine blk_alloc ?_ _)); refine blk_far ?_ NB136_177.out _; (with_reducible repeat (first | refine blk_drewN ?_ _ | refine blk_drew ?_ | refine blk_alloc ?_ _)); refine blk_far ?_ NB136_177.out _; (with_reducible repeat (first | refine blk_drewN ?_ _ | refine blk_drew ?_ | refine blk_alloc ?_ _)); refine blk_far ?_ NB136_177.out _; (with_reducible repeat (first | refine blk_drewN ?_ _ | refine blk_drew ?_ | refine blk_alloc ?_ _)); exact BK136.out⟩, ⟨by (with_reducible repeat (first | refine blk_drewN ?_ _ | refine blk_drew ?_ | refine blk_alloc ?_ _)); refine blk_far ?_ NB172_177.out _; (with_reducible repeat (first | refine blk_drewN ?_ _ | refine blk_drew ?_ | refine blk_alloc ?_ _)); refine blk_far ?_ NB172_177.out _; (with_reducible repeat (first | refine blk_drewN ?_ _ | refine blk_drew ?_ | refine blk_alloc ?_ _)); refine blk_far ?_ NB172_177.out _; (with_reducible repeat (first | refine blk_drewN ?_ _ | refine blk_drew ?_ | refine blk_alloc ?_ _)); exact BK172.out⟩, ⟨by (with_reducible repeat (first | refine blk_drewN ?_ _ | refine blk_drew ?_ | refine blk_alloc ?_ _)); refine blk_put (cs := #[.bool t173, .string t174, .int .i64 0]) ?_ 2 _ rfl; (with_reducible repeat (first | refine blk_drewN ?_ _ | refine blk_drew ?_ | refine blk_alloc ?_ _)); refine blk_put (cs := #[.bool t173, .string (⟨#[]⟩ : ByteArray), .int .i64 0]) ?_ 1 _ rfl; (with_reducible repeat (first | refine blk_drewN ?_ _ | refine blk_drew ?_ | refine blk_alloc ?_ _)); refine blk_put (cs := #[.bool false, .string (⟨#[]⟩ : ByteArray), .int .i64 0]) ?_ 0 _ rfl; (with_reducible repeat (first | refine blk_drewN ?_ _ | refine blk_drew ?_ | refine blk_alloc ?_ _)); exact BK177.out⟩, ⟨by repeat (first | (with_reducible first | exact HB.out | apply below_alloc | apply pw_below_drewN | apply below_drew1 | refine below_set ?_ GE134.out | refine below_set ?_ GE135.out | refine below_set ?_ GE136.out | refine below_set ?_ GE172.out | refine below_set ?_ GE177.out) | exact HB.out)⟩⟩
         case rest => as_aux_lemma =>
          clear HC129
          try clear c1
          try clear p2
          try clear p6
          try clear c9
          try clear c11
          try clear c12
          try clear c13
          try clear c15
          try clear c16
          try clear c17
          try clear p64
          try clear c113
          try clear c124
          try clear c124b0
          try clear c124b1
          try clear c124b2
          try clear c125
          try clear c125b0
          try clear c125b1
          try clear c125b2
          try clear c130
          try clear c131
          try clear c133
          try clear c159
          try clear c160
          try clear c161
          try clear c166
          try clear c167
          try clear c168
          try clear c169
          try clear c171
          try clear c171b0
          try clear c171b1
          try clear c172
          try clear c172b0
          try clear c172b1
          try clear c173
          try clear c173b0
          try clear c173b1
          try clear c174
          try clear c174b0
          try clear c174b1
          try clear c175
          try clear c175b0
          try clear c175b1
          try clear c176
          try clear c176b0
          try clear c176b1
          try clear c177
          try clear c177b0
          try clear c177b1
          try clear c178
          try clear c178b0
          try clear c178b1
          try clear hcz132_0
          try clear hcz132_1
          try clear hcz132_2
          try clear hcz134_0
          try clear hcz134_1
          try clear hcz134_2
          try clear hcz136_0
          try clear hcz136_1
          try clear hcz136_2
          try clear hcz137_0
          try clear hcz137_1
          try clear hcz137_2
          try clear hcz139_0
          try clear hcz139_1
          try clear hcz139_2
          try clear hcz140_0
          try clear hcz140_1
          try clear hcz140_2
          try clear hcz142_0
          try clear hcz142_1
          try clear hcz142_2
          try clear hcz143_0
          try clear hcz143_1
          try clear hcz143_2
          try clear hcz153_0
          try clear hcz153_1
          try clear hcz153_2
          try clear hcz154_0
          try clear hcz154_1
          try clear hcz154_2
          try clear hcz156_0
          try clear hcz156_1
          try clear hcz156_2
          try clear hcz162_0
          try clear hcz162_1
          try clear hcz162_2
          try clear hcz163_0
          try clear hcz163_1
          try clear hcz163_2
          try clear hcz170_0
          try clear hcz170_1
          try clear hcz170_2
          try clear hfz132_0
          try clear hfz132_1
          try clear hfz132_2
          try clear hfz134_0
          try clear hfz134_1
          try clear hfz134_2
          try clear hfz136_0
          try clear hfz136_1
          try clear hfz136_2
          try clear hfz137_0
          try clear hfz137_1
          try clear hfz137_2
          try clear hfz139_0
          try clear hfz139_1
          try clear hfz139_2
          try clear hfz140_0
          try clear hfz140_1
          try clear hfz140_2
          try clear hfz142_0
          try clear hfz142_1
          try clear hfz142_2
          try clear hfz143_0
          try clear hfz143_1
          try clear hfz143_2
          try clear hfz153_0
          try clear hfz153_1
          try clear hfz153_2
          try clear hfz154_0
          try clear hfz154_1
          try clear hfz154_2
          try clear hfz156_0
          try clear hfz156_1
          try clear hfz156_2
          try clear hfz162_0
          try clear hfz162_1
          try clear hfz162_2
          try clear hfz163_0
          try clear hfz163_1
          try clear hfz163_2
          try clear hfz170_0
          try clear hfz170_1
          try clear hfz170_2
          try clear hfz70_0
          try clear hfz70_1
          try clear hfz70_2
          try clear hfz71_0
          try clear hfz71_1
          try clear hfz71_2
          try clear hfz74_0
          try clear hfz74_1
          try clear hfz74_2
          try clear hfz77_0
          try clear hfz77_1
          try clear hfz77_2
          try clear hfz79_0
          try clear hfz79_1
          try clear hfz79_2
          try clear hfz81_0
          try clear hfz81_1
          try clear hfz81_2
          try clear hfz82_0
          try clear hfz82_1
          try clear hfz82_2
          try clear hfz85_0
          try clear hfz85_1
          try clear hfz85_2
          try clear hfz88_0
          try clear hfz88_1
          try clear hfz88_2
          try clear hfz90_0
          try clear hfz90_1
          try clear hfz90_2
          try clear hfz92_0
          try clear hfz92_1
          try clear hfz92_2
          try clear hfz95_0
          try clear hfz95_1
          try clear hfz95_2
          try clear hfz98_0
          try clear hfz98_1
          try clear hfz98_2
          try clear p2
          obtain ⟨kq, x181_128, rfl, HA, HJ128, BK134, BK135, BK136, BK172, BK177, HB⟩ := hcut
          cases kq with
          | zero => exact absurd HA.out (by simp [scOrd.j2])
          | succ kj128 =>
           have H := HA.out
           clear HA
           simp only [scOrd.j2] at H
           by_cases c179 : x181_128 = true
           ·subst c179
            have H1 : (some false) = some true := by rw [if_pos rfl] at H; exact H
            clear H
            have H := H1
            clear H1
            exact absurd H (by simp)
           ·replace c179 := Bool.eq_false_iff.mpr c179
            subst c179
            have H1 : (if t142 < (-1) then (scOrd.j3 kj128 t142 t146 t148 true t168 t169 t170 t173 t174 t175) else (if t142 > 1 then (scOrd.j3 kj128 t142 t146 t148 true t168 t169 t170 t173 t174 t175) else (if t144 = (wrap64 (-t142)) then (if t156 = t142 then (if t164 = (wrap64 (-t142)) then (scOrd.j3 kj128 t142 t146 t148 (t166 != t142) t168 t169 t170 t173 t174 t175) else (scOrd.j3 kj128 t142 t146 t148 true t168 t169 t170 t173 t174 t175)) else (scOrd.j3 kj128 t142 t146 t148 true t168 t169 t170 t173 t174 t175)) else (scOrd.j3 kj128 t142 t146 t148 true t168 t169 t170 t173 t174 t175)))) = some true := by rw [if_neg (show ¬ (false = true) by decide)] at H; exact H
            clear H
            have H := H1
            clear H1
            have HC180 := Aside0.mk H
            clear H
            go_upto_region 18 with (fail)
            go_cut [209] (fun v209 wc => ∃ (kq : Nat) (x209_179 : Bool), v209 = .bool x209_179 ∧ Aside0 (scOrd.j3 kq t142 t146 t148 x209_179 t168 t169 t170 t173 t174 t175 = some true) ∧ Aside0 (kq ≤ kj128) ∧ Aside0 (wc.heap[gb134]? = some (.cells #[.bool a0_0, .string a0_1, .int .i64 a0_2] 23 (0, 0))) ∧ Aside0 (wc.heap[gb135]? = some (.cells #[.bool a1_0, .string a1_1, .int .i64 a1_2] 23 (0, 0))) ∧ Aside0 (wc.heap[gb136]? = some (.cells #[.bool a2_0, .string a2_1, .int .i64 a2_2] 23 (0, 0))) ∧ Aside0 (wc.heap[gb172]? = some (.cells #[.bool t168, .string t169, .int .i64 t170] 23 (0, 0))) ∧ Aside0 (wc.heap[gb177]? = some (.cells #[.bool t173, .string t174, .int .i64 t175] 23 (0, 0))) ∧ Aside0 (Below w.heap.size w wc))
            case first => as_aux_lemma =>
             have H := HC180.out
             clear HC180
             by_cases c181 : t142 < (-1)
             ·rw [if_pos c181] at H
              have c181b0 : decide (t142 < (-1)) = true := decide_eq_true c181
              clear c181
              (first | rw [c181b0] | (simp only [i64_w, i32_w]; rw [c181b0]) | skip)
              have H' := Aside0.mk H
              clear H
              go_wp2
              go_meet
              case rel => exact ⟨_, (true), (by first | rfl | (simp; done) | (simp [*]; done)), H', ⟨by have := HJ4.out; have := HJ11.out; have := HJ128.out; first | omega | exact Nat.le_refl _⟩, ⟨by (with_reducible repeat (first | refine blk_drewN ?_ _ | refine blk_drew ?_ | refine blk_alloc ?_ _)); exact BK134.out⟩, ⟨by (with_reducible repeat (first | refine blk_drewN ?_ _ | refine blk_drew ?_ | refine blk_alloc ?_ _)); exact BK135.out⟩, ⟨by (with_reducible repeat (first | refine blk_drewN ?_ _ | refine blk_drew ?_ | refine blk_alloc ?_ _)); exact BK136.out⟩, ⟨by (with_reducible repeat (first | refine blk_drewN ?_ _ | refine blk_drew ?_ | refine blk_alloc ?_ _)); exact BK172.out⟩, ⟨by (with_reducible repeat (first | refine blk_drewN ?_ _ | refine blk_drew ?_ | refine blk_alloc ?_ _)); exact BK177.out⟩, ⟨by repeat (first | (with_reducible first | exact HB.out | apply below_alloc | apply pw_below_drewN | apply below_drew1 | refine below_set ?_ GE134.out | refine below_set ?_ GE135.out | refine below_set ?_ GE136.out | refine below_set ?_ GE172.out | refine below_set ?_ GE177.out) | exact HB.out)⟩⟩
             ·rw [if_neg c181] at H
              have c181b0 : decide (t142 < (-1)) = false := decide_eq_false c181
              clear c181
              (first | rw [c181b0] | (simp only [i64_w, i32_w]; rw [c181b0]) | skip)
              by_cases c182 : t142 > 1
              ·rw [if_pos c182] at H
               have c182b0 : decide (1 < t142) = true := decide_eq_true c182
               clear c182
               have H' := Aside0.mk H
               clear H
               go_wp2
               go_meet
               case rel => exact ⟨_, (true), (by first | rfl | (simp; done) | (simp [*]; done)), H', ⟨by have := HJ4.out; have := HJ11.out; have := HJ128.out; first | omega | exact Nat.le_refl _⟩, ⟨by (with_reducible repeat (first | refine blk_drewN ?_ _ | refine blk_drew ?_ | refine blk_alloc ?_ _)); exact BK134.out⟩, ⟨by (with_reducible repeat (first | refine blk_drewN ?_ _ | refine blk_drew ?_ | refine blk_alloc ?_ _)); exact BK135.out⟩, ⟨by (with_reducible repeat (first | refine blk_drewN ?_ _ | refine blk_drew ?_ | refine blk_alloc ?_ _)); exact BK136.out⟩, ⟨by (with_reducible repeat (first | refine blk_drewN ?_ _ | refine blk_drew ?_ | refine blk_alloc ?_ _)); exact BK172.out⟩, ⟨by (with_reducible repeat (first | refine blk_drewN ?_ _ | refine blk_drew ?_ | refine blk_alloc ?_ _)); exact BK177.out⟩, ⟨by repeat (first | (with_reducible first | exact HB.out | apply below_alloc | apply pw_below_drewN | apply below_drew1 | refine below_set ?_ GE134.out | refine below_set ?_ GE135.out | refine below_set ?_ GE136.out | refine below_set ?_ GE172.out | refine below_set ?_ GE177.out) | exact HB.out)⟩⟩
              ·rw [if_neg c182] at H
               have c182b0 : decide (1 < t142) = false := decide_eq_false c182
               clear c182
               by_cases c183 : t144 = (wrap64 (-t142))
               ·rw [if_pos c183] at H
                have c183b0 : (t144 == (wrap64 (-t142))) = true := beq_iff_eq.mpr c183
                have c183b1 : (t144 != (wrap64 (-t142))) = false := bne_eq_false_iff_eq.mpr c183
                clear c183
                by_cases c184 : t156 = t142
                ·rw [if_pos c184] at H
                 have c184b0 : (t156 == t142) = true := beq_iff_eq.mpr c184
                 have c184b1 : (t156 != t142) = false := bne_eq_false_iff_eq.mpr c184
                 clear c184
                 by_cases c185 : t164 = (wrap64 (-t142))
                 ·rw [if_pos c185] at H
                  have c185b0 : (t164 == (wrap64 (-t142))) = true := beq_iff_eq.mpr c185
                  have c185b1 : (t164 != (wrap64 (-t142))) = false := bne_eq_false_iff_eq.mpr c185
                  clear c185
                  have H' := Aside0.mk H
                  clear H
                  go_wp2
                  go_meet
                  case rel => exact ⟨_, ((t166 != t142)), (by first | rfl | (simp; done) | (simp [*]; done)), H', ⟨by have := HJ4.out; have := HJ11.out; have := HJ128.out; first | omega | exact Nat.le_refl _⟩, ⟨by (with_reducible repeat (first | refine blk_drewN ?_ _ | refine blk_drew ?_ | refine blk_alloc ?_ _)); exact BK134.out⟩, ⟨by (with_reducible repeat (first | refine blk_drewN ?_ _ | refine blk_drew ?_ | refine blk_alloc ?_ _)); exact BK135.out⟩, ⟨by (with_reducible repeat (first | refine blk_drewN ?_ _ | refine blk_drew ?_ | refine blk_alloc ?_ _)); exact BK136.out⟩, ⟨by (with_reducible repeat (first | refine blk_drewN ?_ _ | refine blk_drew ?_ | refine blk_alloc ?_ _)); exact BK172.out⟩, ⟨by (with_reducible repeat (first | refine blk_drewN ?_ _ | refine blk_drew ?_ | refine blk_alloc ?_ _)); exact BK177.out⟩, ⟨by repeat (first | (with_reducible first | exact HB.out | apply below_alloc | apply pw_below_drewN | apply below_drew1 | refine below_set ?_ GE134.out | refine below_set ?_ GE135.out | refine below_set ?_ GE136.out | refine below_set ?_ GE172.out | refine below_set ?_ GE177.out) | exact HB.out)⟩⟩
                 ·rw [if_neg c185] at H
                  have c185b0 : (t164 == (wrap64 (-t142))) = false := beq_eq_false_iff_ne.mpr c185
                  have c185b1 : (t164 != (wrap64 (-t142))) = true := bne_iff_ne.mpr c185
                  have H' := Aside0.mk H
                  clear H
                  go_wp2
                  go_meet
                  case rel => exact ⟨_, (true), (by first | rfl | (simp; done) | (simp [*]; done)), H', ⟨by have := HJ4.out; have := HJ11.out; have := HJ128.out; first | omega | exact Nat.le_refl _⟩, ⟨by (with_reducible repeat (first | refine blk_drewN ?_ _ | refine blk_drew ?_ | refine blk_alloc ?_ _)); exact BK134.out⟩, ⟨by (with_reducible repeat (first | refine blk_drewN ?_ _ | refine blk_drew ?_ | refine blk_alloc ?_ _)); exact BK135.out⟩, ⟨by (with_reducible repeat (first | refine blk_drewN ?_ _ | refine blk_drew ?_ | refine blk_alloc ?_ _)); exact BK136.out⟩, ⟨by (with_reducible repeat (first | refine blk_drewN ?_ _ | refine blk_drew ?_ | refine blk_alloc ?_ _)); exact BK172.out⟩, ⟨by (with_reducible repeat (first | refine blk_drewN ?_ _ | refine blk_drew ?_ | refine blk_alloc ?_ _)); exact BK177.out⟩, ⟨by repeat (first | (with_reducible first | exact HB.out | apply below_alloc | apply pw_below_drewN | apply below_drew1 | refine below_set ?_ GE134.out | refine below_set ?_ GE135.out | refine below_set ?_ GE136.out | refine below_set ?_ GE172.out | refine below_set ?_ GE177.out) | exact HB.out)⟩⟩
                ·rw [if_neg c184] at H
                 have c184b0 : (t156 == t142) = false := beq_eq_false_iff_ne.mpr c184
                 have c184b1 : (t156 != t142) = true := bne_iff_ne.mpr c184
                 have H' := Aside0.mk H
                 clear H
                 go_wp2
                 go_meet
                 case rel => exact ⟨_, (true), (by first | rfl | (simp; done) | (simp [*]; done)), H', ⟨by have := HJ4.out; have := HJ11.out; have := HJ128.out; first | omega | exact Nat.le_refl _⟩, ⟨by (with_reducible repeat (first | refine blk_drewN ?_ _ | refine blk_drew ?_ | refine blk_alloc ?_ _)); exact BK134.out⟩, ⟨by (with_reducible repeat (first | refine blk_drewN ?_ _ | refine blk_drew ?_ | refine blk_alloc ?_ _)); exact BK135.out⟩, ⟨by (with_reducible repeat (first | refine blk_drewN ?_ _ | refine blk_drew ?_ | refine blk_alloc ?_ _)); exact BK136.out⟩, ⟨by (with_reducible repeat (first | refine blk_drewN ?_ _ | refine blk_drew ?_ | refine blk_alloc ?_ _)); exact BK172.out⟩, ⟨by (with_reducible repeat (first | refine blk_drewN ?_ _ | refine blk_drew ?_ | refine blk_alloc ?_ _)); exact BK177.out⟩, ⟨by repeat (first | (with_reducible first | exact HB.out | apply below_alloc | apply pw_below_drewN | apply below_drew1 | refine below_set ?_ GE134.out | refine below_set ?_ GE135.out | refine below_set ?_ GE136.out | refine below_set ?_ GE172.out | refine below_set ?_ GE177.out) | exact HB.out)⟩⟩
               ·rw [if_neg c183] at H
                have c183b0 : (t144 == (wrap64 (-t142))) = false := beq_eq_false_iff_ne.mpr c183
                have c183b1 : (t144 != (wrap64 (-t142))) = true := bne_iff_ne.mpr c183
                have H' := Aside0.mk H
                clear H
                go_wp2
                go_meet
                case rel => exact ⟨_, (true), (by first | rfl | (simp; done) | (simp [*]; done)), H', ⟨by have := HJ4.out; have := HJ11.out; have := HJ128.out; first | omega | exact Nat.le_refl _⟩, ⟨by (with_reducible repeat (first | refine blk_drewN ?_ _ | refine blk_drew ?_ | refine blk_alloc ?_ _)); exact BK134.out⟩, ⟨by (with_reducible repeat (first | refine blk_drewN ?_ _ | refine blk_drew ?_ | refine blk_alloc ?_ _)); exact BK135.out⟩, ⟨by (with_reducible repeat (first | refine blk_drewN ?_ _ | refine blk_drew ?_ | refine blk_alloc ?_ _)); exact BK136.out⟩, ⟨by (with_reducible repeat (first | refine blk_drewN ?_ _ | refine blk_drew ?_ | refine blk_alloc ?_ _)); exact BK172.out⟩, ⟨by (with_reducible repeat (first | refine blk_drewN ?_ _ | refine blk_drew ?_ | refine blk_alloc ?_ _)); exact BK177.out⟩, ⟨by repeat (first | (with_reducible first | exact HB.out | apply below_alloc | apply pw_below_drewN | apply below_drew1 | refine below_set ?_ GE134.out | refine below_set ?_ GE135.out | refine below_set ?_ GE136.out | refine below_set ?_ GE172.out | refine below_set ?_ GE177.out) | exact HB.out)⟩⟩
            case rest => as_aux_lemma =>
             clear HC180
             try clear c1
             try clear p2
             try clear p6
             try clear c9
             try clear c11
             try clear c12
             try clear c13
             try clear c15
             try clear c16
             try clear c17
             try clear c18
             try clear p64
             try clear c113
             try clear c124
             try clear c124b0
             try clear c124b1
             try clear c124b2
             try clear c125
             try clear c125b0
             try clear c125b1
             try clear c125b2
             try clear c130
             try clear c131
             try clear c133
             try clear c159
             try clear c160
             try clear c161
             try clear c166
             try clear c167
             try clear c168
             try clear c169
             try clear c171
             try clear c171b0
             try clear c171b1
             try clear c172
             try clear c172b0
             try clear c172b1
             try clear c173
             try clear c173b0
             try clear c173b1
             try clear c174
             try clear c174b0
             try clear c174b1
             try clear c175
             try clear c175b0
             try clear c175b1
             try clear c176
             try clear c176b0
             try clear c176b1
             try clear c177
             try clear c177b0
             try clear c177b1
             try clear c178
             try clear c178b0
             try clear c178b1
             try clear c179
             try clear c181
             try clear c181b0
             try clear c182
             try clear c182b0
             try clear c183
             try clear c183b0
             try clear c183b1
             try clear c184
             try clear c184b0
             try clear c184b1
             try clear c185
             try clear c185b0
             try clear c185b1
             try clear hcz132_0
             try clear hcz132_1
             try clear hcz132_2
             try clear hcz134_0
             try clear hcz134_1
             try clear hcz134_2
             try clear hcz136_0
             try clear hcz136_1
             try clear hcz136_2
             try clear hcz137_0
             try clear hcz137_1
             try clear hcz137_2
             try clear hcz139_0
             try clear hcz139_1
             try clear hcz139_2
             try clear hcz140_0
             try clear hcz140_1
             try clear hcz140_2
             try clear hcz142_0
             try clear hcz142_1
             try clear hcz142_2
             try clear hcz143_0
             try clear hcz143_1
             try clear hcz143_2
             try clear hcz153_0
             try clear hcz153_1
             try clear hcz153_2
             try clear hcz154_0
             try clear hcz154_1
             try clear hcz154_2
             try clear hcz156_0
             try clear hcz156_1
             try clear hcz156_2
             try clear hcz162_0
             try clear hcz162_1
             try clear hcz162_2
             try clear hcz163_0
             try clear hcz163_1
             try clear hcz163_2
             try clear hcz170_0
             try clear hcz170_1
             try clear hcz170_2
             try clear hfz132_0
             try clear hfz132_1
             try clear hfz132_2
             try clear hfz134_0
             try clear hfz134_1
             try clear hfz134_2
             try clear hfz136_0
             try clear hfz136_1
             try clear hfz136_2
             try clear hfz137_0
             try clear hfz137_1
             try clear hfz137_2
             try clear hfz139_0
             try clear hfz139_1
             try clear hfz139_2
             try clear hfz140_0
             try clear hfz140_1
             try clear hfz140_2
             try clear hfz142_0
             try clear hfz142_1
             try clear hfz142_2
             try clear hfz143_0
             try clear hfz143_1
             try clear hfz143_2
             try clear hfz153_0
             try clear hfz153_1
             try clear hfz153_2
             try clear hfz154_0
             try clear hfz154_1
             try clear hfz154_2
             try clear hfz156_0
             try clear hfz156_1
             try clear hfz156_2
             try clear hfz162_0
             try clear hfz162_1
             try clear hfz162_2
             try clear hfz163_0
             try clear hfz163_1
             try clear hfz163_2
             try clear hfz170_0
             try clear hfz170_1
             try clear hfz170_2
             try clear hfz70_0
             try clear hfz70_1
             try clear hfz70_2
             try clear hfz71_0
             try clear hfz71_1
             try clear hfz71_2
             try clear hfz74_0
             try clear hfz74_1
             try clear hfz74_2
             try clear hfz77_0
             try clear hfz77_1
             try clear hfz77_2
             try clear hfz79_0
             try clear hfz79_1
             try clear hfz79_2
             try clear hfz81_0
             try clear hfz81_1
             try clear hfz81_2
             try clear hfz82_0
             try clear hfz82_1
             try clear hfz82_2
             try clear hfz85_0
             try clear hfz85_1
             try clear hfz85_2
             try clear hfz88_0
             try clear hfz88_1
             try clear hfz88_2
             try clear hfz90_0
             try clear hfz90_1
             try clear hfz90_2
             try clear hfz92_0
             try clear hfz92_1
             try clear hfz92_2
             try clear hfz95_0
             try clear hfz95_1
             try clear hfz95_2
             try clear hfz98_0
             try clear hfz98_1
             try clear hfz98_2
             try clear p2
             try clear p6
             try clear p64
             obtain ⟨kq, x209_179, rfl, HA, HJ179, BK134, BK135, BK136, BK172, BK177, HB⟩ := hcut
             cases kq with
             | zero => exact absurd HA.out (by simp [scOrd.j3])
             | succ kj179 =>
              have H := HA.out
              clear HA
              simp only [scOrd.j3] at H
              by_cases c186 : x209_179 = true
              ·subst c186
               have H1 : (some false) = some true := by rw [if_pos rfl] at H; exact H
               clear H
               have H := H1
               clear H1
               exact absurd H (by simp)
              ·replace c186 := Bool.eq_false_iff.mpr c186
               subst c186
               have H1 : (if t142 ≤ 0 then (if t146 ≤ 0 then (if t148 > 0 then (some false) else (if t148 = 0 then (if t142 = 0 then (if t146 = 0 then (if t169.toList = ([48] : List UInt8) then (if (t168 == t173 && (t169.toList == t174.toList && (t170 == t175))) = true then (some ((t142 == 0) == true)) else (some ((t142 == 0) == (t174.toList == ([48] : List UInt8))))) else (if (t168 == t173 && (t169.toList == t174.toList && (t170 == t175))) = true then (some ((t142 == 0) == true)) else (some ((t142 == 0) == false)))) else (some false)) else (some false)) else (if t169.toList = ([48] : List UInt8) then (if (t168 == t173 && (t169.toList == t174.toList && (t170 == t175))) = true then (some ((t142 == 0) == true)) else (some ((t142 == 0) == (t174.toList == ([48] : List UInt8))))) else (if (t168 == t173 && (t169.toList == t174.toList && (t170 == t175))) = true then (some ((t142 == 0) == true)) else (some ((t142 == 0) == false)))))) else (if t169.toList = ([48] : List UInt8) then (if (t168 == t173 && (t169.toList == t174.toList && (t170 == t175))) = true then (some ((t142 == 0) == true)) else (some ((t142 == 0) == (t174.toList == ([48] : List UInt8))))) else (if (t168 == t173 && (t169.toList == t174.toList && (t170 == t175))) = true then (some ((t142 == 0) == true)) else (some ((t142 == 0) == false))))) else (if t169.toList = ([48] : List UInt8) then (if (t168 == t173 && (t169.toList == t174.toList && (t170 == t175))) = true then (some ((t142 == 0) == true)) else (some ((t142 == 0) == (t174.toList == ([48] : List UInt8))))) else (if (t168 == t173 && (t169.toList == t174.toList && (t170 == t175))) = true then (some ((t142 == 0) == true)) else (some ((t142 == 0) == false))))) = some true := by rw [if_neg (show ¬ (false = true) by decide)] at H; exact H
               clear H
               have H := H1
               clear H1
               by_cases c187 : t142 ≤ 0
               ·rw [if_pos c187] at H
                have c187b0 : decide (t142 ≤ 0) = true := decide_eq_true c187
                clear c187
                by_cases c188 : t146 ≤ 0
                ·rw [if_pos c188] at H
                 have c188b0 : decide (t146 ≤ 0) = true := decide_eq_true c188
                 clear c188
                 by_cases c189 : t148 > 0
                 ·rw [if_pos c189] at H
                  have c189b0 : decide (0 < t148) = true := decide_eq_true c189
                  clear c189
                  exact absurd H (by simp)
                 ·rw [if_neg c189] at H
                  have c189b0 : decide (0 < t148) = false := decide_eq_false c189
                  clear c189
                  by_cases c190 : t148 = 0
                  ·rw [if_pos c190] at H
                   have c190b0 : (t148 == 0) = true := beq_iff_eq.mpr c190
                   have c190b1 : (t148 != 0) = false := bne_eq_false_iff_eq.mpr c190
                   clear c190
                   by_cases c191 : t142 = 0
                   ·rw [if_pos c191] at H
                    have c191b0 : (t142 == 0) = true := beq_iff_eq.mpr c191
                    have c191b1 : (t142 != 0) = false := bne_eq_false_iff_eq.mpr c191
                    clear c191
                    by_cases c192 : t146 = 0
                    ·rw [if_pos c192] at H
                     have c192b0 : (t146 == 0) = true := beq_iff_eq.mpr c192
                     have c192b1 : (t146 != 0) = false := bne_eq_false_iff_eq.mpr c192
                     clear c192
                     by_cases c193 : t169.toList = ([48] : List UInt8)
                     ·rw [if_pos c193] at H
                      have c193b0 : (t169.toList == ([48] : List UInt8)) = true := beq_iff_eq.mpr c193
                      have c193b1 : (t169.toList != ([48] : List UInt8)) = false := bne_eq_false_iff_eq.mpr c193
                      clear c193
                      by_cases c194 : (t168 == t173 && (t169.toList == t174.toList && (t170 == t175))) = true
                      ·rw [if_pos c194] at H
                       have c194b0 : (t168 == t173 && (t169.toList == t174.toList && (t170 == t175))) = true := c194
                       (try (have c194b1 : decide (t168 = t173 && (t169.toList == t174.toList && (t170 == t175))) = true := by simpa using c194))
                       (try (have c194b2 : (t168 == t173 && (t169.toList == t174.toList && (t170 == t175))) = true := by simpa using c194))
                       clear c194
                       have HX := Aside0.mk (Option.some.inj H)
                       clear H
                       have hnb195 := NB172_134.out
                       have hnc195 := NB134_172.out
                       have hnb196 := NB172_135.out
                       have hnc196 := NB135_172.out
                       have hnb197 := NB172_136.out
                       have hnc197 := NB136_172.out
                       have hnb198 := NB172_177.out
                       have hnc198 := NB177_172.out
                       have hcz199_0 : wc.cell? ⟨gb172, 0, none⟩ = some (.bool t168) := (blk_cell BK172.out 0).trans rfl
                       have hcz199_1 : wc.cell? ⟨gb172, 1, none⟩ = some (.string t169) := (blk_cell BK172.out 1).trans rfl
                       have hcz199_2 : wc.cell? ⟨gb172, 2, none⟩ = some (.int .i64 t170) := (blk_cell BK172.out 2).trans rfl
                       have hfz199_0 := blk_frozen BK172.out 0
                       have hfz199_1 := blk_frozen BK172.out 1
                       have hfz199_2 := blk_frozen BK172.out 2
                       have hnb200 := NB177_134.out
                       have hnc200 := NB134_177.out
                       have hnb201 := NB177_135.out
                       have hnc201 := NB135_177.out
                       have hnb202 := NB177_136.out
                       have hnc202 := NB136_177.out
                       have hcz203_0 : wc.cell? ⟨gb177, 0, none⟩ = some (.bool t173) := (blk_cell BK177.out 0).trans rfl
                       have hcz203_1 : wc.cell? ⟨gb177, 1, none⟩ = some (.string t174) := (blk_cell BK177.out 1).trans rfl
                       have hcz203_2 : wc.cell? ⟨gb177, 2, none⟩ = some (.int .i64 t175) := (blk_cell BK177.out 2).trans rfl
                       have hfz203_0 := blk_frozen BK177.out 0
                       have hfz203_1 := blk_frozen BK177.out 1
                       have hfz203_2 := blk_frozen BK177.out 2
                       go_wp2
                       go_ret
                       exact ⟨by first | exact congrArg (fun b_ => Ending.returned (Value.bool b_)) HX.out | (have hx_ := HX.out; simp at hx_ ⊢; done) | (have hx_ := HX.out; simp at hx_ ⊢; exact hx_) | (have hx_ := HX.out; simp_all) | (simp [*, errW_none, errW_some] <;> rfl), by repeat (first | (with_reducible first | exact HB.out | apply below_alloc | apply pw_below_drewN | apply below_drew1 | refine below_set ?_ GE134.out | refine below_set ?_ GE135.out | refine below_set ?_ GE136.out | refine below_set ?_ GE172.out | refine below_set ?_ GE177.out) | exact HB.out)⟩
                      ·rw [if_neg c194] at H
                       have c194b0 : (t168 == t173 && (t169.toList == t174.toList && (t170 == t175))) = false := by simpa using c194
                       (try (have c194b1 : decide (t168 = t173 && (t169.toList == t174.toList && (t170 == t175))) = false := by simpa using c194))
                       (try (have c194b2 : (t168 == t173 && (t169.toList == t174.toList && (t170 == t175))) = false := by simpa using c194))
                       (try (have c194b3 : ¬ (t168 = t173 && (t169.toList == t174.toList && (t170 == t175))) := by simpa using c194))
                       clear c194
                       have HX := Aside0.mk (Option.some.inj H)
                       clear H
                       have hnb204 := NB172_134.out
                       have hnc204 := NB134_172.out
                       have hnb205 := NB172_135.out
                       have hnc205 := NB135_172.out
                       have hnb206 := NB172_136.out
                       have hnc206 := NB136_172.out
                       have hnb207 := NB172_177.out
                       have hnc207 := NB177_172.out
                       have hcz208_0 : wc.cell? ⟨gb172, 0, none⟩ = some (.bool t168) := (blk_cell BK172.out 0).trans rfl
                       have hcz208_1 : wc.cell? ⟨gb172, 1, none⟩ = some (.string t169) := (blk_cell BK172.out 1).trans rfl
                       have hcz208_2 : wc.cell? ⟨gb172, 2, none⟩ = some (.int .i64 t170) := (blk_cell BK172.out 2).trans rfl
                       have hfz208_0 := blk_frozen BK172.out 0
                       have hfz208_1 := blk_frozen BK172.out 1
                       have hfz208_2 := blk_frozen BK172.out 2
                       have hnb209 := NB177_134.out
                       have hnc209 := NB134_177.out
                       have hnb210 := NB177_135.out
                       have hnc210 := NB135_177.out
                       have hnb211 := NB177_136.out
                       have hnc211 := NB136_177.out
                       have hcz212_0 : wc.cell? ⟨gb177, 0, none⟩ = some (.bool t173) := (blk_cell BK177.out 0).trans rfl
                       have hcz212_1 : wc.cell? ⟨gb177, 1, none⟩ = some (.string t174) := (blk_cell BK177.out 1).trans rfl
                       have hcz212_2 : wc.cell? ⟨gb177, 2, none⟩ = some (.int .i64 t175) := (blk_cell BK177.out 2).trans rfl
                       have hfz212_0 := blk_frozen BK177.out 0
                       have hfz212_1 := blk_frozen BK177.out 1
                       have hfz212_2 := blk_frozen BK177.out 2
                       go_wp2
                       go_ret
                       exact ⟨by first | exact congrArg (fun b_ => Ending.returned (Value.bool b_)) HX.out | (have hx_ := HX.out; simp at hx_ ⊢; done) | (have hx_ := HX.out; simp at hx_ ⊢; exact hx_) | (have hx_ := HX.out; simp_all) | (simp [*, errW_none, errW_some] <;> rfl), by repeat (first | (with_reducible first | exact HB.out | apply below_alloc | apply pw_below_drewN | apply below_drew1 | refine below_set ?_ GE134.out | refine below_set ?_ GE135.out | refine below_set ?_ GE136.out | refine below_set ?_ GE172.out | refine below_set ?_ GE177.out) | exact HB.out)⟩
                     ·rw [if_neg c193] at H
                      have c193b0 : (t169.toList == ([48] : List UInt8)) = false := beq_eq_false_iff_ne.mpr c193
                      have c193b1 : (t169.toList != ([48] : List UInt8)) = true := bne_iff_ne.mpr c193
                      by_cases c213 : (t168 == t173 && (t169.toList == t174.toList && (t170 == t175))) = true
                      ·rw [if_pos c213] at H
                       have c213b0 : (t168 == t173 && (t169.toList == t174.toList && (t170 == t175))) = true := c213
                       (try (have c213b1 : decide (t168 = t173 && (t169.toList == t174.toList && (t170 == t175))) = true := by simpa using c213))
                       (try (have c213b2 : (t168 == t173 && (t169.toList == t174.toList && (t170 == t175))) = true := by simpa using c213))
                       clear c213
                       have HX := Aside0.mk (Option.some.inj H)
                       clear H
                       have hnb214 := NB172_134.out
                       have hnc214 := NB134_172.out
                       have hnb215 := NB172_135.out
                       have hnc215 := NB135_172.out
                       have hnb216 := NB172_136.out
                       have hnc216 := NB136_172.out
                       have hnb217 := NB172_177.out
                       have hnc217 := NB177_172.out
                       have hcz218_0 : wc.cell? ⟨gb172, 0, none⟩ = some (.bool t168) := (blk_cell BK172.out 0).trans rfl
                       have hcz218_1 : wc.cell? ⟨gb172, 1, none⟩ = some (.string t169) := (blk_cell BK172.out 1).trans rfl
                       have hcz218_2 : wc.cell? ⟨gb172, 2, none⟩ = some (.int .i64 t170) := (blk_cell BK172.out 2).trans rfl
                       have hfz218_0 := blk_frozen BK172.out 0
                       have hfz218_1 := blk_frozen BK172.out 1
                       have hfz218_2 := blk_frozen BK172.out 2
                       have hnb219 := NB177_134.out
                       have hnc219 := NB134_177.out
                       have hnb220 := NB177_135.out
                       have hnc220 := NB135_177.out
                       have hnb221 := NB177_136.out
                       have hnc221 := NB136_177.out
                       have hcz222_0 : wc.cell? ⟨gb177, 0, none⟩ = some (.bool t173) := (blk_cell BK177.out 0).trans rfl
                       have hcz222_1 : wc.cell? ⟨gb177, 1, none⟩ = some (.string t174) := (blk_cell BK177.out 1).trans rfl
                       have hcz222_2 : wc.cell? ⟨gb177, 2, none⟩ = some (.int .i64 t175) := (blk_cell BK177.out 2).trans rfl
                       have hfz222_0 := blk_frozen BK177.out 0
                       have hfz222_1 := blk_frozen BK177.out 1
                       have hfz222_2 := blk_frozen BK177.out 2
                       go_wp2
                       go_ret
                       exact ⟨by first | exact congrArg (fun b_ => Ending.returned (Value.bool b_)) HX.out | (have hx_ := HX.out; simp at hx_ ⊢; done) | (have hx_ := HX.out; simp at hx_ ⊢; exact hx_) | (have hx_ := HX.out; simp_all) | (simp [*, errW_none, errW_some] <;> rfl), by repeat (first | (with_reducible first | exact HB.out | apply below_alloc | apply pw_below_drewN | apply below_drew1 | refine below_set ?_ GE134.out | refine below_set ?_ GE135.out | refine below_set ?_ GE136.out | refine below_set ?_ GE172.out | refine below_set ?_ GE177.out) | exact HB.out)⟩
                      ·rw [if_neg c213] at H
                       have c213b0 : (t168 == t173 && (t169.toList == t174.toList && (t170 == t175))) = false := by simpa using c213
                       (try (have c213b1 : decide (t168 = t173 && (t169.toList == t174.toList && (t170 == t175))) = false := by simpa using c213))
                       (try (have c213b2 : (t168 == t173 && (t169.toList == t174.toList && (t170 == t175))) = false := by simpa using c213))
                       (try (have c213b3 : ¬ (t168 = t173 && (t169.toList == t174.toList && (t170 == t175))) := by simpa using c213))
                       clear c213
                       have HX := Aside0.mk (Option.some.inj H)
                       clear H
                       have hnb223 := NB172_134.out
                       have hnc223 := NB134_172.out
                       have hnb224 := NB172_135.out
                       have hnc224 := NB135_172.out
                       have hnb225 := NB172_136.out
                       have hnc225 := NB136_172.out
                       have hnb226 := NB172_177.out
                       have hnc226 := NB177_172.out
                       have hcz227_0 : wc.cell? ⟨gb172, 0, none⟩ = some (.bool t168) := (blk_cell BK172.out 0).trans rfl
                       have hcz227_1 : wc.cell? ⟨gb172, 1, none⟩ = some (.string t169) := (blk_cell BK172.out 1).trans rfl
                       have hcz227_2 : wc.cell? ⟨gb172, 2, none⟩ = some (.int .i64 t170) := (blk_cell BK172.out 2).trans rfl
                       have hfz227_0 := blk_frozen BK172.out 0
                       have hfz227_1 := blk_frozen BK172.out 1
                       have hfz227_2 := blk_frozen BK172.out 2
                       have hnb228 := NB177_134.out
                       have hnc228 := NB134_177.out
                       have hnb229 := NB177_135.out
                       have hnc229 := NB135_177.out
                       have hnb230 := NB177_136.out
                       have hnc230 := NB136_177.out
                       have hcz231_0 : wc.cell? ⟨gb177, 0, none⟩ = some (.bool t173) := (blk_cell BK177.out 0).trans rfl
                       have hcz231_1 : wc.cell? ⟨gb177, 1, none⟩ = some (.string t174) := (blk_cell BK177.out 1).trans rfl
                       have hcz231_2 : wc.cell? ⟨gb177, 2, none⟩ = some (.int .i64 t175) := (blk_cell BK177.out 2).trans rfl
                       have hfz231_0 := blk_frozen BK177.out 0
                       have hfz231_1 := blk_frozen BK177.out 1
                       have hfz231_2 := blk_frozen BK177.out 2
                       go_wp2
                       go_ret
                       exact ⟨by first | exact congrArg (fun b_ => Ending.returned (Value.bool b_)) HX.out | (have hx_ := HX.out; simp at hx_ ⊢; done) | (have hx_ := HX.out; simp at hx_ ⊢; exact hx_) | (have hx_ := HX.out; simp_all) | (simp [*, errW_none, errW_some] <;> rfl), by repeat (first | (with_reducible first | exact HB.out | apply below_alloc | apply pw_below_drewN | apply below_drew1 | refine below_set ?_ GE134.out | refine below_set ?_ GE135.out | refine below_set ?_ GE136.out | refine below_set ?_ GE172.out | refine below_set ?_ GE177.out) | exact HB.out)⟩
                    ·rw [if_neg c192] at H
                     have c192b0 : (t146 == 0) = false := beq_eq_false_iff_ne.mpr c192
                     have c192b1 : (t146 != 0) = true := bne_iff_ne.mpr c192
                     exact absurd H (by simp)
                   ·rw [if_neg c191] at H
                    have c191b0 : (t142 == 0) = false := beq_eq_false_iff_ne.mpr c191
                    have c191b1 : (t142 != 0) = true := bne_iff_ne.mpr c191
                    exact absurd H (by simp)
                  ·rw [if_neg c190] at H
                   have c190b0 : (t148 == 0) = false := beq_eq_false_iff_ne.mpr c190
                   have c190b1 : (t148 != 0) = true := bne_iff_ne.mpr c190
                   by_cases c232 : t169.toList = ([48] : List UInt8)
                   ·rw [if_pos c232] at H
                    have c232b0 : (t169.toList == ([48] : List UInt8)) = true := beq_iff_eq.mpr c232
                    have c232b1 : (t169.toList != ([48] : List UInt8)) = false := bne_eq_false_iff_eq.mpr c232
                    clear c232
                    by_cases c233 : (t168 == t173 && (t169.toList == t174.toList && (t170 == t175))) = true
                    ·rw [if_pos c233] at H
                     have c233b0 : (t168 == t173 && (t169.toList == t174.toList && (t170 == t175))) = true := c233
                     (try (have c233b1 : decide (t168 = t173 && (t169.toList == t174.toList && (t170 == t175))) = true := by simpa using c233))
                     (try (have c233b2 : (t168 == t173 && (t169.toList == t174.toList && (t170 == t175))) = true := by simpa using c233))
                     clear c233
                     have HX := Aside0.mk (Option.some.inj H)
                     clear H
                     have hnb234 := NB172_134.out
                     have hnc234 := NB134_172.out
                     have hnb235 := NB172_135.out
                     have hnc235 := NB135_172.out
                     have hnb236 := NB172_136.out
                     have hnc236 := NB136_172.out
                     have hnb237 := NB172_177.out
                     have hnc237 := NB177_172.out
                     have hcz238_0 : wc.cell? ⟨gb172, 0, none⟩ = some (.bool t168) := (blk_cell BK172.out 0).trans rfl
                     have hcz238_1 : wc.cell? ⟨gb172, 1, none⟩ = some (.string t169) := (blk_cell BK172.out 1).trans rfl
                     have hcz238_2 : wc.cell? ⟨gb172, 2, none⟩ = some (.int .i64 t170) := (blk_cell BK172.out 2).trans rfl
                     have hfz238_0 := blk_frozen BK172.out 0
                     have hfz238_1 := blk_frozen BK172.out 1
                     have hfz238_2 := blk_frozen BK172.out 2
                     have hnb239 := NB177_134.out
                     have hnc239 := NB134_177.out
                     have hnb240 := NB177_135.out
                     have hnc240 := NB135_177.out
                     have hnb241 := NB177_136.out
                     have hnc241 := NB136_177.out
                     have hcz242_0 : wc.cell? ⟨gb177, 0, none⟩ = some (.bool t173) := (blk_cell BK177.out 0).trans rfl
                     have hcz242_1 : wc.cell? ⟨gb177, 1, none⟩ = some (.string t174) := (blk_cell BK177.out 1).trans rfl
                     have hcz242_2 : wc.cell? ⟨gb177, 2, none⟩ = some (.int .i64 t175) := (blk_cell BK177.out 2).trans rfl
                     have hfz242_0 := blk_frozen BK177.out 0
                     have hfz242_1 := blk_frozen BK177.out 1
                     have hfz242_2 := blk_frozen BK177.out 2
                     go_wp2
                     go_ret
                     exact ⟨by first | exact congrArg (fun b_ => Ending.returned (Value.bool b_)) HX.out | (have hx_ := HX.out; simp at hx_ ⊢; done) | (have hx_ := HX.out; simp at hx_ ⊢; exact hx_) | (have hx_ := HX.out; simp_all) | (simp [*, errW_none, errW_some] <;> rfl), by repeat (first | (with_reducible first | exact HB.out | apply below_alloc | apply pw_below_drewN | apply below_drew1 | refine below_set ?_ GE134.out | refine below_set ?_ GE135.out | refine below_set ?_ GE136.out | refine below_set ?_ GE172.out | refine below_set ?_ GE177.out) | exact HB.out)⟩
                    ·rw [if_neg c233] at H
                     have c233b0 : (t168 == t173 && (t169.toList == t174.toList && (t170 == t175))) = false := by simpa using c233
                     (try (have c233b1 : decide (t168 = t173 && (t169.toList == t174.toList && (t170 == t175))) = false := by simpa using c233))
                     (try (have c233b2 : (t168 == t173 && (t169.toList == t174.toList && (t170 == t175))) = false := by simpa using c233))
                     (try (have c233b3 : ¬ (t168 = t173 && (t169.toList == t174.toList && (t170 == t175))) := by simpa using c233))
                     clear c233
                     have HX := Aside0.mk (Option.some.inj H)
                     clear H
                     have hnb243 := NB172_134.out
                     have hnc243 := NB134_172.out
                     have hnb244 := NB172_135.out
                     have hnc244 := NB135_172.out
                     have hnb245 := NB172_136.out
                     have hnc245 := NB136_172.out
                     have hnb246 := NB172_177.out
                     have hnc246 := NB177_172.out
                     have hcz247_0 : wc.cell? ⟨gb172, 0, none⟩ = some (.bool t168) := (blk_cell BK172.out 0).trans rfl
                     have hcz247_1 : wc.cell? ⟨gb172, 1, none⟩ = some (.string t169) := (blk_cell BK172.out 1).trans rfl
                     have hcz247_2 : wc.cell? ⟨gb172, 2, none⟩ = some (.int .i64 t170) := (blk_cell BK172.out 2).trans rfl
                     have hfz247_0 := blk_frozen BK172.out 0
                     have hfz247_1 := blk_frozen BK172.out 1
                     have hfz247_2 := blk_frozen BK172.out 2
                     have hnb248 := NB177_134.out
                     have hnc248 := NB134_177.out
                     have hnb249 := NB177_135.out
                     have hnc249 := NB135_177.out
                     have hnb250 := NB177_136.out
                     have hnc250 := NB136_177.out
                     have hcz251_0 : wc.cell? ⟨gb177, 0, none⟩ = some (.bool t173) := (blk_cell BK177.out 0).trans rfl
                     have hcz251_1 : wc.cell? ⟨gb177, 1, none⟩ = some (.string t174) := (blk_cell BK177.out 1).trans rfl
                     have hcz251_2 : wc.cell? ⟨gb177, 2, none⟩ = some (.int .i64 t175) := (blk_cell BK177.out 2).trans rfl
                     have hfz251_0 := blk_frozen BK177.out 0
                     have hfz251_1 := blk_frozen BK177.out 1
                     have hfz251_2 := blk_frozen BK177.out 2
                     go_wp2
                     go_ret
                     exact ⟨by first | exact congrArg (fun b_ => Ending.returned (Value.bool b_)) HX.out | (have hx_ := HX.out; simp at hx_ ⊢; done) | (have hx_ := HX.out; simp at hx_ ⊢; exact hx_) | (have hx_ := HX.out; simp_all) | (simp [*, errW_none, errW_some] <;> rfl), by repeat (first | (with_reducible first | exact HB.out | apply below_alloc | apply pw_below_drewN | apply below_drew1 | refine below_set ?_ GE134.out | refine below_set ?_ GE135.out | refine below_set ?_ GE136.out | refine below_set ?_ GE172.out | refine below_set ?_ GE177.out) | exact HB.out)⟩
                   ·rw [if_neg c232] at H
                    have c232b0 : (t169.toList == ([48] : List UInt8)) = false := beq_eq_false_iff_ne.mpr c232
                    have c232b1 : (t169.toList != ([48] : List UInt8)) = true := bne_iff_ne.mpr c232
                    by_cases c252 : (t168 == t173 && (t169.toList == t174.toList && (t170 == t175))) = true
                    ·rw [if_pos c252] at H
                     have c252b0 : (t168 == t173 && (t169.toList == t174.toList && (t170 == t175))) = true := c252
                     (try (have c252b1 : decide (t168 = t173 && (t169.toList == t174.toList && (t170 == t175))) = true := by simpa using c252))
                     (try (have c252b2 : (t168 == t173 && (t169.toList == t174.toList && (t170 == t175))) = true := by simpa using c252))
                     clear c252
                     have HX := Aside0.mk (Option.some.inj H)
                     clear H
                     have hnb253 := NB172_134.out
                     have hnc253 := NB134_172.out
                     have hnb254 := NB172_135.out
                     have hnc254 := NB135_172.out
                     have hnb255 := NB172_136.out
                     have hnc255 := NB136_172.out
                     have hnb256 := NB172_177.out
                     have hnc256 := NB177_172.out
                     have hcz257_0 : wc.cell? ⟨gb172, 0, none⟩ = some (.bool t168) := (blk_cell BK172.out 0).trans rfl
                     have hcz257_1 : wc.cell? ⟨gb172, 1, none⟩ = some (.string t169) := (blk_cell BK172.out 1).trans rfl
                     have hcz257_2 : wc.cell? ⟨gb172, 2, none⟩ = some (.int .i64 t170) := (blk_cell BK172.out 2).trans rfl
                     have hfz257_0 := blk_frozen BK172.out 0
                     have hfz257_1 := blk_frozen BK172.out 1
                     have hfz257_2 := blk_frozen BK172.out 2
                     have hnb258 := NB177_134.out
                     have hnc258 := NB134_177.out
                     have hnb259 := NB177_135.out
                     have hnc259 := NB135_177.out
                     have hnb260 := NB177_136.out
                     have hnc260 := NB136_177.out
                     have hcz261_0 : wc.cell? ⟨gb177, 0, none⟩ = some (.bool t173) := (blk_cell BK177.out 0).trans rfl
                     have hcz261_1 : wc.cell? ⟨gb177, 1, none⟩ = some (.string t174) := (blk_cell BK177.out 1).trans rfl
                     have hcz261_2 : wc.cell? ⟨gb177, 2, none⟩ = some (.int .i64 t175) := (blk_cell BK177.out 2).trans rfl
                     have hfz261_0 := blk_frozen BK177.out 0
                     have hfz261_1 := blk_frozen BK177.out 1
                     have hfz261_2 := blk_frozen BK177.out 2
                     go_wp2
                     go_ret
                     exact ⟨by first | exact congrArg (fun b_ => Ending.returned (Value.bool b_)) HX.out | (have hx_ := HX.out; simp at hx_ ⊢; done) | (have hx_ := HX.out; simp at hx_ ⊢; exact hx_) | (have hx_ := HX.out; simp_all) | (simp [*, errW_none, errW_some] <;> rfl), by repeat (first | (with_reducible first | exact HB.out | apply below_alloc | apply pw_below_drewN | apply below_drew1 | refine below_set ?_ GE134.out | refine below_set ?_ GE135.out | refine below_set ?_ GE136.out | refine below_set ?_ GE172.out | refine below_set ?_ GE177.out) | exact HB.out)⟩
                    ·rw [if_neg c252] at H
                     have c252b0 : (t168 == t173 && (t169.toList == t174.toList && (t170 == t175))) = false := by simpa using c252
                     (try (have c252b1 : decide (t168 = t173 && (t169.toList == t174.toList && (t170 == t175))) = false := by simpa using c252))
                     (try (have c252b2 : (t168 == t173 && (t169.toList == t174.toList && (t170 == t175))) = false := by simpa using c252))
                     (try (have c252b3 : ¬ (t168 = t173 && (t169.toList == t174.toList && (t170 == t175))) := by simpa using c252))
                     clear c252
                     have HX := Aside0.mk (Option.some.inj H)
                     clear H
                     have hnb262 := NB172_134.out
                     have hnc262 := NB134_172.out
                     have hnb263 := NB172_135.out
                     have hnc263 := NB135_172.out
                     have hnb264 := NB172_136.out
                     have hnc264 := NB136_172.out
                     have hnb265 := NB172_177.out
                     have hnc265 := NB177_172.out
                     have hcz266_0 : wc.cell? ⟨gb172, 0, none⟩ = some (.bool t168) := (blk_cell BK172.out 0).trans rfl
                     have hcz266_1 : wc.cell? ⟨gb172, 1, none⟩ = some (.string t169) := (blk_cell BK172.out 1).trans rfl
                     have hcz266_2 : wc.cell? ⟨gb172, 2, none⟩ = some (.int .i64 t170) := (blk_cell BK172.out 2).trans rfl
                     have hfz266_0 := blk_frozen BK172.out 0
                     have hfz266_1 := blk_frozen BK172.out 1
                     have hfz266_2 := blk_frozen BK172.out 2
                     have hnb267 := NB177_134.out
                     have hnc267 := NB134_177.out
                     have hnb268 := NB177_135.out
                     have hnc268 := NB135_177.out
                     have hnb269 := NB177_136.out
                     have hnc269 := NB136_177.out
                     have hcz270_0 : wc.cell? ⟨gb177, 0, none⟩ = some (.bool t173) := (blk_cell BK177.out 0).trans rfl
                     have hcz270_1 : wc.cell? ⟨gb177, 1, none⟩ = some (.string t174) := (blk_cell BK177.out 1).trans rfl
                     have hcz270_2 : wc.cell? ⟨gb177, 2, none⟩ = some (.int .i64 t175) := (blk_cell BK177.out 2).trans rfl
                     have hfz270_0 := blk_frozen BK177.out 0
                     have hfz270_1 := blk_frozen BK177.out 1
                     have hfz270_2 := blk_frozen BK177.out 2
                     go_wp2
                     go_ret
                     exact ⟨by first | exact congrArg (fun b_ => Ending.returned (Value.bool b_)) HX.out | (have hx_ := HX.out; simp at hx_ ⊢; done) | (have hx_ := HX.out; simp at hx_ ⊢; exact hx_) | (have hx_ := HX.out; simp_all) | (simp [*, errW_none, errW_some] <;> rfl), by repeat (first | (with_reducible first | exact HB.out | apply below_alloc | apply pw_below_drewN | apply below_drew1 | refine below_set ?_ GE134.out | refine below_set ?_ GE135.out | refine below_set ?_ GE136.out | refine below_set ?_ GE172.out | refine below_set ?_ GE177.out) | exact HB.out)⟩
                ·rw [if_neg c188] at H
                 have c188b0 : decide (t146 ≤ 0) = false := decide_eq_false c188
                 clear c188
                 by_cases c271 : t169.toList = ([48] : List UInt8)
                 ·rw [if_pos c271] at H
                  have c271b0 : (t169.toList == ([48] : List UInt8)) = true := beq_iff_eq.mpr c271
                  have c271b1 : (t169.toList != ([48] : List UInt8)) = false := bne_eq_false_iff_eq.mpr c271
                  clear c271
                  by_cases c272 : (t168 == t173 && (t169.toList == t174.toList && (t170 == t175))) = true
                  ·rw [if_pos c272] at H
                   have c272b0 : (t168 == t173 && (t169.toList == t174.toList && (t170 == t175))) = true := c272
                   (try (have c272b1 : decide (t168 = t173 && (t169.toList == t174.toList && (t170 == t175))) = true := by simpa using c272))
                   (try (have c272b2 : (t168 == t173 && (t169.toList == t174.toList && (t170 == t175))) = true := by simpa using c272))
                   clear c272
                   have HX := Aside0.mk (Option.some.inj H)
                   clear H
                   have hnb273 := NB172_134.out
                   have hnc273 := NB134_172.out
                   have hnb274 := NB172_135.out
                   have hnc274 := NB135_172.out
                   have hnb275 := NB172_136.out
                   have hnc275 := NB136_172.out
                   have hnb276 := NB172_177.out
                   have hnc276 := NB177_172.out
                   have hcz277_0 : wc.cell? ⟨gb172, 0, none⟩ = some (.bool t168) := (blk_cell BK172.out 0).trans rfl
                   have hcz277_1 : wc.cell? ⟨gb172, 1, none⟩ = some (.string t169) := (blk_cell BK172.out 1).trans rfl
                   have hcz277_2 : wc.cell? ⟨gb172, 2, none⟩ = some (.int .i64 t170) := (blk_cell BK172.out 2).trans rfl
                   have hfz277_0 := blk_frozen BK172.out 0
                   have hfz277_1 := blk_frozen BK172.out 1
                   have hfz277_2 := blk_frozen BK172.out 2
                   have hnb278 := NB177_134.out
                   have hnc278 := NB134_177.out
                   have hnb279 := NB177_135.out
                   have hnc279 := NB135_177.out
                   have hnb280 := NB177_136.out
                   have hnc280 := NB136_177.out
                   have hcz281_0 : wc.cell? ⟨gb177, 0, none⟩ = some (.bool t173) := (blk_cell BK177.out 0).trans rfl
                   have hcz281_1 : wc.cell? ⟨gb177, 1, none⟩ = some (.string t174) := (blk_cell BK177.out 1).trans rfl
                   have hcz281_2 : wc.cell? ⟨gb177, 2, none⟩ = some (.int .i64 t175) := (blk_cell BK177.out 2).trans rfl
                   have hfz281_0 := blk_frozen BK177.out 0
                   have hfz281_1 := blk_frozen BK177.out 1
                   have hfz281_2 := blk_frozen BK177.out 2
                   go_wp2
                   go_ret
                   exact ⟨by first | exact congrArg (fun b_ => Ending.returned (Value.bool b_)) HX.out | (have hx_ := HX.out; simp at hx_ ⊢; done) | (have hx_ := HX.out; simp at hx_ ⊢; exact hx_) | (have hx_ := HX.out; simp_all) | (simp [*, errW_none, errW_some] <;> rfl), by repeat (first | (with_reducible first | exact HB.out | apply below_alloc | apply pw_below_drewN | apply below_drew1 | refine below_set ?_ GE134.out | refine below_set ?_ GE135.out | refine below_set ?_ GE136.out | refine below_set ?_ GE172.out | refine below_set ?_ GE177.out) | exact HB.out)⟩
                  ·rw [if_neg c272] at H
                   have c272b0 : (t168 == t173 && (t169.toList == t174.toList && (t170 == t175))) = false := by simpa using c272
                   (try (have c272b1 : decide (t168 = t173 && (t169.toList == t174.toList && (t170 == t175))) = false := by simpa using c272))
                   (try (have c272b2 : (t168 == t173 && (t169.toList == t174.toList && (t170 == t175))) = false := by simpa using c272))
                   (try (have c272b3 : ¬ (t168 = t173 && (t169.toList == t174.toList && (t170 == t175))) := by simpa using c272))
                   clear c272
                   have HX := Aside0.mk (Option.some.inj H)
                   clear H
                   have hnb282 := NB172_134.out
                   have hnc282 := NB134_172.out
                   have hnb283 := NB172_135.out
                   have hnc283 := NB135_172.out
                   have hnb284 := NB172_136.out
                   have hnc284 := NB136_172.out
                   have hnb285 := NB172_177.out
                   have hnc285 := NB177_172.out
                   have hcz286_0 : wc.cell? ⟨gb172, 0, none⟩ = some (.bool t168) := (blk_cell BK172.out 0).trans rfl
                   have hcz286_1 : wc.cell? ⟨gb172, 1, none⟩ = some (.string t169) := (blk_cell BK172.out 1).trans rfl
                   have hcz286_2 : wc.cell? ⟨gb172, 2, none⟩ = some (.int .i64 t170) := (blk_cell BK172.out 2).trans rfl
                   have hfz286_0 := blk_frozen BK172.out 0
                   have hfz286_1 := blk_frozen BK172.out 1
                   have hfz286_2 := blk_frozen BK172.out 2
                   have hnb287 := NB177_134.out
                   have hnc287 := NB134_177.out
                   have hnb288 := NB177_135.out
                   have hnc288 := NB135_177.out
                   have hnb289 := NB177_136.out
                   have hnc289 := NB136_177.out
                   have hcz290_0 : wc.cell? ⟨gb177, 0, none⟩ = some (.bool t173) := (blk_cell BK177.out 0).trans rfl
                   have hcz290_1 : wc.cell? ⟨gb177, 1, none⟩ = some (.string t174) := (blk_cell BK177.out 1).trans rfl
                   have hcz290_2 : wc.cell? ⟨gb177, 2, none⟩ = some (.int .i64 t175) := (blk_cell BK177.out 2).trans rfl
                   have hfz290_0 := blk_frozen BK177.out 0
                   have hfz290_1 := blk_frozen BK177.out 1
                   have hfz290_2 := blk_frozen BK177.out 2
                   go_wp2
                   go_ret
                   exact ⟨by first | exact congrArg (fun b_ => Ending.returned (Value.bool b_)) HX.out | (have hx_ := HX.out; simp at hx_ ⊢; done) | (have hx_ := HX.out; simp at hx_ ⊢; exact hx_) | (have hx_ := HX.out; simp_all) | (simp [*, errW_none, errW_some] <;> rfl), by repeat (first | (with_reducible first | exact HB.out | apply below_alloc | apply pw_below_drewN | apply below_drew1 | refine below_set ?_ GE134.out | refine below_set ?_ GE135.out | refine below_set ?_ GE136.out | refine below_set ?_ GE172.out | refine below_set ?_ GE177.out) | exact HB.out)⟩
                 ·rw [if_neg c271] at H
                  have c271b0 : (t169.toList == ([48] : List UInt8)) = false := beq_eq_false_iff_ne.mpr c271
                  have c271b1 : (t169.toList != ([48] : List UInt8)) = true := bne_iff_ne.mpr c271
                  by_cases c291 : (t168 == t173 && (t169.toList == t174.toList && (t170 == t175))) = true
                  ·rw [if_pos c291] at H
                   have c291b0 : (t168 == t173 && (t169.toList == t174.toList && (t170 == t175))) = true := c291
                   (try (have c291b1 : decide (t168 = t173 && (t169.toList == t174.toList && (t170 == t175))) = true := by simpa using c291))
                   (try (have c291b2 : (t168 == t173 && (t169.toList == t174.toList && (t170 == t175))) = true := by simpa using c291))
                   clear c291
                   have HX := Aside0.mk (Option.some.inj H)
                   clear H
                   have hnb292 := NB172_134.out
                   have hnc292 := NB134_172.out
                   have hnb293 := NB172_135.out
                   have hnc293 := NB135_172.out
                   have hnb294 := NB172_136.out
                   have hnc294 := NB136_172.out
                   have hnb295 := NB172_177.out
                   have hnc295 := NB177_172.out
                   have hcz296_0 : wc.cell? ⟨gb172, 0, none⟩ = some (.bool t168) := (blk_cell BK172.out 0).trans rfl
                   have hcz296_1 : wc.cell? ⟨gb172, 1, none⟩ = some (.string t169) := (blk_cell BK172.out 1).trans rfl
                   have hcz296_2 : wc.cell? ⟨gb172, 2, none⟩ = some (.int .i64 t170) := (blk_cell BK172.out 2).trans rfl
                   have hfz296_0 := blk_frozen BK172.out 0
                   have hfz296_1 := blk_frozen BK172.out 1
                   have hfz296_2 := blk_frozen BK172.out 2
                   have hnb297 := NB177_134.out
                   have hnc297 := NB134_177.out
                   have hnb298 := NB177_135.out
                   have hnc298 := NB135_177.out
                   have hnb299 := NB177_136.out
                   have hnc299 := NB136_177.out
                   have hcz300_0 : wc.cell? ⟨gb177, 0, none⟩ = some (.bool t173) := (blk_cell BK177.out 0).trans rfl
                   have hcz300_1 : wc.cell? ⟨gb177, 1, none⟩ = some (.string t174) := (blk_cell BK177.out 1).trans rfl
                   have hcz300_2 : wc.cell? ⟨gb177, 2, none⟩ = some (.int .i64 t175) := (blk_cell BK177.out 2).trans rfl
                   have hfz300_0 := blk_frozen BK177.out 0
                   have hfz300_1 := blk_frozen BK177.out 1
                   have hfz300_2 := blk_frozen BK177.out 2
                   go_wp2
                   go_ret
                   exact ⟨by first | exact congrArg (fun b_ => Ending.returned (Value.bool b_)) HX.out | (have hx_ := HX.out; simp at hx_ ⊢; done) | (have hx_ := HX.out; simp at hx_ ⊢; exact hx_) | (have hx_ := HX.out; simp_all) | (simp [*, errW_none, errW_some] <;> rfl), by repeat (first | (with_reducible first | exact HB.out | apply below_alloc | apply pw_below_drewN | apply below_drew1 | refine below_set ?_ GE134.out | refine below_set ?_ GE135.out | refine below_set ?_ GE136.out | refine below_set ?_ GE172.out | refine below_set ?_ GE177.out) | exact HB.out)⟩
                  ·rw [if_neg c291] at H
                   have c291b0 : (t168 == t173 && (t169.toList == t174.toList && (t170 == t175))) = false := by simpa using c291
                   (try (have c291b1 : decide (t168 = t173 && (t169.toList == t174.toList && (t170 == t175))) = false := by simpa using c291))
                   (try (have c291b2 : (t168 == t173 && (t169.toList == t174.toList && (t170 == t175))) = false := by simpa using c291))
                   (try (have c291b3 : ¬ (t168 = t173 && (t169.toList == t174.toList && (t170 == t175))) := by simpa using c291))
                   clear c291
                   have HX := Aside0.mk (Option.some.inj H)
                   clear H
                   have hnb301 := NB172_134.out
                   have hnc301 := NB134_172.out
                   have hnb302 := NB172_135.out
                   have hnc302 := NB135_172.out
                   have hnb303 := NB172_136.out
                   have hnc303 := NB136_172.out
                   have hnb304 := NB172_177.out
                   have hnc304 := NB177_172.out
                   have hcz305_0 : wc.cell? ⟨gb172, 0, none⟩ = some (.bool t168) := (blk_cell BK172.out 0).trans rfl
                   have hcz305_1 : wc.cell? ⟨gb172, 1, none⟩ = some (.string t169) := (blk_cell BK172.out 1).trans rfl
                   have hcz305_2 : wc.cell? ⟨gb172, 2, none⟩ = some (.int .i64 t170) := (blk_cell BK172.out 2).trans rfl
                   have hfz305_0 := blk_frozen BK172.out 0
                   have hfz305_1 := blk_frozen BK172.out 1
                   have hfz305_2 := blk_frozen BK172.out 2
                   have hnb306 := NB177_134.out
                   have hnc306 := NB134_177.out
                   have hnb307 := NB177_135.out
                   have hnc307 := NB135_177.out
                   have hnb308 := NB177_136.out
                   have hnc308 := NB136_177.out
                   have hcz309_0 : wc.cell? ⟨gb177, 0, none⟩ = some (.bool t173) := (blk_cell BK177.out 0).trans rfl
                   have hcz309_1 : wc.cell? ⟨gb177, 1, none⟩ = some (.string t174) := (blk_cell BK177.out 1).trans rfl
                   have hcz309_2 : wc.cell? ⟨gb177, 2, none⟩ = some (.int .i64 t175) := (blk_cell BK177.out 2).trans rfl
                   have hfz309_0 := blk_frozen BK177.out 0
                   have hfz309_1 := blk_frozen BK177.out 1
                   have hfz309_2 := blk_frozen BK177.out 2
                   go_wp2
                   go_ret
                   exact ⟨by first | exact congrArg (fun b_ => Ending.returned (Value.bool b_)) HX.out | (have hx_ := HX.out; simp at hx_ ⊢; done) | (have hx_ := HX.out; simp at hx_ ⊢; exact hx_) | (have hx_ := HX.out; simp_all) | (simp [*, errW_none, errW_some] <;> rfl), by repeat (first | (with_reducible first | exact HB.out | apply below_alloc | apply pw_below_drewN | apply below_drew1 | refine below_set ?_ GE134.out | refine below_set ?_ GE135.out | refine below_set ?_ GE136.out | refine below_set ?_ GE172.out | refine below_set ?_ GE177.out) | exact HB.out)⟩
               ·rw [if_neg c187] at H
                have c187b0 : decide (t142 ≤ 0) = false := decide_eq_false c187
                clear c187
                by_cases c310 : t169.toList = ([48] : List UInt8)
                ·rw [if_pos c310] at H
                 have c310b0 : (t169.toList == ([48] : List UInt8)) = true := beq_iff_eq.mpr c310
                 have c310b1 : (t169.toList != ([48] : List UInt8)) = false := bne_eq_false_iff_eq.mpr c310
                 clear c310
                 by_cases c311 : (t168 == t173 && (t169.toList == t174.toList && (t170 == t175))) = true
                 ·rw [if_pos c311] at H
                  have c311b0 : (t168 == t173 && (t169.toList == t174.toList && (t170 == t175))) = true := c311
                  (try (have c311b1 : decide (t168 = t173 && (t169.toList == t174.toList && (t170 == t175))) = true := by simpa using c311))
                  (try (have c311b2 : (t168 == t173 && (t169.toList == t174.toList && (t170 == t175))) = true := by simpa using c311))
                  clear c311
                  have HX := Aside0.mk (Option.some.inj H)
                  clear H
                  have hnb312 := NB172_134.out
                  have hnc312 := NB134_172.out
                  have hnb313 := NB172_135.out
                  have hnc313 := NB135_172.out
                  have hnb314 := NB172_136.out
                  have hnc314 := NB136_172.out
                  have hnb315 := NB172_177.out
                  have hnc315 := NB177_172.out
                  have hcz316_0 : wc.cell? ⟨gb172, 0, none⟩ = some (.bool t168) := (blk_cell BK172.out 0).trans rfl
                  have hcz316_1 : wc.cell? ⟨gb172, 1, none⟩ = some (.string t169) := (blk_cell BK172.out 1).trans rfl
                  have hcz316_2 : wc.cell? ⟨gb172, 2, none⟩ = some (.int .i64 t170) := (blk_cell BK172.out 2).trans rfl
                  have hfz316_0 := blk_frozen BK172.out 0
                  have hfz316_1 := blk_frozen BK172.out 1
                  have hfz316_2 := blk_frozen BK172.out 2
                  have hnb317 := NB177_134.out
                  have hnc317 := NB134_177.out
                  have hnb318 := NB177_135.out
                  have hnc318 := NB135_177.out
                  have hnb319 := NB177_136.out
                  have hnc319 := NB136_177.out
                  have hcz320_0 : wc.cell? ⟨gb177, 0, none⟩ = some (.bool t173) := (blk_cell BK177.out 0).trans rfl
                  have hcz320_1 : wc.cell? ⟨gb177, 1, none⟩ = some (.string t174) := (blk_cell BK177.out 1).trans rfl
                  have hcz320_2 : wc.cell? ⟨gb177, 2, none⟩ = some (.int .i64 t175) := (blk_cell BK177.out 2).trans rfl
                  have hfz320_0 := blk_frozen BK177.out 0
                  have hfz320_1 := blk_frozen BK177.out 1
                  have hfz320_2 := blk_frozen BK177.out 2
                  go_wp2
                  go_ret
                  exact ⟨by first | exact congrArg (fun b_ => Ending.returned (Value.bool b_)) HX.out | (have hx_ := HX.out; simp at hx_ ⊢; done) | (have hx_ := HX.out; simp at hx_ ⊢; exact hx_) | (have hx_ := HX.out; simp_all) | (simp [*, errW_none, errW_some] <;> rfl), by repeat (first | (with_reducible first | exact HB.out | apply below_alloc | apply pw_below_drewN | apply below_drew1 | refine below_set ?_ GE134.out | refine below_set ?_ GE135.out | refine below_set ?_ GE136.out | refine below_set ?_ GE172.out | refine below_set ?_ GE177.out) | exact HB.out)⟩
                 ·rw [if_neg c311] at H
                  have c311b0 : (t168 == t173 && (t169.toList == t174.toList && (t170 == t175))) = false := by simpa using c311
                  (try (have c311b1 : decide (t168 = t173 && (t169.toList == t174.toList && (t170 == t175))) = false := by simpa using c311))
                  (try (have c311b2 : (t168 == t173 && (t169.toList == t174.toList && (t170 == t175))) = false := by simpa using c311))
                  (try (have c311b3 : ¬ (t168 = t173 && (t169.toList == t174.toList && (t170 == t175))) := by simpa using c311))
                  clear c311
                  have HX := Aside0.mk (Option.some.inj H)
                  clear H
                  have hnb321 := NB172_134.out
                  have hnc321 := NB134_172.out
                  have hnb322 := NB172_135.out
                  have hnc322 := NB135_172.out
                  have hnb323 := NB172_136.out
                  have hnc323 := NB136_172.out
                  have hnb324 := NB172_177.out
                  have hnc324 := NB177_172.out
                  have hcz325_0 : wc.cell? ⟨gb172, 0, none⟩ = some (.bool t168) := (blk_cell BK172.out 0).trans rfl
                  have hcz325_1 : wc.cell? ⟨gb172, 1, none⟩ = some (.string t169) := (blk_cell BK172.out 1).trans rfl
                  have hcz325_2 : wc.cell? ⟨gb172, 2, none⟩ = some (.int .i64 t170) := (blk_cell BK172.out 2).trans rfl
                  have hfz325_0 := blk_frozen BK172.out 0
                  have hfz325_1 := blk_frozen BK172.out 1
                  have hfz325_2 := blk_frozen BK172.out 2
                  have hnb326 := NB177_134.out
                  have hnc326 := NB134_177.out
                  have hnb327 := NB177_135.out
                  have hnc327 := NB135_177.out
                  have hnb328 := NB177_136.out
                  have hnc328 := NB136_177.out
                  have hcz329_0 : wc.cell? ⟨gb177, 0, none⟩ = some (.bool t173) := (blk_cell BK177.out 0).trans rfl
                  have hcz329_1 : wc.cell? ⟨gb177, 1, none⟩ = some (.string t174) := (blk_cell BK177.out 1).trans rfl
                  have hcz329_2 : wc.cell? ⟨gb177, 2, none⟩ = some (.int .i64 t175) := (blk_cell BK177.out 2).trans rfl
                  have hfz329_0 := blk_frozen BK177.out 0
                  have hfz329_1 := blk_frozen BK177.out 1
                  have hfz329_2 := blk_frozen BK177.out 2
                  go_wp2
                  go_ret
                  exact ⟨by first | exact congrArg (fun b_ => Ending.returned (Value.bool b_)) HX.out | (have hx_ := HX.out; simp at hx_ ⊢; done) | (have hx_ := HX.out; simp at hx_ ⊢; exact hx_) | (have hx_ := HX.out; simp_all) | (simp [*, errW_none, errW_some] <;> rfl), by repeat (first | (with_reducible first | exact HB.out | apply below_alloc | apply pw_below_drewN | apply below_drew1 | refine below_set ?_ GE134.out | refine below_set ?_ GE135.out | refine below_set ?_ GE136.out | refine below_set ?_ GE172.out | refine below_set ?_ GE177.out) | exact HB.out)⟩
                ·rw [if_neg c310] at H
                 have c310b0 : (t169.toList == ([48] : List UInt8)) = false := beq_eq_false_iff_ne.mpr c310
                 have c310b1 : (t169.toList != ([48] : List UInt8)) = true := bne_iff_ne.mpr c310
                 by_cases c330 : (t168 == t173 && (t169.toList == t174.toList && (t170 == t175))) = true
                 ·rw [if_pos c330] at H
                  have c330b0 : (t168 == t173 && (t169.toList == t174.toList && (t170 == t175))) = true := c330
                  (try (have c330b1 : decide (t168 = t173 && (t169.toList == t174.toList && (t170 == t175))) = true := by simpa using c330))
                  (try (have c330b2 : (t168 == t173 && (t169.toList == t174.toList && (t170 == t175))) = true := by simpa using c330))
                  clear c330
                  have HX := Aside0.mk (Option.some.inj H)
                  clear H
                  have hnb331 := NB172_134.out
                  have hnc331 := NB134_172.out
                  have hnb332 := NB172_135.out
                  have hnc332 := NB135_172.out
                  have hnb333 := NB172_136.out
                  have hnc333 := NB136_172.out
                  have hnb334 := NB172_177.out
                  have hnc334 := NB177_172.out
                  have hcz335_0 : wc.cell? ⟨gb172, 0, none⟩ = some (.bool t168) := (blk_cell BK172.out 0).trans rfl
                  have hcz335_1 : wc.cell? ⟨gb172, 1, none⟩ = some (.string t169) := (blk_cell BK172.out 1).trans rfl
                  have hcz335_2 : wc.cell? ⟨gb172, 2, none⟩ = some (.int .i64 t170) := (blk_cell BK172.out 2).trans rfl
                  have hfz335_0 := blk_frozen BK172.out 0
                  have hfz335_1 := blk_frozen BK172.out 1
                  have hfz335_2 := blk_frozen BK172.out 2
                  have hnb336 := NB177_134.out
                  have hnc336 := NB134_177.out
                  have hnb337 := NB177_135.out
                  have hnc337 := NB135_177.out
                  have hnb338 := NB177_136.out
                  have hnc338 := NB136_177.out
                  have hcz339_0 : wc.cell? ⟨gb177, 0, none⟩ = some (.bool t173) := (blk_cell BK177.out 0).trans rfl
                  have hcz339_1 : wc.cell? ⟨gb177, 1, none⟩ = some (.string t174) := (blk_cell BK177.out 1).trans rfl
                  have hcz339_2 : wc.cell? ⟨gb177, 2, none⟩ = some (.int .i64 t175) := (blk_cell BK177.out 2).trans rfl
                  have hfz339_0 := blk_frozen BK177.out 0
                  have hfz339_1 := blk_frozen BK177.out 1
                  have hfz339_2 := blk_frozen BK177.out 2
                  go_wp2
                  go_ret
                  exact ⟨by first | exact congrArg (fun b_ => Ending.returned (Value.bool b_)) HX.out | (have hx_ := HX.out; simp at hx_ ⊢; done) | (have hx_ := HX.out; simp at hx_ ⊢; exact hx_) | (have hx_ := HX.out; simp_all) | (simp [*, errW_none, errW_some] <;> rfl), by repeat (first | (with_reducible first | exact HB.out | apply below_alloc | apply pw_below_drewN | apply below_drew1 | refine below_set ?_ GE134.out | refine below_set ?_ GE135.out | refine below_set ?_ GE136.out | refine below_set ?_ GE172.out | refine below_set ?_ GE177.out) | exact HB.out)⟩
                 ·rw [if_neg c330] at H
                  have c330b0 : (t168 == t173 && (t169.toList == t174.toList && (t170 == t175))) = false := by simpa using c330
                  (try (have c330b1 : decide (t168 = t173 && (t169.toList == t174.toList && (t170 == t175))) = false := by simpa using c330))
                  (try (have c330b2 : (t168 == t173 && (t169.toList == t174.toList && (t170 == t175))) = false := by simpa using c330))
                  (try (have c330b3 : ¬ (t168 = t173 && (t169.toList == t174.toList && (t170 == t175))) := by simpa using c330))
                  clear c330
                  have HX := Aside0.mk (Option.some.inj H)
                  clear H
                  have hnb340 := NB172_134.out
                  have hnc340 := NB134_172.out
                  have hnb341 := NB172_135.out
                  have hnc341 := NB135_172.out
                  have hnb342 := NB172_136.out
                  have hnc342 := NB136_172.out
                  have hnb343 := NB172_177.out
                  have hnc343 := NB177_172.out
                  have hcz344_0 : wc.cell? ⟨gb172, 0, none⟩ = some (.bool t168) := (blk_cell BK172.out 0).trans rfl
                  have hcz344_1 : wc.cell? ⟨gb172, 1, none⟩ = some (.string t169) := (blk_cell BK172.out 1).trans rfl
                  have hcz344_2 : wc.cell? ⟨gb172, 2, none⟩ = some (.int .i64 t170) := (blk_cell BK172.out 2).trans rfl
                  have hfz344_0 := blk_frozen BK172.out 0
                  have hfz344_1 := blk_frozen BK172.out 1
                  have hfz344_2 := blk_frozen BK172.out 2
                  have hnb345 := NB177_134.out
                  have hnc345 := NB134_177.out
                  have hnb346 := NB177_135.out
                  have hnc346 := NB135_177.out
                  have hnb347 := NB177_136.out
                  have hnc347 := NB136_177.out
                  have hcz348_0 : wc.cell? ⟨gb177, 0, none⟩ = some (.bool t173) := (blk_cell BK177.out 0).trans rfl
                  have hcz348_1 : wc.cell? ⟨gb177, 1, none⟩ = some (.string t174) := (blk_cell BK177.out 1).trans rfl
                  have hcz348_2 : wc.cell? ⟨gb177, 2, none⟩ = some (.int .i64 t175) := (blk_cell BK177.out 2).trans rfl
                  have hfz348_0 := blk_frozen BK177.out 0
                  have hfz348_1 := blk_frozen BK177.out 1
                  have hfz348_2 := blk_frozen BK177.out 2
                  go_wp2
                  go_ret
                  exact ⟨by first | exact congrArg (fun b_ => Ending.returned (Value.bool b_)) HX.out | (have hx_ := HX.out; simp at hx_ ⊢; done) | (have hx_ := HX.out; simp at hx_ ⊢; exact hx_) | (have hx_ := HX.out; simp_all) | (simp [*, errW_none, errW_some] <;> rfl), by repeat (first | (with_reducible first | exact HB.out | apply below_alloc | apply pw_below_drewN | apply below_drew1 | refine below_set ?_ GE134.out | refine below_set ?_ GE135.out | refine below_set ?_ GE136.out | refine below_set ?_ GE172.out | refine below_set ?_ GE177.out) | exact HB.out)⟩
        ·rw [if_neg c125] at H
         exact absurd H (by simp)
       ·rw [if_neg c124] at H
        exact absurd H (by simp)
      ·replace c113 := Bool.eq_false_iff.mpr c113
       subst c113
       have H1 : (some true) = some true := rfl
       clear H
       have H := H1
       clear H1
       clear H
       go_wp2
       go_ret
       exact ⟨by first | rfl | (simp [errW_none, errW_some] <;> rfl) | (simp [*, errW_none, errW_some] <;> rfl), by repeat (first | (with_reducible first | exact HB.out | apply below_alloc | apply pw_below_drewN | apply below_drew1 | refine below_set ?_ GE134.out | refine below_set ?_ GE135.out | refine below_set ?_ GE136.out) | exact HB.out)⟩
end Go.Proofs.YtcgjfckhnpimbaaDoor.EScan
