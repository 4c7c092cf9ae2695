/-
  A text of this session's own.
-/
import Derived.Test.YtlmijjekaelhcaaDoorSiEDix0
import Derived.Test.YtlmijjekaelhcaaDoorSiEDix3
import Derived.Test.YtlmijjekaelhcaaDoorSiEDix4
import Derived.Test.YtlmijjekaelhcaaDoorSiX
namespace Go.Proofs.YtlmijjekaelhcaaDoor.EDi
open Go.RowKit Go.Proofs.YtlmijjekaelhcaaDoorW.PrintWords Go.Proofs.YtlmijjekaelhcaaDoorW.PrintLast Go.Proofs.YtlmijjekaelhcaaDoorW.PrintMore
attribute [local go_sem] max2_int min2_int max_two min_two max_three min_three max_four min_four   -- for this text's walks alone
set_option linter.unusedVariables false
set_option linter.unusedSimpArgs false
open Go.Proofs.YtlmijjekaelhcaaDoor.X
attribute [local go_sem high] eqA25
def directive_Check.j0 : Nat → Bool → ByteArray → Int → Int → Int → Int → Int → Int → Option (Int)
  | 0, _, _, _, _, _, _, _, _ => none
  | k + 1, x3, x106000, x106001, x106002, x106003, x106004, x106005, x106006 => if x3 = true then (some 0) else (if x106000.toList = ([] : List UInt8) then (some 132) else (if (x106001 == 0 && (x106002 == 0 && (x106003 == 0 && (x106004 == 0 && (x106005 == 0 && (x106006 == 0)))))) = true then ((xIndexByte.f x106000 37).bind fun t107 => (if t107 < 0 then (some 0) else (some 132))) else (some 132)))
def directive_Check.f (k : Nat) (a0_0 : ByteArray) (a0_1 : Int) (a0_2 : Int) (a0_3 : Int) (a0_4 : Int) (a0_5 : Int) (a0_6 : Int) : Option (Int) := (directive_inForm.f a0_0 a0_1 a0_2 a0_3 a0_4 a0_5 a0_6).bind fun t106 => (if t106 = true then (directive_Check.j0 k t106 a0_0 a0_1 a0_2 a0_3 a0_4 a0_5 a0_6) else (directive_Check.j0 k (a0_0.toList == ([] : List UInt8) && (a0_1 == 37 && (a0_2 == 0 && (a0_3 == 0 && (a0_4 == 0 && (a0_5 == 0 && (a0_6 == 0))))))) a0_0 a0_1 a0_2 a0_3 a0_4 a0_5 a0_6))
theorem directive_Check.mono_l : ∀ k, (∀ y0 y1 y2 y3 y4 y5 y6 y7, LeO (directive_Check.j0 k y0 y1 y2 y3 y4 y5 y6 y7) (directive_Check.j0 (k + 1) y0 y1 y2 y3 y4 y5 y6 y7))
  | 0 => fun _ _ _ _ _ _ _ _ r h => by simp [directive_Check.j0] at h
  | k + 1 => by
    have ih0 := directive_Check.mono_l k
    · intro y0 y1 y2 y3 y4 y5 y6 y7
      unfold directive_Check.j0
      repeat' first
      | (with_reducible exact ih0 _ _ _ _ _ _ _ _)
      | (with_reducible exact LeO.refl _)
      | (with_reducible exact LeO.none _)
      | (with_reducible refine LeO.ite ?_ ?_)
      | (with_reducible refine LeO.bind ?_ (fun _ => ?_))
      | exact ih0 _ _ _ _ _ _ _ _
      | exact LeO.none _
      | refine LeO.ite ?_ ?_
      | refine LeO.bind ?_ (fun _ => ?_)
theorem directive_Check.mono : ∀ a0 a1 a2 a3 a4 a5 a6 k, LeO (directive_Check.f k a0 a1 a2 a3 a4 a5 a6) (directive_Check.f (k + 1) a0 a1 a2 a3 a4 a5 a6) := by
  intro a0 a1 a2 a3 a4 a5 a6 k
  have ih0 := directive_Check.mono_l k
  unfold directive_Check.f
  repeat' first
      | (with_reducible exact ih0 _ _ _ _ _ _ _ _)
      | (with_reducible exact LeO.refl _)
      | (with_reducible exact LeO.none _)
      | (with_reducible refine LeO.ite ?_ ?_)
      | (with_reducible refine LeO.bind ?_ (fun _ => ?_))
      | exact ih0 _ _ _ _ _ _ _ _
      | exact LeO.none _
      | refine LeO.ite ?_ ?_
      | refine LeO.bind ?_ (fun _ => ?_)
set_option maxHeartbeats 8000000 in
set_option maxRecDepth 100000 in
theorem directive_Check.calls (k : Nat) (a0_0 : ByteArray) (a0_1 : Int) (a0_2 : Int) (a0_3 : Int) (a0_4 : Int) (a0_5 : Int) (a0_6 : Int) (r : Int) (w : World) (h : directive_Check.f k a0_0 a0_1 a0_2 a0_3 a0_4 a0_5 a0_6 = some r) :
    Calls Tryd.prog 11 #[.agg #[.string a0_0, .int .u8 a0_1, .int .i64 a0_2, .int .i64 a0_3, .int .i64 a0_4, .int .i64 a0_5, .int .i64 a0_6]] w fun e w' => e = .returned (.int .i64 r) ∧ Below w.heap.size w w' := by
  have hu25 := Tryd.underlying25
  have HB := Aside0.mk (Below.refl w.heap.size w)
  have H : ((directive_inForm.f a0_0 a0_1 a0_2 a0_3 a0_4 a0_5 a0_6).bind fun t106 => (if t106 = true then (directive_Check.j0 k t106 a0_0 a0_1 a0_2 a0_3 a0_4 a0_5 a0_6) else (directive_Check.j0 k (a0_0.toList == ([] : List UInt8) && (a0_1 == 37 && (a0_2 == 0 && (a0_3 == 0 && (a0_4 == 0 && (a0_5 == 0 && (a0_6 == 0))))))) a0_0 a0_1 a0_2 a0_3 a0_4 a0_5 a0_6))) = some r := h
  clear h
  replace H := Option.bind_eq_some_iff.mp H
  obtain ⟨t106, A20, H⟩ := H
  replace H : (if t106 = true then (directive_Check.j0 k t106 a0_0 a0_1 a0_2 a0_3 a0_4 a0_5 a0_6) else (directive_Check.j0 k (a0_0.toList == ([] : List UInt8) && (a0_1 == 37 && (a0_2 == 0 && (a0_3 == 0 && (a0_4 == 0 && (a0_5 == 0 && (a0_6 == 0))))))) a0_0 a0_1 a0_2 a0_3 a0_4 a0_5 a0_6)) = some r := H
  have A2 := Aside0.mk A20
  clear A20
  have HC3 := Aside0.mk H
  clear H
  go_enter Tryd.func11, Tryd.ntmps11
  go_upto_if 3 with (first | ((with_reducible refine gate_dst (N := 1) rfl ?_); refine box_event ?hg (N := 1) ?hd (cs := #[.string a0_0, .int .u8 a0_1, .int .i64 a0_2, .int .i64 a0_3, .int .i64 a0_4, .int .i64 a0_5, .int .i64 a0_6]) (t := 25) ?hr ?_; (case hd => rfl); (case hg => rfl); (case hr => first | (go_simp; done) | (go_simp; rfl)); intro gb105 hg w4 hbox hb; have n0_ := Aside0.mk (below_step (by repeat (first | (with_reducible first | exact HB.out | apply below_alloc | apply pw_below_drewN | apply below_drew1) | exact HB.out)) hb); have n1_ := Aside0.mk (hbox); have n2_ := Aside0.mk ((by rw [hg]; exact (below_size (by repeat (first | (with_reducible first | exact HB.out | apply below_alloc | apply pw_below_drewN | apply below_drew1) | exact HB.out))) : w.heap.size ≤ gb105)); have n3_ := Aside0.mk ((by rw [hg]; exact (below_size (by repeat (first | (with_reducible first | exact HB.out | apply below_alloc | apply pw_below_drewN | apply below_drew1) | exact HB.out))) : w.heap.size ≤ gb105)); clear HB; have HB := n0_; have BK105 := n1_; have GW105 := n2_; have GE105 := n3_; clear n0_ n1_ n2_ n3_; clear hb hbox hg; have hcz5_0 : w4.cell? ⟨gb105, 0, none⟩ = some (.string a0_0) := (blk_cell BK105.out 0).trans rfl; have hcz5_1 : w4.cell? ⟨gb105, 1, none⟩ = some (.int .u8 a0_1) := (blk_cell BK105.out 1).trans rfl; have hcz5_2 : w4.cell? ⟨gb105, 2, none⟩ = some (.int .i64 a0_2) := (blk_cell BK105.out 2).trans rfl; have hcz5_3 : w4.cell? ⟨gb105, 3, none⟩ = some (.int .i64 a0_3) := (blk_cell BK105.out 3).trans rfl; have hcz5_4 : w4.cell? ⟨gb105, 4, none⟩ = some (.int .i64 a0_4) := (blk_cell BK105.out 4).trans rfl; have hcz5_5 : w4.cell? ⟨gb105, 5, none⟩ = some (.int .i64 a0_5) := (blk_cell BK105.out 5).trans rfl; have hcz5_6 : w4.cell? ⟨gb105, 6, none⟩ = some (.int .i64 a0_6) := (blk_cell BK105.out 6).trans rfl; have hfz5_0 := blk_frozen BK105.out 0; have hfz5_1 := blk_frozen BK105.out 1; have hfz5_2 := blk_frozen BK105.out 2; have hfz5_3 := blk_frozen BK105.out 3; have hfz5_4 := blk_frozen BK105.out 4; have hfz5_5 := blk_frozen BK105.out 5; have hfz5_6 := blk_frozen BK105.out 6) | ((with_reducible refine gate_callee (f := 24) rfl ?_); refine goesL_ (some 5) rfl rfl Tryd.func24 (by kernel_rfl) rfl #[.agg #[.string a0_0, .int .u8 a0_1, .int .i64 a0_2, .int .i64 a0_3, .int .i64 a0_4, .int .i64 a0_5, .int .i64 a0_6]] rfl (by (try simp only [List.map_toArray, List.map_cons, List.map_nil]); first | done | rfl | (simp only [List.length_drop, List.length_take]; rfl)) ?_; (with_reducible refine (directive_inForm.calls a0_0 a0_1 a0_2 a0_3 a0_4 a0_5 a0_6 t106 _ A2.out).mono ?_); rintro e w6 ⟨rfl, hb⟩; refine ⟨_, rfl, ?_⟩; have n0_ := Aside0.mk (blk_below (g := gb105) (o := .cells #[.string a0_0, .int .u8 a0_1, .int .i64 a0_2, .int .i64 a0_3, .int .i64 a0_4, .int .i64 a0_5, .int .i64 a0_6] 25 (0, 0)) (by (with_reducible repeat (first | refine blk_drewN ?_ _ | refine blk_drew ?_ | refine blk_alloc ?_ _)); exact BK105.out) hb); have n1_ := Aside0.mk (below_step (by repeat (first | (with_reducible first | exact HB.out | apply below_alloc | apply pw_below_drewN | apply below_drew1 | refine below_set ?_ GE105.out) | exact HB.out)) hb); clear BK105; clear HB; have BK105 := n0_; have HB := n1_; clear n0_ n1_; (try clear hb); (try clear hb2); (try clear hk); (try clear hi)))
  (try simp only [Act.put, List.setIfInBounds_toArray, List.set_cons_zero, List.set_cons_succ])
  go_cut [3] (fun v3 wc => ∃ (kq : Nat) (x3_2 : Bool), v3 = .bool x3_2 ∧ Aside0 (directive_Check.j0 kq x3_2 a0_0 a0_1 a0_2 a0_3 a0_4 a0_5 a0_6 = some r) ∧ Aside0 (kq ≤ k) ∧ Aside0 (wc.heap[gb105]? = some (.cells #[.string a0_0, .int .u8 a0_1, .int .i64 a0_2, .int .i64 a0_3, .int .i64 a0_4, .int .i64 a0_5, .int .i64 a0_6] 25 (0, 0))) ∧ Aside0 (Below w.heap.size w wc))
  case first =>
    have H := HC3.out
    clear HC3
    by_cases c7 : t106 = true
    · subst c7
      have H1 : (directive_Check.j0 k true a0_0 a0_1 a0_2 a0_3 a0_4 a0_5 a0_6) = some r := by rw [if_pos rfl] at H; exact H
      clear H
      have H := H1
      clear H1
      have H' := Aside0.mk H
      clear H
      go_wp2
      go_meet
      case rel => exact ⟨_, (true), (by first | rfl | (simp; done) | (simp [*]; done)), H', ⟨by first | omega | exact Nat.le_refl _⟩, ⟨by (with_reducible repeat (first | refine blk_drewN ?_ _ | refine blk_drew ?_ | refine blk_alloc ?_ _)); exact BK105.out⟩, ⟨by repeat (first | (with_reducible first | exact HB.out | apply below_alloc | apply pw_below_drewN | apply below_drew1 | refine below_set ?_ GE105.out) | exact HB.out)⟩⟩
    · replace c7 := Bool.eq_false_iff.mpr c7
      subst c7
      have H1 : (directive_Check.j0 k (a0_0.toList == ([] : List UInt8) && (a0_1 == 37 && (a0_2 == 0 && (a0_3 == 0 && (a0_4 == 0 && (a0_5 == 0 && (a0_6 == 0))))))) a0_0 a0_1 a0_2 a0_3 a0_4 a0_5 a0_6) = some r := by rw [if_neg (show ¬ (false = true) by decide)] at H; exact H
      clear H
      have H := H1
      clear H1
      have H' := Aside0.mk H
      clear H
      have hcz8_0 : w6.cell? ⟨gb105, 0, none⟩ = some (.string a0_0) := (blk_cell BK105.out 0).trans rfl
      have hcz8_1 : w6.cell? ⟨gb105, 1, none⟩ = some (.int .u8 a0_1) := (blk_cell BK105.out 1).trans rfl
      have hcz8_2 : w6.cell? ⟨gb105, 2, none⟩ = some (.int .i64 a0_2) := (blk_cell BK105.out 2).trans rfl
      have hcz8_3 : w6.cell? ⟨gb105, 3, none⟩ = some (.int .i64 a0_3) := (blk_cell BK105.out 3).trans rfl
      have hcz8_4 : w6.cell? ⟨gb105, 4, none⟩ = some (.int .i64 a0_4) := (blk_cell BK105.out 4).trans rfl
      have hcz8_5 : w6.cell? ⟨gb105, 5, none⟩ = some (.int .i64 a0_5) := (blk_cell BK105.out 5).trans rfl
      have hcz8_6 : w6.cell? ⟨gb105, 6, none⟩ = some (.int .i64 a0_6) := (blk_cell BK105.out 6).trans rfl
      have hfz8_0 := blk_frozen BK105.out 0
      have hfz8_1 := blk_frozen BK105.out 1
      have hfz8_2 := blk_frozen BK105.out 2
      have hfz8_3 := blk_frozen BK105.out 3
      have hfz8_4 := blk_frozen BK105.out 4
      have hfz8_5 := blk_frozen BK105.out 5
      have hfz8_6 := blk_frozen BK105.out 6
      go_wp2
      go_meet
      case rel => exact ⟨_, ((a0_0.toList == ([] : List UInt8) && (a0_1 == 37 && (a0_2 == 0 && (a0_3 == 0 && (a0_4 == 0 && (a0_5 == 0 && (a0_6 == 0)))))))), (by first | rfl | (simp; done) | (simp [*]; done)), H', ⟨by first | omega | exact Nat.le_refl _⟩, ⟨by (with_reducible repeat (first | refine blk_drewN ?_ _ | refine blk_drew ?_ | refine blk_alloc ?_ _)); exact BK105.out⟩, ⟨by repeat (first | (with_reducible first | exact HB.out | apply below_alloc | apply pw_below_drewN | apply below_drew1 | refine below_set ?_ GE105.out) | exact HB.out)⟩⟩
  case rest =>
    clear HC3
    try clear c1
    try clear c2
    try clear p2
    try clear c7
    try clear hcz5_0
    try clear hcz5_1
    try clear hcz5_2
    try clear hcz5_3
    try clear hcz5_4
    try clear hcz5_5
    try clear hcz5_6
    try clear hcz8_0
    try clear hcz8_1
    try clear hcz8_2
    try clear hcz8_3
    try clear hcz8_4
    try clear hcz8_5
    try clear hcz8_6
    try clear hfz5_0
    try clear hfz5_1
    try clear hfz5_2
    try clear hfz5_3
    try clear hfz5_4
    try clear hfz5_5
    try clear hfz5_6
    try clear hfz8_0
    try clear hfz8_1
    try clear hfz8_2
    try clear hfz8_3
    try clear hfz8_4
    try clear hfz8_5
    try clear hfz8_6
    obtain ⟨kq, x3_2, rfl, HA, HJ2, BK105, HB⟩ := hcut
    cases kq with
    | zero => exact absurd HA.out (by simp [directive_Check.j0])
    | succ kj2 =>
      have H := HA.out
      clear HA
      simp only [directive_Check.j0] at H
      by_cases c9 : x3_2 = true
      · subst c9
        have H1 : (some 0) = some r := by rw [if_pos rfl] at H; exact H
        clear H
        have H := H1
        clear H1
        obtain rfl := Option.some.inj H
        go_wp2
        go_ret
        exact ⟨by first | rfl | (simp [errW_none, errW_some] <;> rfl) | (simp [*, errW_none, errW_some] <;> rfl), by repeat (first | (with_reducible first | exact HB.out | apply below_alloc | apply pw_below_drewN | apply below_drew1 | refine below_set ?_ GE105.out) | exact HB.out)⟩
      · replace c9 := Bool.eq_false_iff.mpr c9
        subst c9
        have H1 : (if a0_0.toList = ([] : List UInt8) then (some 132) else (if (a0_1 == 0 && (a0_2 == 0 && (a0_3 == 0 && (a0_4 == 0 && (a0_5 == 0 && (a0_6 == 0)))))) = true then ((xIndexByte.f a0_0 37).bind fun t107 => (if t107 < 0 then (some 0) else (some 132))) else (some 132))) = some r := by rw [if_neg (show ¬ (false = true) by decide)] at H; exact H
        clear H
        have H := H1
        clear H1
        by_cases c10 : a0_0.toList = ([] : List UInt8)
        · rw [if_pos c10] at H
          have c10b0 : (a0_0.toList == ([] : List UInt8)) = true := beq_iff_eq.mpr c10
          have c10b1 : (a0_0.toList != ([] : List UInt8)) = false := bne_eq_false_iff_eq.mpr c10
          clear c10
          obtain rfl := Option.some.inj H
          have hcz11_0 : wc.cell? ⟨gb105, 0, none⟩ = some (.string a0_0) := (blk_cell BK105.out 0).trans rfl
          have hcz11_1 : wc.cell? ⟨gb105, 1, none⟩ = some (.int .u8 a0_1) := (blk_cell BK105.out 1).trans rfl
          have hcz11_2 : wc.cell? ⟨gb105, 2, none⟩ = some (.int .i64 a0_2) := (blk_cell BK105.out 2).trans rfl
          have hcz11_3 : wc.cell? ⟨gb105, 3, none⟩ = some (.int .i64 a0_3) := (blk_cell BK105.out 3).trans rfl
          have hcz11_4 : wc.cell? ⟨gb105, 4, none⟩ = some (.int .i64 a0_4) := (blk_cell BK105.out 4).trans rfl
          have hcz11_5 : wc.cell? ⟨gb105, 5, none⟩ = some (.int .i64 a0_5) := (blk_cell BK105.out 5).trans rfl
          have hcz11_6 : wc.cell? ⟨gb105, 6, none⟩ = some (.int .i64 a0_6) := (blk_cell BK105.out 6).trans rfl
          have hfz11_0 := blk_frozen BK105.out 0
          have hfz11_1 := blk_frozen BK105.out 1
          have hfz11_2 := blk_frozen BK105.out 2
          have hfz11_3 := blk_frozen BK105.out 3
          have hfz11_4 := blk_frozen BK105.out 4
          have hfz11_5 := blk_frozen BK105.out 5
          have hfz11_6 := blk_frozen BK105.out 6
          go_wp2
          go_ret
          exact ⟨by first | rfl | (simp [errW_none, errW_some] <;> rfl) | (simp [*, errW_none, errW_some] <;> rfl), by repeat (first | (with_reducible first | exact HB.out | apply below_alloc | apply pw_below_drewN | apply below_drew1 | refine below_set ?_ GE105.out) | exact HB.out)⟩
        · rw [if_neg c10] at H
          have c10b0 : (a0_0.toList == ([] : List UInt8)) = false := beq_eq_false_iff_ne.mpr c10
          have c10b1 : (a0_0.toList != ([] : List UInt8)) = true := bne_iff_ne.mpr c10
          by_cases c12 : (a0_1 == 0 && (a0_2 == 0 && (a0_3 == 0 && (a0_4 == 0 && (a0_5 == 0 && (a0_6 == 0)))))) = true
          · rw [if_pos c12] at H
            have c12b0 : (a0_1 == 0 && (a0_2 == 0 && (a0_3 == 0 && (a0_4 == 0 && (a0_5 == 0 && (a0_6 == 0)))))) = true := c12
            (try (have c12b1 : decide (a0_1 = 0 && (a0_2 == 0 && (a0_3 == 0 && (a0_4 == 0 && (a0_5 == 0 && (a0_6 == 0)))))) = true := by simpa using c12))
            (try (have c12b2 : (a0_1 == 0 && (a0_2 == 0 && (a0_3 == 0 && (a0_4 == 0 && (a0_5 == 0 && (a0_6 == 0)))))) = true := by simpa using c12))
            clear c12
            replace H := Option.bind_eq_some_iff.mp H
            obtain ⟨t107, A130, H⟩ := H
            replace H : (if t107 < 0 then (some 0) else (some 132)) = some r := H
            have A13 := Aside0.mk A130
            clear A130
            by_cases c14 : t107 < 0
            · rw [if_pos c14] at H
              have c14b0 : decide (t107 < 0) = true := decide_eq_true c14
              clear c14
              obtain rfl := Option.some.inj H
              have hcz15_0 : wc.cell? ⟨gb105, 0, none⟩ = some (.string a0_0) := (blk_cell BK105.out 0).trans rfl
              have hcz15_1 : wc.cell? ⟨gb105, 1, none⟩ = some (.int .u8 a0_1) := (blk_cell BK105.out 1).trans rfl
              have hcz15_2 : wc.cell? ⟨gb105, 2, none⟩ = some (.int .i64 a0_2) := (blk_cell BK105.out 2).trans rfl
              have hcz15_3 : wc.cell? ⟨gb105, 3, none⟩ = some (.int .i64 a0_3) := (blk_cell BK105.out 3).trans rfl
              have hcz15_4 : wc.cell? ⟨gb105, 4, none⟩ = some (.int .i64 a0_4) := (blk_cell BK105.out 4).trans rfl
              have hcz15_5 : wc.cell? ⟨gb105, 5, none⟩ = some (.int .i64 a0_5) := (blk_cell BK105.out 5).trans rfl
              have hcz15_6 : wc.cell? ⟨gb105, 6, none⟩ = some (.int .i64 a0_6) := (blk_cell BK105.out 6).trans rfl
              have hfz15_0 := blk_frozen BK105.out 0
              have hfz15_1 := blk_frozen BK105.out 1
              have hfz15_2 := blk_frozen BK105.out 2
              have hfz15_3 := blk_frozen BK105.out 3
              have hfz15_4 := blk_frozen BK105.out 4
              have hfz15_5 := blk_frozen BK105.out 5
              have hfz15_6 := blk_frozen BK105.out 6
              go_wp2_with (first | (go_at_call 25; (with_reducible refine (xIndexByte.calls a0_0 37 t107 _ A13.out).mono ?_); rintro e w16 ⟨rfl, hb⟩; have n0_ := Aside0.mk (blk_below (g := gb105) (o := .cells #[.string a0_0, .int .u8 a0_1, .int .i64 a0_2, .int .i64 a0_3, .int .i64 a0_4, .int .i64 a0_5, .int .i64 a0_6] 25 (0, 0)) (by (with_reducible repeat (first | refine blk_drewN ?_ _ | refine blk_drew ?_ | refine blk_alloc ?_ _)); exact BK105.out) hb); have n1_ := Aside0.mk (below_step (by repeat (first | (with_reducible first | exact HB.out | apply below_alloc | apply pw_below_drewN | apply below_drew1 | refine below_set ?_ GE105.out) | exact HB.out)) hb); clear BK105; clear HB; have BK105 := n0_; have HB := n1_; clear n0_ n1_; (try clear hb); (try clear hb2); (try clear hk); (try clear hi)))
              go_ret
              exact ⟨by first | rfl | (simp [errW_none, errW_some] <;> rfl) | (simp [*, errW_none, errW_some] <;> rfl), by repeat (first | (with_reducible first | exact HB.out | apply below_alloc | apply pw_below_drewN | apply below_drew1 | refine below_set ?_ GE105.out) | exact HB.out)⟩
            · rw [if_neg c14] at H
              have c14b0 : decide (t107 < 0) = false := decide_eq_false c14
              clear c14
              obtain rfl := Option.some.inj H
              have hcz17_0 : wc.cell? ⟨gb105, 0, none⟩ = some (.string a0_0) := (blk_cell BK105.out 0).trans rfl
              have hcz17_1 : wc.cell? ⟨gb105, 1, none⟩ = some (.int .u8 a0_1) := (blk_cell BK105.out 1).trans rfl
              have hcz17_2 : wc.cell? ⟨gb105, 2, none⟩ = some (.int .i64 a0_2) := (blk_cell BK105.out 2).trans rfl
              have hcz17_3 : wc.cell? ⟨gb105, 3, none⟩ = some (.int .i64 a0_3) := (blk_cell BK105.out 3).trans rfl
              have hcz17_4 : wc.cell? ⟨gb105, 4, none⟩ = some (.int .i64 a0_4) := (blk_cell BK105.out 4).trans rfl
              have hcz17_5 : wc.cell? ⟨gb105, 5, none⟩ = some (.int .i64 a0_5) := (blk_cell BK105.out 5).trans rfl
              have hcz17_6 : wc.cell? ⟨gb105, 6, none⟩ = some (.int .i64 a0_6) := (blk_cell BK105.out 6).trans rfl
              have hfz17_0 := blk_frozen BK105.out 0
              have hfz17_1 := blk_frozen BK105.out 1
              have hfz17_2 := blk_frozen BK105.out 2
              have hfz17_3 := blk_frozen BK105.out 3
              have hfz17_4 := blk_frozen BK105.out 4
              have hfz17_5 := blk_frozen BK105.out 5
              have hfz17_6 := blk_frozen BK105.out 6
              go_wp2_with (first | (go_at_call 25; (with_reducible refine (xIndexByte.calls a0_0 37 t107 _ A13.out).mono ?_); rintro e w18 ⟨rfl, hb⟩; have n0_ := Aside0.mk (blk_below (g := gb105) (o := .cells #[.string a0_0, .int .u8 a0_1, .int .i64 a0_2, .int .i64 a0_3, .int .i64 a0_4, .int .i64 a0_5, .int .i64 a0_6] 25 (0, 0)) (by (with_reducible repeat (first | refine blk_drewN ?_ _ | refine blk_drew ?_ | refine blk_alloc ?_ _)); exact BK105.out) hb); have n1_ := Aside0.mk (below_step (by repeat (first | (with_reducible first | exact HB.out | apply below_alloc | apply pw_below_drewN | apply below_drew1 | refine below_set ?_ GE105.out) | exact HB.out)) hb); clear BK105; clear HB; have BK105 := n0_; have HB := n1_; clear n0_ n1_; (try clear hb); (try clear hb2); (try clear hk); (try clear hi)))
              go_ret
              exact ⟨by first | rfl | (simp [errW_none, errW_some] <;> rfl) | (simp [*, errW_none, errW_some] <;> rfl), by repeat (first | (with_reducible first | exact HB.out | apply below_alloc | apply pw_below_drewN | apply below_drew1 | refine below_set ?_ GE105.out) | exact HB.out)⟩
          · rw [if_neg c12] at H
            have c12b0 : (a0_1 == 0 && (a0_2 == 0 && (a0_3 == 0 && (a0_4 == 0 && (a0_5 == 0 && (a0_6 == 0)))))) = false := by simpa using c12
            (try (have c12b1 : decide (a0_1 = 0 && (a0_2 == 0 && (a0_3 == 0 && (a0_4 == 0 && (a0_5 == 0 && (a0_6 == 0)))))) = false := by simpa using c12))
            (try (have c12b2 : (a0_1 == 0 && (a0_2 == 0 && (a0_3 == 0 && (a0_4 == 0 && (a0_5 == 0 && (a0_6 == 0)))))) = false := by simpa using c12))
            (try (have c12b3 : ¬ (a0_1 = 0 && (a0_2 == 0 && (a0_3 == 0 && (a0_4 == 0 && (a0_5 == 0 && (a0_6 == 0)))))) := by simpa using c12))
            clear c12
            obtain rfl := Option.some.inj H
            have hcz19_0 : wc.cell? ⟨gb105, 0, none⟩ = some (.string a0_0) := (blk_cell BK105.out 0).trans rfl
            have hcz19_1 : wc.cell? ⟨gb105, 1, none⟩ = some (.int .u8 a0_1) := (blk_cell BK105.out 1).trans rfl
            have hcz19_2 : wc.cell? ⟨gb105, 2, none⟩ = some (.int .i64 a0_2) := (blk_cell BK105.out 2).trans rfl
            have hcz19_3 : wc.cell? ⟨gb105, 3, none⟩ = some (.int .i64 a0_3) := (blk_cell BK105.out 3).trans rfl
            have hcz19_4 : wc.cell? ⟨gb105, 4, none⟩ = some (.int .i64 a0_4) := (blk_cell BK105.out 4).trans rfl
            have hcz19_5 : wc.cell? ⟨gb105, 5, none⟩ = some (.int .i64 a0_5) := (blk_cell BK105.out 5).trans rfl
            have hcz19_6 : wc.cell? ⟨gb105, 6, none⟩ = some (.int .i64 a0_6) := (blk_cell BK105.out 6).trans rfl
            have hfz19_0 := blk_frozen BK105.out 0
            have hfz19_1 := blk_frozen BK105.out 1
            have hfz19_2 := blk_frozen BK105.out 2
            have hfz19_3 := blk_frozen BK105.out 3
            have hfz19_4 := blk_frozen BK105.out 4
            have hfz19_5 := blk_frozen BK105.out 5
            have hfz19_6 := blk_frozen BK105.out 6
            go_wp2
            go_ret
            exact ⟨by first | rfl | (simp [errW_none, errW_some] <;> rfl) | (simp [*, errW_none, errW_some] <;> rfl), by repeat (first | (with_reducible first | exact HB.out | apply below_alloc | apply pw_below_drewN | apply below_drew1 | refine below_set ?_ GE105.out) | exact HB.out)⟩
end Go.Proofs.YtlmijjekaelhcaaDoor.EDi
