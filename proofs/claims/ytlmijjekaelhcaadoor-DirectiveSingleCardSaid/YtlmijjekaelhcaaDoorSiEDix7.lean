/-
  A text of this session's own.
-/
import Derived.Test.YtlmijjekaelhcaaDoorSiEDix0
import Derived.Test.YtlmijjekaelhcaaDoorSiXIt
import Derived.Test.YtlmijjekaelhcaaDoorSiX
namespace Go.Proofs.YtlmijjekaelhcaaDoor.EDi
open Go.RowKit Go.Proofs.YtlmijjekaelhcaaDoorW.PrintWords Go.Proofs.YtlmijjekaelhcaaDoorW.PrintLast Go.Proofs.YtlmijjekaelhcaaDoorW.PrintMore
attribute [local go_sem] max2_int min2_int max_two min_two max_three min_three max_four min_four   -- for this text's walks alone
set_option linter.unusedVariables false
set_option linter.unusedSimpArgs false
open Go.Proofs.YtlmijjekaelhcaaDoor.X
def directive_text.l0 : Nat → ByteArray → Int → ByteArray → Int → Int → Int → Int → Int → Int → Option (ByteArray)
  | 0, _, _, _, _, _, _, _, _, _ => none
  | k + 1, x3, x13, x110000, x110001, x110002, x110003, x110004, x110005, x110006 => if x13 < 5 then (if 0 ≤ x13 then (if (Go.bits .and .i64 (shr .i64 x110002 x13) 1) = 1 then (if x13 ≤ (wrap64 (x13 + 1)) then (if (wrap64 (x13 + 1)) ≤ 5 then (if x3.size + ((⟨#[45, 43, 32, 35, 48]⟩ : ByteArray).extract (x13 : Int).toNat ((wrap64 (x13 + 1)) : Int).toNat).size ≤ 9223372036854775807 then (directive_text.l0 k (x3 ++ ((⟨#[45, 43, 32, 35, 48]⟩ : ByteArray).extract (x13 : Int).toNat ((wrap64 (x13 + 1)) : Int).toNat)) (wrap64 (x13 + 1)) x110000 x110001 x110002 x110003 x110004 x110005 x110006) else (none)) else (none)) else (none)) else (directive_text.l0 k x3 (wrap64 (x13 + 1)) x110000 x110001 x110002 x110003 x110004 x110005 x110006)) else (none)) else ((directive_shown.f x110003 x110004).bind fun t110 => (if x3.size + t110.size ≤ 9223372036854775807 then (if x110005 = 0 then ((some (([x110001] : List Int) : List Int)).bind fun y111 => (if (x3 ++ t110).size + (strOfNums y111).size ≤ 9223372036854775807 then (some ((x3 ++ t110) ++ (strOfNums y111))) else (none))) else ((directive_shown.f x110005 x110006).bind fun t114 => (if 1 + t114.size ≤ 9223372036854775807 then (if (x3 ++ t110).size + ((⟨#[46]⟩ : ByteArray) ++ t114).size ≤ 9223372036854775807 then ((some (([x110001] : List Int) : List Int)).bind fun y115 => (if ((x3 ++ t110) ++ ((⟨#[46]⟩ : ByteArray) ++ t114)).size + (strOfNums y115).size ≤ 9223372036854775807 then (some (((x3 ++ t110) ++ ((⟨#[46]⟩ : ByteArray) ++ t114)) ++ (strOfNums y115))) else (none))) else (none)) else (none)))) else (none)))
def directive_text.f (k : Nat) (a0_0 : ByteArray) (a0_1 : Int) (a0_2 : Int) (a0_3 : Int) (a0_4 : Int) (a0_5 : Int) (a0_6 : Int) : Option (ByteArray) := if a0_1 = 0 then (some a0_0) else (if a0_1 = 37 then (some (⟨#[37, 37]⟩ : ByteArray)) else (directive_text.l0 k (⟨#[37]⟩ : ByteArray) 0 a0_0 a0_1 a0_2 a0_3 a0_4 a0_5 a0_6))
theorem directive_text.mono_l : ∀ k, (∀ y0 y1 y2 y3 y4 y5 y6 y7 y8, LeO (directive_text.l0 k y0 y1 y2 y3 y4 y5 y6 y7 y8) (directive_text.l0 (k + 1) y0 y1 y2 y3 y4 y5 y6 y7 y8))
  | 0 => fun _ _ _ _ _ _ _ _ _ r h => by simp [directive_text.l0] at h
  | k + 1 => by
    have ih0 := directive_text.mono_l k
    · intro y0 y1 y2 y3 y4 y5 y6 y7 y8
      unfold directive_text.l0
      repeat' first
      | (with_reducible exact ih0 _ _ _ _ _ _ _ _ _)
      | (with_reducible exact LeO.refl _)
      | (with_reducible exact LeO.none _)
      | (with_reducible refine LeO.ite ?_ ?_)
      | (with_reducible refine LeO.bind ?_ (fun _ => ?_))
      | exact ih0 _ _ _ _ _ _ _ _ _
      | exact LeO.none _
      | refine LeO.ite ?_ ?_
      | refine LeO.bind ?_ (fun _ => ?_)
theorem directive_text.mono : ∀ a0 a1 a2 a3 a4 a5 a6 k, LeO (directive_text.f k a0 a1 a2 a3 a4 a5 a6) (directive_text.f (k + 1) a0 a1 a2 a3 a4 a5 a6) := by
  intro a0 a1 a2 a3 a4 a5 a6 k
  have ih0 := directive_text.mono_l k
  unfold directive_text.f
  repeat' first
      | (with_reducible exact ih0 _ _ _ _ _ _ _ _ _)
      | (with_reducible exact LeO.refl _)
      | (with_reducible exact LeO.none _)
      | (with_reducible refine LeO.ite ?_ ?_)
      | (with_reducible refine LeO.bind ?_ (fun _ => ?_))
      | exact ih0 _ _ _ _ _ _ _ _ _
      | exact LeO.none _
      | refine LeO.ite ?_ ?_
      | refine LeO.bind ?_ (fun _ => ?_)
set_option maxHeartbeats 8000000 in
set_option maxRecDepth 100000 in
theorem directive_text.calls (k : Nat) (a0_0 : ByteArray) (a0_1 : Int) (a0_2 : Int) (a0_3 : Int) (a0_4 : Int) (a0_5 : Int) (a0_6 : Int) (r : ByteArray) (w : World) (hG : GW w) (h : directive_text.f k a0_0 a0_1 a0_2 a0_3 a0_4 a0_5 a0_6 = some r) :
    Calls Tryd.prog 26 #[.agg #[.string a0_0, .int .u8 a0_1, .int .i64 a0_2, .int .i64 a0_3, .int .i64 a0_4, .int .i64 a0_5, .int .i64 a0_6]] w fun e w' => e = .returned (.string r) ∧ Below w.heap.size w w' := by
  have hu25 := Tryd.underlying25
  have HB := Aside0.mk (Below.refl w.heap.size w)
  have HG := Aside0.mk hG
  clear hG
  have H : (if a0_1 = 0 then (some a0_0) else (if a0_1 = 37 then (some (⟨#[37, 37]⟩ : ByteArray)) else (directive_text.l0 k (⟨#[37]⟩ : ByteArray) 0 a0_0 a0_1 a0_2 a0_3 a0_4 a0_5 a0_6))) = some r := h
  clear h
  by_cases c2 : a0_1 = 0
  · rw [if_pos c2] at H
    have c2b0 : (a0_1 == 0) = true := beq_iff_eq.mpr c2
    have c2b1 : (a0_1 != 0) = false := bne_eq_false_iff_eq.mpr c2
    clear c2
    obtain rfl := Option.some.inj H
    go_enter Tryd.func26, Tryd.ntmps26
    go_wp2_with (first | ((with_reducible refine gate_dst (N := 1) rfl ?_); refine box_event ?hg (N := 1) ?hd (cs := #[.string a0_0, .int .u8 a0_1, .int .i64 a0_2, .int .i64 a0_3, .int .i64 a0_4, .int .i64 a0_5, .int .i64 a0_6]) (t := 25) ?hr ?_; (case hd => rfl); (case hg => rfl); (case hr => first | (go_simp; done) | (go_simp; rfl)); intro gb109 hg w3 hbox hb; have n0_ := Aside0.mk (below_step (by repeat (first | (with_reducible first | exact HB.out | apply below_alloc | apply pw_below_drewN | apply below_drew1) | exact HB.out)) hb); have n1_ := Aside0.mk (hbox); have n2_ := Aside0.mk ((by rw [hg]; exact (below_size (by repeat (first | (with_reducible first | exact HB.out | apply below_alloc | apply pw_below_drewN | apply below_drew1) | exact HB.out))) : w.heap.size ≤ gb109)); have n3_ := Aside0.mk ((by rw [hg]; exact (below_size (by repeat (first | (with_reducible first | exact HB.out | apply below_alloc | apply pw_below_drewN | apply below_drew1) | exact HB.out))) : w.heap.size ≤ gb109)); clear HB; have HB := n0_; have BK109 := n1_; have GW109 := n2_; have GE109 := n3_; clear n0_ n1_ n2_ n3_; clear hb hbox hg; have hcz4_0 : w3.cell? ⟨gb109, 0, none⟩ = some (.string a0_0) := (blk_cell BK109.out 0).trans rfl; have hcz4_1 : w3.cell? ⟨gb109, 1, none⟩ = some (.int .u8 a0_1) := (blk_cell BK109.out 1).trans rfl; have hcz4_2 : w3.cell? ⟨gb109, 2, none⟩ = some (.int .i64 a0_2) := (blk_cell BK109.out 2).trans rfl; have hcz4_3 : w3.cell? ⟨gb109, 3, none⟩ = some (.int .i64 a0_3) := (blk_cell BK109.out 3).trans rfl; have hcz4_4 : w3.cell? ⟨gb109, 4, none⟩ = some (.int .i64 a0_4) := (blk_cell BK109.out 4).trans rfl; have hcz4_5 : w3.cell? ⟨gb109, 5, none⟩ = some (.int .i64 a0_5) := (blk_cell BK109.out 5).trans rfl; have hcz4_6 : w3.cell? ⟨gb109, 6, none⟩ = some (.int .i64 a0_6) := (blk_cell BK109.out 6).trans rfl; have hfz4_0 := blk_frozen BK109.out 0; have hfz4_1 := blk_frozen BK109.out 1; have hfz4_2 := blk_frozen BK109.out 2; have hfz4_3 := blk_frozen BK109.out 3; have hfz4_4 := blk_frozen BK109.out 4; have hfz4_5 := blk_frozen BK109.out 5; have hfz4_6 := blk_frozen BK109.out 6))
    go_ret
    exact ⟨by first | rfl | (simp [errW_none, errW_some] <;> rfl) | (simp [*, errW_none, errW_some] <;> rfl), by repeat (first | (with_reducible first | exact HB.out | apply below_alloc | apply pw_below_drewN | apply below_drew1 | refine below_set ?_ GE109.out) | exact HB.out)⟩
  · rw [if_neg c2] at H
    have c2b0 : (a0_1 == 0) = false := beq_eq_false_iff_ne.mpr c2
    have c2b1 : (a0_1 != 0) = true := bne_iff_ne.mpr c2
    by_cases c5 : a0_1 = 37
    · rw [if_pos c5] at H
      have c5b0 : (a0_1 == 37) = true := beq_iff_eq.mpr c5
      have c5b1 : (a0_1 != 37) = false := bne_eq_false_iff_eq.mpr c5
      clear c5
      obtain rfl := Option.some.inj H
      go_enter Tryd.func26, Tryd.ntmps26
      go_wp2_with (first | ((with_reducible refine gate_dst (N := 1) rfl ?_); refine box_event ?hg (N := 1) ?hd (cs := #[.string a0_0, .int .u8 a0_1, .int .i64 a0_2, .int .i64 a0_3, .int .i64 a0_4, .int .i64 a0_5, .int .i64 a0_6]) (t := 25) ?hr ?_; (case hd => rfl); (case hg => rfl); (case hr => first | (go_simp; done) | (go_simp; rfl)); intro gb109 hg w6 hbox hb; have n0_ := Aside0.mk (below_step (by repeat (first | (with_reducible first | exact HB.out | apply below_alloc | apply pw_below_drewN | apply below_drew1) | exact HB.out)) hb); have n1_ := Aside0.mk (hbox); have n2_ := Aside0.mk ((by rw [hg]; exact (below_size (by repeat (first | (with_reducible first | exact HB.out | apply below_alloc | apply pw_below_drewN | apply below_drew1) | exact HB.out))) : w.heap.size ≤ gb109)); have n3_ := Aside0.mk ((by rw [hg]; exact (below_size (by repeat (first | (with_reducible first | exact HB.out | apply below_alloc | apply pw_below_drewN | apply below_drew1) | exact HB.out))) : w.heap.size ≤ gb109)); clear HB; have HB := n0_; have BK109 := n1_; have GW109 := n2_; have GE109 := n3_; clear n0_ n1_ n2_ n3_; clear hb hbox hg; have hcz7_0 : w6.cell? ⟨gb109, 0, none⟩ = some (.string a0_0) := (blk_cell BK109.out 0).trans rfl; have hcz7_1 : w6.cell? ⟨gb109, 1, none⟩ = some (.int .u8 a0_1) := (blk_cell BK109.out 1).trans rfl; have hcz7_2 : w6.cell? ⟨gb109, 2, none⟩ = some (.int .i64 a0_2) := (blk_cell BK109.out 2).trans rfl; have hcz7_3 : w6.cell? ⟨gb109, 3, none⟩ = some (.int .i64 a0_3) := (blk_cell BK109.out 3).trans rfl; have hcz7_4 : w6.cell? ⟨gb109, 4, none⟩ = some (.int .i64 a0_4) := (blk_cell BK109.out 4).trans rfl; have hcz7_5 : w6.cell? ⟨gb109, 5, none⟩ = some (.int .i64 a0_5) := (blk_cell BK109.out 5).trans rfl; have hcz7_6 : w6.cell? ⟨gb109, 6, none⟩ = some (.int .i64 a0_6) := (blk_cell BK109.out 6).trans rfl; have hfz7_0 := blk_frozen BK109.out 0; have hfz7_1 := blk_frozen BK109.out 1; have hfz7_2 := blk_frozen BK109.out 2; have hfz7_3 := blk_frozen BK109.out 3; have hfz7_4 := blk_frozen BK109.out 4; have hfz7_5 := blk_frozen BK109.out 5; have hfz7_6 := blk_frozen BK109.out 6))
      go_ret
      exact ⟨by first | rfl | (simp [errW_none, errW_some] <;> rfl) | (simp [*, errW_none, errW_some] <;> rfl), by repeat (first | (with_reducible first | exact HB.out | apply below_alloc | apply pw_below_drewN | apply below_drew1 | refine below_set ?_ GE109.out) | exact HB.out)⟩
    · rw [if_neg c5] at H
      have c5b0 : (a0_1 == 37) = false := beq_eq_false_iff_ne.mpr c5
      have c5b1 : (a0_1 != 37) = true := bne_iff_ne.mpr c5
      have H' := Aside0.mk H
      clear H
      go_enter Tryd.func26, Tryd.ntmps26
      go_wp2_with (first | ((with_reducible refine gate_dst (N := 13) rfl ?_); refine It.new rfl (N := 13) rfl rfl Tryd.underlying9 rfl ?_; intro git wit hit hb hgi; have n0_ := Aside0.mk hit; have n1_ := Aside0.mk (blk_below_ BK109.out hb); have n2_ := Aside0.mk (below_step (by repeat (first | (with_reducible first | exact HB.out | apply below_alloc | apply pw_below_drewN | apply below_drew1) | exact HB.out)) hb); have n3_ := Aside0.mk (show w.heap.size ≤ git from by rw [hgi]; exact below_size (by repeat (first | (with_reducible first | exact HB.out | apply below_alloc | apply pw_below_drewN | apply below_drew1) | exact HB.out))); clear BK109 HB; have HIT := n0_; have BK109 := n1_; have HB := n2_; have HGI := n3_; clear n0_ n1_ n2_ n3_ hit hb hgi) | ((with_reducible refine gate_dst (N := 1) rfl ?_); refine box_event ?hg (N := 1) ?hd (cs := #[.string a0_0, .int .u8 a0_1, .int .i64 a0_2, .int .i64 a0_3, .int .i64 a0_4, .int .i64 a0_5, .int .i64 a0_6]) (t := 25) ?hr ?_; (case hd => rfl); (case hg => rfl); (case hr => first | (go_simp; done) | (go_simp; rfl)); intro gb109 hg w8 hbox hb; have n0_ := Aside0.mk (below_step (by repeat (first | (with_reducible first | exact HB.out | apply below_alloc | apply pw_below_drewN | apply below_drew1) | exact HB.out)) hb); have n1_ := Aside0.mk (hbox); have n2_ := Aside0.mk ((by rw [hg]; exact (below_size (by repeat (first | (with_reducible first | exact HB.out | apply below_alloc | apply pw_below_drewN | apply below_drew1) | exact HB.out))) : w.heap.size ≤ gb109)); have n3_ := Aside0.mk ((by rw [hg]; exact (below_size (by repeat (first | (with_reducible first | exact HB.out | apply below_alloc | apply pw_below_drewN | apply below_drew1) | exact HB.out))) : w.heap.size ≤ gb109)); clear HB; have HB := n0_; have BK109 := n1_; have GW109 := n2_; have GE109 := n3_; clear n0_ n1_ n2_ n3_; clear hb hbox hg; have hcz9_0 : w8.cell? ⟨gb109, 0, none⟩ = some (.string a0_0) := (blk_cell BK109.out 0).trans rfl; have hcz9_1 : w8.cell? ⟨gb109, 1, none⟩ = some (.int .u8 a0_1) := (blk_cell BK109.out 1).trans rfl; have hcz9_2 : w8.cell? ⟨gb109, 2, none⟩ = some (.int .i64 a0_2) := (blk_cell BK109.out 2).trans rfl; have hcz9_3 : w8.cell? ⟨gb109, 3, none⟩ = some (.int .i64 a0_3) := (blk_cell BK109.out 3).trans rfl; have hcz9_4 : w8.cell? ⟨gb109, 4, none⟩ = some (.int .i64 a0_4) := (blk_cell BK109.out 4).trans rfl; have hcz9_5 : w8.cell? ⟨gb109, 5, none⟩ = some (.int .i64 a0_5) := (blk_cell BK109.out 5).trans rfl; have hcz9_6 : w8.cell? ⟨gb109, 6, none⟩ = some (.int .i64 a0_6) := (blk_cell BK109.out 6).trans rfl; have hfz9_0 := blk_frozen BK109.out 0; have hfz9_1 := blk_frozen BK109.out 1; have hfz9_2 := blk_frozen BK109.out 2; have hfz9_3 := blk_frozen BK109.out 3; have hfz9_4 := blk_frozen BK109.out 4; have hfz9_5 := blk_frozen BK109.out 5; have hfz9_6 := blk_frozen BK109.out 6))
      simp only [Act.put, List.setIfInBounds_toArray, List.set_cons_zero, List.set_cons_succ, i64_w, i32_w]
      go_loopg [3] k (fun kq v3 w' => ∃ (x3_1 : ByteArray) (x13_1 : Int), v3 = .string x3_1 ∧ Aside0 (directive_text.l0 kq x3_1 x13_1 a0_0 a0_1 a0_2 a0_3 a0_4 a0_5 a0_6 = some r) ∧ Aside0 (kq ≤ k) ∧ Aside0 (w'.heap[gb109]? = some (.cells #[.string a0_0, .int .u8 a0_1, .int .i64 a0_2, .int .i64 a0_3, .int .i64 a0_4, .int .i64 a0_5, .int .i64 a0_6] 25 (0, 0))) ∧ Aside0 (It w' git x13_1) ∧ Aside0 (Below w.heap.size w w'))
      case atStart => exact ⟨((⟨#[37]⟩ : ByteArray)), (0), (by first | rfl | (simp; done) | (simp [*]; done)), H', ⟨Nat.le_refl _⟩, ⟨by (with_reducible repeat (first | refine blk_drewN ?_ _ | refine blk_drew ?_ | refine blk_alloc ?_ _)); exact BK109.out⟩, ⟨HIT.out⟩, ⟨by repeat (first | (with_reducible first | exact HB.out | apply below_alloc | apply pw_below_drewN | apply below_drew1 | refine below_set ?_ GE109.out) | exact HB.out)⟩⟩
      case round =>
        clear H'
        try clear c2
        try clear c2b0
        try clear c2b1
        try clear p2
        try clear c5
        try clear c5b0
        try clear c5b1
        try clear hcz4_0
        try clear hcz4_1
        try clear hcz4_2
        try clear hcz4_3
        try clear hcz4_4
        try clear hcz4_5
        try clear hcz4_6
        try clear hcz7_0
        try clear hcz7_1
        try clear hcz7_2
        try clear hcz7_3
        try clear hcz7_4
        try clear hcz7_5
        try clear hcz7_6
        try clear hcz9_0
        try clear hcz9_1
        try clear hcz9_2
        try clear hcz9_3
        try clear hcz9_4
        try clear hcz9_5
        try clear hcz9_6
        try clear hfz4_0
        try clear hfz4_1
        try clear hfz4_2
        try clear hfz4_3
        try clear hfz4_4
        try clear hfz4_5
        try clear hfz4_6
        try clear hfz7_0
        try clear hfz7_1
        try clear hfz7_2
        try clear hfz7_3
        try clear hfz7_4
        try clear hfz7_5
        try clear hfz7_6
        try clear hfz9_0
        try clear hfz9_1
        try clear hfz9_2
        try clear hfz9_3
        try clear hfz9_4
        try clear hfz9_5
        try clear hfz9_6
        obtain ⟨x3_1, x13_1, rfl, HA, HK1, BK109, HIT, HB⟩ := hrel
        cases gk with
        | zero => exact absurd HA.out (by simp [directive_text.l0])
        | succ k1 =>
          have H := HA.out
          clear HA
          simp only [directive_text.l0] at H
          by_cases c10 : x13_1 < 5
          · rw [if_pos c10] at H
            have c10b0 : decide (x13_1 < 5) = true := decide_eq_true c10
            clear c10
            by_cases c11 : 0 ≤ x13_1
            · rw [if_pos c11] at H
              have c11b0 := eq_true c11
              have c11b1 : decide (0 ≤ x13_1) = true := decide_eq_true c11
              clear c11
              obtain ⟨ji12, hji12⟩ : ∃ j_ : Int, (shr .i64 a0_2 x13_1) = j_ := ⟨_, rfl⟩
              replace H : (if (Go.bits .and .i64 (ji12) 1) = 1 then (if x13_1 ≤ (wrap64 (x13_1 + 1)) then (if (wrap64 (x13_1 + 1)) ≤ 5 then (if x3_1.size + ((⟨#[45, 43, 32, 35, 48]⟩ : ByteArray).extract (x13_1 : Int).toNat ((wrap64 (x13_1 + 1)) : Int).toNat).size ≤ 9223372036854775807 then (directive_text.l0 k1 (x3_1 ++ ((⟨#[45, 43, 32, 35, 48]⟩ : ByteArray).extract (x13_1 : Int).toNat ((wrap64 (x13_1 + 1)) : Int).toNat)) (wrap64 (x13_1 + 1)) a0_0 a0_1 a0_2 a0_3 a0_4 a0_5 a0_6) else (none)) else (none)) else (none)) else (directive_text.l0 k1 x3_1 (wrap64 (x13_1 + 1)) a0_0 a0_1 a0_2 a0_3 a0_4 a0_5 a0_6)) = some r := by first | (rw [hji12] at H; exact H) | (simp only [hji12] at H ⊢; exact H)
              have hji12_ : (a0_2 / 2 ^ min x13_1.toNat 64) = ji12 := hji12
              have hji12z : x13_1 ≤ 64 → (a0_2 / 2 ^ x13_1.toNat) = ji12 := shr_small hji12
              by_cases c13 : (Go.bits .and .i64 (ji12) 1) = 1
              · rw [if_pos c13] at H
                have c13b0 : ((Go.bits .and .i64 (ji12) 1) == 1) = true := beq_iff_eq.mpr c13
                have c13b1 : ((Go.bits .and .i64 (ji12) 1) != 1) = false := bne_eq_false_iff_eq.mpr c13
                clear c13
                have c14b0 := eq_true (of_decide_eq_true (by first | (with_reducible assumption) | assumption) : 0 ≤ x13_1)
                by_cases c15 : x13_1 ≤ (wrap64 (x13_1 + 1))
                · rw [if_pos c15] at H
                  have c15b0 := eq_true c15
                  have c15b1 : decide (x13_1 ≤ (wrap64 (x13_1 + 1))) = true := decide_eq_true c15
                  by_cases c16 : (wrap64 (x13_1 + 1)) ≤ 5
                  · rw [if_pos c16] at H
                    have c16b0 := eq_true c16
                    have c16b1 : decide ((wrap64 (x13_1 + 1)) ≤ 5) = true := decide_eq_true c16
                    by_cases c17 : x3_1.size + ((⟨#[45, 43, 32, 35, 48]⟩ : ByteArray).extract (x13_1 : Int).toNat ((wrap64 (x13_1 + 1)) : Int).toNat).size ≤ 9223372036854775807
                    · rw [if_pos c17] at H
                      have c17b0 := eq_true c17
                      have c17b1 : decide (x3_1.size + ((⟨#[45, 43, 32, 35, 48]⟩ : ByteArray).extract (x13_1 : Int).toNat ((wrap64 (x13_1 + 1)) : Int).toNat).size ≤ 9223372036854775807) = true := decide_eq_true c17
                      try have c17b2 : (9223372036854775807 < x3_1.size + ((⟨#[45, 43, 32, 35, 48]⟩ : ByteArray).extract (x13_1 : Int).toNat ((wrap64 (x13_1 + 1)) : Int).toNat).size) = False := eq_false (Nat.not_lt.2 c17)
                      have H' := Aside0.mk H
                      clear H
                      have hcz18_0 : wr.cell? ⟨gb109, 0, none⟩ = some (.string a0_0) := (blk_cell BK109.out 0).trans rfl
                      have hcz18_1 : wr.cell? ⟨gb109, 1, none⟩ = some (.int .u8 a0_1) := (blk_cell BK109.out 1).trans rfl
                      have hcz18_2 : wr.cell? ⟨gb109, 2, none⟩ = some (.int .i64 a0_2) := (blk_cell BK109.out 2).trans rfl
                      have hcz18_3 : wr.cell? ⟨gb109, 3, none⟩ = some (.int .i64 a0_3) := (blk_cell BK109.out 3).trans rfl
                      have hcz18_4 : wr.cell? ⟨gb109, 4, none⟩ = some (.int .i64 a0_4) := (blk_cell BK109.out 4).trans rfl
                      have hcz18_5 : wr.cell? ⟨gb109, 5, none⟩ = some (.int .i64 a0_5) := (blk_cell BK109.out 5).trans rfl
                      have hcz18_6 : wr.cell? ⟨gb109, 6, none⟩ = some (.int .i64 a0_6) := (blk_cell BK109.out 6).trans rfl
                      have hfz18_0 := blk_frozen BK109.out 0
                      have hfz18_1 := blk_frozen BK109.out 1
                      have hfz18_2 := blk_frozen BK109.out 2
                      have hfz18_3 := blk_frozen BK109.out 3
                      have hfz18_4 := blk_frozen BK109.out 4
                      have hfz18_5 := blk_frozen BK109.out 5
                      have hfz18_6 := blk_frozen BK109.out 6
                      clear hcz18_0 hcz18_1 hcz18_2 hcz18_3 hcz18_4 hcz18_5 hcz18_6 hfz18_0 hfz18_1 hfz18_2 hfz18_3 hfz18_4 hfz18_5 hfz18_6
                      go_wp2_with (first | ((with_reducible refine gate_dst (N := 14) rfl ?_); refine It.next HIT.out (of_decide_eq_true c10b0) rfl (N := 14) rfl rfl rfl ?_; intro cit witn hit hoth hb; have n0_ := Aside0.mk hit; have n1_ := Aside0.mk (It.moved HIT.out BK109.out hoth); have n2_ := Aside0.mk (It.step HB.out HGI.out hb); clear HIT BK109 HB; have HIT := n0_; have BK109 := n1_; have HB := n2_; clear n0_ n1_ n2_ hit hoth hb; have hcy_0 : witn.cell? ⟨gb109, 0, none⟩ = some (.string a0_0) := (blk_cell BK109.out 0).trans rfl; have hfy_0 := blk_frozen BK109.out 0; have hcy_1 : witn.cell? ⟨gb109, 1, none⟩ = some (.int .u8 a0_1) := (blk_cell BK109.out 1).trans rfl; have hfy_1 := blk_frozen BK109.out 1; have hcy_2 : witn.cell? ⟨gb109, 2, none⟩ = some (.int .i64 a0_2) := (blk_cell BK109.out 2).trans rfl; have hfy_2 := blk_frozen BK109.out 2; have hcy_3 : witn.cell? ⟨gb109, 3, none⟩ = some (.int .i64 a0_3) := (blk_cell BK109.out 3).trans rfl; have hfy_3 := blk_frozen BK109.out 3; have hcy_4 : witn.cell? ⟨gb109, 4, none⟩ = some (.int .i64 a0_4) := (blk_cell BK109.out 4).trans rfl; have hfy_4 := blk_frozen BK109.out 4; have hcy_5 : witn.cell? ⟨gb109, 5, none⟩ = some (.int .i64 a0_5) := (blk_cell BK109.out 5).trans rfl; have hfy_5 := blk_frozen BK109.out 5; have hcy_6 : witn.cell? ⟨gb109, 6, none⟩ = some (.int .i64 a0_6) := (blk_cell BK109.out 6).trans rfl; have hfy_6 := blk_frozen BK109.out 6))
                      go_roundg k1
                      case measure => have := HK1.out; omega
                      case rel => exact ⟨(x3_1 ++ ((⟨#[45, 43, 32, 35, 48]⟩ : ByteArray).extract (x13_1 : Int).toNat ((wrap64 (x13_1 + 1)) : Int).toNat)), (wrap64 (x13_1 + 1)), (by first | rfl | (simp; done) | (simp [*]; done)), H', ⟨by have := HK1.out; omega⟩, ⟨by (with_reducible repeat (first | refine blk_drewN ?_ _ | refine blk_drew ?_ | refine blk_alloc ?_ _)); exact BK109.out⟩, ⟨HIT.out⟩, ⟨by repeat (first | (with_reducible first | exact HB.out | apply below_alloc | apply pw_below_drewN | apply below_drew1 | refine below_set ?_ GE109.out) | exact HB.out)⟩⟩
                    · rw [if_neg c17] at H
                      exact absurd H (by simp)
                  · rw [if_neg c16] at H
                    exact absurd H (by simp)
                · rw [if_neg c15] at H
                  exact absurd H (by simp)
              · rw [if_neg c13] at H
                have c13b0 : ((Go.bits .and .i64 (ji12) 1) == 1) = false := beq_eq_false_iff_ne.mpr c13
                have c13b1 : ((Go.bits .and .i64 (ji12) 1) != 1) = true := bne_iff_ne.mpr c13
                have H' := Aside0.mk H
                clear H
                have hcz19_0 : wr.cell? ⟨gb109, 0, none⟩ = some (.string a0_0) := (blk_cell BK109.out 0).trans rfl
                have hcz19_1 : wr.cell? ⟨gb109, 1, none⟩ = some (.int .u8 a0_1) := (blk_cell BK109.out 1).trans rfl
                have hcz19_2 : wr.cell? ⟨gb109, 2, none⟩ = some (.int .i64 a0_2) := (blk_cell BK109.out 2).trans rfl
                have hcz19_3 : wr.cell? ⟨gb109, 3, none⟩ = some (.int .i64 a0_3) := (blk_cell BK109.out 3).trans rfl
                have hcz19_4 : wr.cell? ⟨gb109, 4, none⟩ = some (.int .i64 a0_4) := (blk_cell BK109.out 4).trans rfl
                have hcz19_5 : wr.cell? ⟨gb109, 5, none⟩ = some (.int .i64 a0_5) := (blk_cell BK109.out 5).trans rfl
                have hcz19_6 : wr.cell? ⟨gb109, 6, none⟩ = some (.int .i64 a0_6) := (blk_cell BK109.out 6).trans rfl
                have hfz19_0 := blk_frozen BK109.out 0
                have hfz19_1 := blk_frozen BK109.out 1
                have hfz19_2 := blk_frozen BK109.out 2
                have hfz19_3 := blk_frozen BK109.out 3
                have hfz19_4 := blk_frozen BK109.out 4
                have hfz19_5 := blk_frozen BK109.out 5
                have hfz19_6 := blk_frozen BK109.out 6
                clear hcz19_0 hcz19_1 hcz19_2 hcz19_3 hcz19_4 hcz19_5 hcz19_6 hfz19_0 hfz19_1 hfz19_2 hfz19_3 hfz19_4 hfz19_5 hfz19_6
                go_wp2_with (first | ((with_reducible refine gate_dst (N := 14) rfl ?_); refine It.next HIT.out (of_decide_eq_true c10b0) rfl (N := 14) rfl rfl rfl ?_; intro cit witn hit hoth hb; have n0_ := Aside0.mk hit; have n1_ := Aside0.mk (It.moved HIT.out BK109.out hoth); have n2_ := Aside0.mk (It.step HB.out HGI.out hb); clear HIT BK109 HB; have HIT := n0_; have BK109 := n1_; have HB := n2_; clear n0_ n1_ n2_ hit hoth hb; have hcy_0 : witn.cell? ⟨gb109, 0, none⟩ = some (.string a0_0) := (blk_cell BK109.out 0).trans rfl; have hfy_0 := blk_frozen BK109.out 0; have hcy_1 : witn.cell? ⟨gb109, 1, none⟩ = some (.int .u8 a0_1) := (blk_cell BK109.out 1).trans rfl; have hfy_1 := blk_frozen BK109.out 1; have hcy_2 : witn.cell? ⟨gb109, 2, none⟩ = some (.int .i64 a0_2) := (blk_cell BK109.out 2).trans rfl; have hfy_2 := blk_frozen BK109.out 2; have hcy_3 : witn.cell? ⟨gb109, 3, none⟩ = some (.int .i64 a0_3) := (blk_cell BK109.out 3).trans rfl; have hfy_3 := blk_frozen BK109.out 3; have hcy_4 : witn.cell? ⟨gb109, 4, none⟩ = some (.int .i64 a0_4) := (blk_cell BK109.out 4).trans rfl; have hfy_4 := blk_frozen BK109.out 4; have hcy_5 : witn.cell? ⟨gb109, 5, none⟩ = some (.int .i64 a0_5) := (blk_cell BK109.out 5).trans rfl; have hfy_5 := blk_frozen BK109.out 5; have hcy_6 : witn.cell? ⟨gb109, 6, none⟩ = some (.int .i64 a0_6) := (blk_cell BK109.out 6).trans rfl; have hfy_6 := blk_frozen BK109.out 6))
                go_roundg k1
                case measure => have := HK1.out; omega
                case rel => exact ⟨(x3_1), (wrap64 (x13_1 + 1)), (by first | rfl | (simp; done) | (simp [*]; done)), H', ⟨by have := HK1.out; omega⟩, ⟨by (with_reducible repeat (first | refine blk_drewN ?_ _ | refine blk_drew ?_ | refine blk_alloc ?_ _)); exact BK109.out⟩, ⟨HIT.out⟩, ⟨by repeat (first | (with_reducible first | exact HB.out | apply below_alloc | apply pw_below_drewN | apply below_drew1 | refine below_set ?_ GE109.out) | exact HB.out)⟩⟩
            · rw [if_neg c11] at H
              exact absurd H (by simp)
          · rw [if_neg c10] at H
            have c10b0 : decide (x13_1 < 5) = false := decide_eq_false c10
            clear c10
            replace H := Option.bind_eq_some_iff.mp H
            obtain ⟨t110, A200, H⟩ := H
            replace H : (if x3_1.size + t110.size ≤ 9223372036854775807 then (if a0_5 = 0 then ((some (([a0_1] : List Int) : List Int)).bind fun y111 => (if (x3_1 ++ t110).size + (strOfNums y111).size ≤ 9223372036854775807 then (some ((x3_1 ++ t110) ++ (strOfNums y111))) else (none))) else ((directive_shown.f a0_5 a0_6).bind fun t114 => (if 1 + t114.size ≤ 9223372036854775807 then (if (x3_1 ++ t110).size + ((⟨#[46]⟩ : ByteArray) ++ t114).size ≤ 9223372036854775807 then ((some (([a0_1] : List Int) : List Int)).bind fun y115 => (if ((x3_1 ++ t110) ++ ((⟨#[46]⟩ : ByteArray) ++ t114)).size + (strOfNums y115).size ≤ 9223372036854775807 then (some (((x3_1 ++ t110) ++ ((⟨#[46]⟩ : ByteArray) ++ t114)) ++ (strOfNums y115))) else (none))) else (none)) else (none)))) else (none)) = some r := H
            have A20 := Aside0.mk A200
            clear A200
            by_cases c21 : x3_1.size + t110.size ≤ 9223372036854775807
            · rw [if_pos c21] at H
              have c21b0 := eq_true c21
              have c21b1 : decide (x3_1.size + t110.size ≤ 9223372036854775807) = true := decide_eq_true c21
              try have c21b2 : (9223372036854775807 < x3_1.size + t110.size) = False := eq_false (Nat.not_lt.2 c21)
              by_cases c22 : a0_5 = 0
              · rw [if_pos c22] at H
                have c22b0 : (a0_5 == 0) = true := beq_iff_eq.mpr c22
                have c22b1 : (a0_5 != 0) = false := bne_eq_false_iff_eq.mpr c22
                clear c22
                obtain ⟨y111, hy111⟩ : ∃ y_ : List Int, y_ = (([a0_1] : List Int)) := ⟨_, rfl⟩
                replace H : (if (x3_1 ++ t110).size + (strOfNums y111).size ≤ 9223372036854775807 then (some ((x3_1 ++ t110) ++ (strOfNums y111))) else (none)) = some r := by first | (rw [hy111]; with_reducible exact H) | (have H2_ := (Option.bind_some _ _).symm.trans H; rw [hy111]; with_reducible exact H2_) | (have H2_ := (Option.bind_some _ _).symm.trans H; with_reducible exact H2_) | with_reducible exact H | (rw [hy111]; exact H) | exact H
                have Ny111 := Aside0.mk hy111
                clear hy111
                by_cases c23 : (x3_1 ++ t110).size + (strOfNums y111).size ≤ 9223372036854775807
                · rw [if_pos c23] at H
                  have c23b0 := eq_true c23
                  have c23b1 : decide ((x3_1 ++ t110).size + (strOfNums y111).size ≤ 9223372036854775807) = true := decide_eq_true c23
                  try have c23b2 : (9223372036854775807 < (x3_1 ++ t110).size + (strOfNums y111).size) = False := eq_false (Nat.not_lt.2 c23)
                  (try (have c23b3 : (9223372036854775807 < x3_1.size + t110.size + (strOfNums y111).size) = False := by have h_ := c23b2; simp only [ByteArray.size_append] at h_; exact h_))
                  obtain rfl := Option.some.inj H
                  have hcz24_0 : wr.cell? ⟨gb109, 0, none⟩ = some (.string a0_0) := (blk_cell BK109.out 0).trans rfl
                  have hcz24_1 : wr.cell? ⟨gb109, 1, none⟩ = some (.int .u8 a0_1) := (blk_cell BK109.out 1).trans rfl
                  have hcz24_2 : wr.cell? ⟨gb109, 2, none⟩ = some (.int .i64 a0_2) := (blk_cell BK109.out 2).trans rfl
                  have hcz24_3 : wr.cell? ⟨gb109, 3, none⟩ = some (.int .i64 a0_3) := (blk_cell BK109.out 3).trans rfl
                  have hcz24_4 : wr.cell? ⟨gb109, 4, none⟩ = some (.int .i64 a0_4) := (blk_cell BK109.out 4).trans rfl
                  have hcz24_5 : wr.cell? ⟨gb109, 5, none⟩ = some (.int .i64 a0_5) := (blk_cell BK109.out 5).trans rfl
                  have hcz24_6 : wr.cell? ⟨gb109, 6, none⟩ = some (.int .i64 a0_6) := (blk_cell BK109.out 6).trans rfl
                  have hfz24_0 := blk_frozen BK109.out 0
                  have hfz24_1 := blk_frozen BK109.out 1
                  have hfz24_2 := blk_frozen BK109.out 2
                  have hfz24_3 := blk_frozen BK109.out 3
                  have hfz24_4 := blk_frozen BK109.out 4
                  have hfz24_5 := blk_frozen BK109.out 5
                  have hfz24_6 := blk_frozen BK109.out 6
                  go_wp2_with (first | ((with_reducible refine gate_dst (N := 14) rfl ?_); refine It.done HIT.out (of_decide_eq_false c10b0) rfl (N := 14) rfl rfl rfl ?_) | ((with_reducible refine gate_callee (f := 42) rfl ?_); refine goesL_ (some 34) rfl rfl Tryd.func42 (by kernel_rfl) rfl #[.int .i64 a0_3, .int .i64 a0_4] rfl (by (try simp only [List.map_toArray, List.map_cons, List.map_nil]); first | done | rfl | (simp only [List.length_drop, List.length_take]; rfl)) ?_; (with_reducible refine (directive_shown.calls a0_3 a0_4 t110 _ ?side1 A20.out).mono ?_); (case side1 => exact GW.below HG.out (by repeat (first | (with_reducible first | exact HB.out | apply below_alloc | apply pw_below_drewN | apply below_drew1 | refine below_set ?_ GE109.out) | exact HB.out))); rintro e w25 ⟨rfl, hb⟩; refine ⟨_, rfl, ?_⟩; have n0_ := Aside0.mk (blk_below (g := gb109) (o := .cells #[.string a0_0, .int .u8 a0_1, .int .i64 a0_2, .int .i64 a0_3, .int .i64 a0_4, .int .i64 a0_5, .int .i64 a0_6] 25 (0, 0)) (by (with_reducible repeat (first | refine blk_drewN ?_ _ | refine blk_drew ?_ | refine blk_alloc ?_ _)); exact BK109.out) hb); have n1_ := Aside0.mk (below_step (by repeat (first | (with_reducible first | exact HB.out | apply below_alloc | apply pw_below_drewN | apply below_drew1 | refine below_set ?_ GE109.out) | exact HB.out)) hb); clear BK109; clear HB; have BK109 := n0_; have HB := n1_; clear n0_ n1_; (try clear hb); (try clear hb2); (try clear hk); (try clear hi); have hcz26_0 : w25.cell? ⟨gb109, 0, none⟩ = some (.string a0_0) := (blk_cell BK109.out 0).trans rfl; have hcz26_1 : w25.cell? ⟨gb109, 1, none⟩ = some (.int .u8 a0_1) := (blk_cell BK109.out 1).trans rfl; have hcz26_2 : w25.cell? ⟨gb109, 2, none⟩ = some (.int .i64 a0_2) := (blk_cell BK109.out 2).trans rfl; have hcz26_3 : w25.cell? ⟨gb109, 3, none⟩ = some (.int .i64 a0_3) := (blk_cell BK109.out 3).trans rfl; have hcz26_4 : w25.cell? ⟨gb109, 4, none⟩ = some (.int .i64 a0_4) := (blk_cell BK109.out 4).trans rfl; have hcz26_5 : w25.cell? ⟨gb109, 5, none⟩ = some (.int .i64 a0_5) := (blk_cell BK109.out 5).trans rfl; have hcz26_6 : w25.cell? ⟨gb109, 6, none⟩ = some (.int .i64 a0_6) := (blk_cell BK109.out 6).trans rfl; have hfz26_0 := blk_frozen BK109.out 0; have hfz26_1 := blk_frozen BK109.out 1; have hfz26_2 := blk_frozen BK109.out 2; have hfz26_3 := blk_frozen BK109.out 3; have hfz26_4 := blk_frozen BK109.out 4; have hfz26_5 := blk_frozen BK109.out 5; have hfz26_6 := blk_frozen BK109.out 6) | ((with_reducible refine gate_dst (N := 50) rfl ?_); refine Kd.R_lit (Kd.int .u8) _ 5 ?hg (N := 50) ?hd (xs := ([a0_1] : List Int)) (inner := [.int .u8 a0_1]) (ok := fun _ => True) (okp := fun _ => True) ?hr ?hp (fun _ hk => hk) trivial (Below.refl _ _) (Nat.le_refl _) (by simp) ?_; (case hd => rfl); (case hg => rfl); (case hr => first | (go_simp; done) | (go_simp; rfl)); (case hp => exact (Reps.one (show Kd.M (Kd.int .u8) _ _ _ a0_1 [.int .u8 a0_1] from rfl) (Reps.none _ _))); intro v112 w27 ho28 hb hg_ hnew_; clear hg_ hnew_; (first | rw [← Ny111.out] at ho28 | (simp only [Int.reduceToNat] at ho28; rw [← Ny111.out] at ho28)); have n0_ := Aside0.mk (Kd.R_lower ho28 (below_size (by repeat (first | (with_reducible first | exact HB.out | apply below_alloc | apply pw_below_drewN | apply below_drew1 | refine below_set ?_ GE109.out) | exact HB.out)))); have n1_ := Aside0.mk (blk_below (g := gb109) (o := .cells #[.string a0_0, .int .u8 a0_1, .int .i64 a0_2, .int .i64 a0_3, .int .i64 a0_4, .int .i64 a0_5, .int .i64 a0_6] 25 (0, 0)) (by (with_reducible repeat (first | refine blk_drewN ?_ _ | refine blk_drew ?_ | refine blk_alloc ?_ _)); exact BK109.out) hb); have n2_ := Aside0.mk (below_step (by repeat (first | (with_reducible first | exact HB.out | apply below_alloc | apply pw_below_drewN | apply below_drew1 | refine below_set ?_ GE109.out) | exact HB.out)) hb); clear BK109; clear HB; have HO113 := n0_; have BK109 := n1_; have HB := n2_; clear n0_ n1_ n2_; clear hb ho28; have hcv29 := own_string (P := Tryd.prog) Tryd.underlying60 Tryd.underlying5 Tryd.underlying9 (Kd.own_of_R HO113.out)))
                  go_ret
                  exact ⟨by first | rfl | (simp [errW_none, errW_some] <;> rfl) | (simp [*, errW_none, errW_some] <;> rfl), by repeat (first | (with_reducible first | exact HB.out | apply below_alloc | apply pw_below_drewN | apply below_drew1 | refine below_set ?_ GE109.out) | exact HB.out)⟩
                · rw [if_neg c23] at H
                  exact absurd H (by simp)
              · rw [if_neg c22] at H
                have c22b0 : (a0_5 == 0) = false := beq_eq_false_iff_ne.mpr c22
                have c22b1 : (a0_5 != 0) = true := bne_iff_ne.mpr c22
                replace H := Option.bind_eq_some_iff.mp H
                obtain ⟨t114, A300, H⟩ := H
                replace H : (if 1 + t114.size ≤ 9223372036854775807 then (if (x3_1 ++ t110).size + ((⟨#[46]⟩ : ByteArray) ++ t114).size ≤ 9223372036854775807 then ((some (([a0_1] : List Int) : List Int)).bind fun y115 => (if ((x3_1 ++ t110) ++ ((⟨#[46]⟩ : ByteArray) ++ t114)).size + (strOfNums y115).size ≤ 9223372036854775807 then (some (((x3_1 ++ t110) ++ ((⟨#[46]⟩ : ByteArray) ++ t114)) ++ (strOfNums y115))) else (none))) else (none)) else (none)) = some r := H
                have A30 := Aside0.mk A300
                clear A300
                by_cases c31 : 1 + t114.size ≤ 9223372036854775807
                · rw [if_pos c31] at H
                  have c31b0 := eq_true c31
                  have c31b1 : decide (1 + t114.size ≤ 9223372036854775807) = true := decide_eq_true c31
                  try have c31b2 : (9223372036854775807 < 1 + t114.size) = False := eq_false (Nat.not_lt.2 c31)
                  by_cases c32 : (x3_1 ++ t110).size + ((⟨#[46]⟩ : ByteArray) ++ t114).size ≤ 9223372036854775807
                  · rw [if_pos c32] at H
                    have c32b0 := eq_true c32
                    have c32b1 : decide ((x3_1 ++ t110).size + ((⟨#[46]⟩ : ByteArray) ++ t114).size ≤ 9223372036854775807) = true := decide_eq_true c32
                    try have c32b2 : (9223372036854775807 < (x3_1 ++ t110).size + ((⟨#[46]⟩ : ByteArray) ++ t114).size) = False := eq_false (Nat.not_lt.2 c32)
                    (try (have c32b3 : (9223372036854775807 < x3_1.size + t110.size + (1 + t114.size)) = False := by have h_ := c32b2; simp only [ByteArray.size_append] at h_; exact h_))
                    obtain ⟨y115, hy115⟩ : ∃ y_ : List Int, y_ = (([a0_1] : List Int)) := ⟨_, rfl⟩
                    replace H : (if ((x3_1 ++ t110) ++ ((⟨#[46]⟩ : ByteArray) ++ t114)).size + (strOfNums y115).size ≤ 9223372036854775807 then (some (((x3_1 ++ t110) ++ ((⟨#[46]⟩ : ByteArray) ++ t114)) ++ (strOfNums y115))) else (none)) = some r := by first | (rw [hy115]; with_reducible exact H) | (have H2_ := (Option.bind_some _ _).symm.trans H; rw [hy115]; with_reducible exact H2_) | (have H2_ := (Option.bind_some _ _).symm.trans H; with_reducible exact H2_) | with_reducible exact H | (rw [hy115]; exact H) | exact H
                    have Ny115 := Aside0.mk hy115
                    clear hy115
                    by_cases c33 : ((x3_1 ++ t110) ++ ((⟨#[46]⟩ : ByteArray) ++ t114)).size + (strOfNums y115).size ≤ 9223372036854775807
                    · rw [if_pos c33] at H
                      have c33b0 := eq_true c33
                      have c33b1 : decide (((x3_1 ++ t110) ++ ((⟨#[46]⟩ : ByteArray) ++ t114)).size + (strOfNums y115).size ≤ 9223372036854775807) = true := decide_eq_true c33
                      try have c33b2 : (9223372036854775807 < ((x3_1 ++ t110) ++ ((⟨#[46]⟩ : ByteArray) ++ t114)).size + (strOfNums y115).size) = False := eq_false (Nat.not_lt.2 c33)
                      (try (have c33b3 : (9223372036854775807 < x3_1.size + t110.size + (1 + t114.size) + (strOfNums y115).size) = False := by have h_ := c33b2; simp only [ByteArray.size_append] at h_; exact h_))
                      obtain rfl := Option.some.inj H
                      have hcz34_0 : wr.cell? ⟨gb109, 0, none⟩ = some (.string a0_0) := (blk_cell BK109.out 0).trans rfl
                      have hcz34_1 : wr.cell? ⟨gb109, 1, none⟩ = some (.int .u8 a0_1) := (blk_cell BK109.out 1).trans rfl
                      have hcz34_2 : wr.cell? ⟨gb109, 2, none⟩ = some (.int .i64 a0_2) := (blk_cell BK109.out 2).trans rfl
                      have hcz34_3 : wr.cell? ⟨gb109, 3, none⟩ = some (.int .i64 a0_3) := (blk_cell BK109.out 3).trans rfl
                      have hcz34_4 : wr.cell? ⟨gb109, 4, none⟩ = some (.int .i64 a0_4) := (blk_cell BK109.out 4).trans rfl
                      have hcz34_5 : wr.cell? ⟨gb109, 5, none⟩ = some (.int .i64 a0_5) := (blk_cell BK109.out 5).trans rfl
                      have hcz34_6 : wr.cell? ⟨gb109, 6, none⟩ = some (.int .i64 a0_6) := (blk_cell BK109.out 6).trans rfl
                      have hfz34_0 := blk_frozen BK109.out 0
                      have hfz34_1 := blk_frozen BK109.out 1
                      have hfz34_2 := blk_frozen BK109.out 2
                      have hfz34_3 := blk_frozen BK109.out 3
                      have hfz34_4 := blk_frozen BK109.out 4
                      have hfz34_5 := blk_frozen BK109.out 5
                      have hfz34_6 := blk_frozen BK109.out 6
                      go_wp2_with (first | ((with_reducible refine gate_dst (N := 14) rfl ?_); refine It.done HIT.out (of_decide_eq_false c10b0) rfl (N := 14) rfl rfl rfl ?_) | ((with_reducible refine gate_callee (f := 42) rfl ?_); refine goesL_ (some 34) rfl rfl Tryd.func42 (by kernel_rfl) rfl #[.int .i64 a0_3, .int .i64 a0_4] rfl (by (try simp only [List.map_toArray, List.map_cons, List.map_nil]); first | done | rfl | (simp only [List.length_drop, List.length_take]; rfl)) ?_; (with_reducible refine (directive_shown.calls a0_3 a0_4 t110 _ ?side1 A20.out).mono ?_); (case side1 => exact GW.below HG.out (by repeat (first | (with_reducible first | exact HB.out | apply below_alloc | apply pw_below_drewN | apply below_drew1 | refine below_set ?_ GE109.out) | exact HB.out))); rintro e w35 ⟨rfl, hb⟩; refine ⟨_, rfl, ?_⟩; have n0_ := Aside0.mk (blk_below (g := gb109) (o := .cells #[.string a0_0, .int .u8 a0_1, .int .i64 a0_2, .int .i64 a0_3, .int .i64 a0_4, .int .i64 a0_5, .int .i64 a0_6] 25 (0, 0)) (by (with_reducible repeat (first | refine blk_drewN ?_ _ | refine blk_drew ?_ | refine blk_alloc ?_ _)); exact BK109.out) hb); have n1_ := Aside0.mk (below_step (by repeat (first | (with_reducible first | exact HB.out | apply below_alloc | apply pw_below_drewN | apply below_drew1 | refine below_set ?_ GE109.out) | exact HB.out)) hb); clear BK109; clear HB; have BK109 := n0_; have HB := n1_; clear n0_ n1_; (try clear hb); (try clear hb2); (try clear hk); (try clear hi); have hcz36_0 : w35.cell? ⟨gb109, 0, none⟩ = some (.string a0_0) := (blk_cell BK109.out 0).trans rfl; have hcz36_1 : w35.cell? ⟨gb109, 1, none⟩ = some (.int .u8 a0_1) := (blk_cell BK109.out 1).trans rfl; have hcz36_2 : w35.cell? ⟨gb109, 2, none⟩ = some (.int .i64 a0_2) := (blk_cell BK109.out 2).trans rfl; have hcz36_3 : w35.cell? ⟨gb109, 3, none⟩ = some (.int .i64 a0_3) := (blk_cell BK109.out 3).trans rfl; have hcz36_4 : w35.cell? ⟨gb109, 4, none⟩ = some (.int .i64 a0_4) := (blk_cell BK109.out 4).trans rfl; have hcz36_5 : w35.cell? ⟨gb109, 5, none⟩ = some (.int .i64 a0_5) := (blk_cell BK109.out 5).trans rfl; have hcz36_6 : w35.cell? ⟨gb109, 6, none⟩ = some (.int .i64 a0_6) := (blk_cell BK109.out 6).trans rfl; have hfz36_0 := blk_frozen BK109.out 0; have hfz36_1 := blk_frozen BK109.out 1; have hfz36_2 := blk_frozen BK109.out 2; have hfz36_3 := blk_frozen BK109.out 3; have hfz36_4 := blk_frozen BK109.out 4; have hfz36_5 := blk_frozen BK109.out 5; have hfz36_6 := blk_frozen BK109.out 6) | ((with_reducible refine gate_callee (f := 42) rfl ?_); refine goesL_ (some 44) rfl rfl Tryd.func42 (by kernel_rfl) rfl #[.int .i64 a0_5, .int .i64 a0_6] rfl (by (try simp only [List.map_toArray, List.map_cons, List.map_nil]); first | done | rfl | (simp only [List.length_drop, List.length_take]; rfl)) ?_; (with_reducible refine (directive_shown.calls a0_5 a0_6 t114 _ ?side1 A30.out).mono ?_); (case side1 => exact GW.below HG.out (by repeat (first | (with_reducible first | exact HB.out | apply below_alloc | apply pw_below_drewN | apply below_drew1 | refine below_set ?_ GE109.out) | exact HB.out))); rintro e w37 ⟨rfl, hb⟩; refine ⟨_, rfl, ?_⟩; have n0_ := Aside0.mk (blk_below (g := gb109) (o := .cells #[.string a0_0, .int .u8 a0_1, .int .i64 a0_2, .int .i64 a0_3, .int .i64 a0_4, .int .i64 a0_5, .int .i64 a0_6] 25 (0, 0)) (by (with_reducible repeat (first | refine blk_drewN ?_ _ | refine blk_drew ?_ | refine blk_alloc ?_ _)); exact BK109.out) hb); have n1_ := Aside0.mk (below_step (by repeat (first | (with_reducible first | exact HB.out | apply below_alloc | apply pw_below_drewN | apply below_drew1 | refine below_set ?_ GE109.out) | exact HB.out)) hb); clear BK109; clear HB; have BK109 := n0_; have HB := n1_; clear n0_ n1_; (try clear hb); (try clear hb2); (try clear hk); (try clear hi); have hcz38_0 : w37.cell? ⟨gb109, 0, none⟩ = some (.string a0_0) := (blk_cell BK109.out 0).trans rfl; have hcz38_1 : w37.cell? ⟨gb109, 1, none⟩ = some (.int .u8 a0_1) := (blk_cell BK109.out 1).trans rfl; have hcz38_2 : w37.cell? ⟨gb109, 2, none⟩ = some (.int .i64 a0_2) := (blk_cell BK109.out 2).trans rfl; have hcz38_3 : w37.cell? ⟨gb109, 3, none⟩ = some (.int .i64 a0_3) := (blk_cell BK109.out 3).trans rfl; have hcz38_4 : w37.cell? ⟨gb109, 4, none⟩ = some (.int .i64 a0_4) := (blk_cell BK109.out 4).trans rfl; have hcz38_5 : w37.cell? ⟨gb109, 5, none⟩ = some (.int .i64 a0_5) := (blk_cell BK109.out 5).trans rfl; have hcz38_6 : w37.cell? ⟨gb109, 6, none⟩ = some (.int .i64 a0_6) := (blk_cell BK109.out 6).trans rfl; have hfz38_0 := blk_frozen BK109.out 0; have hfz38_1 := blk_frozen BK109.out 1; have hfz38_2 := blk_frozen BK109.out 2; have hfz38_3 := blk_frozen BK109.out 3; have hfz38_4 := blk_frozen BK109.out 4; have hfz38_5 := blk_frozen BK109.out 5; have hfz38_6 := blk_frozen BK109.out 6) | ((with_reducible refine gate_dst (N := 50) rfl ?_); refine Kd.R_lit (Kd.int .u8) _ 5 ?hg (N := 50) ?hd (xs := ([a0_1] : List Int)) (inner := [.int .u8 a0_1]) (ok := fun _ => True) (okp := fun _ => True) ?hr ?hp (fun _ hk => hk) trivial (Below.refl _ _) (Nat.le_refl _) (by simp) ?_; (case hd => rfl); (case hg => rfl); (case hr => first | (go_simp; done) | (go_simp; rfl)); (case hp => exact (Reps.one (show Kd.M (Kd.int .u8) _ _ _ a0_1 [.int .u8 a0_1] from rfl) (Reps.none _ _))); intro v116 w39 ho40 hb hg_ hnew_; clear hg_ hnew_; (first | rw [← Ny115.out] at ho40 | (simp only [Int.reduceToNat] at ho40; rw [← Ny115.out] at ho40)); have n0_ := Aside0.mk (Kd.R_lower ho40 (below_size (by repeat (first | (with_reducible first | exact HB.out | apply below_alloc | apply pw_below_drewN | apply below_drew1 | refine below_set ?_ GE109.out) | exact HB.out)))); have n1_ := Aside0.mk (blk_below (g := gb109) (o := .cells #[.string a0_0, .int .u8 a0_1, .int .i64 a0_2, .int .i64 a0_3, .int .i64 a0_4, .int .i64 a0_5, .int .i64 a0_6] 25 (0, 0)) (by (with_reducible repeat (first | refine blk_drewN ?_ _ | refine blk_drew ?_ | refine blk_alloc ?_ _)); exact BK109.out) hb); have n2_ := Aside0.mk (below_step (by repeat (first | (with_reducible first | exact HB.out | apply below_alloc | apply pw_below_drewN | apply below_drew1 | refine below_set ?_ GE109.out) | exact HB.out)) hb); clear BK109; clear HB; have HO117 := n0_; have BK109 := n1_; have HB := n2_; clear n0_ n1_ n2_; clear hb ho40; have hcv41 := own_string (P := Tryd.prog) Tryd.underlying60 Tryd.underlying5 Tryd.underlying9 (Kd.own_of_R HO117.out)))
                      go_ret
                      exact ⟨by first | rfl | (simp [errW_none, errW_some] <;> rfl) | (simp [*, errW_none, errW_some] <;> rfl), by repeat (first | (with_reducible first | exact HB.out | apply below_alloc | apply pw_below_drewN | apply below_drew1 | refine below_set ?_ GE109.out) | exact HB.out)⟩
                    · rw [if_neg c33] at H
                      exact absurd H (by simp)
                  · rw [if_neg c32] at H
                    exact absurd H (by simp)
                · rw [if_neg c31] at H
                  exact absurd H (by simp)
            · rw [if_neg c21] at H
              exact absurd H (by simp)
end Go.Proofs.YtlmijjekaelhcaaDoor.EDi
