/-
  Several texts of this session's own in one: EScanx37 EScanx38 EScanx39 EScanx40 EScanx41 EScanx42.
-/
import Derived.Test.YtcgjfckhnpimbaaDoorEScanx0
import Derived.Test.YtcgjfckhnpimbaaDoorEScanx19
import Derived.Test.YtcgjfckhnpimbaaDoorX
import Derived.Test.YtcgjfckhnpimbaaDoorEScanx1
import Derived.Test.YtcgjfckhnpimbaaDoorEScanyA
import Derived.Test.YtcgjfckhnpimbaaDoorEScanyA
section
-- Written by eprint.py (a program of this session's, over the kit's print), not by hand.
namespace Go.Proofs.YtcgjfckhnpimbaaDoor.EScan
open Go.RowKit Go.Proofs.YtcgjfckhnpimbaaDoorW.PrintWords Go.Proofs.YtcgjfckhnpimbaaDoorW.PrintLast Go.Proofs.YtcgjfckhnpimbaaDoorW.PrintMore
attribute [local go_sem] max2_int min2_int max_two min_two max_three min_three max_four min_four   -- for this text's walks alone
set_option linter.unusedVariables false
set_option linter.unusedSimpArgs false

/-! ### abacusref08_IsDec: function 48 -/
mutual
def abacusref08_IsDec.j0 : Nat → Bool → Bool → ByteArray → Int → Option (Bool)
  | 0, _, _, _, _ => none
  | k + 1, x18, x343000, x343001, x343002 => if x18 = true then (some false) else (abacusref08_IsDec.l0 k 0 x343000 x343001 x343002)
def abacusref08_IsDec.l0 : Nat → Int → Bool → ByteArray → Int → Option (Bool)
  | 0, _, _, _, _ => none
  | k + 1, x3, x343000, x343001, x343002 => if x3 < (x343001.size : Int) then (if 0 ≤ x3 then (if (bt x343001 x3) < 48 then (some false) else (if (bt x343001 x3) > 57 then (some false) else (abacusref08_IsDec.l0 k (wrap64 (x3 + 1)) x343000 x343001 x343002))) else (none)) else ((abacusref08_normal.f k x343000 x343001 x343002).bind fun bt343 => (some (decide (bt343.2.2 ≤ 1152921504606846976))))
end
def abacusref08_IsDec.f (k : Nat) (a0_0 : Bool) (a0_1 : ByteArray) (a0_2 : Int) : Option (Bool) := if (a0_1.size : Int) = 0 then (abacusref08_IsDec.j0 k true a0_0 a0_1 a0_2) else (if a0_2 < (-1152921504606846976) then (abacusref08_IsDec.j0 k true a0_0 a0_1 a0_2) else (abacusref08_IsDec.j0 k (decide (a0_2 > 1152921504606846976)) a0_0 a0_1 a0_2))
theorem abacusref08_IsDec.mono_l : ∀ k, (∀ y0 y1 y2 y3, LeO (abacusref08_IsDec.j0 k y0 y1 y2 y3) (abacusref08_IsDec.j0 (k + 1) y0 y1 y2 y3)) ∧ (∀ y0 y1 y2 y3, LeO (abacusref08_IsDec.l0 k y0 y1 y2 y3) (abacusref08_IsDec.l0 (k + 1) y0 y1 y2 y3))
  | 0 => ⟨fun _ _ _ _ r h => by simp [abacusref08_IsDec.j0] at h, fun _ _ _ _ r h => by simp [abacusref08_IsDec.l0] at h⟩
  | k + 1 => by
    obtain ⟨ih0, ih1⟩ := abacusref08_IsDec.mono_l k
    refine ⟨?_, ?_⟩
    · intro y0 y1 y2 y3
      unfold abacusref08_IsDec.j0
      repeat' first
      | (with_reducible exact ih0 _ _ _ _)
      | (with_reducible exact ih1 _ _ _ _)
      | (with_reducible exact abacusref08_normal.mono _ _ _ _)
      | (with_reducible exact LeO.refl _)
      | (with_reducible exact LeO.none _)
      | (with_reducible refine LeO.ite ?_ ?_)
      | (with_reducible refine LeO.bind ?_ (fun _ => ?_))
      | exact ih0 _ _ _ _
      | exact ih1 _ _ _ _
      | exact abacusref08_normal.mono _ _ _ _
      | exact LeO.none _
      | refine LeO.ite ?_ ?_
      | refine LeO.bind ?_ (fun _ => ?_)
    · intro y0 y1 y2 y3
      unfold abacusref08_IsDec.l0
      repeat' first
      | (with_reducible exact ih0 _ _ _ _)
      | (with_reducible exact ih1 _ _ _ _)
      | (with_reducible exact abacusref08_normal.mono _ _ _ _)
      | (with_reducible exact LeO.refl _)
      | (with_reducible exact LeO.none _)
      | (with_reducible refine LeO.ite ?_ ?_)
      | (with_reducible refine LeO.bind ?_ (fun _ => ?_))
      | exact ih0 _ _ _ _
      | exact ih1 _ _ _ _
      | exact abacusref08_normal.mono _ _ _ _
      | exact LeO.none _
      | refine LeO.ite ?_ ?_
      | refine LeO.bind ?_ (fun _ => ?_)
theorem abacusref08_IsDec.mono : ∀ a0 a1 a2 k, LeO (abacusref08_IsDec.f k a0 a1 a2) (abacusref08_IsDec.f (k + 1) a0 a1 a2) := by
  intro a0 a1 a2 k
  obtain ⟨ih0, ih1⟩ := abacusref08_IsDec.mono_l k
  unfold abacusref08_IsDec.f
  repeat' first
      | (with_reducible exact ih0 _ _ _ _)
      | (with_reducible exact ih1 _ _ _ _)
      | (with_reducible exact abacusref08_normal.mono _ _ _ _)
      | (with_reducible exact LeO.refl _)
      | (with_reducible exact LeO.none _)
      | (with_reducible refine LeO.ite ?_ ?_)
      | (with_reducible refine LeO.bind ?_ (fun _ => ?_))
      | exact ih0 _ _ _ _
      | exact ih1 _ _ _ _
      | exact abacusref08_normal.mono _ _ _ _
      | exact LeO.none _
      | refine LeO.ite ?_ ?_
      | refine LeO.bind ?_ (fun _ => ?_)
set_option maxHeartbeats 8000000 in
set_option maxRecDepth 100000 in
theorem abacusref08_IsDec.calls (k : Nat) (a0_0 : Bool) (a0_1 : ByteArray) (a0_2 : Int) (r : Bool) (w : World) (h : abacusref08_IsDec.f k a0_0 a0_1 a0_2 = some r) :
    Calls Tryd.prog 48 #[.agg #[.bool a0_0, .string a0_1, .int .i64 a0_2]] w fun e w' => e = .returned (.bool r) ∧ Below w.heap.size w w' := by
  have hu23 := Tryd.underlying23
  have HB := Aside0.mk (Below.refl w.heap.size w)
  have H : (if (a0_1.size : Int) = 0 then (abacusref08_IsDec.j0 k true a0_0 a0_1 a0_2) else (if a0_2 < (-1152921504606846976) then (abacusref08_IsDec.j0 k true a0_0 a0_1 a0_2) else (abacusref08_IsDec.j0 k (decide (a0_2 > 1152921504606846976)) a0_0 a0_1 a0_2))) = some r := h
  clear h
  have HC2 := Aside0.mk H
  clear H
  go_enter Tryd.func48, Tryd.ntmps48
  go_upto_region 1 with (first | ((with_reducible refine gate_dst (N := 1) rfl ?_); refine box_event ?hg (N := 1) ?hd (cs := #[.bool a0_0, .string a0_1, .int .i64 a0_2]) (t := 23) ?hr ?_; (case hd => rfl); (case hg => rfl); (case hr => first | (go_simp; done) | (go_simp; rfl)); intro gb342 hg w3 hbox hb; have n0_ := Aside0.mk (below_step (by repeat (first | (with_reducible first | exact HB.out | apply below_alloc | apply pw_below_drewN | apply below_drew1) | exact HB.out)) hb); have n1_ := Aside0.mk (hbox); have n2_ := Aside0.mk ((by rw [hg]; exact (below_size (by repeat (first | (with_reducible first | exact HB.out | apply below_alloc | apply pw_below_drewN | apply below_drew1) | exact HB.out))) : w.heap.size ≤ gb342)); have n3_ := Aside0.mk ((by rw [hg]; exact (below_size (by repeat (first | (with_reducible first | exact HB.out | apply below_alloc | apply pw_below_drewN | apply below_drew1) | exact HB.out))) : w.heap.size ≤ gb342)); clear HB; have HB := n0_; have BK342 := n1_; have GW342 := n2_; have GE342 := n3_; clear n0_ n1_ n2_ n3_; clear hb hbox hg))
  (try simp only [Act.put, List.setIfInBounds_toArray, List.set_cons_zero, List.set_cons_succ])
  go_cut [18] (fun v18 wc => ∃ (kq : Nat) (x18_1 : Bool), v18 = .bool x18_1 ∧ Aside0 (abacusref08_IsDec.j0 kq x18_1 a0_0 a0_1 a0_2 = some r) ∧ Aside0 (kq ≤ k) ∧ Aside0 (wc.heap[gb342]? = some (.cells #[.bool a0_0, .string a0_1, .int .i64 a0_2] 23 (0, 0))) ∧ Aside0 (Below w.heap.size w wc))
  case first =>
    have H := HC2.out
    clear HC2
    by_cases c4 : (a0_1.size : Int) = 0
    · rw [if_pos c4] at H
      have c4b0 : ((a0_1.size : Int) == 0) = true := beq_iff_eq.mpr c4
      have c4b1 : ((a0_1.size : Int) != 0) = false := bne_eq_false_iff_eq.mpr c4
      clear c4
      (first | rw [c4b0] | (simp only [i64_w, i32_w]; rw [c4b0]) | skip)
      have H' := Aside0.mk H
      clear H
      have hcz5_0 : w3.cell? ⟨gb342, 0, none⟩ = some (.bool a0_0) := (blk_cell BK342.out 0).trans rfl
      have hcz5_1 : w3.cell? ⟨gb342, 1, none⟩ = some (.string a0_1) := (blk_cell BK342.out 1).trans rfl
      have hcz5_2 : w3.cell? ⟨gb342, 2, none⟩ = some (.int .i64 a0_2) := (blk_cell BK342.out 2).trans rfl
      have hfz5_0 := blk_frozen BK342.out 0
      have hfz5_1 := blk_frozen BK342.out 1
      have hfz5_2 := blk_frozen BK342.out 2
      go_wp2
      go_meet
      case rel => exact ⟨_, (true), (by first | rfl | (simp; done) | (simp [*]; done)), H', ⟨by first | omega | exact Nat.le_refl _⟩, ⟨by (with_reducible repeat (first | refine blk_drewN ?_ _ | refine blk_drew ?_ | refine blk_alloc ?_ _)); exact BK342.out⟩, ⟨by repeat (first | (with_reducible first | exact HB.out | apply below_alloc | apply pw_below_drewN | apply below_drew1 | refine below_set ?_ GE342.out) | exact HB.out)⟩⟩
    · rw [if_neg c4] at H
      have c4b0 : ((a0_1.size : Int) == 0) = false := beq_eq_false_iff_ne.mpr c4
      have c4b1 : ((a0_1.size : Int) != 0) = true := bne_iff_ne.mpr c4
      (first | rw [c4b0] | (simp only [i64_w, i32_w]; rw [c4b0]) | skip)
      by_cases c6 : a0_2 < (-1152921504606846976)
      · rw [if_pos c6] at H
        have c6b0 : decide (a0_2 < (-1152921504606846976)) = true := decide_eq_true c6
        clear c6
        have H' := Aside0.mk H
        clear H
        have hcz7_0 : w3.cell? ⟨gb342, 0, none⟩ = some (.bool a0_0) := (blk_cell BK342.out 0).trans rfl
        have hcz7_1 : w3.cell? ⟨gb342, 1, none⟩ = some (.string a0_1) := (blk_cell BK342.out 1).trans rfl
        have hcz7_2 : w3.cell? ⟨gb342, 2, none⟩ = some (.int .i64 a0_2) := (blk_cell BK342.out 2).trans rfl
        have hfz7_0 := blk_frozen BK342.out 0
        have hfz7_1 := blk_frozen BK342.out 1
        have hfz7_2 := blk_frozen BK342.out 2
        go_wp2
        go_meet
        case rel => exact ⟨_, (true), (by first | rfl | (simp; done) | (simp [*]; done)), H', ⟨by first | omega | exact Nat.le_refl _⟩, ⟨by (with_reducible repeat (first | refine blk_drewN ?_ _ | refine blk_drew ?_ | refine blk_alloc ?_ _)); exact BK342.out⟩, ⟨by repeat (first | (with_reducible first | exact HB.out | apply below_alloc | apply pw_below_drewN | apply below_drew1 | refine below_set ?_ GE342.out) | exact HB.out)⟩⟩
      · rw [if_neg c6] at H
        have c6b0 : decide (a0_2 < (-1152921504606846976)) = false := decide_eq_false c6
        clear c6
        have H' := Aside0.mk H
        clear H
        have hcz8_0 : w3.cell? ⟨gb342, 0, none⟩ = some (.bool a0_0) := (blk_cell BK342.out 0).trans rfl
        have hcz8_1 : w3.cell? ⟨gb342, 1, none⟩ = some (.string a0_1) := (blk_cell BK342.out 1).trans rfl
        have hcz8_2 : w3.cell? ⟨gb342, 2, none⟩ = some (.int .i64 a0_2) := (blk_cell BK342.out 2).trans rfl
        have hfz8_0 := blk_frozen BK342.out 0
        have hfz8_1 := blk_frozen BK342.out 1
        have hfz8_2 := blk_frozen BK342.out 2
        go_wp2
        go_meet
        case rel => exact ⟨_, (decide (a0_2 > 1152921504606846976)), (by first | rfl | (simp; done) | (simp [*]; done)), H', ⟨by first | omega | exact Nat.le_refl _⟩, ⟨by (with_reducible repeat (first | refine blk_drewN ?_ _ | refine blk_drew ?_ | refine blk_alloc ?_ _)); exact BK342.out⟩, ⟨by repeat (first | (with_reducible first | exact HB.out | apply below_alloc | apply pw_below_drewN | apply below_drew1 | refine below_set ?_ GE342.out) | exact HB.out)⟩⟩
  case rest =>
    clear HC2
    try clear p2
    try clear c4
    try clear c4b0
    try clear c4b1
    try clear c6
    try clear c6b0
    try clear hcz5_0
    try clear hcz5_1
    try clear hcz5_2
    try clear hcz7_0
    try clear hcz7_1
    try clear hcz7_2
    try clear hcz8_0
    try clear hcz8_1
    try clear hcz8_2
    try clear hfz5_0
    try clear hfz5_1
    try clear hfz5_2
    try clear hfz7_0
    try clear hfz7_1
    try clear hfz7_2
    try clear hfz8_0
    try clear hfz8_1
    try clear hfz8_2
    obtain ⟨kq, x18_1, rfl, HA, HJ1, BK342, HB⟩ := hcut
    cases kq with
    | zero => exact absurd HA.out (by simp [abacusref08_IsDec.j0])
    | succ kj1 =>
      have H := HA.out
      clear HA
      simp only [abacusref08_IsDec.j0] at H
      by_cases c9 : x18_1 = true
      · subst c9
        have H1 : (some false) = some r := by rw [if_pos rfl] at H; exact H
        clear H
        have H := H1
        clear H1
        obtain rfl := Option.some.inj H
        go_wp2
        go_ret
        exact ⟨by first | rfl | (simp [errW_none, errW_some] <;> rfl) | (simp [*, errW_none, errW_some] <;> rfl), by repeat (first | (with_reducible first | exact HB.out | apply below_alloc | apply pw_below_drewN | apply below_drew1 | refine below_set ?_ GE342.out) | exact HB.out)⟩
      · replace c9 := Bool.eq_false_iff.mpr c9
        subst c9
        have H1 : (abacusref08_IsDec.l0 kj1 0 a0_0 a0_1 a0_2) = some r := by rw [if_neg (show ¬ (false = true) by decide)] at H; exact H
        clear H
        have H := H1
        clear H1
        have H' := Aside0.mk H
        clear H
        go_wp2
        go_loopg [3] kj1 (fun kq v3 w' => ∃ (x3_2 : Int), v3 = .int .i64 x3_2 ∧ Aside0 (abacusref08_IsDec.l0 kq x3_2 a0_0 a0_1 a0_2 = some r) ∧ Aside0 (kq ≤ kj1) ∧ Aside0 (w'.heap[gb342]? = some (.cells #[.bool a0_0, .string a0_1, .int .i64 a0_2] 23 (0, 0))) ∧ Aside0 (Below w.heap.size w w'))
        case atStart => exact ⟨(0), (by first | rfl | (simp; done) | (simp [*]; done)), H', ⟨Nat.le_refl _⟩, ⟨by (with_reducible repeat (first | refine blk_drewN ?_ _ | refine blk_drew ?_ | refine blk_alloc ?_ _)); exact BK342.out⟩, ⟨by repeat (first | (with_reducible first | exact HB.out | apply below_alloc | apply pw_below_drewN | apply below_drew1 | refine below_set ?_ GE342.out) | exact HB.out)⟩⟩
        case round =>
          clear H'
          try clear p2
          try clear c4
          try clear c4b0
          try clear c4b1
          try clear c6
          try clear c6b0
          try clear c9
          try clear hcz5_0
          try clear hcz5_1
          try clear hcz5_2
          try clear hcz7_0
          try clear hcz7_1
          try clear hcz7_2
          try clear hcz8_0
          try clear hcz8_1
          try clear hcz8_2
          try clear hfz5_0
          try clear hfz5_1
          try clear hfz5_2
          try clear hfz7_0
          try clear hfz7_1
          try clear hfz7_2
          try clear hfz8_0
          try clear hfz8_1
          try clear hfz8_2
          try clear p2
          obtain ⟨x3_2, rfl, HA, HK2, BK342, HB⟩ := hrel
          cases gk with
          | zero => exact absurd HA.out (by simp [abacusref08_IsDec.l0])
          | succ k2 =>
            have H := HA.out
            clear HA
            simp only [abacusref08_IsDec.l0] at H
            by_cases c10 : x3_2 < (a0_1.size : Int)
            · rw [if_pos c10] at H
              have c10b0 : decide (x3_2 < (a0_1.size : Int)) = true := decide_eq_true c10
              clear c10
              by_cases c11 : 0 ≤ x3_2
              · rw [if_pos c11] at H
                have c11b0 : decide (0 ≤ x3_2) = true := decide_eq_true c11
                clear c11
                by_cases c13 : (bt a0_1 x3_2) < 48
                · rw [if_pos c13] at H
                  have c13b0 : decide ((bt a0_1 x3_2) < 48) = true := decide_eq_true c13
                  clear c13
                  obtain rfl := Option.some.inj H
                  have hcz14_0 : wr.cell? ⟨gb342, 0, none⟩ = some (.bool a0_0) := (blk_cell BK342.out 0).trans rfl
                  have hcz14_1 : wr.cell? ⟨gb342, 1, none⟩ = some (.string a0_1) := (blk_cell BK342.out 1).trans rfl
                  have hcz14_2 : wr.cell? ⟨gb342, 2, none⟩ = some (.int .i64 a0_2) := (blk_cell BK342.out 2).trans rfl
                  have hfz14_0 := blk_frozen BK342.out 0
                  have hfz14_1 := blk_frozen BK342.out 1
                  have hfz14_2 := blk_frozen BK342.out 2
                  have p12 : 0 ≤ (x3_2 : Int) := of_decide_eq_true (by first | (with_reducible assumption) | assumption)
                  have q12 : x3_2 < (a0_1.size : Int) := of_decide_eq_true (by first | (with_reducible assumption) | assumption)
                  have hx12 := bt_at a0_1 x3_2
                  replace p12 := eq_true p12
                  replace q12 := eq_true q12
                  go_wp2
                  go_ret
                  exact ⟨by first | rfl | (simp [errW_none, errW_some] <;> rfl) | (simp [*, errW_none, errW_some] <;> rfl), by repeat (first | (with_reducible first | exact HB.out | apply below_alloc | apply pw_below_drewN | apply below_drew1 | refine below_set ?_ GE342.out) | exact HB.out)⟩
                · rw [if_neg c13] at H
                  have c13b0 : decide ((bt a0_1 x3_2) < 48) = false := decide_eq_false c13
                  clear c13
                  by_cases c16 : (bt a0_1 x3_2) > 57
                  · rw [if_pos c16] at H
                    have c16b0 : decide (57 < (bt a0_1 x3_2)) = true := decide_eq_true c16
                    clear c16
                    obtain rfl := Option.some.inj H
                    have hcz17_0 : wr.cell? ⟨gb342, 0, none⟩ = some (.bool a0_0) := (blk_cell BK342.out 0).trans rfl
                    have hcz17_1 : wr.cell? ⟨gb342, 1, none⟩ = some (.string a0_1) := (blk_cell BK342.out 1).trans rfl
                    have hcz17_2 : wr.cell? ⟨gb342, 2, none⟩ = some (.int .i64 a0_2) := (blk_cell BK342.out 2).trans rfl
                    have hfz17_0 := blk_frozen BK342.out 0
                    have hfz17_1 := blk_frozen BK342.out 1
                    have hfz17_2 := blk_frozen BK342.out 2
                    have p12 : 0 ≤ (x3_2 : Int) := of_decide_eq_true (by first | (with_reducible assumption) | assumption)
                    have q12 : x3_2 < (a0_1.size : Int) := of_decide_eq_true (by first | (with_reducible assumption) | assumption)
                    have hx12 := bt_at a0_1 x3_2
                    replace p12 := eq_true p12
                    replace q12 := eq_true q12
                    have p15 : 0 ≤ (x3_2 : Int) := of_decide_eq_true (by first | (with_reducible assumption) | assumption)
                    have q15 : x3_2 < (a0_1.size : Int) := of_decide_eq_true (by first | (with_reducible assumption) | assumption)
                    have hx15 := bt_at a0_1 x3_2
                    replace p15 := eq_true p15
                    replace q15 := eq_true q15
                    go_wp2
                    go_ret
                    exact ⟨by first | rfl | (simp [errW_none, errW_some] <;> rfl) | (simp [*, errW_none, errW_some] <;> rfl), by repeat (first | (with_reducible first | exact HB.out | apply below_alloc | apply pw_below_drewN | apply below_drew1 | refine below_set ?_ GE342.out) | exact HB.out)⟩
                  · rw [if_neg c16] at H
                    have c16b0 : decide (57 < (bt a0_1 x3_2)) = false := decide_eq_false c16
                    clear c16
                    have H' := Aside0.mk H
                    clear H
                    have hcz18_0 : wr.cell? ⟨gb342, 0, none⟩ = some (.bool a0_0) := (blk_cell BK342.out 0).trans rfl
                    have hcz18_1 : wr.cell? ⟨gb342, 1, none⟩ = some (.string a0_1) := (blk_cell BK342.out 1).trans rfl
                    have hcz18_2 : wr.cell? ⟨gb342, 2, none⟩ = some (.int .i64 a0_2) := (blk_cell BK342.out 2).trans rfl
                    have hfz18_0 := blk_frozen BK342.out 0
                    have hfz18_1 := blk_frozen BK342.out 1
                    have hfz18_2 := blk_frozen BK342.out 2
                    have p12 : 0 ≤ (x3_2 : Int) := of_decide_eq_true (by first | (with_reducible assumption) | assumption)
                    have q12 : x3_2 < (a0_1.size : Int) := of_decide_eq_true (by first | (with_reducible assumption) | assumption)
                    have hx12 := bt_at a0_1 x3_2
                    replace p12 := eq_true p12
                    replace q12 := eq_true q12
                    have p15 : 0 ≤ (x3_2 : Int) := of_decide_eq_true (by first | (with_reducible assumption) | assumption)
                    have q15 : x3_2 < (a0_1.size : Int) := of_decide_eq_true (by first | (with_reducible assumption) | assumption)
                    have hx15 := bt_at a0_1 x3_2
                    replace p15 := eq_true p15
                    replace q15 := eq_true q15
                    go_wp2
                    go_roundg k2
                    case measure => have := HJ1.out; have := HK2.out; omega
                    case rel => exact ⟨(wrap64 (x3_2 + 1)), (by first | rfl | (simp; done) | (simp [*]; done)), H', ⟨by have := HJ1.out; have := HK2.out; omega⟩, ⟨by (with_reducible repeat (first | refine blk_drewN ?_ _ | refine blk_drew ?_ | refine blk_alloc ?_ _)); exact BK342.out⟩, ⟨by repeat (first | (with_reducible first | exact HB.out | apply below_alloc | apply pw_below_drewN | apply below_drew1 | refine below_set ?_ GE342.out) | exact HB.out)⟩⟩
              · rw [if_neg c11] at H
                exact absurd H (by simp)
            · rw [if_neg c10] at H
              have c10b0 : decide (x3_2 < (a0_1.size : Int)) = false := decide_eq_false c10
              clear c10
              replace H := Option.bind_eq_some_iff.mp H
              obtain ⟨⟨t343, t344, t345⟩, A190, H⟩ := H
              replace H : (some (decide (t345 ≤ 1152921504606846976))) = some r := H
              have A19 := Aside0.mk A190
              clear A190
              obtain rfl := Option.some.inj H
              have hcz20_0 : wr.cell? ⟨gb342, 0, none⟩ = some (.bool a0_0) := (blk_cell BK342.out 0).trans rfl
              have hcz20_1 : wr.cell? ⟨gb342, 1, none⟩ = some (.string a0_1) := (blk_cell BK342.out 1).trans rfl
              have hcz20_2 : wr.cell? ⟨gb342, 2, none⟩ = some (.int .i64 a0_2) := (blk_cell BK342.out 2).trans rfl
              have hfz20_0 := blk_frozen BK342.out 0
              have hfz20_1 := blk_frozen BK342.out 1
              have hfz20_2 := blk_frozen BK342.out 2
              go_wp2_with (first | ((with_reducible refine gate_callee (f := 49) rfl ?_); refine goesL_ (some 44) rfl rfl Tryd.func49 (by kernel_rfl) rfl #[.bool a0_0, .string a0_1, .int .i64 a0_2] rfl (by (try simp only [List.map_toArray, List.map_cons, List.map_nil]); first | done | rfl | (simp only [List.length_drop, List.length_take]; rfl)) ?_; (with_reducible refine (abacusref08_normal.calls k2 a0_0 a0_1 a0_2 t343 t344 t345 _ A19.out).mono ?_); rintro e w21 ⟨rfl, hb⟩; refine ⟨_, rfl, ?_⟩; have n0_ := Aside0.mk (blk_below (g := gb342) (o := .cells #[.bool a0_0, .string a0_1, .int .i64 a0_2] 23 (0, 0)) (by (with_reducible repeat (first | refine blk_drewN ?_ _ | refine blk_drew ?_ | refine blk_alloc ?_ _)); exact BK342.out) hb); have n1_ := Aside0.mk (below_step (by repeat (first | (with_reducible first | exact HB.out | apply below_alloc | apply pw_below_drewN | apply below_drew1 | refine below_set ?_ GE342.out) | exact HB.out)) hb); clear BK342; clear HB; have BK342 := n0_; have HB := n1_; clear n0_ n1_; (try clear hb); (try clear hb2); (try clear hk); (try clear hi)) | ((with_reducible refine gate_dst (N := 4) rfl ?_); refine box_event ?hg (N := 4) ?hd (cs := #[.bool false, .string (⟨#[]⟩ : ByteArray), .int .i64 0]) (t := 23) ?hr ?_; (case hd => rfl); (case hg => rfl); (case hr => first | (go_simp; done) | (go_simp; rfl)); intro gb346 hg w22 hbox hb; have n0_ := Aside0.mk (blk_below (g := gb342) (o := .cells #[.bool a0_0, .string a0_1, .int .i64 a0_2] 23 (0, 0)) (by (with_reducible repeat (first | refine blk_drewN ?_ _ | refine blk_drew ?_ | refine blk_alloc ?_ _)); exact BK342.out) hb); have n1_ := Aside0.mk (below_step (by repeat (first | (with_reducible first | exact HB.out | apply below_alloc | apply pw_below_drewN | apply below_drew1 | refine below_set ?_ GE342.out) | exact HB.out)) hb); have n2_ := Aside0.mk (hbox); have n3_ := Aside0.mk ((by rw [hg]; exact (below_size (by repeat (first | (with_reducible first | exact HB.out | apply below_alloc | apply pw_below_drewN | apply below_drew1 | refine below_set ?_ GE342.out) | exact HB.out))) : w.heap.size ≤ gb346)); have n4_ := Aside0.mk ((by rw [hg]; exact (below_size (by repeat (first | (with_reducible first | exact HB.out | apply below_alloc | apply pw_below_drewN | apply below_drew1 | refine below_set ?_ GE342.out) | exact HB.out))) : w.heap.size ≤ gb346)); have n5_ := Aside0.mk ((by rw [hg]; exact Nat.ne_of_lt (blk_lt (g := gb342) (o := .cells #[.bool a0_0, .string a0_1, .int .i64 a0_2] 23 (0, 0)) (by (with_reducible repeat (first | refine blk_drewN ?_ _ | refine blk_drew ?_ | refine blk_alloc ?_ _)); exact BK342.out)) : gb342 ≠ gb346)); have n6_ := Aside0.mk ((by rw [hg]; exact Nat.ne_of_gt (blk_lt (g := gb342) (o := .cells #[.bool a0_0, .string a0_1, .int .i64 a0_2] 23 (0, 0)) (by (with_reducible repeat (first | refine blk_drewN ?_ _ | refine blk_drew ?_ | refine blk_alloc ?_ _)); exact BK342.out)) : gb346 ≠ gb342)); clear BK342; clear HB; have BK342 := n0_; have HB := n1_; have BK346 := n2_; have GW346 := n3_; have GE346 := n4_; have NB342_346 := n5_; have NB346_342 := n6_; clear n0_ n1_ n2_ n3_ n4_ n5_ n6_; clear hb hbox hg; have hnb23 := NB346_342.out; have hnc23 := NB342_346.out; have hcz24_0 : w22.cell? ⟨gb346, 0, none⟩ = some (.bool false) := (blk_cell BK346.out 0).trans rfl; have hcz24_1 : w22.cell? ⟨gb346, 1, none⟩ = some (.string (⟨#[]⟩ : ByteArray)) := (blk_cell BK346.out 1).trans rfl; have hcz24_2 : w22.cell? ⟨gb346, 2, none⟩ = some (.int .i64 0) := (blk_cell BK346.out 2).trans rfl; have hfz24_0 := blk_frozen BK346.out 0; have hfz24_1 := blk_frozen BK346.out 1; have hfz24_2 := blk_frozen BK346.out 2))
              go_ret
              exact ⟨by first | rfl | (simp [errW_none, errW_some] <;> rfl) | (simp [*, errW_none, errW_some] <;> rfl), by repeat (first | (with_reducible first | exact HB.out | apply below_alloc | apply pw_below_drewN | apply below_drew1 | refine below_set ?_ GE342.out | refine below_set ?_ GE346.out) | exact HB.out)⟩

end Go.Proofs.YtcgjfckhnpimbaaDoor.EScan
end

section
-- Written by eprint.py (a program of this session's, over the kit's print), not by hand.
namespace Go.Proofs.YtcgjfckhnpimbaaDoor.EScan
open Go.RowKit Go.Proofs.YtcgjfckhnpimbaaDoorW.PrintWords Go.Proofs.YtcgjfckhnpimbaaDoorW.PrintLast Go.Proofs.YtcgjfckhnpimbaaDoorW.PrintMore
attribute [local go_sem] max2_int min2_int max_two min_two max_three min_three max_four min_four   -- for this text's walks alone
set_option linter.unusedVariables false
set_option linter.unusedSimpArgs false

/-! ### abacusref08_Norm: function 36 -/
def abacusref08_Norm.f (k : Nat) (a0_0 : Bool) (a0_1 : ByteArray) (a0_2 : Int) : Option (Bool × ByteArray × Int × Int) := (abacusref08_IsDec.f k a0_0 a0_1 a0_2).bind fun t349 => (if t349 = true then ((abacusref08_normal.f k a0_0 a0_1 a0_2).bind fun bt350 => (some (bt350.1, bt350.2.1, bt350.2.2, 0))) else (some (false, (⟨#[]⟩ : ByteArray), 0, 80)))
theorem abacusref08_Norm.mono : ∀ a0 a1 a2 k, LeO (abacusref08_Norm.f k a0 a1 a2) (abacusref08_Norm.f (k + 1) a0 a1 a2) := by
  intro a0 a1 a2 k
  unfold abacusref08_Norm.f
  repeat' first
      | (with_reducible exact abacusref08_IsDec.mono _ _ _ _)
      | (with_reducible exact abacusref08_normal.mono _ _ _ _)
      | (with_reducible exact LeO.refl _)
      | (with_reducible exact LeO.none _)
      | (with_reducible refine LeO.ite ?_ ?_)
      | (with_reducible refine LeO.bind ?_ (fun _ => ?_))
      | exact abacusref08_IsDec.mono _ _ _ _
      | exact abacusref08_normal.mono _ _ _ _
      | exact LeO.none _
      | refine LeO.ite ?_ ?_
      | refine LeO.bind ?_ (fun _ => ?_)
set_option maxHeartbeats 8000000 in
set_option maxRecDepth 100000 in
theorem abacusref08_Norm.calls (k : Nat) (a0_0 : Bool) (a0_1 : ByteArray) (a0_2 : Int) (r1 : Bool) (r2 : ByteArray) (r3 : Int) (r4 : Int) (w : World) (h : abacusref08_Norm.f k a0_0 a0_1 a0_2 = some (r1, r2, r3, r4)) :
    Calls Tryd.prog 36 #[.agg #[.bool a0_0, .string a0_1, .int .i64 a0_2]] w fun e w' => e = .returned (.tuple #[.agg #[.bool r1, .string r2, .int .i64 r3], .int .i64 r4]) ∧ Below w.heap.size w w' := by
  have hu23 := Tryd.underlying23
  have HB := Aside0.mk (Below.refl w.heap.size w)
  have H : ((abacusref08_IsDec.f k a0_0 a0_1 a0_2).bind fun t349 => (if t349 = true then ((abacusref08_normal.f k a0_0 a0_1 a0_2).bind fun bt350 => (some (bt350.1, bt350.2.1, bt350.2.2, 0))) else (some (false, (⟨#[]⟩ : ByteArray), 0, 80)))) = some (r1, r2, r3, r4) := h
  clear h
  replace H := Option.bind_eq_some_iff.mp H
  obtain ⟨t349, A20, H⟩ := H
  replace H : (if t349 = true then ((abacusref08_normal.f k a0_0 a0_1 a0_2).bind fun bt350 => (some (bt350.1, bt350.2.1, bt350.2.2, 0))) else (some (false, (⟨#[]⟩ : ByteArray), 0, 80))) = some (r1, r2, r3, r4) := H
  have A2 := Aside0.mk A20
  clear A20
  by_cases c3 : t349 = true
  · subst c3
    have H1 : ((abacusref08_normal.f k a0_0 a0_1 a0_2).bind fun bt350 => (some (bt350.1, bt350.2.1, bt350.2.2, 0))) = some (r1, r2, r3, r4) := by rw [if_pos rfl] at H; exact H
    clear H
    have H := H1
    clear H1
    replace H := Option.bind_eq_some_iff.mp H
    obtain ⟨⟨t350, t351, t352⟩, A40, H⟩ := H
    replace H : (some (t350, t351, t352, 0)) = some (r1, r2, r3, r4) := H
    have A4 := Aside0.mk A40
    clear A40
    simp only [Option.some.injEq, Prod.mk.injEq] at H
    obtain ⟨rfl, rfl, rfl, rfl⟩ := H
    go_enter Tryd.func36, Tryd.ntmps36
    go_wp2_with (first | ((with_reducible refine gate_dst (N := 1) rfl ?_); refine box_event ?hg (N := 1) ?hd (cs := #[.bool a0_0, .string a0_1, .int .i64 a0_2]) (t := 23) ?hr ?_; (case hd => rfl); (case hg => rfl); (case hr => first | (go_simp; done) | (go_simp; rfl)); intro gb347 hg w5 hbox hb; have n0_ := Aside0.mk (below_step (by repeat (first | (with_reducible first | exact HB.out | apply below_alloc | apply pw_below_drewN | apply below_drew1) | exact HB.out)) hb); have n1_ := Aside0.mk (hbox); have n2_ := Aside0.mk ((by rw [hg]; exact (below_size (by repeat (first | (with_reducible first | exact HB.out | apply below_alloc | apply pw_below_drewN | apply below_drew1) | exact HB.out))) : w.heap.size ≤ gb347)); have n3_ := Aside0.mk ((by rw [hg]; exact (below_size (by repeat (first | (with_reducible first | exact HB.out | apply below_alloc | apply pw_below_drewN | apply below_drew1) | exact HB.out))) : w.heap.size ≤ gb347)); clear HB; have HB := n0_; have BK347 := n1_; have GW347 := n2_; have GE347 := n3_; clear n0_ n1_ n2_ n3_; clear hb hbox hg) | ((with_reducible refine gate_dst (N := 2) rfl ?_); refine box_event ?hg (N := 2) ?hd (cs := #[.bool false, .string (⟨#[]⟩ : ByteArray), .int .i64 0]) (t := 23) ?hr ?_; (case hd => rfl); (case hg => rfl); (case hr => first | (go_simp; done) | (go_simp; rfl)); intro gb348 hg w6 hbox hb; have n0_ := Aside0.mk (blk_below (g := gb347) (o := .cells #[.bool a0_0, .string a0_1, .int .i64 a0_2] 23 (0, 0)) (by (with_reducible repeat (first | refine blk_drewN ?_ _ | refine blk_drew ?_ | refine blk_alloc ?_ _)); exact BK347.out) hb); have n1_ := Aside0.mk (below_step (by repeat (first | (with_reducible first | exact HB.out | apply below_alloc | apply pw_below_drewN | apply below_drew1 | refine below_set ?_ GE347.out) | exact HB.out)) hb); have n2_ := Aside0.mk (hbox); have n3_ := Aside0.mk ((by rw [hg]; exact (below_size (by repeat (first | (with_reducible first | exact HB.out | apply below_alloc | apply pw_below_drewN | apply below_drew1 | refine below_set ?_ GE347.out) | exact HB.out))) : w.heap.size ≤ gb348)); have n4_ := Aside0.mk ((by rw [hg]; exact (below_size (by repeat (first | (with_reducible first | exact HB.out | apply below_alloc | apply pw_below_drewN | apply below_drew1 | refine below_set ?_ GE347.out) | exact HB.out))) : w.heap.size ≤ gb348)); have n5_ := Aside0.mk ((by rw [hg]; exact Nat.ne_of_lt (blk_lt (g := gb347) (o := .cells #[.bool a0_0, .string a0_1, .int .i64 a0_2] 23 (0, 0)) (by (with_reducible repeat (first | refine blk_drewN ?_ _ | refine blk_drew ?_ | refine blk_alloc ?_ _)); exact BK347.out)) : gb347 ≠ gb348)); have n6_ := Aside0.mk ((by rw [hg]; exact Nat.ne_of_gt (blk_lt (g := gb347) (o := .cells #[.bool a0_0, .string a0_1, .int .i64 a0_2] 23 (0, 0)) (by (with_reducible repeat (first | refine blk_drewN ?_ _ | refine blk_drew ?_ | refine blk_alloc ?_ _)); exact BK347.out)) : gb348 ≠ gb347)); clear BK347; clear HB; have BK347 := n0_; have HB := n1_; have BK348 := n2_; have GW348 := n3_; have GE348 := n4_; have NB347_348 := n5_; have NB348_347 := n6_; clear n0_ n1_ n2_ n3_ n4_ n5_ n6_; clear hb hbox hg; have hnb7 := NB347_348.out; have hnc7 := NB348_347.out; have hcz8_0 : w6.cell? ⟨gb347, 0, none⟩ = some (.bool a0_0) := (blk_cell BK347.out 0).trans rfl; have hcz8_1 : w6.cell? ⟨gb347, 1, none⟩ = some (.string a0_1) := (blk_cell BK347.out 1).trans rfl; have hcz8_2 : w6.cell? ⟨gb347, 2, none⟩ = some (.int .i64 a0_2) := (blk_cell BK347.out 2).trans rfl; have hfz8_0 := blk_frozen BK347.out 0; have hfz8_1 := blk_frozen BK347.out 1; have hfz8_2 := blk_frozen BK347.out 2) | ((with_reducible refine gate_callee (f := 48) rfl ?_); refine goesL_ (some 5) rfl rfl Tryd.func48 (by kernel_rfl) rfl #[.agg #[.bool a0_0, .string a0_1, .int .i64 a0_2]] rfl (by (try simp only [List.map_toArray, List.map_cons, List.map_nil]); first | done | rfl | (simp only [List.length_drop, List.length_take]; rfl)) ?_; (with_reducible refine (abacusref08_IsDec.calls k a0_0 a0_1 a0_2 true _ A2.out).mono ?_); rintro e w9 ⟨rfl, hb⟩; refine ⟨_, rfl, ?_⟩; have n0_ := Aside0.mk (blk_below (g := gb347) (o := .cells #[.bool a0_0, .string a0_1, .int .i64 a0_2] 23 (0, 0)) (by (with_reducible repeat (first | refine blk_drewN ?_ _ | refine blk_drew ?_ | refine blk_alloc ?_ _)); exact BK347.out) hb); have n1_ := Aside0.mk (blk_below (g := gb348) (o := .cells #[.bool false, .string (⟨#[]⟩ : ByteArray), .int .i64 0] 23 (0, 0)) (by (with_reducible repeat (first | refine blk_drewN ?_ _ | refine blk_drew ?_ | refine blk_alloc ?_ _)); exact BK348.out) hb); have n2_ := Aside0.mk (below_step (by repeat (first | (with_reducible first | exact HB.out | apply below_alloc | apply pw_below_drewN | apply below_drew1 | refine below_set ?_ GE347.out | refine below_set ?_ GE348.out) | exact HB.out)) hb); clear BK347; clear BK348; clear HB; have BK347 := n0_; have BK348 := n1_; have HB := n2_; clear n0_ n1_ n2_; (try clear hb); (try clear hb2); (try clear hk); (try clear hi); have hcz10_0 : w9.cell? ⟨gb347, 0, none⟩ = some (.bool a0_0) := (blk_cell BK347.out 0).trans rfl; have hcz10_1 : w9.cell? ⟨gb347, 1, none⟩ = some (.string a0_1) := (blk_cell BK347.out 1).trans rfl; have hcz10_2 : w9.cell? ⟨gb347, 2, none⟩ = some (.int .i64 a0_2) := (blk_cell BK347.out 2).trans rfl; have hfz10_0 := blk_frozen BK347.out 0; have hfz10_1 := blk_frozen BK347.out 1; have hfz10_2 := blk_frozen BK347.out 2) | ((with_reducible refine gate_callee (f := 49) rfl ?_); refine goesL_ (some 14) rfl rfl Tryd.func49 (by kernel_rfl) rfl #[.bool a0_0, .string a0_1, .int .i64 a0_2] rfl (by (try simp only [List.map_toArray, List.map_cons, List.map_nil]); first | done | rfl | (simp only [List.length_drop, List.length_take]; rfl)) ?_; (with_reducible refine (abacusref08_normal.calls k a0_0 a0_1 a0_2 t350 t351 t352 _ A4.out).mono ?_); rintro e w11 ⟨rfl, hb⟩; refine ⟨_, rfl, ?_⟩; have n0_ := Aside0.mk (blk_below (g := gb347) (o := .cells #[.bool a0_0, .string a0_1, .int .i64 a0_2] 23 (0, 0)) (by (with_reducible repeat (first | refine blk_drewN ?_ _ | refine blk_drew ?_ | refine blk_alloc ?_ _)); exact BK347.out) hb); have n1_ := Aside0.mk (blk_below (g := gb348) (o := .cells #[.bool false, .string (⟨#[]⟩ : ByteArray), .int .i64 0] 23 (0, 0)) (by (with_reducible repeat (first | refine blk_drewN ?_ _ | refine blk_drew ?_ | refine blk_alloc ?_ _)); exact BK348.out) hb); have n2_ := Aside0.mk (below_step (by repeat (first | (with_reducible first | exact HB.out | apply below_alloc | apply pw_below_drewN | apply below_drew1 | refine below_set ?_ GE347.out | refine below_set ?_ GE348.out) | exact HB.out)) hb); clear BK347; clear BK348; clear HB; have BK347 := n0_; have BK348 := n1_; have HB := n2_; clear n0_ n1_ n2_; (try clear hb); (try clear hb2); (try clear hk); (try clear hi); have hcz12_0 : w11.cell? ⟨gb348, 0, none⟩ = some (.bool false) := (blk_cell BK348.out 0).trans rfl; have hcz12_1 : w11.cell? ⟨gb348, 1, none⟩ = some (.string (⟨#[]⟩ : ByteArray)) := (blk_cell BK348.out 1).trans rfl; have hcz12_2 : w11.cell? ⟨gb348, 2, none⟩ = some (.int .i64 0) := (blk_cell BK348.out 2).trans rfl; have hfz12_0 := blk_frozen BK348.out 0; have hfz12_1 := blk_frozen BK348.out 1; have hfz12_2 := blk_frozen BK348.out 2))
    refine bodyPost_ret (results_ct rfl _ _ gb348 23 #[.bool t350, .string t351, .int .i64 t352] (0, 0) _ rfl (by (with_reducible repeat (first | refine blk_drewN ?_ _ | refine blk_drew ?_ | refine blk_alloc ?_ _)); refine blk_put (cs := #[.bool t350, .string t351, .int .i64 0]) ?_ 2 _ rfl; (with_reducible repeat (first | refine blk_drewN ?_ _ | refine blk_drew ?_ | refine blk_alloc ?_ _)); refine blk_put (cs := #[.bool t350, .string (⟨#[]⟩ : ByteArray), .int .i64 0]) ?_ 1 _ rfl; (with_reducible repeat (first | refine blk_drewN ?_ _ | refine blk_drew ?_ | refine blk_alloc ?_ _)); refine blk_put (cs := #[.bool false, .string (⟨#[]⟩ : ByteArray), .int .i64 0]) ?_ 0 _ rfl; (with_reducible repeat (first | refine blk_drewN ?_ _ | refine blk_drew ?_ | refine blk_alloc ?_ _)); exact BK348.out) Tryd.underlying23 rfl (by kernel_rfl)) rfl ?_
    exact ⟨by first | rfl | (simp [errW_none, errW_some] <;> rfl) | (simp [*, errW_none, errW_some] <;> rfl), by repeat (first | (with_reducible first | exact HB.out | apply below_alloc | apply pw_below_drewN | apply below_drew1 | refine below_set ?_ GE347.out | refine below_set ?_ GE348.out) | exact HB.out)⟩
  · replace c3 := Bool.eq_false_iff.mpr c3
    subst c3
    have H1 : (some (false, (⟨#[]⟩ : ByteArray), 0, 80)) = some (r1, r2, r3, r4) := by rw [if_neg (show ¬ (false = true) by decide)] at H; exact H
    clear H
    have H := H1
    clear H1
    simp only [Option.some.injEq, Prod.mk.injEq] at H
    obtain ⟨rfl, rfl, rfl, rfl⟩ := H
    go_enter Tryd.func36, Tryd.ntmps36
    go_wp2_with (first | ((with_reducible refine gate_dst (N := 1) rfl ?_); refine box_event ?hg (N := 1) ?hd (cs := #[.bool a0_0, .string a0_1, .int .i64 a0_2]) (t := 23) ?hr ?_; (case hd => rfl); (case hg => rfl); (case hr => first | (go_simp; done) | (go_simp; rfl)); intro gb347 hg w13 hbox hb; have n0_ := Aside0.mk (below_step (by repeat (first | (with_reducible first | exact HB.out | apply below_alloc | apply pw_below_drewN | apply below_drew1) | exact HB.out)) hb); have n1_ := Aside0.mk (hbox); have n2_ := Aside0.mk ((by rw [hg]; exact (below_size (by repeat (first | (with_reducible first | exact HB.out | apply below_alloc | apply pw_below_drewN | apply below_drew1) | exact HB.out))) : w.heap.size ≤ gb347)); have n3_ := Aside0.mk ((by rw [hg]; exact (below_size (by repeat (first | (with_reducible first | exact HB.out | apply below_alloc | apply pw_below_drewN | apply below_drew1) | exact HB.out))) : w.heap.size ≤ gb347)); clear HB; have HB := n0_; have BK347 := n1_; have GW347 := n2_; have GE347 := n3_; clear n0_ n1_ n2_ n3_; clear hb hbox hg) | ((with_reducible refine gate_dst (N := 2) rfl ?_); refine box_event ?hg (N := 2) ?hd (cs := #[.bool false, .string (⟨#[]⟩ : ByteArray), .int .i64 0]) (t := 23) ?hr ?_; (case hd => rfl); (case hg => rfl); (case hr => first | (go_simp; done) | (go_simp; rfl)); intro gb348 hg w14 hbox hb; have n0_ := Aside0.mk (blk_below (g := gb347) (o := .cells #[.bool a0_0, .string a0_1, .int .i64 a0_2] 23 (0, 0)) (by (with_reducible repeat (first | refine blk_drewN ?_ _ | refine blk_drew ?_ | refine blk_alloc ?_ _)); exact BK347.out) hb); have n1_ := Aside0.mk (below_step (by repeat (first | (with_reducible first | exact HB.out | apply below_alloc | apply pw_below_drewN | apply below_drew1 | refine below_set ?_ GE347.out) | exact HB.out)) hb); have n2_ := Aside0.mk (hbox); have n3_ := Aside0.mk ((by rw [hg]; exact (below_size (by repeat (first | (with_reducible first | exact HB.out | apply below_alloc | apply pw_below_drewN | apply below_drew1 | refine below_set ?_ GE347.out) | exact HB.out))) : w.heap.size ≤ gb348)); have n4_ := Aside0.mk ((by rw [hg]; exact (below_size (by repeat (first | (with_reducible first | exact HB.out | apply below_alloc | apply pw_below_drewN | apply below_drew1 | refine below_set ?_ GE347.out) | exact HB.out))) : w.heap.size ≤ gb348)); have n5_ := Aside0.mk ((by rw [hg]; exact Nat.ne_of_lt (blk_lt (g := gb347) (o := .cells #[.bool a0_0, .string a0_1, .int .i64 a0_2] 23 (0, 0)) (by (with_reducible repeat (first | refine blk_drewN ?_ _ | refine blk_drew ?_ | refine blk_alloc ?_ _)); exact BK347.out)) : gb347 ≠ gb348)); have n6_ := Aside0.mk ((by rw [hg]; exact Nat.ne_of_gt (blk_lt (g := gb347) (o := .cells #[.bool a0_0, .string a0_1, .int .i64 a0_2] 23 (0, 0)) (by (with_reducible repeat (first | refine blk_drewN ?_ _ | refine blk_drew ?_ | refine blk_alloc ?_ _)); exact BK347.out)) : gb348 ≠ gb347)); clear BK347; clear HB; have BK347 := n0_; have HB := n1_; have BK348 := n2_; have GW348 := n3_; have GE348 := n4_; have NB347_348 := n5_; have NB348_347 := n6_; clear n0_ n1_ n2_ n3_ n4_ n5_ n6_; clear hb hbox hg; have hnb15 := NB347_348.out; have hnc15 := NB348_347.out; have hcz16_0 : w14.cell? ⟨gb347, 0, none⟩ = some (.bool a0_0) := (blk_cell BK347.out 0).trans rfl; have hcz16_1 : w14.cell? ⟨gb347, 1, none⟩ = some (.string a0_1) := (blk_cell BK347.out 1).trans rfl; have hcz16_2 : w14.cell? ⟨gb347, 2, none⟩ = some (.int .i64 a0_2) := (blk_cell BK347.out 2).trans rfl; have hfz16_0 := blk_frozen BK347.out 0; have hfz16_1 := blk_frozen BK347.out 1; have hfz16_2 := blk_frozen BK347.out 2) | ((with_reducible refine gate_callee (f := 48) rfl ?_); refine goesL_ (some 5) rfl rfl Tryd.func48 (by kernel_rfl) rfl #[.agg #[.bool a0_0, .string a0_1, .int .i64 a0_2]] rfl (by (try simp only [List.map_toArray, List.map_cons, List.map_nil]); first | done | rfl | (simp only [List.length_drop, List.length_take]; rfl)) ?_; (with_reducible refine (abacusref08_IsDec.calls k a0_0 a0_1 a0_2 false _ A2.out).mono ?_); rintro e w17 ⟨rfl, hb⟩; refine ⟨_, rfl, ?_⟩; have n0_ := Aside0.mk (blk_below (g := gb347) (o := .cells #[.bool a0_0, .string a0_1, .int .i64 a0_2] 23 (0, 0)) (by (with_reducible repeat (first | refine blk_drewN ?_ _ | refine blk_drew ?_ | refine blk_alloc ?_ _)); exact BK347.out) hb); have n1_ := Aside0.mk (blk_below (g := gb348) (o := .cells #[.bool false, .string (⟨#[]⟩ : ByteArray), .int .i64 0] 23 (0, 0)) (by (with_reducible repeat (first | refine blk_drewN ?_ _ | refine blk_drew ?_ | refine blk_alloc ?_ _)); exact BK348.out) hb); have n2_ := Aside0.mk (below_step (by repeat (first | (with_reducible first | exact HB.out | apply below_alloc | apply pw_below_drewN | apply below_drew1 | refine below_set ?_ GE347.out | refine below_set ?_ GE348.out) | exact HB.out)) hb); clear BK347; clear BK348; clear HB; have BK347 := n0_; have BK348 := n1_; have HB := n2_; clear n0_ n1_ n2_; (try clear hb); (try clear hb2); (try clear hk); (try clear hi); have hcz18_0 : w17.cell? ⟨gb348, 0, none⟩ = some (.bool false) := (blk_cell BK348.out 0).trans rfl; have hcz18_1 : w17.cell? ⟨gb348, 1, none⟩ = some (.string (⟨#[]⟩ : ByteArray)) := (blk_cell BK348.out 1).trans rfl; have hcz18_2 : w17.cell? ⟨gb348, 2, none⟩ = some (.int .i64 0) := (blk_cell BK348.out 2).trans rfl; have hfz18_0 := blk_frozen BK348.out 0; have hfz18_1 := blk_frozen BK348.out 1; have hfz18_2 := blk_frozen BK348.out 2))
    refine bodyPost_ret (results_ct rfl _ _ gb348 23 #[.bool false, .string (⟨#[]⟩ : ByteArray), .int .i64 0] (0, 0) _ rfl (by (with_reducible repeat (first | refine blk_drewN ?_ _ | refine blk_drew ?_ | refine blk_alloc ?_ _)); refine blk_put (cs := #[.bool false, .string (⟨#[]⟩ : ByteArray), .int .i64 0]) ?_ 2 _ rfl; (with_reducible repeat (first | refine blk_drewN ?_ _ | refine blk_drew ?_ | refine blk_alloc ?_ _)); refine blk_put (cs := #[.bool false, .string (⟨#[]⟩ : ByteArray), .int .i64 0]) ?_ 1 _ rfl; (with_reducible repeat (first | refine blk_drewN ?_ _ | refine blk_drew ?_ | refine blk_alloc ?_ _)); refine blk_put (cs := #[.bool false, .string (⟨#[]⟩ : ByteArray), .int .i64 0]) ?_ 0 _ rfl; (with_reducible repeat (first | refine blk_drewN ?_ _ | refine blk_drew ?_ | refine blk_alloc ?_ _)); exact BK348.out) Tryd.underlying23 rfl (by kernel_rfl)) rfl ?_
    exact ⟨by first | rfl | (simp [errW_none, errW_some] <;> rfl) | (simp [*, errW_none, errW_some] <;> rfl), by repeat (first | (with_reducible first | exact HB.out | apply below_alloc | apply pw_below_drewN | apply below_drew1 | refine below_set ?_ GE347.out | refine below_set ?_ GE348.out) | exact HB.out)⟩

end Go.Proofs.YtcgjfckhnpimbaaDoor.EScan
end

section
-- Written by eprint.py (a program of this session's, over the kit's print), not by hand.
namespace Go.Proofs.YtcgjfckhnpimbaaDoor.EScan
open Go.RowKit Go.Proofs.YtcgjfckhnpimbaaDoorW.PrintWords Go.Proofs.YtcgjfckhnpimbaaDoorW.PrintLast Go.Proofs.YtcgjfckhnpimbaaDoorW.PrintMore
attribute [local go_sem] max2_int min2_int max_two min_two max_three min_three max_four min_four   -- for this text's walks alone
set_option linter.unusedVariables false
set_option linter.unusedSimpArgs false

open Go.Proofs.YtcgjfckhnpimbaaDoor.X
/-! ### abacusref08_Text: function 37 -/
def abacusref08_Text.f (k : Nat) (a0_0 : Bool) (a0_1 : ByteArray) (a0_2 : Int) : Option (ByteArray × Int) := (abacusref08_Norm.f k a0_0 a0_1 a0_2).bind fun bt354 => (if bt354.2.2.2 = 0 then (if bt354.1 = true then (if 1 + bt354.2.1.size ≤ 9223372036854775807 then (if bt354.2.2.1 = 0 then (some ((⟨#[45]⟩ : ByteArray) ++ bt354.2.1, 0)) else (if ((⟨#[45]⟩ : ByteArray) ++ bt354.2.1).size + 1 ≤ 9223372036854775807 then ((xItoa.f bt354.2.2.1).bind fun t359 => (if (((⟨#[45]⟩ : ByteArray) ++ bt354.2.1) ++ (⟨#[101]⟩ : ByteArray)).size + t359.size ≤ 9223372036854775807 then (some ((((⟨#[45]⟩ : ByteArray) ++ bt354.2.1) ++ (⟨#[101]⟩ : ByteArray)) ++ t359, 0)) else (none))) else (none))) else (none)) else (if bt354.2.2.1 = 0 then (some (bt354.2.1, 0)) else (if bt354.2.1.size + 1 ≤ 9223372036854775807 then ((xItoa.f bt354.2.2.1).bind fun t360 => (if (bt354.2.1 ++ (⟨#[101]⟩ : ByteArray)).size + t360.size ≤ 9223372036854775807 then (some ((bt354.2.1 ++ (⟨#[101]⟩ : ByteArray)) ++ t360, 0)) else (none))) else (none)))) else (some ((⟨#[]⟩ : ByteArray), bt354.2.2.2)))
theorem abacusref08_Text.mono : ∀ a0 a1 a2 k, LeO (abacusref08_Text.f k a0 a1 a2) (abacusref08_Text.f (k + 1) a0 a1 a2) := by
  intro a0 a1 a2 k
  unfold abacusref08_Text.f
  repeat' first
      | (with_reducible exact abacusref08_Norm.mono _ _ _ _)
      | (with_reducible exact LeO.refl _)
      | (with_reducible exact LeO.none _)
      | (with_reducible refine LeO.ite ?_ ?_)
      | (with_reducible refine LeO.bind ?_ (fun _ => ?_))
      | exact abacusref08_Norm.mono _ _ _ _
      | exact LeO.none _
      | refine LeO.ite ?_ ?_
      | refine LeO.bind ?_ (fun _ => ?_)
set_option maxHeartbeats 8000000 in
set_option maxRecDepth 100000 in
theorem abacusref08_Text.calls (k : Nat) (a0_0 : Bool) (a0_1 : ByteArray) (a0_2 : Int) (r1 : ByteArray) (r2 : Int) (w : World) (hG : GW w) (h : abacusref08_Text.f k a0_0 a0_1 a0_2 = some (r1, r2)) :
    Calls Tryd.prog 37 #[.agg #[.bool a0_0, .string a0_1, .int .i64 a0_2]] w fun e w' => e = .returned (.tuple #[.string r1, .int .i64 r2]) ∧ Below w.heap.size w w' := by
  have hu23 := Tryd.underlying23
  have HB := Aside0.mk (Below.refl w.heap.size w)
  have HG := Aside0.mk hG
  clear hG
  have H : ((abacusref08_Norm.f k a0_0 a0_1 a0_2).bind fun bt354 => (if bt354.2.2.2 = 0 then (if bt354.1 = true then (if 1 + bt354.2.1.size ≤ 9223372036854775807 then (if bt354.2.2.1 = 0 then (some ((⟨#[45]⟩ : ByteArray) ++ bt354.2.1, 0)) else (if ((⟨#[45]⟩ : ByteArray) ++ bt354.2.1).size + 1 ≤ 9223372036854775807 then ((xItoa.f bt354.2.2.1).bind fun t359 => (if (((⟨#[45]⟩ : ByteArray) ++ bt354.2.1) ++ (⟨#[101]⟩ : ByteArray)).size + t359.size ≤ 9223372036854775807 then (some ((((⟨#[45]⟩ : ByteArray) ++ bt354.2.1) ++ (⟨#[101]⟩ : ByteArray)) ++ t359, 0)) else (none))) else (none))) else (none)) else (if bt354.2.2.1 = 0 then (some (bt354.2.1, 0)) else (if bt354.2.1.size + 1 ≤ 9223372036854775807 then ((xItoa.f bt354.2.2.1).bind fun t360 => (if (bt354.2.1 ++ (⟨#[101]⟩ : ByteArray)).size + t360.size ≤ 9223372036854775807 then (some ((bt354.2.1 ++ (⟨#[101]⟩ : ByteArray)) ++ t360, 0)) else (none))) else (none)))) else (some ((⟨#[]⟩ : ByteArray), bt354.2.2.2)))) = some (r1, r2) := h
  clear h
  replace H := Option.bind_eq_some_iff.mp H
  obtain ⟨⟨t354, t355, t356, t357⟩, A20, H⟩ := H
  replace H : (if t357 = 0 then (if t354 = true then (if 1 + t355.size ≤ 9223372036854775807 then (if t356 = 0 then (some ((⟨#[45]⟩ : ByteArray) ++ t355, 0)) else (if ((⟨#[45]⟩ : ByteArray) ++ t355).size + 1 ≤ 9223372036854775807 then ((xItoa.f t356).bind fun t359 => (if (((⟨#[45]⟩ : ByteArray) ++ t355) ++ (⟨#[101]⟩ : ByteArray)).size + t359.size ≤ 9223372036854775807 then (some ((((⟨#[45]⟩ : ByteArray) ++ t355) ++ (⟨#[101]⟩ : ByteArray)) ++ t359, 0)) else (none))) else (none))) else (none)) else (if t356 = 0 then (some (t355, 0)) else (if t355.size + 1 ≤ 9223372036854775807 then ((xItoa.f t356).bind fun t360 => (if (t355 ++ (⟨#[101]⟩ : ByteArray)).size + t360.size ≤ 9223372036854775807 then (some ((t355 ++ (⟨#[101]⟩ : ByteArray)) ++ t360, 0)) else (none))) else (none)))) else (some ((⟨#[]⟩ : ByteArray), t357))) = some (r1, r2) := H
  have A2 := Aside0.mk A20
  clear A20
  by_cases c3 : t357 = 0
  · rw [if_pos c3] at H
    have c3b0 : (t357 == 0) = true := beq_iff_eq.mpr c3
    have c3b1 : (t357 != 0) = false := bne_eq_false_iff_eq.mpr c3
    clear c3
    by_cases c4 : t354 = true
    · subst c4
      have H1 : (if 1 + t355.size ≤ 9223372036854775807 then (if t356 = 0 then (some ((⟨#[45]⟩ : ByteArray) ++ t355, 0)) else (if ((⟨#[45]⟩ : ByteArray) ++ t355).size + 1 ≤ 9223372036854775807 then ((xItoa.f t356).bind fun t359 => (if (((⟨#[45]⟩ : ByteArray) ++ t355) ++ (⟨#[101]⟩ : ByteArray)).size + t359.size ≤ 9223372036854775807 then (some ((((⟨#[45]⟩ : ByteArray) ++ t355) ++ (⟨#[101]⟩ : ByteArray)) ++ t359, 0)) else (none))) else (none))) else (none)) = some (r1, r2) := by rw [if_pos rfl] at H; exact H
      clear H
      have H := H1
      clear H1
      by_cases c5 : 1 + t355.size ≤ 9223372036854775807
      · rw [if_pos c5] at H
        have c5b0 := eq_true c5
        have c5b1 : decide (1 + t355.size ≤ 9223372036854775807) = true := decide_eq_true c5
        try have c5b2 : (9223372036854775807 < 1 + t355.size) = False := eq_false (Nat.not_lt.2 c5)
        by_cases c6 : t356 = 0
        · rw [if_pos c6] at H
          have c6b0 : (t356 == 0) = true := beq_iff_eq.mpr c6
          have c6b1 : (t356 != 0) = false := bne_eq_false_iff_eq.mpr c6
          clear c6
          simp only [Option.some.injEq, Prod.mk.injEq] at H
          obtain ⟨rfl, rfl⟩ := H
          go_enter Tryd.func37, Tryd.ntmps37
          go_wp2_with (first | ((with_reducible refine gate_dst (N := 1) rfl ?_); refine box_event ?hg (N := 1) ?hd (cs := #[.bool a0_0, .string a0_1, .int .i64 a0_2]) (t := 23) ?hr ?_; (case hd => rfl); (case hg => rfl); (case hr => first | (go_simp; done) | (go_simp; rfl)); intro gb353 hg w7 hbox hb; have n0_ := Aside0.mk (below_step (by repeat (first | (with_reducible first | exact HB.out | apply below_alloc | apply pw_below_drewN | apply below_drew1) | exact HB.out)) hb); have n1_ := Aside0.mk (hbox); have n2_ := Aside0.mk ((by rw [hg]; exact (below_size (by repeat (first | (with_reducible first | exact HB.out | apply below_alloc | apply pw_below_drewN | apply below_drew1) | exact HB.out))) : w.heap.size ≤ gb353)); have n3_ := Aside0.mk ((by rw [hg]; exact (below_size (by repeat (first | (with_reducible first | exact HB.out | apply below_alloc | apply pw_below_drewN | apply below_drew1) | exact HB.out))) : w.heap.size ≤ gb353)); clear HB; have HB := n0_; have BK353 := n1_; have GW353 := n2_; have GE353 := n3_; clear n0_ n1_ n2_ n3_; clear hb hbox hg; have hcz8_0 : w7.cell? ⟨gb353, 0, none⟩ = some (.bool a0_0) := (blk_cell BK353.out 0).trans rfl; have hcz8_1 : w7.cell? ⟨gb353, 1, none⟩ = some (.string a0_1) := (blk_cell BK353.out 1).trans rfl; have hcz8_2 : w7.cell? ⟨gb353, 2, none⟩ = some (.int .i64 a0_2) := (blk_cell BK353.out 2).trans rfl; have hfz8_0 := blk_frozen BK353.out 0; have hfz8_1 := blk_frozen BK353.out 1; have hfz8_2 := blk_frozen BK353.out 2) | ((with_reducible refine gate_callee (f := 36) rfl ?_); refine goesL_ (some 9) rfl rfl Tryd.func36 (by kernel_rfl) rfl #[.agg #[.bool a0_0, .string a0_1, .int .i64 a0_2]] rfl (by (try simp only [List.map_toArray, List.map_cons, List.map_nil]); first | done | rfl | (simp only [List.length_drop, List.length_take]; rfl)) ?_; (with_reducible refine (abacusref08_Norm.calls k a0_0 a0_1 a0_2 true t355 t356 t357 _ A2.out).mono ?_); rintro e w9 ⟨rfl, hb⟩; refine ⟨_, rfl, ?_⟩; have n0_ := Aside0.mk (blk_below (g := gb353) (o := .cells #[.bool a0_0, .string a0_1, .int .i64 a0_2] 23 (0, 0)) (by (with_reducible repeat (first | refine blk_drewN ?_ _ | refine blk_drew ?_ | refine blk_alloc ?_ _)); exact BK353.out) hb); have n1_ := Aside0.mk (below_step (by repeat (first | (with_reducible first | exact HB.out | apply below_alloc | apply pw_below_drewN | apply below_drew1 | refine below_set ?_ GE353.out) | exact HB.out)) hb); clear BK353; clear HB; have BK353 := n0_; have HB := n1_; clear n0_ n1_; (try clear hb); (try clear hb2); (try clear hk); (try clear hi)) | ((with_reducible refine gate_dst (N := 4) rfl ?_); refine box_event ?hg (N := 4) ?hd (cs := #[.bool false, .string (⟨#[]⟩ : ByteArray), .int .i64 0]) (t := 23) ?hr ?_; (case hd => rfl); (case hg => rfl); (case hr => first | (go_simp; done) | (go_simp; rfl)); intro gb358 hg w10 hbox hb; have n0_ := Aside0.mk (blk_below (g := gb353) (o := .cells #[.bool a0_0, .string a0_1, .int .i64 a0_2] 23 (0, 0)) (by (with_reducible repeat (first | refine blk_drewN ?_ _ | refine blk_drew ?_ | refine blk_alloc ?_ _)); exact BK353.out) hb); have n1_ := Aside0.mk (below_step (by repeat (first | (with_reducible first | exact HB.out | apply below_alloc | apply pw_below_drewN | apply below_drew1 | refine below_set ?_ GE353.out) | exact HB.out)) hb); have n2_ := Aside0.mk (hbox); have n3_ := Aside0.mk ((by rw [hg]; exact (below_size (by repeat (first | (with_reducible first | exact HB.out | apply below_alloc | apply pw_below_drewN | apply below_drew1 | refine below_set ?_ GE353.out) | exact HB.out))) : w.heap.size ≤ gb358)); have n4_ := Aside0.mk ((by rw [hg]; exact (below_size (by repeat (first | (with_reducible first | exact HB.out | apply below_alloc | apply pw_below_drewN | apply below_drew1 | refine below_set ?_ GE353.out) | exact HB.out))) : w.heap.size ≤ gb358)); have n5_ := Aside0.mk ((by rw [hg]; exact Nat.ne_of_lt (blk_lt (g := gb353) (o := .cells #[.bool a0_0, .string a0_1, .int .i64 a0_2] 23 (0, 0)) (by (with_reducible repeat (first | refine blk_drewN ?_ _ | refine blk_drew ?_ | refine blk_alloc ?_ _)); exact BK353.out)) : gb353 ≠ gb358)); have n6_ := Aside0.mk ((by rw [hg]; exact Nat.ne_of_gt (blk_lt (g := gb353) (o := .cells #[.bool a0_0, .string a0_1, .int .i64 a0_2] 23 (0, 0)) (by (with_reducible repeat (first | refine blk_drewN ?_ _ | refine blk_drew ?_ | refine blk_alloc ?_ _)); exact BK353.out)) : gb358 ≠ gb353)); clear BK353; clear HB; have BK353 := n0_; have HB := n1_; have BK358 := n2_; have GW358 := n3_; have GE358 := n4_; have NB353_358 := n5_; have NB358_353 := n6_; clear n0_ n1_ n2_ n3_ n4_ n5_ n6_; clear hb hbox hg; have hnb11 := NB358_353.out; have hnc11 := NB353_358.out; have hcz12_0 : w10.cell? ⟨gb358, 0, none⟩ = some (.bool false) := (blk_cell BK358.out 0).trans rfl; have hcz12_1 : w10.cell? ⟨gb358, 1, none⟩ = some (.string (⟨#[]⟩ : ByteArray)) := (blk_cell BK358.out 1).trans rfl; have hcz12_2 : w10.cell? ⟨gb358, 2, none⟩ = some (.int .i64 0) := (blk_cell BK358.out 2).trans rfl; have hfz12_0 := blk_frozen BK358.out 0; have hfz12_1 := blk_frozen BK358.out 1; have hfz12_2 := blk_frozen BK358.out 2))
          go_ret2
          exact ⟨by first | rfl | (simp [errW_none, errW_some] <;> rfl) | (simp [*, errW_none, errW_some] <;> rfl), by repeat (first | (with_reducible first | exact HB.out | apply below_alloc | apply pw_below_drewN | apply below_drew1 | refine below_set ?_ GE353.out | refine below_set ?_ GE358.out) | exact HB.out)⟩
        · rw [if_neg c6] at H
          have c6b0 : (t356 == 0) = false := beq_eq_false_iff_ne.mpr c6
          have c6b1 : (t356 != 0) = true := bne_iff_ne.mpr c6
          by_cases c13 : ((⟨#[45]⟩ : ByteArray) ++ t355).size + 1 ≤ 9223372036854775807
          · rw [if_pos c13] at H
            have c13b0 := eq_true c13
            have c13b1 : decide (((⟨#[45]⟩ : ByteArray) ++ t355).size + 1 ≤ 9223372036854775807) = true := decide_eq_true c13
            try have c13b2 : (9223372036854775807 < ((⟨#[45]⟩ : ByteArray) ++ t355).size + 1) = False := eq_false (Nat.not_lt.2 c13)
            (try (have c13b3 : (9223372036854775807 < 1 + t355.size + 1) = False := by have h_ := c13b2; simp only [ByteArray.size_append] at h_; exact h_))
            replace H := Option.bind_eq_some_iff.mp H
            obtain ⟨t359, A140, H⟩ := H
            replace H : (if (((⟨#[45]⟩ : ByteArray) ++ t355) ++ (⟨#[101]⟩ : ByteArray)).size + t359.size ≤ 9223372036854775807 then (some ((((⟨#[45]⟩ : ByteArray) ++ t355) ++ (⟨#[101]⟩ : ByteArray)) ++ t359, 0)) else (none)) = some (r1, r2) := H
            have A14 := Aside0.mk A140
            clear A140
            by_cases c15 : (((⟨#[45]⟩ : ByteArray) ++ t355) ++ (⟨#[101]⟩ : ByteArray)).size + t359.size ≤ 9223372036854775807
            · rw [if_pos c15] at H
              have c15b0 := eq_true c15
              have c15b1 : decide ((((⟨#[45]⟩ : ByteArray) ++ t355) ++ (⟨#[101]⟩ : ByteArray)).size + t359.size ≤ 9223372036854775807) = true := decide_eq_true c15
              try have c15b2 : (9223372036854775807 < (((⟨#[45]⟩ : ByteArray) ++ t355) ++ (⟨#[101]⟩ : ByteArray)).size + t359.size) = False := eq_false (Nat.not_lt.2 c15)
              (try (have c15b3 : (9223372036854775807 < 1 + t355.size + 1 + t359.size) = False := by have h_ := c15b2; simp only [ByteArray.size_append] at h_; exact h_))
              simp only [Option.some.injEq, Prod.mk.injEq] at H
              obtain ⟨rfl, rfl⟩ := H
              go_enter Tryd.func37, Tryd.ntmps37
              go_wp2_with (first | ((with_reducible refine gate_dst (N := 1) rfl ?_); refine box_event ?hg (N := 1) ?hd (cs := #[.bool a0_0, .string a0_1, .int .i64 a0_2]) (t := 23) ?hr ?_; (case hd => rfl); (case hg => rfl); (case hr => first | (go_simp; done) | (go_simp; rfl)); intro gb353 hg w16 hbox hb; have n0_ := Aside0.mk (below_step (by repeat (first | (with_reducible first | exact HB.out | apply below_alloc | apply pw_below_drewN | apply below_drew1) | exact HB.out)) hb); have n1_ := Aside0.mk (hbox); have n2_ := Aside0.mk ((by rw [hg]; exact (below_size (by repeat (first | (with_reducible first | exact HB.out | apply below_alloc | apply pw_below_drewN | apply below_drew1) | exact HB.out))) : w.heap.size ≤ gb353)); have n3_ := Aside0.mk ((by rw [hg]; exact (below_size (by repeat (first | (with_reducible first | exact HB.out | apply below_alloc | apply pw_below_drewN | apply below_drew1) | exact HB.out))) : w.heap.size ≤ gb353)); clear HB; have HB := n0_; have BK353 := n1_; have GW353 := n2_; have GE353 := n3_; clear n0_ n1_ n2_ n3_; clear hb hbox hg; have hcz17_0 : w16.cell? ⟨gb353, 0, none⟩ = some (.bool a0_0) := (blk_cell BK353.out 0).trans rfl; have hcz17_1 : w16.cell? ⟨gb353, 1, none⟩ = some (.string a0_1) := (blk_cell BK353.out 1).trans rfl; have hcz17_2 : w16.cell? ⟨gb353, 2, none⟩ = some (.int .i64 a0_2) := (blk_cell BK353.out 2).trans rfl; have hfz17_0 := blk_frozen BK353.out 0; have hfz17_1 := blk_frozen BK353.out 1; have hfz17_2 := blk_frozen BK353.out 2) | ((with_reducible refine gate_callee (f := 36) rfl ?_); refine goesL_ (some 9) rfl rfl Tryd.func36 (by kernel_rfl) rfl #[.agg #[.bool a0_0, .string a0_1, .int .i64 a0_2]] rfl (by (try simp only [List.map_toArray, List.map_cons, List.map_nil]); first | done | rfl | (simp only [List.length_drop, List.length_take]; rfl)) ?_; (with_reducible refine (abacusref08_Norm.calls k a0_0 a0_1 a0_2 true t355 t356 t357 _ A2.out).mono ?_); rintro e w18 ⟨rfl, hb⟩; refine ⟨_, rfl, ?_⟩; have n0_ := Aside0.mk (blk_below (g := gb353) (o := .cells #[.bool a0_0, .string a0_1, .int .i64 a0_2] 23 (0, 0)) (by (with_reducible repeat (first | refine blk_drewN ?_ _ | refine blk_drew ?_ | refine blk_alloc ?_ _)); exact BK353.out) hb); have n1_ := Aside0.mk (below_step (by repeat (first | (with_reducible first | exact HB.out | apply below_alloc | apply pw_below_drewN | apply below_drew1 | refine below_set ?_ GE353.out) | exact HB.out)) hb); clear BK353; clear HB; have BK353 := n0_; have HB := n1_; clear n0_ n1_; (try clear hb); (try clear hb2); (try clear hk); (try clear hi)) | ((with_reducible refine gate_dst (N := 4) rfl ?_); refine box_event ?hg (N := 4) ?hd (cs := #[.bool false, .string (⟨#[]⟩ : ByteArray), .int .i64 0]) (t := 23) ?hr ?_; (case hd => rfl); (case hg => rfl); (case hr => first | (go_simp; done) | (go_simp; rfl)); intro gb358 hg w19 hbox hb; have n0_ := Aside0.mk (blk_below (g := gb353) (o := .cells #[.bool a0_0, .string a0_1, .int .i64 a0_2] 23 (0, 0)) (by (with_reducible repeat (first | refine blk_drewN ?_ _ | refine blk_drew ?_ | refine blk_alloc ?_ _)); exact BK353.out) hb); have n1_ := Aside0.mk (below_step (by repeat (first | (with_reducible first | exact HB.out | apply below_alloc | apply pw_below_drewN | apply below_drew1 | refine below_set ?_ GE353.out) | exact HB.out)) hb); have n2_ := Aside0.mk (hbox); have n3_ := Aside0.mk ((by rw [hg]; exact (below_size (by repeat (first | (with_reducible first | exact HB.out | apply below_alloc | apply pw_below_drewN | apply below_drew1 | refine below_set ?_ GE353.out) | exact HB.out))) : w.heap.size ≤ gb358)); have n4_ := Aside0.mk ((by rw [hg]; exact (below_size (by repeat (first | (with_reducible first | exact HB.out | apply below_alloc | apply pw_below_drewN | apply below_drew1 | refine below_set ?_ GE353.out) | exact HB.out))) : w.heap.size ≤ gb358)); have n5_ := Aside0.mk ((by rw [hg]; exact Nat.ne_of_lt (blk_lt (g := gb353) (o := .cells #[.bool a0_0, .string a0_1, .int .i64 a0_2] 23 (0, 0)) (by (with_reducible repeat (first | refine blk_drewN ?_ _ | refine blk_drew ?_ | refine blk_alloc ?_ _)); exact BK353.out)) : gb353 ≠ gb358)); have n6_ := Aside0.mk ((by rw [hg]; exact Nat.ne_of_gt (blk_lt (g := gb353) (o := .cells #[.bool a0_0, .string a0_1, .int .i64 a0_2] 23 (0, 0)) (by (with_reducible repeat (first | refine blk_drewN ?_ _ | refine blk_drew ?_ | refine blk_alloc ?_ _)); exact BK353.out)) : gb358 ≠ gb353)); clear BK353; clear HB; have BK353 := n0_; have HB := n1_; have BK358 := n2_; have GW358 := n3_; have GE358 := n4_; have NB353_358 := n5_; have NB358_353 := n6_; clear n0_ n1_ n2_ n3_ n4_ n5_ n6_; clear hb hbox hg; have hnb20 := NB358_353.out; have hnc20 := NB353_358.out; have hcz21_0 : w19.cell? ⟨gb358, 0, none⟩ = some (.bool false) := (blk_cell BK358.out 0).trans rfl; have hcz21_1 : w19.cell? ⟨gb358, 1, none⟩ = some (.string (⟨#[]⟩ : ByteArray)) := (blk_cell BK358.out 1).trans rfl; have hcz21_2 : w19.cell? ⟨gb358, 2, none⟩ = some (.int .i64 0) := (blk_cell BK358.out 2).trans rfl; have hfz21_0 := blk_frozen BK358.out 0; have hfz21_1 := blk_frozen BK358.out 1; have hfz21_2 := blk_frozen BK358.out 2) | ((with_reducible refine gate_callee (f := 39) rfl ?_); refine goesL_ (some 28) rfl rfl Tryd.func39 (by kernel_rfl) rfl #[.int .i64 t356] rfl (by (try simp only [List.map_toArray, List.map_cons, List.map_nil]); first | done | rfl | (simp only [List.length_drop, List.length_take]; rfl)) ?_; (with_reducible refine (xItoa.calls t356 t359 _ ?side1 A14.out).mono ?_); (case side1 => exact GW.below HG.out (by repeat (first | (with_reducible first | exact HB.out | apply below_alloc | apply pw_below_drewN | apply below_drew1 | refine below_set ?_ GE353.out | refine below_set ?_ GE358.out) | exact HB.out))); rintro e w22 ⟨rfl, hb⟩; refine ⟨_, rfl, ?_⟩; have n0_ := Aside0.mk (blk_below (g := gb353) (o := .cells #[.bool a0_0, .string a0_1, .int .i64 a0_2] 23 (0, 0)) (by (with_reducible repeat (first | refine blk_drewN ?_ _ | refine blk_drew ?_ | refine blk_alloc ?_ _)); refine blk_far ?_ NB353_358.out _; (with_reducible repeat (first | refine blk_drewN ?_ _ | refine blk_drew ?_ | refine blk_alloc ?_ _)); refine blk_far ?_ NB353_358.out _; (with_reducible repeat (first | refine blk_drewN ?_ _ | refine blk_drew ?_ | refine blk_alloc ?_ _)); refine blk_far ?_ NB353_358.out _; (with_reducible repeat (first | refine blk_drewN ?_ _ | refine blk_drew ?_ | refine blk_alloc ?_ _)); exact BK353.out) hb); have n1_ := Aside0.mk (blk_below (g := gb358) (o := .cells #[.bool true, .string t355, .int .i64 t356] 23 (0, 0)) (by (with_reducible repeat (first | refine blk_drewN ?_ _ | refine blk_drew ?_ | refine blk_alloc ?_ _)); refine blk_put (cs := #[.bool true, .string t355, .int .i64 0]) ?_ 2 _ rfl; (with_reducible repeat (first | refine blk_drewN ?_ _ | refine blk_drew ?_ | refine blk_alloc ?_ _)); refine blk_put (cs := #[.bool true, .string (⟨#[]⟩ : ByteArray), .int .i64 0]) ?_ 1 _ rfl; (with_reducible repeat (first | refine blk_drewN ?_ _ | refine blk_drew ?_ | refine blk_alloc ?_ _)); refine blk_put (cs := #[.bool false, .string (⟨#[]⟩ : ByteArray), .int .i64 0]) ?_ 0 _ rfl; (with_reducible repeat (first | refine blk_drewN ?_ _ | refine blk_drew ?_ | refine blk_alloc ?_ _)); exact BK358.out) hb); have n2_ := Aside0.mk (below_step (by repeat (first | (with_reducible first | exact HB.out | apply below_alloc | apply pw_below_drewN | apply below_drew1 | refine below_set ?_ GE353.out | refine below_set ?_ GE358.out) | exact HB.out)) hb); clear BK353; clear BK358; clear HB; have BK353 := n0_; have BK358 := n1_; have HB := n2_; clear n0_ n1_ n2_; (try clear hb); (try clear hb2); (try clear hk); (try clear hi)))
              go_ret2
              exact ⟨by first | rfl | (simp [errW_none, errW_some] <;> rfl) | (simp [*, errW_none, errW_some] <;> rfl), by repeat (first | (with_reducible first | exact HB.out | apply below_alloc | apply pw_below_drewN | apply below_drew1 | refine below_set ?_ GE353.out | refine below_set ?_ GE358.out) | exact HB.out)⟩
            · rw [if_neg c15] at H
              exact absurd H (by simp)
          · rw [if_neg c13] at H
            exact absurd H (by simp)
      · rw [if_neg c5] at H
        exact absurd H (by simp)
    · replace c4 := Bool.eq_false_iff.mpr c4
      subst c4
      have H1 : (if t356 = 0 then (some (t355, 0)) else (if t355.size + 1 ≤ 9223372036854775807 then ((xItoa.f t356).bind fun t360 => (if (t355 ++ (⟨#[101]⟩ : ByteArray)).size + t360.size ≤ 9223372036854775807 then (some ((t355 ++ (⟨#[101]⟩ : ByteArray)) ++ t360, 0)) else (none))) else (none))) = some (r1, r2) := by rw [if_neg (show ¬ (false = true) by decide)] at H; exact H
      clear H
      have H := H1
      clear H1
      by_cases c23 : t356 = 0
      · rw [if_pos c23] at H
        have c23b0 : (t356 == 0) = true := beq_iff_eq.mpr c23
        have c23b1 : (t356 != 0) = false := bne_eq_false_iff_eq.mpr c23
        clear c23
        simp only [Option.some.injEq, Prod.mk.injEq] at H
        obtain ⟨rfl, rfl⟩ := H
        go_enter Tryd.func37, Tryd.ntmps37
        go_wp2_with (first | ((with_reducible refine gate_dst (N := 1) rfl ?_); refine box_event ?hg (N := 1) ?hd (cs := #[.bool a0_0, .string a0_1, .int .i64 a0_2]) (t := 23) ?hr ?_; (case hd => rfl); (case hg => rfl); (case hr => first | (go_simp; done) | (go_simp; rfl)); intro gb353 hg w24 hbox hb; have n0_ := Aside0.mk (below_step (by repeat (first | (with_reducible first | exact HB.out | apply below_alloc | apply pw_below_drewN | apply below_drew1) | exact HB.out)) hb); have n1_ := Aside0.mk (hbox); have n2_ := Aside0.mk ((by rw [hg]; exact (below_size (by repeat (first | (with_reducible first | exact HB.out | apply below_alloc | apply pw_below_drewN | apply below_drew1) | exact HB.out))) : w.heap.size ≤ gb353)); have n3_ := Aside0.mk ((by rw [hg]; exact (below_size (by repeat (first | (with_reducible first | exact HB.out | apply below_alloc | apply pw_below_drewN | apply below_drew1) | exact HB.out))) : w.heap.size ≤ gb353)); clear HB; have HB := n0_; have BK353 := n1_; have GW353 := n2_; have GE353 := n3_; clear n0_ n1_ n2_ n3_; clear hb hbox hg; have hcz25_0 : w24.cell? ⟨gb353, 0, none⟩ = some (.bool a0_0) := (blk_cell BK353.out 0).trans rfl; have hcz25_1 : w24.cell? ⟨gb353, 1, none⟩ = some (.string a0_1) := (blk_cell BK353.out 1).trans rfl; have hcz25_2 : w24.cell? ⟨gb353, 2, none⟩ = some (.int .i64 a0_2) := (blk_cell BK353.out 2).trans rfl; have hfz25_0 := blk_frozen BK353.out 0; have hfz25_1 := blk_frozen BK353.out 1; have hfz25_2 := blk_frozen BK353.out 2) | ((with_reducible refine gate_callee (f := 36) rfl ?_); refine goesL_ (some 9) rfl rfl Tryd.func36 (by kernel_rfl) rfl #[.agg #[.bool a0_0, .string a0_1, .int .i64 a0_2]] rfl (by (try simp only [List.map_toArray, List.map_cons, List.map_nil]); first | done | rfl | (simp only [List.length_drop, List.length_take]; rfl)) ?_; (with_reducible refine (abacusref08_Norm.calls k a0_0 a0_1 a0_2 false t355 t356 t357 _ A2.out).mono ?_); rintro e w26 ⟨rfl, hb⟩; refine ⟨_, rfl, ?_⟩; have n0_ := Aside0.mk (blk_below (g := gb353) (o := .cells #[.bool a0_0, .string a0_1, .int .i64 a0_2] 23 (0, 0)) (by (with_reducible repeat (first | refine blk_drewN ?_ _ | refine blk_drew ?_ | refine blk_alloc ?_ _)); exact BK353.out) hb); have n1_ := Aside0.mk (below_step (by repeat (first | (with_reducible first | exact HB.out | apply below_alloc | apply pw_below_drewN | apply below_drew1 | refine below_set ?_ GE353.out) | exact HB.out)) hb); clear BK353; clear HB; have BK353 := n0_; have HB := n1_; clear n0_ n1_; (try clear hb); (try clear hb2); (try clear hk); (try clear hi)) | ((with_reducible refine gate_dst (N := 4) rfl ?_); refine box_event ?hg (N := 4) ?hd (cs := #[.bool false, .string (⟨#[]⟩ : ByteArray), .int .i64 0]) (t := 23) ?hr ?_; (case hd => rfl); (case hg => rfl); (case hr => first | (go_simp; done) | (go_simp; rfl)); intro gb358 hg w27 hbox hb; have n0_ := Aside0.mk (blk_below (g := gb353) (o := .cells #[.bool a0_0, .string a0_1, .int .i64 a0_2] 23 (0, 0)) (by (with_reducible repeat (first | refine blk_drewN ?_ _ | refine blk_drew ?_ | refine blk_alloc ?_ _)); exact BK353.out) hb); have n1_ := Aside0.mk (below_step (by repeat (first | (with_reducible first | exact HB.out | apply below_alloc | apply pw_below_drewN | apply below_drew1 | refine below_set ?_ GE353.out) | exact HB.out)) hb); have n2_ := Aside0.mk (hbox); have n3_ := Aside0.mk ((by rw [hg]; exact (below_size (by repeat (first | (with_reducible first | exact HB.out | apply below_alloc | apply pw_below_drewN | apply below_drew1 | refine below_set ?_ GE353.out) | exact HB.out))) : w.heap.size ≤ gb358)); have n4_ := Aside0.mk ((by rw [hg]; exact (below_size (by repeat (first | (with_reducible first | exact HB.out | apply below_alloc | apply pw_below_drewN | apply below_drew1 | refine below_set ?_ GE353.out) | exact HB.out))) : w.heap.size ≤ gb358)); have n5_ := Aside0.mk ((by rw [hg]; exact Nat.ne_of_lt (blk_lt (g := gb353) (o := .cells #[.bool a0_0, .string a0_1, .int .i64 a0_2] 23 (0, 0)) (by (with_reducible repeat (first | refine blk_drewN ?_ _ | refine blk_drew ?_ | refine blk_alloc ?_ _)); exact BK353.out)) : gb353 ≠ gb358)); have n6_ := Aside0.mk ((by rw [hg]; exact Nat.ne_of_gt (blk_lt (g := gb353) (o := .cells #[.bool a0_0, .string a0_1, .int .i64 a0_2] 23 (0, 0)) (by (with_reducible repeat (first | refine blk_drewN ?_ _ | refine blk_drew ?_ | refine blk_alloc ?_ _)); exact BK353.out)) : gb358 ≠ gb353)); clear BK353; clear HB; have BK353 := n0_; have HB := n1_; have BK358 := n2_; have GW358 := n3_; have GE358 := n4_; have NB353_358 := n5_; have NB358_353 := n6_; clear n0_ n1_ n2_ n3_ n4_ n5_ n6_; clear hb hbox hg; have hnb28 := NB358_353.out; have hnc28 := NB353_358.out; have hcz29_0 : w27.cell? ⟨gb358, 0, none⟩ = some (.bool false) := (blk_cell BK358.out 0).trans rfl; have hcz29_1 : w27.cell? ⟨gb358, 1, none⟩ = some (.string (⟨#[]⟩ : ByteArray)) := (blk_cell BK358.out 1).trans rfl; have hcz29_2 : w27.cell? ⟨gb358, 2, none⟩ = some (.int .i64 0) := (blk_cell BK358.out 2).trans rfl; have hfz29_0 := blk_frozen BK358.out 0; have hfz29_1 := blk_frozen BK358.out 1; have hfz29_2 := blk_frozen BK358.out 2))
        go_ret2
        exact ⟨by first | rfl | (simp [errW_none, errW_some] <;> rfl) | (simp [*, errW_none, errW_some] <;> rfl), by repeat (first | (with_reducible first | exact HB.out | apply below_alloc | apply pw_below_drewN | apply below_drew1 | refine below_set ?_ GE353.out | refine below_set ?_ GE358.out) | exact HB.out)⟩
      · rw [if_neg c23] at H
        have c23b0 : (t356 == 0) = false := beq_eq_false_iff_ne.mpr c23
        have c23b1 : (t356 != 0) = true := bne_iff_ne.mpr c23
        by_cases c30 : t355.size + 1 ≤ 9223372036854775807
        · rw [if_pos c30] at H
          have c30b0 := eq_true c30
          have c30b1 : decide (t355.size + 1 ≤ 9223372036854775807) = true := decide_eq_true c30
          try have c30b2 : (9223372036854775807 < t355.size + 1) = False := eq_false (Nat.not_lt.2 c30)
          replace H := Option.bind_eq_some_iff.mp H
          obtain ⟨t360, A310, H⟩ := H
          replace H : (if (t355 ++ (⟨#[101]⟩ : ByteArray)).size + t360.size ≤ 9223372036854775807 then (some ((t355 ++ (⟨#[101]⟩ : ByteArray)) ++ t360, 0)) else (none)) = some (r1, r2) := H
          have A31 := Aside0.mk A310
          clear A310
          by_cases c32 : (t355 ++ (⟨#[101]⟩ : ByteArray)).size + t360.size ≤ 9223372036854775807
          · rw [if_pos c32] at H
            have c32b0 := eq_true c32
            have c32b1 : decide ((t355 ++ (⟨#[101]⟩ : ByteArray)).size + t360.size ≤ 9223372036854775807) = true := decide_eq_true c32
            try have c32b2 : (9223372036854775807 < (t355 ++ (⟨#[101]⟩ : ByteArray)).size + t360.size) = False := eq_false (Nat.not_lt.2 c32)
            (try (have c32b3 : (9223372036854775807 < t355.size + 1 + t360.size) = False := by have h_ := c32b2; simp only [ByteArray.size_append] at h_; exact h_))
            simp only [Option.some.injEq, Prod.mk.injEq] at H
            obtain ⟨rfl, rfl⟩ := H
            go_enter Tryd.func37, Tryd.ntmps37
            go_wp2_with (first | ((with_reducible refine gate_dst (N := 1) rfl ?_); refine box_event ?hg (N := 1) ?hd (cs := #[.bool a0_0, .string a0_1, .int .i64 a0_2]) (t := 23) ?hr ?_; (case hd => rfl); (case hg => rfl); (case hr => first | (go_simp; done) | (go_simp; rfl)); intro gb353 hg w33 hbox hb; have n0_ := Aside0.mk (below_step (by repeat (first | (with_reducible first | exact HB.out | apply below_alloc | apply pw_below_drewN | apply below_drew1) | exact HB.out)) hb); have n1_ := Aside0.mk (hbox); have n2_ := Aside0.mk ((by rw [hg]; exact (below_size (by repeat (first | (with_reducible first | exact HB.out | apply below_alloc | apply pw_below_drewN | apply below_drew1) | exact HB.out))) : w.heap.size ≤ gb353)); have n3_ := Aside0.mk ((by rw [hg]; exact (below_size (by repeat (first | (with_reducible first | exact HB.out | apply below_alloc | apply pw_below_drewN | apply below_drew1) | exact HB.out))) : w.heap.size ≤ gb353)); clear HB; have HB := n0_; have BK353 := n1_; have GW353 := n2_; have GE353 := n3_; clear n0_ n1_ n2_ n3_; clear hb hbox hg; have hcz34_0 : w33.cell? ⟨gb353, 0, none⟩ = some (.bool a0_0) := (blk_cell BK353.out 0).trans rfl; have hcz34_1 : w33.cell? ⟨gb353, 1, none⟩ = some (.string a0_1) := (blk_cell BK353.out 1).trans rfl; have hcz34_2 : w33.cell? ⟨gb353, 2, none⟩ = some (.int .i64 a0_2) := (blk_cell BK353.out 2).trans rfl; have hfz34_0 := blk_frozen BK353.out 0; have hfz34_1 := blk_frozen BK353.out 1; have hfz34_2 := blk_frozen BK353.out 2) | ((with_reducible refine gate_callee (f := 36) rfl ?_); refine goesL_ (some 9) rfl rfl Tryd.func36 (by kernel_rfl) rfl #[.agg #[.bool a0_0, .string a0_1, .int .i64 a0_2]] rfl (by (try simp only [List.map_toArray, List.map_cons, List.map_nil]); first | done | rfl | (simp only [List.length_drop, List.length_take]; rfl)) ?_; (with_reducible refine (abacusref08_Norm.calls k a0_0 a0_1 a0_2 false t355 t356 t357 _ A2.out).mono ?_); rintro e w35 ⟨rfl, hb⟩; refine ⟨_, rfl, ?_⟩; have n0_ := Aside0.mk (blk_below (g := gb353) (o := .cells #[.bool a0_0, .string a0_1, .int .i64 a0_2] 23 (0, 0)) (by (with_reducible repeat (first | refine blk_drewN ?_ _ | refine blk_drew ?_ | refine blk_alloc ?_ _)); exact BK353.out) hb); have n1_ := Aside0.mk (below_step (by repeat (first | (with_reducible first | exact HB.out | apply below_alloc | apply pw_below_drewN | apply below_drew1 | refine below_set ?_ GE353.out) | exact HB.out)) hb); clear BK353; clear HB; have BK353 := n0_; have HB := n1_; clear n0_ n1_; (try clear hb); (try clear hb2); (try clear hk); (try clear hi)) | ((with_reducible refine gate_dst (N := 4) rfl ?_); refine box_event ?hg (N := 4) ?hd (cs := #[.bool false, .string (⟨#[]⟩ : ByteArray), .int .i64 0]) (t := 23) ?hr ?_; (case hd => rfl); (case hg => rfl); (case hr => first | (go_simp; done) | (go_simp; rfl)); intro gb358 hg w36 hbox hb; have n0_ := Aside0.mk (blk_below (g := gb353) (o := .cells #[.bool a0_0, .string a0_1, .int .i64 a0_2] 23 (0, 0)) (by (with_reducible repeat (first | refine blk_drewN ?_ _ | refine blk_drew ?_ | refine blk_alloc ?_ _)); exact BK353.out) hb); have n1_ := Aside0.mk (below_step (by repeat (first | (with_reducible first | exact HB.out | apply below_alloc | apply pw_below_drewN | apply below_drew1 | refine below_set ?_ GE353.out) | exact HB.out)) hb); have n2_ := Aside0.mk (hbox); have n3_ := Aside0.mk ((by rw [hg]; exact (below_size (by repeat (first | (with_reducible first | exact HB.out | apply below_alloc | apply pw_below_drewN | apply below_drew1 | refine below_set ?_ GE353.out) | exact HB.out))) : w.heap.size ≤ gb358)); have n4_ := Aside0.mk ((by rw [hg]; exact (below_size (by repeat (first | (with_reducible first | exact HB.out | apply below_alloc | apply pw_below_drewN | apply below_drew1 | refine below_set ?_ GE353.out) | exact HB.out))) : w.heap.size ≤ gb358)); have n5_ := Aside0.mk ((by rw [hg]; exact Nat.ne_of_lt (blk_lt (g := gb353) (o := .cells #[.bool a0_0, .string a0_1, .int .i64 a0_2] 23 (0, 0)) (by (with_reducible repeat (first | refine blk_drewN ?_ _ | refine blk_drew ?_ | refine blk_alloc ?_ _)); exact BK353.out)) : gb353 ≠ gb358)); have n6_ := Aside0.mk ((by rw [hg]; exact Nat.ne_of_gt (blk_lt (g := gb353) (o := .cells #[.bool a0_0, .string a0_1, .int .i64 a0_2] 23 (0, 0)) (by (with_reducible repeat (first | refine blk_drewN ?_ _ | refine blk_drew ?_ | refine blk_alloc ?_ _)); exact BK353.out)) : gb358 ≠ gb353)); clear BK353; clear HB; have BK353 := n0_; have HB := n1_; have BK358 := n2_; have GW358 := n3_; have GE358 := n4_; have NB353_358 := n5_; have NB358_353 := n6_; clear n0_ n1_ n2_ n3_ n4_ n5_ n6_; clear hb hbox hg; have hnb37 := NB358_353.out; have hnc37 := NB353_358.out; have hcz38_0 : w36.cell? ⟨gb358, 0, none⟩ = some (.bool false) := (blk_cell BK358.out 0).trans rfl; have hcz38_1 : w36.cell? ⟨gb358, 1, none⟩ = some (.string (⟨#[]⟩ : ByteArray)) := (blk_cell BK358.out 1).trans rfl; have hcz38_2 : w36.cell? ⟨gb358, 2, none⟩ = some (.int .i64 0) := (blk_cell BK358.out 2).trans rfl; have hfz38_0 := blk_frozen BK358.out 0; have hfz38_1 := blk_frozen BK358.out 1; have hfz38_2 := blk_frozen BK358.out 2) | ((with_reducible refine gate_callee (f := 39) rfl ?_); refine goesL_ (some 28) rfl rfl Tryd.func39 (by kernel_rfl) rfl #[.int .i64 t356] rfl (by (try simp only [List.map_toArray, List.map_cons, List.map_nil]); first | done | rfl | (simp only [List.length_drop, List.length_take]; rfl)) ?_; (with_reducible refine (xItoa.calls t356 t360 _ ?side1 A31.out).mono ?_); (case side1 => exact GW.below HG.out (by repeat (first | (with_reducible first | exact HB.out | apply below_alloc | apply pw_below_drewN | apply below_drew1 | refine below_set ?_ GE353.out | refine below_set ?_ GE358.out) | exact HB.out))); rintro e w39 ⟨rfl, hb⟩; refine ⟨_, rfl, ?_⟩; have n0_ := Aside0.mk (blk_below (g := gb353) (o := .cells #[.bool a0_0, .string a0_1, .int .i64 a0_2] 23 (0, 0)) (by (with_reducible repeat (first | refine blk_drewN ?_ _ | refine blk_drew ?_ | refine blk_alloc ?_ _)); refine blk_far ?_ NB353_358.out _; (with_reducible repeat (first | refine blk_drewN ?_ _ | refine blk_drew ?_ | refine blk_alloc ?_ _)); refine blk_far ?_ NB353_358.out _; (with_reducible repeat (first | refine blk_drewN ?_ _ | refine blk_drew ?_ | refine blk_alloc ?_ _)); refine blk_far ?_ NB353_358.out _; (with_reducible repeat (first | refine blk_drewN ?_ _ | refine blk_drew ?_ | refine blk_alloc ?_ _)); exact BK353.out) hb); have n1_ := Aside0.mk (blk_below (g := gb358) (o := .cells #[.bool false, .string t355, .int .i64 t356] 23 (0, 0)) (by (with_reducible repeat (first | refine blk_drewN ?_ _ | refine blk_drew ?_ | refine blk_alloc ?_ _)); refine blk_put (cs := #[.bool false, .string t355, .int .i64 0]) ?_ 2 _ rfl; (with_reducible repeat (first | refine blk_drewN ?_ _ | refine blk_drew ?_ | refine blk_alloc ?_ _)); refine blk_put (cs := #[.bool false, .string (⟨#[]⟩ : ByteArray), .int .i64 0]) ?_ 1 _ rfl; (with_reducible repeat (first | refine blk_drewN ?_ _ | refine blk_drew ?_ | refine blk_alloc ?_ _)); refine blk_put (cs := #[.bool false, .string (⟨#[]⟩ : ByteArray), .int .i64 0]) ?_ 0 _ rfl; (with_reducible repeat (first | refine blk_drewN ?_ _ | refine blk_drew ?_ | refine blk_alloc ?_ _)); exact BK358.out) hb); have n2_ := Aside0.mk (below_step (by repeat (first | (with_reducible first | exact HB.out | apply below_alloc | apply pw_below_drewN | apply below_drew1 | refine below_set ?_ GE353.out | refine below_set ?_ GE358.out) | exact HB.out)) hb); clear BK353; clear BK358; clear HB; have BK353 := n0_; have BK358 := n1_; have HB := n2_; clear n0_ n1_ n2_; (try clear hb); (try clear hb2); (try clear hk); (try clear hi)))
            go_ret2
            exact ⟨by first | rfl | (simp [errW_none, errW_some] <;> rfl) | (simp [*, errW_none, errW_some] <;> rfl), by repeat (first | (with_reducible first | exact HB.out | apply below_alloc | apply pw_below_drewN | apply below_drew1 | refine below_set ?_ GE353.out | refine below_set ?_ GE358.out) | exact HB.out)⟩
          · rw [if_neg c32] at H
            exact absurd H (by simp)
        · rw [if_neg c30] at H
          exact absurd H (by simp)
  · rw [if_neg c3] at H
    have c3b0 : (t357 == 0) = false := beq_eq_false_iff_ne.mpr c3
    have c3b1 : (t357 != 0) = true := bne_iff_ne.mpr c3
    simp only [Option.some.injEq, Prod.mk.injEq] at H
    obtain ⟨rfl, rfl⟩ := H
    go_enter Tryd.func37, Tryd.ntmps37
    go_wp2_with (first | ((with_reducible refine gate_dst (N := 1) rfl ?_); refine box_event ?hg (N := 1) ?hd (cs := #[.bool a0_0, .string a0_1, .int .i64 a0_2]) (t := 23) ?hr ?_; (case hd => rfl); (case hg => rfl); (case hr => first | (go_simp; done) | (go_simp; rfl)); intro gb353 hg w40 hbox hb; have n0_ := Aside0.mk (below_step (by repeat (first | (with_reducible first | exact HB.out | apply below_alloc | apply pw_below_drewN | apply below_drew1) | exact HB.out)) hb); have n1_ := Aside0.mk (hbox); have n2_ := Aside0.mk ((by rw [hg]; exact (below_size (by repeat (first | (with_reducible first | exact HB.out | apply below_alloc | apply pw_below_drewN | apply below_drew1) | exact HB.out))) : w.heap.size ≤ gb353)); have n3_ := Aside0.mk ((by rw [hg]; exact (below_size (by repeat (first | (with_reducible first | exact HB.out | apply below_alloc | apply pw_below_drewN | apply below_drew1) | exact HB.out))) : w.heap.size ≤ gb353)); clear HB; have HB := n0_; have BK353 := n1_; have GW353 := n2_; have GE353 := n3_; clear n0_ n1_ n2_ n3_; clear hb hbox hg; have hcz41_0 : w40.cell? ⟨gb353, 0, none⟩ = some (.bool a0_0) := (blk_cell BK353.out 0).trans rfl; have hcz41_1 : w40.cell? ⟨gb353, 1, none⟩ = some (.string a0_1) := (blk_cell BK353.out 1).trans rfl; have hcz41_2 : w40.cell? ⟨gb353, 2, none⟩ = some (.int .i64 a0_2) := (blk_cell BK353.out 2).trans rfl; have hfz41_0 := blk_frozen BK353.out 0; have hfz41_1 := blk_frozen BK353.out 1; have hfz41_2 := blk_frozen BK353.out 2) | ((with_reducible refine gate_callee (f := 36) rfl ?_); refine goesL_ (some 9) rfl rfl Tryd.func36 (by kernel_rfl) rfl #[.agg #[.bool a0_0, .string a0_1, .int .i64 a0_2]] rfl (by (try simp only [List.map_toArray, List.map_cons, List.map_nil]); first | done | rfl | (simp only [List.length_drop, List.length_take]; rfl)) ?_; (with_reducible refine (abacusref08_Norm.calls k a0_0 a0_1 a0_2 t354 t355 t356 t357 _ A2.out).mono ?_); rintro e w42 ⟨rfl, hb⟩; refine ⟨_, rfl, ?_⟩; have n0_ := Aside0.mk (blk_below (g := gb353) (o := .cells #[.bool a0_0, .string a0_1, .int .i64 a0_2] 23 (0, 0)) (by (with_reducible repeat (first | refine blk_drewN ?_ _ | refine blk_drew ?_ | refine blk_alloc ?_ _)); exact BK353.out) hb); have n1_ := Aside0.mk (below_step (by repeat (first | (with_reducible first | exact HB.out | apply below_alloc | apply pw_below_drewN | apply below_drew1 | refine below_set ?_ GE353.out) | exact HB.out)) hb); clear BK353; clear HB; have BK353 := n0_; have HB := n1_; clear n0_ n1_; (try clear hb); (try clear hb2); (try clear hk); (try clear hi)) | ((with_reducible refine gate_dst (N := 4) rfl ?_); refine box_event ?hg (N := 4) ?hd (cs := #[.bool false, .string (⟨#[]⟩ : ByteArray), .int .i64 0]) (t := 23) ?hr ?_; (case hd => rfl); (case hg => rfl); (case hr => first | (go_simp; done) | (go_simp; rfl)); intro gb358 hg w43 hbox hb; have n0_ := Aside0.mk (blk_below (g := gb353) (o := .cells #[.bool a0_0, .string a0_1, .int .i64 a0_2] 23 (0, 0)) (by (with_reducible repeat (first | refine blk_drewN ?_ _ | refine blk_drew ?_ | refine blk_alloc ?_ _)); exact BK353.out) hb); have n1_ := Aside0.mk (below_step (by repeat (first | (with_reducible first | exact HB.out | apply below_alloc | apply pw_below_drewN | apply below_drew1 | refine below_set ?_ GE353.out) | exact HB.out)) hb); have n2_ := Aside0.mk (hbox); have n3_ := Aside0.mk ((by rw [hg]; exact (below_size (by repeat (first | (with_reducible first | exact HB.out | apply below_alloc | apply pw_below_drewN | apply below_drew1 | refine below_set ?_ GE353.out) | exact HB.out))) : w.heap.size ≤ gb358)); have n4_ := Aside0.mk ((by rw [hg]; exact (below_size (by repeat (first | (with_reducible first | exact HB.out | apply below_alloc | apply pw_below_drewN | apply below_drew1 | refine below_set ?_ GE353.out) | exact HB.out))) : w.heap.size ≤ gb358)); have n5_ := Aside0.mk ((by rw [hg]; exact Nat.ne_of_lt (blk_lt (g := gb353) (o := .cells #[.bool a0_0, .string a0_1, .int .i64 a0_2] 23 (0, 0)) (by (with_reducible repeat (first | refine blk_drewN ?_ _ | refine blk_drew ?_ | refine blk_alloc ?_ _)); exact BK353.out)) : gb353 ≠ gb358)); have n6_ := Aside0.mk ((by rw [hg]; exact Nat.ne_of_gt (blk_lt (g := gb353) (o := .cells #[.bool a0_0, .string a0_1, .int .i64 a0_2] 23 (0, 0)) (by (with_reducible repeat (first | refine blk_drewN ?_ _ | refine blk_drew ?_ | refine blk_alloc ?_ _)); exact BK353.out)) : gb358 ≠ gb353)); clear BK353; clear HB; have BK353 := n0_; have HB := n1_; have BK358 := n2_; have GW358 := n3_; have GE358 := n4_; have NB353_358 := n5_; have NB358_353 := n6_; clear n0_ n1_ n2_ n3_ n4_ n5_ n6_; clear hb hbox hg; have hnb44 := NB358_353.out; have hnc44 := NB353_358.out; have hcz45_0 : w43.cell? ⟨gb358, 0, none⟩ = some (.bool false) := (blk_cell BK358.out 0).trans rfl; have hcz45_1 : w43.cell? ⟨gb358, 1, none⟩ = some (.string (⟨#[]⟩ : ByteArray)) := (blk_cell BK358.out 1).trans rfl; have hcz45_2 : w43.cell? ⟨gb358, 2, none⟩ = some (.int .i64 0) := (blk_cell BK358.out 2).trans rfl; have hfz45_0 := blk_frozen BK358.out 0; have hfz45_1 := blk_frozen BK358.out 1; have hfz45_2 := blk_frozen BK358.out 2))
    go_ret2
    exact ⟨by first | rfl | (simp [errW_none, errW_some] <;> rfl) | (simp [*, errW_none, errW_some] <;> rfl), by repeat (first | (with_reducible first | exact HB.out | apply below_alloc | apply pw_below_drewN | apply below_drew1 | refine below_set ?_ GE353.out | refine below_set ?_ GE358.out) | exact HB.out)⟩

end Go.Proofs.YtcgjfckhnpimbaaDoor.EScan
end

section
-- Written by eprint.py (a program of this session's, over the kit's print), not by hand.
namespace Go.Proofs.YtcgjfckhnpimbaaDoor.EScan
open Go.RowKit Go.Proofs.YtcgjfckhnpimbaaDoorW.PrintWords Go.Proofs.YtcgjfckhnpimbaaDoorW.PrintLast Go.Proofs.YtcgjfckhnpimbaaDoorW.PrintMore
attribute [local go_sem] max2_int min2_int max_two min_two max_three min_three max_four min_four   -- for this text's walks alone
set_option linter.unusedVariables false
set_option linter.unusedSimpArgs false

open Go.Proofs.YtcgjfckhnpimbaaDoor.X
attribute [local go_sem high] eqA23
/-! ### abacuslaw08_norms: function 22 -/
def abacuslaw08_norms.j0 : Nat → Bool → Bool → ByteArray → Int → Option (Bool)
  | 0, _, _, _, _ => none
  | k + 1, x26, x362000, x362001, x362002 => if x26 = true then (some false) else ((abacusref08_Text.f k x362000 x362001 x362002).bind fun bt372 => ((scan_Text.f k x362000 x362001 x362002).bind fun bt374 => (if bt374.1.toList = bt372.1.toList then (some (bt374.2 == bt372.2)) else (some false))))
def abacuslaw08_norms.f (k : Nat) (a0_0 : Bool) (a0_1 : ByteArray) (a0_2 : Int) : Option (Bool) := (abacusref08_Norm.f k a0_0 a0_1 a0_2).bind fun bt362 => ((scan_Norm.f k a0_0 a0_1 a0_2).bind fun bt367 => (if (!(bt367.1 == bt362.1) || (!(bt367.2.1.toList == bt362.2.1.toList) || (!(bt367.2.2.1 == bt362.2.2.1)))) = true then (abacuslaw08_norms.j0 k true a0_0 a0_1 a0_2) else (abacuslaw08_norms.j0 k (bt367.2.2.2 != bt362.2.2.2) a0_0 a0_1 a0_2)))
theorem abacuslaw08_norms.mono_l : ∀ k, (∀ y0 y1 y2 y3, LeO (abacuslaw08_norms.j0 k y0 y1 y2 y3) (abacuslaw08_norms.j0 (k + 1) y0 y1 y2 y3))
  | 0 => fun _ _ _ _ r h => by simp [abacuslaw08_norms.j0] at h
  | k + 1 => by
    have ih0 := abacuslaw08_norms.mono_l k
    · intro y0 y1 y2 y3
      unfold abacuslaw08_norms.j0
      repeat' first
      | (with_reducible exact ih0 _ _ _ _)
      | (with_reducible exact abacusref08_Norm.mono _ _ _ _)
      | (with_reducible exact abacusref08_Text.mono _ _ _ _)
      | (with_reducible exact scan_Norm.mono _ _ _ _)
      | (with_reducible exact scan_Text.mono _ _ _ _)
      | (with_reducible exact LeO.refl _)
      | (with_reducible exact LeO.none _)
      | (with_reducible refine LeO.ite ?_ ?_)
      | (with_reducible refine LeO.bind ?_ (fun _ => ?_))
      | exact ih0 _ _ _ _
      | exact abacusref08_Norm.mono _ _ _ _
      | exact abacusref08_Text.mono _ _ _ _
      | exact scan_Norm.mono _ _ _ _
      | exact scan_Text.mono _ _ _ _
      | exact LeO.none _
      | refine LeO.ite ?_ ?_
      | refine LeO.bind ?_ (fun _ => ?_)
theorem abacuslaw08_norms.mono : ∀ a0 a1 a2 k, LeO (abacuslaw08_norms.f k a0 a1 a2) (abacuslaw08_norms.f (k + 1) a0 a1 a2) := by
  intro a0 a1 a2 k
  have ih0 := abacuslaw08_norms.mono_l k
  unfold abacuslaw08_norms.f
  repeat' first
      | (with_reducible exact ih0 _ _ _ _)
      | (with_reducible exact abacusref08_Norm.mono _ _ _ _)
      | (with_reducible exact abacusref08_Text.mono _ _ _ _)
      | (with_reducible exact scan_Norm.mono _ _ _ _)
      | (with_reducible exact scan_Text.mono _ _ _ _)
      | (with_reducible exact LeO.refl _)
      | (with_reducible exact LeO.none _)
      | (with_reducible refine LeO.ite ?_ ?_)
      | (with_reducible refine LeO.bind ?_ (fun _ => ?_))
      | exact ih0 _ _ _ _
      | exact abacusref08_Norm.mono _ _ _ _
      | exact abacusref08_Text.mono _ _ _ _
      | exact scan_Norm.mono _ _ _ _
      | exact scan_Text.mono _ _ _ _
      | exact LeO.none _
      | refine LeO.ite ?_ ?_
      | refine LeO.bind ?_ (fun _ => ?_)
set_option maxHeartbeats 8000000 in
set_option maxRecDepth 100000 in
theorem abacuslaw08_norms.calls (k : Nat) (a0_0 : Bool) (a0_1 : ByteArray) (a0_2 : Int) (r : Bool) (w : World) (hG : GW w) (h : abacuslaw08_norms.f k a0_0 a0_1 a0_2 = some r) :
    Calls Tryd.prog 22 #[.agg #[.bool a0_0, .string a0_1, .int .i64 a0_2]] w fun e w' => e = .returned (.bool r) ∧ Below w.heap.size w w' := by
  have hu23 := Tryd.underlying23
  have HB := Aside0.mk (Below.refl w.heap.size w)
  have HG := Aside0.mk hG
  clear hG
  have H : ((abacusref08_Norm.f k a0_0 a0_1 a0_2).bind fun bt362 => ((scan_Norm.f k a0_0 a0_1 a0_2).bind fun bt367 => (if (!(bt367.1 == bt362.1) || (!(bt367.2.1.toList == bt362.2.1.toList) || (!(bt367.2.2.1 == bt362.2.2.1)))) = true then (abacuslaw08_norms.j0 k true a0_0 a0_1 a0_2) else (abacuslaw08_norms.j0 k (bt367.2.2.2 != bt362.2.2.2) a0_0 a0_1 a0_2)))) = some r := h
  clear h
  replace H := Option.bind_eq_some_iff.mp H
  obtain ⟨⟨t362, t363, t364, t365⟩, A20, H⟩ := H
  replace H : ((scan_Norm.f k a0_0 a0_1 a0_2).bind fun bt367 => (if (!(bt367.1 == t362) || (!(bt367.2.1.toList == t363.toList) || (!(bt367.2.2.1 == t364)))) = true then (abacuslaw08_norms.j0 k true a0_0 a0_1 a0_2) else (abacuslaw08_norms.j0 k (bt367.2.2.2 != t365) a0_0 a0_1 a0_2))) = some r := H
  have A2 := Aside0.mk A20
  clear A20
  replace H := Option.bind_eq_some_iff.mp H
  obtain ⟨⟨t367, t368, t369, t370⟩, A30, H⟩ := H
  replace H : (if (!(t367 == t362) || (!(t368.toList == t363.toList) || (!(t369 == t364)))) = true then (abacuslaw08_norms.j0 k true a0_0 a0_1 a0_2) else (abacuslaw08_norms.j0 k (t370 != t365) a0_0 a0_1 a0_2)) = some r := H
  have A3 := Aside0.mk A30
  clear A30
  have HC4 := Aside0.mk H
  clear H
  go_enter Tryd.func22, Tryd.ntmps22
  go_upto_region 3 with (first | ((with_reducible refine gate_dst (N := 1) rfl ?_); refine box_event ?hg (N := 1) ?hd (cs := #[.bool a0_0, .string a0_1, .int .i64 a0_2]) (t := 23) ?hr ?_; (case hd => rfl); (case hg => rfl); (case hr => first | (go_simp; done) | (go_simp; rfl)); intro gb361 hg w5 hbox hb; have n0_ := Aside0.mk (below_step (by repeat (first | (with_reducible first | exact HB.out | apply below_alloc | apply pw_below_drewN | apply below_drew1) | exact HB.out)) hb); have n1_ := Aside0.mk (hbox); have n2_ := Aside0.mk ((by rw [hg]; exact (below_size (by repeat (first | (with_reducible first | exact HB.out | apply below_alloc | apply pw_below_drewN | apply below_drew1) | exact HB.out))) : w.heap.size ≤ gb361)); have n3_ := Aside0.mk ((by rw [hg]; exact (below_size (by repeat (first | (with_reducible first | exact HB.out | apply below_alloc | apply pw_below_drewN | apply below_drew1) | exact HB.out))) : w.heap.size ≤ gb361)); clear HB; have HB := n0_; have BK361 := n1_; have GW361 := n2_; have GE361 := n3_; clear n0_ n1_ n2_ n3_; clear hb hbox hg; have hcz6_0 : w5.cell? ⟨gb361, 0, none⟩ = some (.bool a0_0) := (blk_cell BK361.out 0).trans rfl; have hcz6_1 : w5.cell? ⟨gb361, 1, none⟩ = some (.string a0_1) := (blk_cell BK361.out 1).trans rfl; have hcz6_2 : w5.cell? ⟨gb361, 2, none⟩ = some (.int .i64 a0_2) := (blk_cell BK361.out 2).trans rfl; have hfz6_0 := blk_frozen BK361.out 0; have hfz6_1 := blk_frozen BK361.out 1; have hfz6_2 := blk_frozen BK361.out 2) | ((with_reducible refine gate_callee (f := 36) rfl ?_); refine goesL_ (some 11) rfl rfl Tryd.func36 (by kernel_rfl) rfl #[.agg #[.bool a0_0, .string a0_1, .int .i64 a0_2]] rfl (by (try simp only [List.map_toArray, List.map_cons, List.map_nil]); first | done | rfl | (simp only [List.length_drop, List.length_take]; rfl)) ?_; (with_reducible refine (abacusref08_Norm.calls k a0_0 a0_1 a0_2 t362 t363 t364 t365 _ A2.out).mono ?_); rintro e w7 ⟨rfl, hb⟩; refine ⟨_, rfl, ?_⟩; have n0_ := Aside0.mk (blk_below (g := gb361) (o := .cells #[.bool a0_0, .string a0_1, .int .i64 a0_2] 23 (0, 0)) (by (with_reducible repeat (first | refine blk_drewN ?_ _ | refine blk_drew ?_ | refine blk_alloc ?_ _)); exact BK361.out) hb); have n1_ := Aside0.mk (below_step (by repeat (first | (with_reducible first | exact HB.out | apply below_alloc | apply pw_below_drewN | apply below_drew1 | refine below_set ?_ GE361.out) | exact HB.out)) hb); clear BK361; clear HB; have BK361 := n0_; have HB := n1_; clear n0_ n1_; (try clear hb); (try clear hb2); (try clear hk); (try clear hi)) | ((with_reducible refine gate_dst (N := 3) rfl ?_); refine box_event ?hg (N := 3) ?hd (cs := #[.bool false, .string (⟨#[]⟩ : ByteArray), .int .i64 0]) (t := 23) ?hr ?_; (case hd => rfl); (case hg => rfl); (case hr => first | (go_simp; done) | (go_simp; rfl)); intro gb366 hg w8 hbox hb; have n0_ := Aside0.mk (blk_below (g := gb361) (o := .cells #[.bool a0_0, .string a0_1, .int .i64 a0_2] 23 (0, 0)) (by (with_reducible repeat (first | refine blk_drewN ?_ _ | refine blk_drew ?_ | refine blk_alloc ?_ _)); exact BK361.out) hb); have n1_ := Aside0.mk (below_step (by repeat (first | (with_reducible first | exact HB.out | apply below_alloc | apply pw_below_drewN | apply below_drew1 | refine below_set ?_ GE361.out) | exact HB.out)) hb); have n2_ := Aside0.mk (hbox); have n3_ := Aside0.mk ((by rw [hg]; exact (below_size (by repeat (first | (with_reducible first | exact HB.out | apply below_alloc | apply pw_below_drewN | apply below_drew1 | refine below_set ?_ GE361.out) | exact HB.out))) : w.heap.size ≤ gb366)); have n4_ := Aside0.mk ((by rw [hg]; exact (below_size (by repeat (first | (with_reducible first | exact HB.out | apply below_alloc | apply pw_below_drewN | apply below_drew1 | refine below_set ?_ GE361.out) | exact HB.out))) : w.heap.size ≤ gb366)); have n5_ := Aside0.mk ((by rw [hg]; exact Nat.ne_of_lt (blk_lt (g := gb361) (o := .cells #[.bool a0_0, .string a0_1, .int .i64 a0_2] 23 (0, 0)) (by (with_reducible repeat (first | refine blk_drewN ?_ _ | refine blk_drew ?_ | refine blk_alloc ?_ _)); exact BK361.out)) : gb361 ≠ gb366)); have n6_ := Aside0.mk ((by rw [hg]; exact Nat.ne_of_gt (blk_lt (g := gb361) (o := .cells #[.bool a0_0, .string a0_1, .int .i64 a0_2] 23 (0, 0)) (by (with_reducible repeat (first | refine blk_drewN ?_ _ | refine blk_drew ?_ | refine blk_alloc ?_ _)); exact BK361.out)) : gb366 ≠ gb361)); clear BK361; clear HB; have BK361 := n0_; have HB := n1_; have BK366 := n2_; have GW366 := n3_; have GE366 := n4_; have NB361_366 := n5_; have NB366_361 := n6_; clear n0_ n1_ n2_ n3_ n4_ n5_ n6_; clear hb hbox hg; have hnb9 := NB366_361.out; have hnc9 := NB361_366.out; have hcz10_0 : w8.cell? ⟨gb366, 0, none⟩ = some (.bool false) := (blk_cell BK366.out 0).trans rfl; have hcz10_1 : w8.cell? ⟨gb366, 1, none⟩ = some (.string (⟨#[]⟩ : ByteArray)) := (blk_cell BK366.out 1).trans rfl; have hcz10_2 : w8.cell? ⟨gb366, 2, none⟩ = some (.int .i64 0) := (blk_cell BK366.out 2).trans rfl; have hfz10_0 := blk_frozen BK366.out 0; have hfz10_1 := blk_frozen BK366.out 1; have hfz10_2 := blk_frozen BK366.out 2; have hcz11_0 : w8.cell? ⟨gb361, 0, none⟩ = some (.bool a0_0) := (blk_cell BK361.out 0).trans rfl; have hcz11_1 : w8.cell? ⟨gb361, 1, none⟩ = some (.string a0_1) := (blk_cell BK361.out 1).trans rfl; have hcz11_2 : w8.cell? ⟨gb361, 2, none⟩ = some (.int .i64 a0_2) := (blk_cell BK361.out 2).trans rfl; have hfz11_0 := blk_frozen BK361.out 0; have hfz11_1 := blk_frozen BK361.out 1; have hfz11_2 := blk_frozen BK361.out 2) | ((with_reducible refine gate_callee (f := 13) rfl ?_); refine goesL_ (some 16) rfl rfl Tryd.func13 (by kernel_rfl) rfl #[.agg #[.bool a0_0, .string a0_1, .int .i64 a0_2]] rfl (by (try simp only [List.map_toArray, List.map_cons, List.map_nil]); first | done | rfl | (simp only [List.length_drop, List.length_take]; rfl)) ?_; (with_reducible refine (scan_Norm.calls k a0_0 a0_1 a0_2 t367 t368 t369 t370 _ A3.out).mono ?_); rintro e w12 ⟨rfl, hb⟩; refine ⟨_, rfl, ?_⟩; have n0_ := Aside0.mk (blk_below (g := gb361) (o := .cells #[.bool a0_0, .string a0_1, .int .i64 a0_2] 23 (0, 0)) (by (with_reducible repeat (first | refine blk_drewN ?_ _ | refine blk_drew ?_ | refine blk_alloc ?_ _)); refine blk_far ?_ NB361_366.out _; (with_reducible repeat (first | refine blk_drewN ?_ _ | refine blk_drew ?_ | refine blk_alloc ?_ _)); refine blk_far ?_ NB361_366.out _; (with_reducible repeat (first | refine blk_drewN ?_ _ | refine blk_drew ?_ | refine blk_alloc ?_ _)); refine blk_far ?_ NB361_366.out _; (with_reducible repeat (first | refine blk_drewN ?_ _ | refine blk_drew ?_ | refine blk_alloc ?_ _)); exact BK361.out) hb); have n1_ := Aside0.mk (blk_below (g := gb366) (o := .cells #[.bool t362, .string t363, .int .i64 t364] 23 (0, 0)) (by (with_reducible repeat (first | refine blk_drewN ?_ _ | refine blk_drew ?_ | refine blk_alloc ?_ _)); refine blk_put (cs := #[.bool t362, .string t363, .int .i64 0]) ?_ 2 _ rfl; (with_reducible repeat (first | refine blk_drewN ?_ _ | refine blk_drew ?_ | refine blk_alloc ?_ _)); refine blk_put (cs := #[.bool t362, .string (⟨#[]⟩ : ByteArray), .int .i64 0]) ?_ 1 _ rfl; (with_reducible repeat (first | refine blk_drewN ?_ _ | refine blk_drew ?_ | refine blk_alloc ?_ _)); refine blk_put (cs := #[.bool false, .string (⟨#[]⟩ : ByteArray), .int .i64 0]) ?_ 0 _ rfl; (with_reducible repeat (first | refine blk_drewN ?_ _ | refine blk_drew ?_ | refine blk_alloc ?_ _)); exact BK366.out) hb); have n2_ := Aside0.mk (below_step (by repeat (first | (with_reducible first | exact HB.out | apply below_alloc | apply pw_below_drewN | apply below_drew1 | refine below_set ?_ GE361.out | refine below_set ?_ GE366.out) | exact HB.out)) hb); clear BK361; clear BK366; clear HB; have BK361 := n0_; have BK366 := n1_; have HB := n2_; clear n0_ n1_ n2_; (try clear hb); (try clear hb2); (try clear hk); (try clear hi)) | ((with_reducible refine gate_dst (N := 5) rfl ?_); refine box_event ?hg (N := 5) ?hd (cs := #[.bool false, .string (⟨#[]⟩ : ByteArray), .int .i64 0]) (t := 23) ?hr ?_; (case hd => rfl); (case hg => rfl); (case hr => first | (go_simp; done) | (go_simp; rfl)); intro gb371 hg w13 hbox hb; have n0_ := Aside0.mk (blk_below (g := gb361) (o := .cells #[.bool a0_0, .string a0_1, .int .i64 a0_2] 23 (0, 0)) (by (with_reducible repeat (first | refine blk_drewN ?_ _ | refine blk_drew ?_ | refine blk_alloc ?_ _)); exact BK361.out) hb); have n1_ := Aside0.mk (blk_below (g := gb366) (o := .cells #[.bool t362, .string t363, .int .i64 t364] 23 (0, 0)) (by (with_reducible repeat (first | refine blk_drewN ?_ _ | refine blk_drew ?_ | refine blk_alloc ?_ _)); exact BK366.out) hb); have n2_ := Aside0.mk (below_step (by repeat (first | (with_reducible first | exact HB.out | apply below_alloc | apply pw_below_drewN | apply below_drew1 | refine below_set ?_ GE361.out | refine below_set ?_ GE366.out) | exact HB.out)) hb); have n3_ := Aside0.mk (hbox); have n4_ := Aside0.mk ((by rw [hg]; exact (below_size (by repeat (first | (with_reducible first | exact HB.out | apply below_alloc | apply pw_below_drewN | apply below_drew1 | refine below_set ?_ GE361.out | refine below_set ?_ GE366.out) | exact HB.out))) : w.heap.size ≤ gb371)); have n5_ := Aside0.mk ((by rw [hg]; exact (below_size (by repeat (first | (with_reducible first | exact HB.out | apply below_alloc | apply pw_below_drewN | apply below_drew1 | refine below_set ?_ GE361.out | refine below_set ?_ GE366.out) | exact HB.out))) : w.heap.size ≤ gb371)); have n6_ := Aside0.mk ((by rw [hg]; exact Nat.ne_of_lt (blk_lt (g := gb361) (o := .cells #[.bool a0_0, .string a0_1, .int .i64 a0_2] 23 (0, 0)) (by (with_reducible repeat (first | refine blk_drewN ?_ _ | refine blk_drew ?_ | refine blk_alloc ?_ _)); exact BK361.out)) : gb361 ≠ gb371)); have n7_ := Aside0.mk ((by rw [hg]; exact Nat.ne_of_gt (blk_lt (g := gb361) (o := .cells #[.bool a0_0, .string a0_1, .int .i64 a0_2] 23 (0, 0)) (by (with_reducible repeat (first | refine blk_drewN ?_ _ | refine blk_drew ?_ | refine blk_alloc ?_ _)); exact BK361.out)) : gb371 ≠ gb361)); have n8_ := Aside0.mk ((by rw [hg]; exact Nat.ne_of_lt (blk_lt (g := gb366) (o := .cells #[.bool t362, .string t363, .int .i64 t364] 23 (0, 0)) (by (with_reducible repeat (first | refine blk_drewN ?_ _ | refine blk_drew ?_ | refine blk_alloc ?_ _)); exact BK366.out)) : gb366 ≠ gb371)); have n9_ := Aside0.mk ((by rw [hg]; exact Nat.ne_of_gt (blk_lt (g := gb366) (o := .cells #[.bool t362, .string t363, .int .i64 t364] 23 (0, 0)) (by (with_reducible repeat (first | refine blk_drewN ?_ _ | refine blk_drew ?_ | refine blk_alloc ?_ _)); exact BK366.out)) : gb371 ≠ gb366)); clear BK361; clear BK366; clear HB; have BK361 := n0_; have BK366 := n1_; have HB := n2_; have BK371 := n3_; have GW371 := n4_; have GE371 := n5_; have NB361_371 := n6_; have NB371_361 := n7_; have NB366_371 := n8_; have NB371_366 := n9_; clear n0_ n1_ n2_ n3_ n4_ n5_ n6_ n7_ n8_ n9_; clear hb hbox hg; have hnb14 := NB371_361.out; have hnc14 := NB361_371.out; have hnb15 := NB371_366.out; have hnc15 := NB366_371.out; have hcz16_0 : w13.cell? ⟨gb371, 0, none⟩ = some (.bool false) := (blk_cell BK371.out 0).trans rfl; have hcz16_1 : w13.cell? ⟨gb371, 1, none⟩ = some (.string (⟨#[]⟩ : ByteArray)) := (blk_cell BK371.out 1).trans rfl; have hcz16_2 : w13.cell? ⟨gb371, 2, none⟩ = some (.int .i64 0) := (blk_cell BK371.out 2).trans rfl; have hfz16_0 := blk_frozen BK371.out 0; have hfz16_1 := blk_frozen BK371.out 1; have hfz16_2 := blk_frozen BK371.out 2))
  (try simp only [Act.put, List.setIfInBounds_toArray, List.set_cons_zero, List.set_cons_succ])
  go_cut [26] (fun v26 wc => ∃ (kq : Nat) (x26_3 : Bool), v26 = .bool x26_3 ∧ Aside0 (abacuslaw08_norms.j0 kq x26_3 a0_0 a0_1 a0_2 = some r) ∧ Aside0 (kq ≤ k) ∧ Aside0 (wc.heap[gb361]? = some (.cells #[.bool a0_0, .string a0_1, .int .i64 a0_2] 23 (0, 0))) ∧ Aside0 (wc.heap[gb366]? = some (.cells #[.bool t362, .string t363, .int .i64 t364] 23 (0, 0))) ∧ Aside0 (wc.heap[gb371]? = some (.cells #[.bool t367, .string t368, .int .i64 t369] 23 (0, 0))) ∧ Aside0 (Below w.heap.size w wc))
  case first =>
    have H := HC4.out
    clear HC4
    by_cases c17 : (!(t367 == t362) || (!(t368.toList == t363.toList) || (!(t369 == t364)))) = true
    · rw [if_pos c17] at H
      have c17b0 : (!(t367 == t362) || (!(t368.toList == t363.toList) || (!(t369 == t364)))) = true := c17
      clear c17
      (first | rw [c17b0] | (simp only [i64_w, i32_w]; rw [c17b0]) | skip)
      have H' := Aside0.mk H
      clear H
      have hnb18 := NB371_361.out
      have hnc18 := NB361_371.out
      have hnb19 := NB371_366.out
      have hnc19 := NB366_371.out
      have hcz20_0 : w13.cell? ⟨gb371, 0, none⟩ = some (.bool false) := (blk_cell BK371.out 0).trans rfl
      have hcz20_1 : w13.cell? ⟨gb371, 1, none⟩ = some (.string (⟨#[]⟩ : ByteArray)) := (blk_cell BK371.out 1).trans rfl
      have hcz20_2 : w13.cell? ⟨gb371, 2, none⟩ = some (.int .i64 0) := (blk_cell BK371.out 2).trans rfl
      have hfz20_0 := blk_frozen BK371.out 0
      have hfz20_1 := blk_frozen BK371.out 1
      have hfz20_2 := blk_frozen BK371.out 2
      have hnb21 := NB366_361.out
      have hnc21 := NB361_366.out
      have hcz22_0 : w13.cell? ⟨gb366, 0, none⟩ = some (.bool t362) := (blk_cell BK366.out 0).trans rfl
      have hcz22_1 : w13.cell? ⟨gb366, 1, none⟩ = some (.string t363) := (blk_cell BK366.out 1).trans rfl
      have hcz22_2 : w13.cell? ⟨gb366, 2, none⟩ = some (.int .i64 t364) := (blk_cell BK366.out 2).trans rfl
      have hfz22_0 := blk_frozen BK366.out 0
      have hfz22_1 := blk_frozen BK366.out 1
      have hfz22_2 := blk_frozen BK366.out 2
      go_wp2
      go_meet
      case rel => exact ⟨_, (true), (by first | rfl | (simp; done) | (simp [*]; done)), H', ⟨by first | omega | exact Nat.le_refl _⟩, ⟨by (with_reducible repeat (first | refine blk_drewN ?_ _ | refine blk_drew ?_ | refine blk_alloc ?_ _)); refine blk_far ?_ NB361_371.out _; (with_reducible repeat (first | refine blk_drewN ?_ _ | refine blk_drew ?_ | refine blk_alloc ?_ _)); refine blk_far ?_ NB361_371.out _; (with_reducible repeat (first | refine blk_drewN ?_ _ | refine blk_drew ?_ | refine blk_alloc ?_ _)); refine blk_far ?_ NB361_371.out _; (with_reducible repeat (first | refine blk_drewN ?_ _ | refine blk_drew ?_ | refine blk_alloc ?_ _)); exact BK361.out⟩, ⟨by (with_reducible repeat (first | refine blk_drewN ?_ _ | refine blk_drew ?_ | refine blk_alloc ?_ _)); refine blk_far ?_ NB366_371.out _; (with_reducible repeat (first | refine blk_drewN ?_ _ | refine blk_drew ?_ | refine blk_alloc ?_ _)); refine blk_far ?_ NB366_371.out _; (with_reducible repeat (first | refine blk_drewN ?_ _ | refine blk_drew ?_ | refine blk_alloc ?_ _)); refine blk_far ?_ NB366_371.out _; (with_reducible repeat (first | refine blk_drewN ?_ _ | refine blk_drew ?_ | refine blk_alloc ?_ _)); exact BK366.out⟩, ⟨by (with_reducible repeat (first | refine blk_drewN ?_ _ | refine blk_drew ?_ | refine blk_alloc ?_ _)); refine blk_put (cs := #[.bool t367, .string t368, .int .i64 0]) ?_ 2 _ rfl; (with_reducible repeat (first | refine blk_drewN ?_ _ | refine blk_drew ?_ | refine blk_alloc ?_ _)); refine blk_put (cs := #[.bool t367, .string (⟨#[]⟩ : ByteArray), .int .i64 0]) ?_ 1 _ rfl; (with_reducible repeat (first | refine blk_drewN ?_ _ | refine blk_drew ?_ | refine blk_alloc ?_ _)); refine blk_put (cs := #[.bool false, .string (⟨#[]⟩ : ByteArray), .int .i64 0]) ?_ 0 _ rfl; (with_reducible repeat (first | refine blk_drewN ?_ _ | refine blk_drew ?_ | refine blk_alloc ?_ _)); exact BK371.out⟩, ⟨by repeat (first | (with_reducible first | exact HB.out | apply below_alloc | apply pw_below_drewN | apply below_drew1 | refine below_set ?_ GE361.out | refine below_set ?_ GE366.out | refine below_set ?_ GE371.out) | exact HB.out)⟩⟩
    · rw [if_neg c17] at H
      have c17b0 : (!(t367 == t362) || (!(t368.toList == t363.toList) || (!(t369 == t364)))) = false := by simpa using c17
      clear c17
      (first | rw [c17b0] | (simp only [i64_w, i32_w]; rw [c17b0]) | skip)
      have H' := Aside0.mk H
      clear H
      have hnb23 := NB371_361.out
      have hnc23 := NB361_371.out
      have hnb24 := NB371_366.out
      have hnc24 := NB366_371.out
      have hcz25_0 : w13.cell? ⟨gb371, 0, none⟩ = some (.bool false) := (blk_cell BK371.out 0).trans rfl
      have hcz25_1 : w13.cell? ⟨gb371, 1, none⟩ = some (.string (⟨#[]⟩ : ByteArray)) := (blk_cell BK371.out 1).trans rfl
      have hcz25_2 : w13.cell? ⟨gb371, 2, none⟩ = some (.int .i64 0) := (blk_cell BK371.out 2).trans rfl
      have hfz25_0 := blk_frozen BK371.out 0
      have hfz25_1 := blk_frozen BK371.out 1
      have hfz25_2 := blk_frozen BK371.out 2
      have hnb26 := NB366_361.out
      have hnc26 := NB361_366.out
      have hcz27_0 : w13.cell? ⟨gb366, 0, none⟩ = some (.bool t362) := (blk_cell BK366.out 0).trans rfl
      have hcz27_1 : w13.cell? ⟨gb366, 1, none⟩ = some (.string t363) := (blk_cell BK366.out 1).trans rfl
      have hcz27_2 : w13.cell? ⟨gb366, 2, none⟩ = some (.int .i64 t364) := (blk_cell BK366.out 2).trans rfl
      have hfz27_0 := blk_frozen BK366.out 0
      have hfz27_1 := blk_frozen BK366.out 1
      have hfz27_2 := blk_frozen BK366.out 2
      go_wp2
      go_meet
      case rel => exact ⟨_, ((t370 != t365)), (by first | rfl | (simp; done) | (simp [*]; done)), H', ⟨by first | omega | exact Nat.le_refl _⟩, ⟨by (with_reducible repeat (first | refine blk_drewN ?_ _ | refine blk_drew ?_ | refine blk_alloc ?_ _)); refine blk_far ?_ NB361_371.out _; (with_reducible repeat (first | refine blk_drewN ?_ _ | refine blk_drew ?_ | refine blk_alloc ?_ _)); refine blk_far ?_ NB361_371.out _; (with_reducible repeat (first | refine blk_drewN ?_ _ | refine blk_drew ?_ | refine blk_alloc ?_ _)); refine blk_far ?_ NB361_371.out _; (with_reducible repeat (first | refine blk_drewN ?_ _ | refine blk_drew ?_ | refine blk_alloc ?_ _)); exact BK361.out⟩, ⟨by (with_reducible repeat (first | refine blk_drewN ?_ _ | refine blk_drew ?_ | refine blk_alloc ?_ _)); refine blk_far ?_ NB366_371.out _; (with_reducible repeat (first | refine blk_drewN ?_ _ | refine blk_drew ?_ | refine blk_alloc ?_ _)); refine blk_far ?_ NB366_371.out _; (with_reducible repeat (first | refine blk_drewN ?_ _ | refine blk_drew ?_ | refine blk_alloc ?_ _)); refine blk_far ?_ NB366_371.out _; (with_reducible repeat (first | refine blk_drewN ?_ _ | refine blk_drew ?_ | refine blk_alloc ?_ _)); exact BK366.out⟩, ⟨by (with_reducible repeat (first | refine blk_drewN ?_ _ | refine blk_drew ?_ | refine blk_alloc ?_ _)); refine blk_put (cs := #[.bool t367, .string t368, .int .i64 0]) ?_ 2 _ rfl; (with_reducible repeat (first | refine blk_drewN ?_ _ | refine blk_drew ?_ | refine blk_alloc ?_ _)); refine blk_put (cs := #[.bool t367, .string (⟨#[]⟩ : ByteArray), .int .i64 0]) ?_ 1 _ rfl; (with_reducible repeat (first | refine blk_drewN ?_ _ | refine blk_drew ?_ | refine blk_alloc ?_ _)); refine blk_put (cs := #[.bool false, .string (⟨#[]⟩ : ByteArray), .int .i64 0]) ?_ 0 _ rfl; (with_reducible repeat (first | refine blk_drewN ?_ _ | refine blk_drew ?_ | refine blk_alloc ?_ _)); exact BK371.out⟩, ⟨by repeat (first | (with_reducible first | exact HB.out | apply below_alloc | apply pw_below_drewN | apply below_drew1 | refine below_set ?_ GE361.out | refine below_set ?_ GE366.out | refine below_set ?_ GE371.out) | exact HB.out)⟩⟩
  case rest =>
    clear HC4
    try clear c1
    try clear c2
    try clear p2
    try clear c3
    try clear c9
    try clear c13
    try clear c14
    try clear c15
    try clear c17
    try clear c17b0
    try clear c18
    try clear c19
    try clear c21
    try clear c22
    try clear c23
    try clear c24
    try clear c26
    try clear hcz10_0
    try clear hcz10_1
    try clear hcz10_2
    try clear hcz11_0
    try clear hcz11_1
    try clear hcz11_2
    try clear hcz16_0
    try clear hcz16_1
    try clear hcz16_2
    try clear hcz20_0
    try clear hcz20_1
    try clear hcz20_2
    try clear hcz22_0
    try clear hcz22_1
    try clear hcz22_2
    try clear hcz25_0
    try clear hcz25_1
    try clear hcz25_2
    try clear hcz27_0
    try clear hcz27_1
    try clear hcz27_2
    try clear hcz6_0
    try clear hcz6_1
    try clear hcz6_2
    try clear hfz10_0
    try clear hfz10_1
    try clear hfz10_2
    try clear hfz11_0
    try clear hfz11_1
    try clear hfz11_2
    try clear hfz16_0
    try clear hfz16_1
    try clear hfz16_2
    try clear hfz20_0
    try clear hfz20_1
    try clear hfz20_2
    try clear hfz22_0
    try clear hfz22_1
    try clear hfz22_2
    try clear hfz25_0
    try clear hfz25_1
    try clear hfz25_2
    try clear hfz27_0
    try clear hfz27_1
    try clear hfz27_2
    try clear hfz6_0
    try clear hfz6_1
    try clear hfz6_2
    obtain ⟨kq, x26_3, rfl, HA, HJ3, BK361, BK366, BK371, HB⟩ := hcut
    cases kq with
    | zero => exact absurd HA.out (by simp [abacuslaw08_norms.j0])
    | succ kj3 =>
      have H := HA.out
      clear HA
      simp only [abacuslaw08_norms.j0] at H
      by_cases c28 : x26_3 = true
      · subst c28
        have H1 : (some false) = some r := by rw [if_pos rfl] at H; exact H
        clear H
        have H := H1
        clear H1
        obtain rfl := Option.some.inj H
        go_wp2
        go_ret
        exact ⟨by first | rfl | (simp [errW_none, errW_some] <;> rfl) | (simp [*, errW_none, errW_some] <;> rfl), by repeat (first | (with_reducible first | exact HB.out | apply below_alloc | apply pw_below_drewN | apply below_drew1 | refine below_set ?_ GE361.out | refine below_set ?_ GE366.out | refine below_set ?_ GE371.out) | exact HB.out)⟩
      · replace c28 := Bool.eq_false_iff.mpr c28
        subst c28
        have H1 : ((abacusref08_Text.f kj3 a0_0 a0_1 a0_2).bind fun bt372 => ((scan_Text.f kj3 a0_0 a0_1 a0_2).bind fun bt374 => (if bt374.1.toList = bt372.1.toList then (some (bt374.2 == bt372.2)) else (some false)))) = some r := by rw [if_neg (show ¬ (false = true) by decide)] at H; exact H
        clear H
        have H := H1
        clear H1
        replace H := Option.bind_eq_some_iff.mp H
        obtain ⟨⟨t372, t373⟩, A290, H⟩ := H
        replace H : ((scan_Text.f kj3 a0_0 a0_1 a0_2).bind fun bt374 => (if bt374.1.toList = t372.toList then (some (bt374.2 == t373)) else (some false))) = some r := H
        have A29 := Aside0.mk A290
        clear A290
        replace H := Option.bind_eq_some_iff.mp H
        obtain ⟨⟨t374, t375⟩, A300, H⟩ := H
        replace H : (if t374.toList = t372.toList then (some (t375 == t373)) else (some false)) = some r := H
        have A30 := Aside0.mk A300
        clear A300
        by_cases c31 : t374.toList = t372.toList
        · rw [if_pos c31] at H
          have c31b0 : (t374.toList == t372.toList) = true := beq_iff_eq.mpr c31
          have c31b1 : (t374.toList != t372.toList) = false := bne_eq_false_iff_eq.mpr c31
          clear c31
          obtain rfl := Option.some.inj H
          have hnb32 := NB361_366.out
          have hnc32 := NB366_361.out
          have hnb33 := NB361_371.out
          have hnc33 := NB371_361.out
          have hcz34_0 : wc.cell? ⟨gb361, 0, none⟩ = some (.bool a0_0) := (blk_cell BK361.out 0).trans rfl
          have hcz34_1 : wc.cell? ⟨gb361, 1, none⟩ = some (.string a0_1) := (blk_cell BK361.out 1).trans rfl
          have hcz34_2 : wc.cell? ⟨gb361, 2, none⟩ = some (.int .i64 a0_2) := (blk_cell BK361.out 2).trans rfl
          have hfz34_0 := blk_frozen BK361.out 0
          have hfz34_1 := blk_frozen BK361.out 1
          have hfz34_2 := blk_frozen BK361.out 2
          go_wp2_with (first | ((with_reducible refine gate_callee (f := 37) rfl ?_); refine goesL_ (some 29) rfl rfl Tryd.func37 (by kernel_rfl) rfl #[.agg #[.bool a0_0, .string a0_1, .int .i64 a0_2]] rfl (by (try simp only [List.map_toArray, List.map_cons, List.map_nil]); first | done | rfl | (simp only [List.length_drop, List.length_take]; rfl)) ?_; (with_reducible refine (abacusref08_Text.calls kj3 a0_0 a0_1 a0_2 t372 t373 _ ?side1 A29.out).mono ?_); (case side1 => exact GW.below HG.out (by repeat (first | (with_reducible first | exact HB.out | apply below_alloc | apply pw_below_drewN | apply below_drew1 | refine below_set ?_ GE361.out | refine below_set ?_ GE366.out | refine below_set ?_ GE371.out) | exact HB.out))); rintro e w35 ⟨rfl, hb⟩; refine ⟨_, rfl, ?_⟩; have n0_ := Aside0.mk (blk_below (g := gb361) (o := .cells #[.bool a0_0, .string a0_1, .int .i64 a0_2] 23 (0, 0)) (by (with_reducible repeat (first | refine blk_drewN ?_ _ | refine blk_drew ?_ | refine blk_alloc ?_ _)); exact BK361.out) hb); have n1_ := Aside0.mk (blk_below (g := gb366) (o := .cells #[.bool t362, .string t363, .int .i64 t364] 23 (0, 0)) (by (with_reducible repeat (first | refine blk_drewN ?_ _ | refine blk_drew ?_ | refine blk_alloc ?_ _)); exact BK366.out) hb); have n2_ := Aside0.mk (blk_below (g := gb371) (o := .cells #[.bool t367, .string t368, .int .i64 t369] 23 (0, 0)) (by (with_reducible repeat (first | refine blk_drewN ?_ _ | refine blk_drew ?_ | refine blk_alloc ?_ _)); exact BK371.out) hb); have n3_ := Aside0.mk (below_step (by repeat (first | (with_reducible first | exact HB.out | apply below_alloc | apply pw_below_drewN | apply below_drew1 | refine below_set ?_ GE361.out | refine below_set ?_ GE366.out | refine below_set ?_ GE371.out) | exact HB.out)) hb); clear BK361; clear BK366; clear BK371; clear HB; have BK361 := n0_; have BK366 := n1_; have BK371 := n2_; have HB := n3_; clear n0_ n1_ n2_ n3_; (try clear hb); (try clear hb2); (try clear hk); (try clear hi); have hcz36_0 : w35.cell? ⟨gb361, 0, none⟩ = some (.bool a0_0) := (blk_cell BK361.out 0).trans rfl; have hcz36_1 : w35.cell? ⟨gb361, 1, none⟩ = some (.string a0_1) := (blk_cell BK361.out 1).trans rfl; have hcz36_2 : w35.cell? ⟨gb361, 2, none⟩ = some (.int .i64 a0_2) := (blk_cell BK361.out 2).trans rfl; have hfz36_0 := blk_frozen BK361.out 0; have hfz36_1 := blk_frozen BK361.out 1; have hfz36_2 := blk_frozen BK361.out 2) | ((with_reducible refine gate_callee (f := 24) rfl ?_); refine goesL_ (some 34) rfl rfl Tryd.func24 (by kernel_rfl) rfl #[.agg #[.bool a0_0, .string a0_1, .int .i64 a0_2]] rfl (by (try simp only [List.map_toArray, List.map_cons, List.map_nil]); first | done | rfl | (simp only [List.length_drop, List.length_take]; rfl)) ?_; (with_reducible refine (scan_Text.calls kj3 a0_0 a0_1 a0_2 t374 t375 _ ?side1 A30.out).mono ?_); (case side1 => exact GW.below HG.out (by repeat (first | (with_reducible first | exact HB.out | apply below_alloc | apply pw_below_drewN | apply below_drew1 | refine below_set ?_ GE361.out | refine below_set ?_ GE366.out | refine below_set ?_ GE371.out) | exact HB.out))); rintro e w37 ⟨rfl, hb⟩; refine ⟨_, rfl, ?_⟩; have n0_ := Aside0.mk (blk_below (g := gb361) (o := .cells #[.bool a0_0, .string a0_1, .int .i64 a0_2] 23 (0, 0)) (by (with_reducible repeat (first | refine blk_drewN ?_ _ | refine blk_drew ?_ | refine blk_alloc ?_ _)); exact BK361.out) hb); have n1_ := Aside0.mk (blk_below (g := gb366) (o := .cells #[.bool t362, .string t363, .int .i64 t364] 23 (0, 0)) (by (with_reducible repeat (first | refine blk_drewN ?_ _ | refine blk_drew ?_ | refine blk_alloc ?_ _)); exact BK366.out) hb); have n2_ := Aside0.mk (blk_below (g := gb371) (o := .cells #[.bool t367, .string t368, .int .i64 t369] 23 (0, 0)) (by (with_reducible repeat (first | refine blk_drewN ?_ _ | refine blk_drew ?_ | refine blk_alloc ?_ _)); exact BK371.out) hb); have n3_ := Aside0.mk (below_step (by repeat (first | (with_reducible first | exact HB.out | apply below_alloc | apply pw_below_drewN | apply below_drew1 | refine below_set ?_ GE361.out | refine below_set ?_ GE366.out | refine below_set ?_ GE371.out) | exact HB.out)) hb); clear BK361; clear BK366; clear BK371; clear HB; have BK361 := n0_; have BK366 := n1_; have BK371 := n2_; have HB := n3_; clear n0_ n1_ n2_ n3_; (try clear hb); (try clear hb2); (try clear hk); (try clear hi)))
          go_ret
          exact ⟨by first | rfl | (simp [errW_none, errW_some] <;> rfl) | (simp [*, errW_none, errW_some] <;> rfl), by repeat (first | (with_reducible first | exact HB.out | apply below_alloc | apply pw_below_drewN | apply below_drew1 | refine below_set ?_ GE361.out | refine below_set ?_ GE366.out | refine below_set ?_ GE371.out) | exact HB.out)⟩
        · rw [if_neg c31] at H
          have c31b0 : (t374.toList == t372.toList) = false := beq_eq_false_iff_ne.mpr c31
          have c31b1 : (t374.toList != t372.toList) = true := bne_iff_ne.mpr c31
          obtain rfl := Option.some.inj H
          have hnb38 := NB361_366.out
          have hnc38 := NB366_361.out
          have hnb39 := NB361_371.out
          have hnc39 := NB371_361.out
          have hcz40_0 : wc.cell? ⟨gb361, 0, none⟩ = some (.bool a0_0) := (blk_cell BK361.out 0).trans rfl
          have hcz40_1 : wc.cell? ⟨gb361, 1, none⟩ = some (.string a0_1) := (blk_cell BK361.out 1).trans rfl
          have hcz40_2 : wc.cell? ⟨gb361, 2, none⟩ = some (.int .i64 a0_2) := (blk_cell BK361.out 2).trans rfl
          have hfz40_0 := blk_frozen BK361.out 0
          have hfz40_1 := blk_frozen BK361.out 1
          have hfz40_2 := blk_frozen BK361.out 2
          go_wp2_with (first | ((with_reducible refine gate_callee (f := 37) rfl ?_); refine goesL_ (some 29) rfl rfl Tryd.func37 (by kernel_rfl) rfl #[.agg #[.bool a0_0, .string a0_1, .int .i64 a0_2]] rfl (by (try simp only [List.map_toArray, List.map_cons, List.map_nil]); first | done | rfl | (simp only [List.length_drop, List.length_take]; rfl)) ?_; (with_reducible refine (abacusref08_Text.calls kj3 a0_0 a0_1 a0_2 t372 t373 _ ?side1 A29.out).mono ?_); (case side1 => exact GW.below HG.out (by repeat (first | (with_reducible first | exact HB.out | apply below_alloc | apply pw_below_drewN | apply below_drew1 | refine below_set ?_ GE361.out | refine below_set ?_ GE366.out | refine below_set ?_ GE371.out) | exact HB.out))); rintro e w41 ⟨rfl, hb⟩; refine ⟨_, rfl, ?_⟩; have n0_ := Aside0.mk (blk_below (g := gb361) (o := .cells #[.bool a0_0, .string a0_1, .int .i64 a0_2] 23 (0, 0)) (by (with_reducible repeat (first | refine blk_drewN ?_ _ | refine blk_drew ?_ | refine blk_alloc ?_ _)); exact BK361.out) hb); have n1_ := Aside0.mk (blk_below (g := gb366) (o := .cells #[.bool t362, .string t363, .int .i64 t364] 23 (0, 0)) (by (with_reducible repeat (first | refine blk_drewN ?_ _ | refine blk_drew ?_ | refine blk_alloc ?_ _)); exact BK366.out) hb); have n2_ := Aside0.mk (blk_below (g := gb371) (o := .cells #[.bool t367, .string t368, .int .i64 t369] 23 (0, 0)) (by (with_reducible repeat (first | refine blk_drewN ?_ _ | refine blk_drew ?_ | refine blk_alloc ?_ _)); exact BK371.out) hb); have n3_ := Aside0.mk (below_step (by repeat (first | (with_reducible first | exact HB.out | apply below_alloc | apply pw_below_drewN | apply below_drew1 | refine below_set ?_ GE361.out | refine below_set ?_ GE366.out | refine below_set ?_ GE371.out) | exact HB.out)) hb); clear BK361; clear BK366; clear BK371; clear HB; have BK361 := n0_; have BK366 := n1_; have BK371 := n2_; have HB := n3_; clear n0_ n1_ n2_ n3_; (try clear hb); (try clear hb2); (try clear hk); (try clear hi); have hcz42_0 : w41.cell? ⟨gb361, 0, none⟩ = some (.bool a0_0) := (blk_cell BK361.out 0).trans rfl; have hcz42_1 : w41.cell? ⟨gb361, 1, none⟩ = some (.string a0_1) := (blk_cell BK361.out 1).trans rfl; have hcz42_2 : w41.cell? ⟨gb361, 2, none⟩ = some (.int .i64 a0_2) := (blk_cell BK361.out 2).trans rfl; have hfz42_0 := blk_frozen BK361.out 0; have hfz42_1 := blk_frozen BK361.out 1; have hfz42_2 := blk_frozen BK361.out 2) | ((with_reducible refine gate_callee (f := 24) rfl ?_); refine goesL_ (some 34) rfl rfl Tryd.func24 (by kernel_rfl) rfl #[.agg #[.bool a0_0, .string a0_1, .int .i64 a0_2]] rfl (by (try simp only [List.map_toArray, List.map_cons, List.map_nil]); first | done | rfl | (simp only [List.length_drop, List.length_take]; rfl)) ?_; (with_reducible refine (scan_Text.calls kj3 a0_0 a0_1 a0_2 t374 t375 _ ?side1 A30.out).mono ?_); (case side1 => exact GW.below HG.out (by repeat (first | (with_reducible first | exact HB.out | apply below_alloc | apply pw_below_drewN | apply below_drew1 | refine below_set ?_ GE361.out | refine below_set ?_ GE366.out | refine below_set ?_ GE371.out) | exact HB.out))); rintro e w43 ⟨rfl, hb⟩; refine ⟨_, rfl, ?_⟩; have n0_ := Aside0.mk (blk_below (g := gb361) (o := .cells #[.bool a0_0, .string a0_1, .int .i64 a0_2] 23 (0, 0)) (by (with_reducible repeat (first | refine blk_drewN ?_ _ | refine blk_drew ?_ | refine blk_alloc ?_ _)); exact BK361.out) hb); have n1_ := Aside0.mk (blk_below (g := gb366) (o := .cells #[.bool t362, .string t363, .int .i64 t364] 23 (0, 0)) (by (with_reducible repeat (first | refine blk_drewN ?_ _ | refine blk_drew ?_ | refine blk_alloc ?_ _)); exact BK366.out) hb); have n2_ := Aside0.mk (blk_below (g := gb371) (o := .cells #[.bool t367, .string t368, .int .i64 t369] 23 (0, 0)) (by (with_reducible repeat (first | refine blk_drewN ?_ _ | refine blk_drew ?_ | refine blk_alloc ?_ _)); exact BK371.out) hb); have n3_ := Aside0.mk (below_step (by repeat (first | (with_reducible first | exact HB.out | apply below_alloc | apply pw_below_drewN | apply below_drew1 | refine below_set ?_ GE361.out | refine below_set ?_ GE366.out | refine below_set ?_ GE371.out) | exact HB.out)) hb); clear BK361; clear BK366; clear BK371; clear HB; have BK361 := n0_; have BK366 := n1_; have BK371 := n2_; have HB := n3_; clear n0_ n1_ n2_ n3_; (try clear hb); (try clear hb2); (try clear hk); (try clear hi)))
          go_ret
          exact ⟨by first | rfl | (simp [errW_none, errW_some] <;> rfl) | (simp [*, errW_none, errW_some] <;> rfl), by repeat (first | (with_reducible first | exact HB.out | apply below_alloc | apply pw_below_drewN | apply below_drew1 | refine below_set ?_ GE361.out | refine below_set ?_ GE366.out | refine below_set ?_ GE371.out) | exact HB.out)⟩

end Go.Proofs.YtcgjfckhnpimbaaDoor.EScan
end

section
-- Written by eprint.py (a program of this session's, over the kit's print), not by hand.
namespace Go.Proofs.YtcgjfckhnpimbaaDoor.EScan
open Go.RowKit Go.Proofs.YtcgjfckhnpimbaaDoorW.PrintWords Go.Proofs.YtcgjfckhnpimbaaDoorW.PrintLast Go.Proofs.YtcgjfckhnpimbaaDoorW.PrintMore
attribute [local go_sem] max2_int min2_int max_two min_two max_three min_three max_four min_four   -- for this text's walks alone
set_option linter.unusedVariables false
set_option linter.unusedSimpArgs false

/-! ### abacusref08_digit: function 65 -/
def abacusref08_digit.f (a0_0 : Bool) (a0_1 : ByteArray) (a0_2 : Int) (a1 : Int) : Option (Int) := if (wrap64 ((wrap64 ((wrap64 (a0_2 + (a0_1.size : Int))) - 1)) - a1)) < 0 then (some 48) else (if (wrap64 ((wrap64 ((wrap64 (a0_2 + (a0_1.size : Int))) - 1)) - a1)) ≥ (a0_1.size : Int) then (some 48) else (if 0 ≤ (wrap64 ((wrap64 ((wrap64 (a0_2 + (a0_1.size : Int))) - 1)) - a1)) then (if (wrap64 ((wrap64 ((wrap64 (a0_2 + (a0_1.size : Int))) - 1)) - a1)) < (a0_1.size : Int) then (some (bt a0_1 (wrap64 ((wrap64 ((wrap64 (a0_2 + (a0_1.size : Int))) - 1)) - a1)))) else (none)) else (none)))
set_option maxHeartbeats 8000000 in
set_option maxRecDepth 100000 in
theorem abacusref08_digit.calls (a0_0 : Bool) (a0_1 : ByteArray) (a0_2 : Int) (a1 : Int) (r : Int) (w : World) (h : abacusref08_digit.f a0_0 a0_1 a0_2 a1 = some r) :
    Calls Tryd.prog 65 #[.agg #[.bool a0_0, .string a0_1, .int .i64 a0_2], .int .i64 a1] w fun e w' => e = .returned (.int .u8 r) ∧ Below w.heap.size w w' := by
  have hu23 := Tryd.underlying23
  have HB := Aside0.mk (Below.refl w.heap.size w)
  have H : (if (wrap64 ((wrap64 ((wrap64 (a0_2 + (a0_1.size : Int))) - 1)) - a1)) < 0 then (some 48) else (if (wrap64 ((wrap64 ((wrap64 (a0_2 + (a0_1.size : Int))) - 1)) - a1)) ≥ (a0_1.size : Int) then (some 48) else (if 0 ≤ (wrap64 ((wrap64 ((wrap64 (a0_2 + (a0_1.size : Int))) - 1)) - a1)) then (if (wrap64 ((wrap64 ((wrap64 (a0_2 + (a0_1.size : Int))) - 1)) - a1)) < (a0_1.size : Int) then (some (bt a0_1 (wrap64 ((wrap64 ((wrap64 (a0_2 + (a0_1.size : Int))) - 1)) - a1)))) else (none)) else (none)))) = some r := h
  clear h
  by_cases c3 : (wrap64 ((wrap64 ((wrap64 (a0_2 + (a0_1.size : Int))) - 1)) - a1)) < 0
  · rw [if_pos c3] at H
    have c3b0 : decide ((wrap64 ((wrap64 ((wrap64 (a0_2 + (a0_1.size : Int))) - 1)) - a1)) < 0) = true := decide_eq_true c3
    clear c3
    obtain rfl := Option.some.inj H
    go_enter Tryd.func65, Tryd.ntmps65
    go_wp2_with (first | ((with_reducible refine gate_dst (N := 2) rfl ?_); (try (refine gate_guard (by rfl) ?_; dsimp only)); refine box_event ?hg (N := 2) ?hd (cs := #[.bool a0_0, .string a0_1, .int .i64 a0_2]) (t := 23) ?hr ?_; (case hd => rfl); (case hg => rfl); (case hr => first | (go_simp; done) | (go_simp; rfl)); intro gb376 hg w4 hbox hb; have n0_ := Aside0.mk (below_step (by repeat (first | (with_reducible first | exact HB.out | apply below_alloc | apply pw_below_drewN | apply below_drew1) | exact HB.out)) hb); have n1_ := Aside0.mk (hbox); have n2_ := Aside0.mk ((by rw [hg]; exact (below_size (by repeat (first | (with_reducible first | exact HB.out | apply below_alloc | apply pw_below_drewN | apply below_drew1) | exact HB.out))) : w.heap.size ≤ gb376)); have n3_ := Aside0.mk ((by rw [hg]; exact (below_size (by repeat (first | (with_reducible first | exact HB.out | apply below_alloc | apply pw_below_drewN | apply below_drew1) | exact HB.out))) : w.heap.size ≤ gb376)); clear HB; have HB := n0_; have BK376 := n1_; have GW376 := n2_; have GE376 := n3_; clear n0_ n1_ n2_ n3_; clear hb hbox hg; have hcz5_0 : w4.cell? ⟨gb376, 0, none⟩ = some (.bool a0_0) := (blk_cell BK376.out 0).trans rfl; have hcz5_1 : w4.cell? ⟨gb376, 1, none⟩ = some (.string a0_1) := (blk_cell BK376.out 1).trans rfl; have hcz5_2 : w4.cell? ⟨gb376, 2, none⟩ = some (.int .i64 a0_2) := (blk_cell BK376.out 2).trans rfl; have hfz5_0 := blk_frozen BK376.out 0; have hfz5_1 := blk_frozen BK376.out 1; have hfz5_2 := blk_frozen BK376.out 2))
    go_ret
    exact ⟨by first | rfl | (simp [errW_none, errW_some] <;> rfl) | (simp [*, errW_none, errW_some] <;> rfl), by repeat (first | (with_reducible first | exact HB.out | apply below_alloc | apply pw_below_drewN | apply below_drew1 | refine below_set ?_ GE376.out) | exact HB.out)⟩
  · rw [if_neg c3] at H
    have c3b0 : decide ((wrap64 ((wrap64 ((wrap64 (a0_2 + (a0_1.size : Int))) - 1)) - a1)) < 0) = false := decide_eq_false c3
    clear c3
    by_cases c6 : (wrap64 ((wrap64 ((wrap64 (a0_2 + (a0_1.size : Int))) - 1)) - a1)) ≥ (a0_1.size : Int)
    · rw [if_pos c6] at H
      have c6b0 : decide ((a0_1.size : Int) ≤ (wrap64 ((wrap64 ((wrap64 (a0_2 + (a0_1.size : Int))) - 1)) - a1))) = true := decide_eq_true c6
      clear c6
      obtain rfl := Option.some.inj H
      go_enter Tryd.func65, Tryd.ntmps65
      go_wp2_with (first | ((with_reducible refine gate_dst (N := 2) rfl ?_); (try (refine gate_guard (by rfl) ?_; dsimp only)); refine box_event ?hg (N := 2) ?hd (cs := #[.bool a0_0, .string a0_1, .int .i64 a0_2]) (t := 23) ?hr ?_; (case hd => rfl); (case hg => rfl); (case hr => first | (go_simp; done) | (go_simp; rfl)); intro gb376 hg w7 hbox hb; have n0_ := Aside0.mk (below_step (by repeat (first | (with_reducible first | exact HB.out | apply below_alloc | apply pw_below_drewN | apply below_drew1) | exact HB.out)) hb); have n1_ := Aside0.mk (hbox); have n2_ := Aside0.mk ((by rw [hg]; exact (below_size (by repeat (first | (with_reducible first | exact HB.out | apply below_alloc | apply pw_below_drewN | apply below_drew1) | exact HB.out))) : w.heap.size ≤ gb376)); have n3_ := Aside0.mk ((by rw [hg]; exact (below_size (by repeat (first | (with_reducible first | exact HB.out | apply below_alloc | apply pw_below_drewN | apply below_drew1) | exact HB.out))) : w.heap.size ≤ gb376)); clear HB; have HB := n0_; have BK376 := n1_; have GW376 := n2_; have GE376 := n3_; clear n0_ n1_ n2_ n3_; clear hb hbox hg; have hcz8_0 : w7.cell? ⟨gb376, 0, none⟩ = some (.bool a0_0) := (blk_cell BK376.out 0).trans rfl; have hcz8_1 : w7.cell? ⟨gb376, 1, none⟩ = some (.string a0_1) := (blk_cell BK376.out 1).trans rfl; have hcz8_2 : w7.cell? ⟨gb376, 2, none⟩ = some (.int .i64 a0_2) := (blk_cell BK376.out 2).trans rfl; have hfz8_0 := blk_frozen BK376.out 0; have hfz8_1 := blk_frozen BK376.out 1; have hfz8_2 := blk_frozen BK376.out 2))
      go_ret
      exact ⟨by first | rfl | (simp [errW_none, errW_some] <;> rfl) | (simp [*, errW_none, errW_some] <;> rfl), by repeat (first | (with_reducible first | exact HB.out | apply below_alloc | apply pw_below_drewN | apply below_drew1 | refine below_set ?_ GE376.out) | exact HB.out)⟩
    · rw [if_neg c6] at H
      have c6b0 : decide ((a0_1.size : Int) ≤ (wrap64 ((wrap64 ((wrap64 (a0_2 + (a0_1.size : Int))) - 1)) - a1))) = false := decide_eq_false c6
      clear c6
      obtain ⟨ji9, hji9⟩ : ∃ j_ : Int, (wrap64 ((wrap64 ((wrap64 (a0_2 + (a0_1.size : Int))) - 1)) - a1)) = j_ := ⟨_, rfl⟩
      replace H : (if 0 ≤ (ji9) then (if (ji9) < (a0_1.size : Int) then (some (bt a0_1 (ji9))) else (none)) else (none)) = some r := by first | (rw [hji9] at H; exact H) | (simp only [hji9] at H ⊢; exact H)
      (try rw [hji9] at c3b0)
      (try rw [hji9] at c6b0)
      have hji9w : (IntKind.i64.wrap ((wrap64 ((wrap64 (a0_2 + (a0_1.size : Int))) - 1)) - a1)) = ji9 := (i64_w _).trans hji9
      by_cases c10 : 0 ≤ (ji9)
      · rw [if_pos c10] at H
        have c10b0 : decide (0 ≤ (ji9)) = true := decide_eq_true c10
        clear c10
        by_cases c11 : (ji9) < (a0_1.size : Int)
        · rw [if_pos c11] at H
          have c11b0 : decide ((ji9) < (a0_1.size : Int)) = true := decide_eq_true c11
          clear c11
          obtain rfl := Option.some.inj H
          go_enter Tryd.func65, Tryd.ntmps65
          go_wp2_with (first | ((with_reducible refine gate_dst (N := 2) rfl ?_); (try (refine gate_guard (by rfl) ?_; dsimp only)); refine box_event ?hg (N := 2) ?hd (cs := #[.bool a0_0, .string a0_1, .int .i64 a0_2]) (t := 23) ?hr ?_; (case hd => rfl); (case hg => rfl); (case hr => first | (go_simp; done) | (go_simp; rfl)); intro gb376 hg w13 hbox hb; have n0_ := Aside0.mk (below_step (by repeat (first | (with_reducible first | exact HB.out | apply below_alloc | apply pw_below_drewN | apply below_drew1) | exact HB.out)) hb); have n1_ := Aside0.mk (hbox); have n2_ := Aside0.mk ((by rw [hg]; exact (below_size (by repeat (first | (with_reducible first | exact HB.out | apply below_alloc | apply pw_below_drewN | apply below_drew1) | exact HB.out))) : w.heap.size ≤ gb376)); have n3_ := Aside0.mk ((by rw [hg]; exact (below_size (by repeat (first | (with_reducible first | exact HB.out | apply below_alloc | apply pw_below_drewN | apply below_drew1) | exact HB.out))) : w.heap.size ≤ gb376)); clear HB; have HB := n0_; have BK376 := n1_; have GW376 := n2_; have GE376 := n3_; clear n0_ n1_ n2_ n3_; clear hb hbox hg; have hcz14_0 : w13.cell? ⟨gb376, 0, none⟩ = some (.bool a0_0) := (blk_cell BK376.out 0).trans rfl; have hcz14_1 : w13.cell? ⟨gb376, 1, none⟩ = some (.string a0_1) := (blk_cell BK376.out 1).trans rfl; have hcz14_2 : w13.cell? ⟨gb376, 2, none⟩ = some (.int .i64 a0_2) := (blk_cell BK376.out 2).trans rfl; have hfz14_0 := blk_frozen BK376.out 0; have hfz14_1 := blk_frozen BK376.out 1; have hfz14_2 := blk_frozen BK376.out 2; have p12 : 0 ≤ ((ji9) : Int) := of_decide_eq_true (by first | (with_reducible assumption) | assumption); have q12 : (ji9) < (a0_1.size : Int) := of_decide_eq_true (by first | (with_reducible assumption) | assumption); have hx12 := bt_at a0_1 (ji9); replace p12 := eq_true p12; replace q12 := eq_true q12))
          go_ret
          exact ⟨by first | rfl | (simp [errW_none, errW_some] <;> rfl) | (simp only [← hji9]; first | rfl | (simp [errW_none, errW_some] <;> rfl)) | (simp [*, errW_none, errW_some] <;> rfl), by repeat (first | (with_reducible first | exact HB.out | apply below_alloc | apply pw_below_drewN | apply below_drew1 | refine below_set ?_ GE376.out) | exact HB.out)⟩
        · rw [if_neg c11] at H
          exact absurd H (by simp)
      · rw [if_neg c10] at H
        exact absurd H (by simp)

end Go.Proofs.YtcgjfckhnpimbaaDoor.EScan
end

section
-- Written by eprint.py (a program of this session's, over the kit's print), not by hand.
namespace Go.Proofs.YtcgjfckhnpimbaaDoor.EScan
open Go.RowKit Go.Proofs.YtcgjfckhnpimbaaDoorW.PrintWords Go.Proofs.YtcgjfckhnpimbaaDoorW.PrintLast Go.Proofs.YtcgjfckhnpimbaaDoorW.PrintMore
attribute [local go_sem] max2_int min2_int max_two min_two max_three min_three max_four min_four   -- for this text's walks alone
set_option linter.unusedVariables false
set_option linter.unusedSimpArgs false

/-! ### abacusref08_size: function 50 -/
mutual
def abacusref08_size.j0 : Nat → Bool → Bool → ByteArray → Int → Bool → ByteArray → Int → Option (Int)
  | 0, _, _, _, _, _, _, _ => none
  | k + 1, x16, x378000, x378001, x378002, x379000, x379001, x379002 => if x16 = true then (if x378001.toList = x379001.toList then (some 0) else (if x378001.toList = ([48] : List UInt8) then (some (-1)) else (some 1))) else (if (wrap64 (x379002 + (x379001.size : Int))) = (wrap64 (x378002 + (x378001.size : Int))) then (abacusref08_size.l0 k (wrap64 ((wrap64 (x378002 + (x378001.size : Int))) - 1)) x378000 x378001 x378002 x379000 x379001 x379002) else (if (wrap64 (x378002 + (x378001.size : Int))) < (wrap64 (x379002 + (x379001.size : Int))) then (some (-1)) else (some 1)))
def abacusref08_size.l0 : Nat → Int → Bool → ByteArray → Int → Bool → ByteArray → Int → Option (Int)
  | 0, _, _, _, _, _, _, _ => none
  | k + 1, x6, x378000, x378001, x378002, x379000, x379001, x379002 => if x6 ≥ x378002 then (abacusref08_size.j2 k x6 true x378000 x378001 x378002 x379000 x379001 x379002) else (abacusref08_size.j2 k x6 (decide (x6 ≥ x379002)) x378000 x378001 x378002 x379000 x379001 x379002)
def abacusref08_size.j2 : Nat → Int → Bool → Bool → ByteArray → Int → Bool → ByteArray → Int → Option (Int)
  | 0, _, _, _, _, _, _, _, _ => none
  | k + 1, x6, x60, x378000, x378001, x378002, x379000, x379001, x379002 => if x60 = true then ((abacusref08_digit.f x378000 x378001 x378002 x6).bind fun t379 => ((abacusref08_digit.f x379000 x379001 x379002 x6).bind fun t380 => (if t379 = t380 then (abacusref08_size.l0 k (wrap64 (x6 - 1)) x378000 x378001 x378002 x379000 x379001 x379002) else (if t379 < t380 then (some (-1)) else (some 1))))) else (some 0)
end
def abacusref08_size.f (k : Nat) (a0_0 : Bool) (a0_1 : ByteArray) (a0_2 : Int) (a1_0 : Bool) (a1_1 : ByteArray) (a1_2 : Int) : Option (Int) := if a0_1.toList = ([48] : List UInt8) then (abacusref08_size.j0 k true a0_0 a0_1 a0_2 a1_0 a1_1 a1_2) else (abacusref08_size.j0 k (a1_1.toList == ([48] : List UInt8)) a0_0 a0_1 a0_2 a1_0 a1_1 a1_2)
theorem abacusref08_size.mono_l : ∀ k, (∀ y0 y1 y2 y3 y4 y5 y6, LeO (abacusref08_size.j0 k y0 y1 y2 y3 y4 y5 y6) (abacusref08_size.j0 (k + 1) y0 y1 y2 y3 y4 y5 y6)) ∧ (∀ y0 y1 y2 y3 y4 y5 y6, LeO (abacusref08_size.l0 k y0 y1 y2 y3 y4 y5 y6) (abacusref08_size.l0 (k + 1) y0 y1 y2 y3 y4 y5 y6)) ∧ (∀ y0 y1 y2 y3 y4 y5 y6 y7, LeO (abacusref08_size.j2 k y0 y1 y2 y3 y4 y5 y6 y7) (abacusref08_size.j2 (k + 1) y0 y1 y2 y3 y4 y5 y6 y7))
  | 0 => ⟨fun _ _ _ _ _ _ _ r h => by simp [abacusref08_size.j0] at h, fun _ _ _ _ _ _ _ r h => by simp [abacusref08_size.l0] at h, fun _ _ _ _ _ _ _ _ r h => by simp [abacusref08_size.j2] at h⟩
  | k + 1 => by
    obtain ⟨ih0, ih1, ih2⟩ := abacusref08_size.mono_l k
    refine ⟨?_, ?_, ?_⟩
    · intro y0 y1 y2 y3 y4 y5 y6
      unfold abacusref08_size.j0
      repeat' first
      | (with_reducible exact ih0 _ _ _ _ _ _ _)
      | (with_reducible exact ih1 _ _ _ _ _ _ _)
      | (with_reducible exact ih2 _ _ _ _ _ _ _ _)
      | (with_reducible exact LeO.refl _)
      | (with_reducible exact LeO.none _)
      | (with_reducible refine LeO.ite ?_ ?_)
      | (with_reducible refine LeO.bind ?_ (fun _ => ?_))
      | exact ih0 _ _ _ _ _ _ _
      | exact ih1 _ _ _ _ _ _ _
      | exact ih2 _ _ _ _ _ _ _ _
      | exact LeO.none _
      | refine LeO.ite ?_ ?_
      | refine LeO.bind ?_ (fun _ => ?_)
    · intro y0 y1 y2 y3 y4 y5 y6
      unfold abacusref08_size.l0
      repeat' first
      | (with_reducible exact ih0 _ _ _ _ _ _ _)
      | (with_reducible exact ih1 _ _ _ _ _ _ _)
      | (with_reducible exact ih2 _ _ _ _ _ _ _ _)
      | (with_reducible exact LeO.refl _)
      | (with_reducible exact LeO.none _)
      | (with_reducible refine LeO.ite ?_ ?_)
      | (with_reducible refine LeO.bind ?_ (fun _ => ?_))
      | exact ih0 _ _ _ _ _ _ _
      | exact ih1 _ _ _ _ _ _ _
      | exact ih2 _ _ _ _ _ _ _ _
      | exact LeO.none _
      | refine LeO.ite ?_ ?_
      | refine LeO.bind ?_ (fun _ => ?_)
    · intro y0 y1 y2 y3 y4 y5 y6 y7
      unfold abacusref08_size.j2
      repeat' first
      | (with_reducible exact ih0 _ _ _ _ _ _ _)
      | (with_reducible exact ih1 _ _ _ _ _ _ _)
      | (with_reducible exact ih2 _ _ _ _ _ _ _ _)
      | (with_reducible exact LeO.refl _)
      | (with_reducible exact LeO.none _)
      | (with_reducible refine LeO.ite ?_ ?_)
      | (with_reducible refine LeO.bind ?_ (fun _ => ?_))
      | exact ih0 _ _ _ _ _ _ _
      | exact ih1 _ _ _ _ _ _ _
      | exact ih2 _ _ _ _ _ _ _ _
      | exact LeO.none _
      | refine LeO.ite ?_ ?_
      | refine LeO.bind ?_ (fun _ => ?_)
theorem abacusref08_size.mono : ∀ a0 a1 a2 a3 a4 a5 k, LeO (abacusref08_size.f k a0 a1 a2 a3 a4 a5) (abacusref08_size.f (k + 1) a0 a1 a2 a3 a4 a5) := by
  intro a0 a1 a2 a3 a4 a5 k
  obtain ⟨ih0, ih1, ih2⟩ := abacusref08_size.mono_l k
  unfold abacusref08_size.f
  repeat' first
      | (with_reducible exact ih0 _ _ _ _ _ _ _)
      | (with_reducible exact ih1 _ _ _ _ _ _ _)
      | (with_reducible exact ih2 _ _ _ _ _ _ _ _)
      | (with_reducible exact LeO.refl _)
      | (with_reducible exact LeO.none _)
      | (with_reducible refine LeO.ite ?_ ?_)
      | (with_reducible refine LeO.bind ?_ (fun _ => ?_))
      | exact ih0 _ _ _ _ _ _ _
      | exact ih1 _ _ _ _ _ _ _
      | exact ih2 _ _ _ _ _ _ _ _
      | exact LeO.none _
      | refine LeO.ite ?_ ?_
      | refine LeO.bind ?_ (fun _ => ?_)
set_option maxHeartbeats 8000000 in
set_option maxRecDepth 100000 in
theorem abacusref08_size.calls (k : Nat) (a0_0 : Bool) (a0_1 : ByteArray) (a0_2 : Int) (a1_0 : Bool) (a1_1 : ByteArray) (a1_2 : Int) (r : Int) (w : World) (h : abacusref08_size.f k a0_0 a0_1 a0_2 a1_0 a1_1 a1_2 = some r) :
    Calls Tryd.prog 50 #[.agg #[.bool a0_0, .string a0_1, .int .i64 a0_2], .agg #[.bool a1_0, .string a1_1, .int .i64 a1_2]] w fun e w' => e = .returned (.int .i64 r) ∧ Below w.heap.size w w' := by
  have hu23 := Tryd.underlying23
  have HB := Aside0.mk (Below.refl w.heap.size w)
  have H : (if a0_1.toList = ([48] : List UInt8) then (abacusref08_size.j0 k true a0_0 a0_1 a0_2 a1_0 a1_1 a1_2) else (abacusref08_size.j0 k (a1_1.toList == ([48] : List UInt8)) a0_0 a0_1 a0_2 a1_0 a1_1 a1_2)) = some r := h
  clear h
  have HC3 := Aside0.mk H
  clear H
  go_enter Tryd.func50, Tryd.ntmps50
  go_upto_region 1 with (first | ((with_reducible refine gate_dst (N := 2) rfl ?_); refine box_event ?hg (N := 2) ?hd (cs := #[.bool a0_0, .string a0_1, .int .i64 a0_2]) (t := 23) ?hr ?_; (case hd => rfl); (case hg => rfl); (case hr => first | (go_simp; done) | (go_simp; rfl)); intro gb377 hg w4 hbox hb; have n0_ := Aside0.mk (below_step (by repeat (first | (with_reducible first | exact HB.out | apply below_alloc | apply pw_below_drewN | apply below_drew1) | exact HB.out)) hb); have n1_ := Aside0.mk (hbox); have n2_ := Aside0.mk ((by rw [hg]; exact (below_size (by repeat (first | (with_reducible first | exact HB.out | apply below_alloc | apply pw_below_drewN | apply below_drew1) | exact HB.out))) : w.heap.size ≤ gb377)); have n3_ := Aside0.mk ((by rw [hg]; exact (below_size (by repeat (first | (with_reducible first | exact HB.out | apply below_alloc | apply pw_below_drewN | apply below_drew1) | exact HB.out))) : w.heap.size ≤ gb377)); clear HB; have HB := n0_; have BK377 := n1_; have GW377 := n2_; have GE377 := n3_; clear n0_ n1_ n2_ n3_; clear hb hbox hg) | ((with_reducible refine gate_dst (N := 3) rfl ?_); refine box_event ?hg (N := 3) ?hd (cs := #[.bool a1_0, .string a1_1, .int .i64 a1_2]) (t := 23) ?hr ?_; (case hd => rfl); (case hg => rfl); (case hr => first | (go_simp; done) | (go_simp; rfl)); intro gb378 hg w5 hbox hb; have n0_ := Aside0.mk (blk_below (g := gb377) (o := .cells #[.bool a0_0, .string a0_1, .int .i64 a0_2] 23 (0, 0)) (by (with_reducible repeat (first | refine blk_drewN ?_ _ | refine blk_drew ?_ | refine blk_alloc ?_ _)); exact BK377.out) hb); have n1_ := Aside0.mk (below_step (by repeat (first | (with_reducible first | exact HB.out | apply below_alloc | apply pw_below_drewN | apply below_drew1 | refine below_set ?_ GE377.out) | exact HB.out)) hb); have n2_ := Aside0.mk (hbox); have n3_ := Aside0.mk ((by rw [hg]; exact (below_size (by repeat (first | (with_reducible first | exact HB.out | apply below_alloc | apply pw_below_drewN | apply below_drew1 | refine below_set ?_ GE377.out) | exact HB.out))) : w.heap.size ≤ gb378)); have n4_ := Aside0.mk ((by rw [hg]; exact (below_size (by repeat (first | (with_reducible first | exact HB.out | apply below_alloc | apply pw_below_drewN | apply below_drew1 | refine below_set ?_ GE377.out) | exact HB.out))) : w.heap.size ≤ gb378)); have n5_ := Aside0.mk ((by rw [hg]; exact Nat.ne_of_lt (blk_lt (g := gb377) (o := .cells #[.bool a0_0, .string a0_1, .int .i64 a0_2] 23 (0, 0)) (by (with_reducible repeat (first | refine blk_drewN ?_ _ | refine blk_drew ?_ | refine blk_alloc ?_ _)); exact BK377.out)) : gb377 ≠ gb378)); have n6_ := Aside0.mk ((by rw [hg]; exact Nat.ne_of_gt (blk_lt (g := gb377) (o := .cells #[.bool a0_0, .string a0_1, .int .i64 a0_2] 23 (0, 0)) (by (with_reducible repeat (first | refine blk_drewN ?_ _ | refine blk_drew ?_ | refine blk_alloc ?_ _)); exact BK377.out)) : gb378 ≠ gb377)); clear BK377; clear HB; have BK377 := n0_; have HB := n1_; have BK378 := n2_; have GW378 := n3_; have GE378 := n4_; have NB377_378 := n5_; have NB378_377 := n6_; clear n0_ n1_ n2_ n3_ n4_ n5_ n6_; clear hb hbox hg))
  (try simp only [Act.put, List.setIfInBounds_toArray, List.set_cons_zero, List.set_cons_succ])
  go_cut [16] (fun v16 wc => ∃ (kq : Nat) (x16_2 : Bool), v16 = .bool x16_2 ∧ Aside0 (abacusref08_size.j0 kq x16_2 a0_0 a0_1 a0_2 a1_0 a1_1 a1_2 = some r) ∧ Aside0 (kq ≤ k) ∧ Aside0 (wc.heap[gb377]? = some (.cells #[.bool a0_0, .string a0_1, .int .i64 a0_2] 23 (0, 0))) ∧ Aside0 (wc.heap[gb378]? = some (.cells #[.bool a1_0, .string a1_1, .int .i64 a1_2] 23 (0, 0))) ∧ Aside0 (Below w.heap.size w wc))
  case first =>
    have H := HC3.out
    clear HC3
    by_cases c6 : a0_1.toList = ([48] : List UInt8)
    · rw [if_pos c6] at H
      have c6b0 : (a0_1.toList == ([48] : List UInt8)) = true := beq_iff_eq.mpr c6
      have c6b1 : (a0_1.toList != ([48] : List UInt8)) = false := bne_eq_false_iff_eq.mpr c6
      clear c6
      (first | rw [c6b0] | (simp only [i64_w, i32_w]; rw [c6b0]) | skip)
      have H' := Aside0.mk H
      clear H
      have hnb7 := NB377_378.out
      have hnc7 := NB378_377.out
      have hcz8_0 : w5.cell? ⟨gb377, 0, none⟩ = some (.bool a0_0) := (blk_cell BK377.out 0).trans rfl
      have hcz8_1 : w5.cell? ⟨gb377, 1, none⟩ = some (.string a0_1) := (blk_cell BK377.out 1).trans rfl
      have hcz8_2 : w5.cell? ⟨gb377, 2, none⟩ = some (.int .i64 a0_2) := (blk_cell BK377.out 2).trans rfl
      have hfz8_0 := blk_frozen BK377.out 0
      have hfz8_1 := blk_frozen BK377.out 1
      have hfz8_2 := blk_frozen BK377.out 2
      go_wp2
      go_meet
      case rel => exact ⟨_, (true), (by first | rfl | (simp; done) | (simp [*]; done)), H', ⟨by first | omega | exact Nat.le_refl _⟩, ⟨by (with_reducible repeat (first | refine blk_drewN ?_ _ | refine blk_drew ?_ | refine blk_alloc ?_ _)); exact BK377.out⟩, ⟨by (with_reducible repeat (first | refine blk_drewN ?_ _ | refine blk_drew ?_ | refine blk_alloc ?_ _)); exact BK378.out⟩, ⟨by repeat (first | (with_reducible first | exact HB.out | apply below_alloc | apply pw_below_drewN | apply below_drew1 | refine below_set ?_ GE377.out | refine below_set ?_ GE378.out) | exact HB.out)⟩⟩
    · rw [if_neg c6] at H
      have c6b0 : (a0_1.toList == ([48] : List UInt8)) = false := beq_eq_false_iff_ne.mpr c6
      have c6b1 : (a0_1.toList != ([48] : List UInt8)) = true := bne_iff_ne.mpr c6
      (first | rw [c6b0] | (simp only [i64_w, i32_w]; rw [c6b0]) | skip)
      have H' := Aside0.mk H
      clear H
      have hnb9 := NB377_378.out
      have hnc9 := NB378_377.out
      have hcz10_0 : w5.cell? ⟨gb377, 0, none⟩ = some (.bool a0_0) := (blk_cell BK377.out 0).trans rfl
      have hcz10_1 : w5.cell? ⟨gb377, 1, none⟩ = some (.string a0_1) := (blk_cell BK377.out 1).trans rfl
      have hcz10_2 : w5.cell? ⟨gb377, 2, none⟩ = some (.int .i64 a0_2) := (blk_cell BK377.out 2).trans rfl
      have hfz10_0 := blk_frozen BK377.out 0
      have hfz10_1 := blk_frozen BK377.out 1
      have hfz10_2 := blk_frozen BK377.out 2
      have hcz11_0 : w5.cell? ⟨gb378, 0, none⟩ = some (.bool a1_0) := (blk_cell BK378.out 0).trans rfl
      have hcz11_1 : w5.cell? ⟨gb378, 1, none⟩ = some (.string a1_1) := (blk_cell BK378.out 1).trans rfl
      have hcz11_2 : w5.cell? ⟨gb378, 2, none⟩ = some (.int .i64 a1_2) := (blk_cell BK378.out 2).trans rfl
      have hfz11_0 := blk_frozen BK378.out 0
      have hfz11_1 := blk_frozen BK378.out 1
      have hfz11_2 := blk_frozen BK378.out 2
      go_wp2
      go_meet
      case rel => exact ⟨_, ((a1_1.toList == ([48] : List UInt8))), (by first | rfl | (simp; done) | (simp [*]; done)), H', ⟨by first | omega | exact Nat.le_refl _⟩, ⟨by (with_reducible repeat (first | refine blk_drewN ?_ _ | refine blk_drew ?_ | refine blk_alloc ?_ _)); exact BK377.out⟩, ⟨by (with_reducible repeat (first | refine blk_drewN ?_ _ | refine blk_drew ?_ | refine blk_alloc ?_ _)); exact BK378.out⟩, ⟨by repeat (first | (with_reducible first | exact HB.out | apply below_alloc | apply pw_below_drewN | apply below_drew1 | refine below_set ?_ GE377.out | refine below_set ?_ GE378.out) | exact HB.out)⟩⟩
  case rest =>
    clear HC3
    try clear p2
    try clear c5
    try clear c6
    try clear c6b0
    try clear c6b1
    try clear c7
    try clear c9
    try clear hcz10_0
    try clear hcz10_1
    try clear hcz10_2
    try clear hcz11_0
    try clear hcz11_1
    try clear hcz11_2
    try clear hcz8_0
    try clear hcz8_1
    try clear hcz8_2
    try clear hfz10_0
    try clear hfz10_1
    try clear hfz10_2
    try clear hfz11_0
    try clear hfz11_1
    try clear hfz11_2
    try clear hfz8_0
    try clear hfz8_1
    try clear hfz8_2
    obtain ⟨kq, x16_2, rfl, HA, HJ2, BK377, BK378, HB⟩ := hcut
    cases kq with
    | zero => exact absurd HA.out (by simp [abacusref08_size.j0])
    | succ kj2 =>
      have H := HA.out
      clear HA
      simp only [abacusref08_size.j0] at H
      by_cases c12 : x16_2 = true
      · subst c12
        have H1 : (if a0_1.toList = a1_1.toList then (some 0) else (if a0_1.toList = ([48] : List UInt8) then (some (-1)) else (some 1))) = some r := by rw [if_pos rfl] at H; exact H
        clear H
        have H := H1
        clear H1
        by_cases c13 : a0_1.toList = a1_1.toList
        · rw [if_pos c13] at H
          have c13b0 : (a0_1.toList == a1_1.toList) = true := beq_iff_eq.mpr c13
          have c13b1 : (a0_1.toList != a1_1.toList) = false := bne_eq_false_iff_eq.mpr c13
          clear c13
          obtain rfl := Option.some.inj H
          have hnb14 := NB377_378.out
          have hnc14 := NB378_377.out
          have hcz15_0 : wc.cell? ⟨gb377, 0, none⟩ = some (.bool a0_0) := (blk_cell BK377.out 0).trans rfl
          have hcz15_1 : wc.cell? ⟨gb377, 1, none⟩ = some (.string a0_1) := (blk_cell BK377.out 1).trans rfl
          have hcz15_2 : wc.cell? ⟨gb377, 2, none⟩ = some (.int .i64 a0_2) := (blk_cell BK377.out 2).trans rfl
          have hfz15_0 := blk_frozen BK377.out 0
          have hfz15_1 := blk_frozen BK377.out 1
          have hfz15_2 := blk_frozen BK377.out 2
          have hcz16_0 : wc.cell? ⟨gb378, 0, none⟩ = some (.bool a1_0) := (blk_cell BK378.out 0).trans rfl
          have hcz16_1 : wc.cell? ⟨gb378, 1, none⟩ = some (.string a1_1) := (blk_cell BK378.out 1).trans rfl
          have hcz16_2 : wc.cell? ⟨gb378, 2, none⟩ = some (.int .i64 a1_2) := (blk_cell BK378.out 2).trans rfl
          have hfz16_0 := blk_frozen BK378.out 0
          have hfz16_1 := blk_frozen BK378.out 1
          have hfz16_2 := blk_frozen BK378.out 2
          go_wp2
          go_ret
          exact ⟨by first | rfl | (simp [errW_none, errW_some] <;> rfl) | (simp [*, errW_none, errW_some] <;> rfl), by repeat (first | (with_reducible first | exact HB.out | apply below_alloc | apply pw_below_drewN | apply below_drew1 | refine below_set ?_ GE377.out | refine below_set ?_ GE378.out) | exact HB.out)⟩
        · rw [if_neg c13] at H
          have c13b0 : (a0_1.toList == a1_1.toList) = false := beq_eq_false_iff_ne.mpr c13
          have c13b1 : (a0_1.toList != a1_1.toList) = true := bne_iff_ne.mpr c13
          by_cases c17 : a0_1.toList = ([48] : List UInt8)
          · rw [if_pos c17] at H
            have c17b0 : (a0_1.toList == ([48] : List UInt8)) = true := beq_iff_eq.mpr c17
            have c17b1 : (a0_1.toList != ([48] : List UInt8)) = false := bne_eq_false_iff_eq.mpr c17
            clear c17
            obtain rfl := Option.some.inj H
            have hnb18 := NB377_378.out
            have hnc18 := NB378_377.out
            have hcz19_0 : wc.cell? ⟨gb377, 0, none⟩ = some (.bool a0_0) := (blk_cell BK377.out 0).trans rfl
            have hcz19_1 : wc.cell? ⟨gb377, 1, none⟩ = some (.string a0_1) := (blk_cell BK377.out 1).trans rfl
            have hcz19_2 : wc.cell? ⟨gb377, 2, none⟩ = some (.int .i64 a0_2) := (blk_cell BK377.out 2).trans rfl
            have hfz19_0 := blk_frozen BK377.out 0
            have hfz19_1 := blk_frozen BK377.out 1
            have hfz19_2 := blk_frozen BK377.out 2
            have hcz20_0 : wc.cell? ⟨gb378, 0, none⟩ = some (.bool a1_0) := (blk_cell BK378.out 0).trans rfl
            have hcz20_1 : wc.cell? ⟨gb378, 1, none⟩ = some (.string a1_1) := (blk_cell BK378.out 1).trans rfl
            have hcz20_2 : wc.cell? ⟨gb378, 2, none⟩ = some (.int .i64 a1_2) := (blk_cell BK378.out 2).trans rfl
            have hfz20_0 := blk_frozen BK378.out 0
            have hfz20_1 := blk_frozen BK378.out 1
            have hfz20_2 := blk_frozen BK378.out 2
            go_wp2
            go_ret
            exact ⟨by first | rfl | (simp [errW_none, errW_some] <;> rfl) | (simp [*, errW_none, errW_some] <;> rfl), by repeat (first | (with_reducible first | exact HB.out | apply below_alloc | apply pw_below_drewN | apply below_drew1 | refine below_set ?_ GE377.out | refine below_set ?_ GE378.out) | exact HB.out)⟩
          · rw [if_neg c17] at H
            have c17b0 : (a0_1.toList == ([48] : List UInt8)) = false := beq_eq_false_iff_ne.mpr c17
            have c17b1 : (a0_1.toList != ([48] : List UInt8)) = true := bne_iff_ne.mpr c17
            obtain rfl := Option.some.inj H
            have hnb21 := NB377_378.out
            have hnc21 := NB378_377.out
            have hcz22_0 : wc.cell? ⟨gb377, 0, none⟩ = some (.bool a0_0) := (blk_cell BK377.out 0).trans rfl
            have hcz22_1 : wc.cell? ⟨gb377, 1, none⟩ = some (.string a0_1) := (blk_cell BK377.out 1).trans rfl
            have hcz22_2 : wc.cell? ⟨gb377, 2, none⟩ = some (.int .i64 a0_2) := (blk_cell BK377.out 2).trans rfl
            have hfz22_0 := blk_frozen BK377.out 0
            have hfz22_1 := blk_frozen BK377.out 1
            have hfz22_2 := blk_frozen BK377.out 2
            have hcz23_0 : wc.cell? ⟨gb378, 0, none⟩ = some (.bool a1_0) := (blk_cell BK378.out 0).trans rfl
            have hcz23_1 : wc.cell? ⟨gb378, 1, none⟩ = some (.string a1_1) := (blk_cell BK378.out 1).trans rfl
            have hcz23_2 : wc.cell? ⟨gb378, 2, none⟩ = some (.int .i64 a1_2) := (blk_cell BK378.out 2).trans rfl
            have hfz23_0 := blk_frozen BK378.out 0
            have hfz23_1 := blk_frozen BK378.out 1
            have hfz23_2 := blk_frozen BK378.out 2
            go_wp2
            go_ret
            exact ⟨by first | rfl | (simp [errW_none, errW_some] <;> rfl) | (simp [*, errW_none, errW_some] <;> rfl), by repeat (first | (with_reducible first | exact HB.out | apply below_alloc | apply pw_below_drewN | apply below_drew1 | refine below_set ?_ GE377.out | refine below_set ?_ GE378.out) | exact HB.out)⟩
      · replace c12 := Bool.eq_false_iff.mpr c12
        subst c12
        have H1 : (if (wrap64 (a1_2 + (a1_1.size : Int))) = (wrap64 (a0_2 + (a0_1.size : Int))) then (abacusref08_size.l0 kj2 (wrap64 ((wrap64 (a0_2 + (a0_1.size : Int))) - 1)) a0_0 a0_1 a0_2 a1_0 a1_1 a1_2) else (if (wrap64 (a0_2 + (a0_1.size : Int))) < (wrap64 (a1_2 + (a1_1.size : Int))) then (some (-1)) else (some 1))) = some r := by rw [if_neg (show ¬ (false = true) by decide)] at H; exact H
        clear H
        have H := H1
        clear H1
        by_cases c24 : (wrap64 (a1_2 + (a1_1.size : Int))) = (wrap64 (a0_2 + (a0_1.size : Int)))
        · rw [if_pos c24] at H
          have c24b0 : ((wrap64 (a1_2 + (a1_1.size : Int))) == (wrap64 (a0_2 + (a0_1.size : Int)))) = true := beq_iff_eq.mpr c24
          have c24b1 : ((wrap64 (a1_2 + (a1_1.size : Int))) != (wrap64 (a0_2 + (a0_1.size : Int)))) = false := bne_eq_false_iff_eq.mpr c24
          clear c24
          have H' := Aside0.mk H
          clear H
          have hnb25 := NB377_378.out
          have hnc25 := NB378_377.out
          have hcz26_0 : wc.cell? ⟨gb377, 0, none⟩ = some (.bool a0_0) := (blk_cell BK377.out 0).trans rfl
          have hcz26_1 : wc.cell? ⟨gb377, 1, none⟩ = some (.string a0_1) := (blk_cell BK377.out 1).trans rfl
          have hcz26_2 : wc.cell? ⟨gb377, 2, none⟩ = some (.int .i64 a0_2) := (blk_cell BK377.out 2).trans rfl
          have hfz26_0 := blk_frozen BK377.out 0
          have hfz26_1 := blk_frozen BK377.out 1
          have hfz26_2 := blk_frozen BK377.out 2
          have hcz27_0 : wc.cell? ⟨gb378, 0, none⟩ = some (.bool a1_0) := (blk_cell BK378.out 0).trans rfl
          have hcz27_1 : wc.cell? ⟨gb378, 1, none⟩ = some (.string a1_1) := (blk_cell BK378.out 1).trans rfl
          have hcz27_2 : wc.cell? ⟨gb378, 2, none⟩ = some (.int .i64 a1_2) := (blk_cell BK378.out 2).trans rfl
          have hfz27_0 := blk_frozen BK378.out 0
          have hfz27_1 := blk_frozen BK378.out 1
          have hfz27_2 := blk_frozen BK378.out 2
          go_wp2
          go_loopg [6] kj2 (fun kq v6 w' => ∃ (x6_2 : Int), v6 = .int .i64 x6_2 ∧ Aside0 (abacusref08_size.l0 kq x6_2 a0_0 a0_1 a0_2 a1_0 a1_1 a1_2 = some r) ∧ Aside0 (kq ≤ kj2) ∧ Aside0 (w'.heap[gb377]? = some (.cells #[.bool a0_0, .string a0_1, .int .i64 a0_2] 23 (0, 0))) ∧ Aside0 (w'.heap[gb378]? = some (.cells #[.bool a1_0, .string a1_1, .int .i64 a1_2] 23 (0, 0))) ∧ Aside0 (Below w.heap.size w w'))
          case atStart => exact ⟨(wrap64 ((wrap64 (a0_2 + (a0_1.size : Int))) - 1)), (by first | rfl | (simp; done) | (simp [*]; done)), H', ⟨Nat.le_refl _⟩, ⟨by (with_reducible repeat (first | refine blk_drewN ?_ _ | refine blk_drew ?_ | refine blk_alloc ?_ _)); exact BK377.out⟩, ⟨by (with_reducible repeat (first | refine blk_drewN ?_ _ | refine blk_drew ?_ | refine blk_alloc ?_ _)); exact BK378.out⟩, ⟨by repeat (first | (with_reducible first | exact HB.out | apply below_alloc | apply pw_below_drewN | apply below_drew1 | refine below_set ?_ GE377.out | refine below_set ?_ GE378.out) | exact HB.out)⟩⟩
          case round =>
            clear H'
            try clear c1
            try clear c2
            try clear p2
            try clear c5
            try clear c6
            try clear c6b0
            try clear c6b1
            try clear p6
            try clear c7
            try clear c9
            try clear c12
            try clear c13
            try clear c13b0
            try clear c13b1
            try clear c14
            try clear c17
            try clear c17b0
            try clear c17b1
            try clear c18
            try clear c21
            try clear c24
            try clear c24b0
            try clear c24b1
            try clear c25
            try clear hcz10_0
            try clear hcz10_1
            try clear hcz10_2
            try clear hcz11_0
            try clear hcz11_1
            try clear hcz11_2
            try clear hcz15_0
            try clear hcz15_1
            try clear hcz15_2
            try clear hcz16_0
            try clear hcz16_1
            try clear hcz16_2
            try clear hcz19_0
            try clear hcz19_1
            try clear hcz19_2
            try clear hcz20_0
            try clear hcz20_1
            try clear hcz20_2
            try clear hcz22_0
            try clear hcz22_1
            try clear hcz22_2
            try clear hcz23_0
            try clear hcz23_1
            try clear hcz23_2
            try clear hcz26_0
            try clear hcz26_1
            try clear hcz26_2
            try clear hcz27_0
            try clear hcz27_1
            try clear hcz27_2
            try clear hcz8_0
            try clear hcz8_1
            try clear hcz8_2
            try clear hfz10_0
            try clear hfz10_1
            try clear hfz10_2
            try clear hfz11_0
            try clear hfz11_1
            try clear hfz11_2
            try clear hfz15_0
            try clear hfz15_1
            try clear hfz15_2
            try clear hfz16_0
            try clear hfz16_1
            try clear hfz16_2
            try clear hfz19_0
            try clear hfz19_1
            try clear hfz19_2
            try clear hfz20_0
            try clear hfz20_1
            try clear hfz20_2
            try clear hfz22_0
            try clear hfz22_1
            try clear hfz22_2
            try clear hfz23_0
            try clear hfz23_1
            try clear hfz23_2
            try clear hfz26_0
            try clear hfz26_1
            try clear hfz26_2
            try clear hfz27_0
            try clear hfz27_1
            try clear hfz27_2
            try clear hfz8_0
            try clear hfz8_1
            try clear hfz8_2
            try clear p2
            obtain ⟨x6_2, rfl, HA, HK2, BK377, BK378, HB⟩ := hrel
            cases gk with
            | zero => exact absurd HA.out (by simp [abacusref08_size.l0])
            | succ k2 =>
              have H := HA.out
              clear HA
              simp only [abacusref08_size.l0] at H
              have HC28 := Aside0.mk H
              clear H
              go_upto_region 13 with (fail)
              go_cut [60] (fun v60 wc => ∃ (kq : Nat) (x60_27 : Bool), v60 = .bool x60_27 ∧ Aside0 (abacusref08_size.j2 kq x6_2 x60_27 a0_0 a0_1 a0_2 a1_0 a1_1 a1_2 = some r) ∧ Aside0 (kq ≤ k2) ∧ Aside0 (wc.heap[gb377]? = some (.cells #[.bool a0_0, .string a0_1, .int .i64 a0_2] 23 (0, 0))) ∧ Aside0 (wc.heap[gb378]? = some (.cells #[.bool a1_0, .string a1_1, .int .i64 a1_2] 23 (0, 0))) ∧ Aside0 (Below w.heap.size w wc))
              case first =>
                have H := HC28.out
                clear HC28
                by_cases c29 : x6_2 ≥ a0_2
                · rw [if_pos c29] at H
                  have c29b0 : decide (a0_2 ≤ x6_2) = true := decide_eq_true c29
                  clear c29
                  (first | rw [c29b0] | (simp only [i64_w, i32_w]; rw [c29b0]) | skip)
                  have H' := Aside0.mk H
                  clear H
                  have hnb30 := NB377_378.out
                  have hnc30 := NB378_377.out
                  have hcz31_0 : wr.cell? ⟨gb377, 0, none⟩ = some (.bool a0_0) := (blk_cell BK377.out 0).trans rfl
                  have hcz31_1 : wr.cell? ⟨gb377, 1, none⟩ = some (.string a0_1) := (blk_cell BK377.out 1).trans rfl
                  have hcz31_2 : wr.cell? ⟨gb377, 2, none⟩ = some (.int .i64 a0_2) := (blk_cell BK377.out 2).trans rfl
                  have hfz31_0 := blk_frozen BK377.out 0
                  have hfz31_1 := blk_frozen BK377.out 1
                  have hfz31_2 := blk_frozen BK377.out 2
                  go_wp2
                  go_meet
                  case rel => exact ⟨_, (true), (by first | rfl | (simp; done) | (simp [*]; done)), H', ⟨by have := HJ2.out; have := HK2.out; first | omega | exact Nat.le_refl _⟩, ⟨by (with_reducible repeat (first | refine blk_drewN ?_ _ | refine blk_drew ?_ | refine blk_alloc ?_ _)); exact BK377.out⟩, ⟨by (with_reducible repeat (first | refine blk_drewN ?_ _ | refine blk_drew ?_ | refine blk_alloc ?_ _)); exact BK378.out⟩, ⟨by repeat (first | (with_reducible first | exact HB.out | apply below_alloc | apply pw_below_drewN | apply below_drew1 | refine below_set ?_ GE377.out | refine below_set ?_ GE378.out) | exact HB.out)⟩⟩
                · rw [if_neg c29] at H
                  have c29b0 : decide (a0_2 ≤ x6_2) = false := decide_eq_false c29
                  clear c29
                  (first | rw [c29b0] | (simp only [i64_w, i32_w]; rw [c29b0]) | skip)
                  have H' := Aside0.mk H
                  clear H
                  have hnb32 := NB377_378.out
                  have hnc32 := NB378_377.out
                  have hcz33_0 : wr.cell? ⟨gb377, 0, none⟩ = some (.bool a0_0) := (blk_cell BK377.out 0).trans rfl
                  have hcz33_1 : wr.cell? ⟨gb377, 1, none⟩ = some (.string a0_1) := (blk_cell BK377.out 1).trans rfl
                  have hcz33_2 : wr.cell? ⟨gb377, 2, none⟩ = some (.int .i64 a0_2) := (blk_cell BK377.out 2).trans rfl
                  have hfz33_0 := blk_frozen BK377.out 0
                  have hfz33_1 := blk_frozen BK377.out 1
                  have hfz33_2 := blk_frozen BK377.out 2
                  have hcz34_0 : wr.cell? ⟨gb378, 0, none⟩ = some (.bool a1_0) := (blk_cell BK378.out 0).trans rfl
                  have hcz34_1 : wr.cell? ⟨gb378, 1, none⟩ = some (.string a1_1) := (blk_cell BK378.out 1).trans rfl
                  have hcz34_2 : wr.cell? ⟨gb378, 2, none⟩ = some (.int .i64 a1_2) := (blk_cell BK378.out 2).trans rfl
                  have hfz34_0 := blk_frozen BK378.out 0
                  have hfz34_1 := blk_frozen BK378.out 1
                  have hfz34_2 := blk_frozen BK378.out 2
                  go_wp2
                  go_meet
                  case rel => exact ⟨_, (decide (x6_2 ≥ a1_2)), (by first | rfl | (simp; done) | (simp [*]; done)), H', ⟨by have := HJ2.out; have := HK2.out; first | omega | exact Nat.le_refl _⟩, ⟨by (with_reducible repeat (first | refine blk_drewN ?_ _ | refine blk_drew ?_ | refine blk_alloc ?_ _)); exact BK377.out⟩, ⟨by (with_reducible repeat (first | refine blk_drewN ?_ _ | refine blk_drew ?_ | refine blk_alloc ?_ _)); exact BK378.out⟩, ⟨by repeat (first | (with_reducible first | exact HB.out | apply below_alloc | apply pw_below_drewN | apply below_drew1 | refine below_set ?_ GE377.out | refine below_set ?_ GE378.out) | exact HB.out)⟩⟩
              case rest =>
                clear HC28
                try clear c1
                try clear c2
                try clear p2
                try clear c3
                try clear c5
                try clear c6
                try clear c6b0
                try clear c6b1
                try clear p6
                try clear c7
                try clear c9
                try clear c12
                try clear c13
                try clear c13b0
                try clear c13b1
                try clear c14
                try clear c17
                try clear c17b0
                try clear c17b1
                try clear c18
                try clear c21
                try clear c24
                try clear c24b0
                try clear c24b1
                try clear c25
                try clear c29
                try clear c29b0
                try clear c30
                try clear c32
                try clear hcz10_0
                try clear hcz10_1
                try clear hcz10_2
                try clear hcz11_0
                try clear hcz11_1
                try clear hcz11_2
                try clear hcz15_0
                try clear hcz15_1
                try clear hcz15_2
                try clear hcz16_0
                try clear hcz16_1
                try clear hcz16_2
                try clear hcz19_0
                try clear hcz19_1
                try clear hcz19_2
                try clear hcz20_0
                try clear hcz20_1
                try clear hcz20_2
                try clear hcz22_0
                try clear hcz22_1
                try clear hcz22_2
                try clear hcz23_0
                try clear hcz23_1
                try clear hcz23_2
                try clear hcz26_0
                try clear hcz26_1
                try clear hcz26_2
                try clear hcz27_0
                try clear hcz27_1
                try clear hcz27_2
                try clear hcz31_0
                try clear hcz31_1
                try clear hcz31_2
                try clear hcz33_0
                try clear hcz33_1
                try clear hcz33_2
                try clear hcz34_0
                try clear hcz34_1
                try clear hcz34_2
                try clear hcz8_0
                try clear hcz8_1
                try clear hcz8_2
                try clear hfz10_0
                try clear hfz10_1
                try clear hfz10_2
                try clear hfz11_0
                try clear hfz11_1
                try clear hfz11_2
                try clear hfz15_0
                try clear hfz15_1
                try clear hfz15_2
                try clear hfz16_0
                try clear hfz16_1
                try clear hfz16_2
                try clear hfz19_0
                try clear hfz19_1
                try clear hfz19_2
                try clear hfz20_0
                try clear hfz20_1
                try clear hfz20_2
                try clear hfz22_0
                try clear hfz22_1
                try clear hfz22_2
                try clear hfz23_0
                try clear hfz23_1
                try clear hfz23_2
                try clear hfz26_0
                try clear hfz26_1
                try clear hfz26_2
                try clear hfz27_0
                try clear hfz27_1
                try clear hfz27_2
                try clear hfz31_0
                try clear hfz31_1
                try clear hfz31_2
                try clear hfz33_0
                try clear hfz33_1
                try clear hfz33_2
                try clear hfz34_0
                try clear hfz34_1
                try clear hfz34_2
                try clear hfz8_0
                try clear hfz8_1
                try clear hfz8_2
                try clear p2
                try clear p6
                obtain ⟨kq, x60_27, rfl, HA, HJ27, BK377, BK378, HB⟩ := hcut
                cases kq with
                | zero => exact absurd HA.out (by simp [abacusref08_size.j2])
                | succ kj27 =>
                  have H := HA.out
                  clear HA
                  simp only [abacusref08_size.j2] at H
                  by_cases c35 : x60_27 = true
                  · subst c35
                    have H1 : ((abacusref08_digit.f a0_0 a0_1 a0_2 x6_2).bind fun t379 => ((abacusref08_digit.f a1_0 a1_1 a1_2 x6_2).bind fun t380 => (if t379 = t380 then (abacusref08_size.l0 kj27 (wrap64 (x6_2 - 1)) a0_0 a0_1 a0_2 a1_0 a1_1 a1_2) else (if t379 < t380 then (some (-1)) else (some 1))))) = some r := by rw [if_pos rfl] at H; exact H
                    clear H
                    have H := H1
                    clear H1
                    replace H := Option.bind_eq_some_iff.mp H
                    obtain ⟨t379, A360, H⟩ := H
                    replace H : ((abacusref08_digit.f a1_0 a1_1 a1_2 x6_2).bind fun t380 => (if t379 = t380 then (abacusref08_size.l0 kj27 (wrap64 (x6_2 - 1)) a0_0 a0_1 a0_2 a1_0 a1_1 a1_2) else (if t379 < t380 then (some (-1)) else (some 1)))) = some r := H
                    have A36 := Aside0.mk A360
                    clear A360
                    replace H := Option.bind_eq_some_iff.mp H
                    obtain ⟨t380, A370, H⟩ := H
                    replace H : (if t379 = t380 then (abacusref08_size.l0 kj27 (wrap64 (x6_2 - 1)) a0_0 a0_1 a0_2 a1_0 a1_1 a1_2) else (if t379 < t380 then (some (-1)) else (some 1))) = some r := H
                    have A37 := Aside0.mk A370
                    clear A370
                    by_cases c38 : t379 = t380
                    · rw [if_pos c38] at H
                      have c38b0 : (t379 == t380) = true := beq_iff_eq.mpr c38
                      have c38b1 : (t379 != t380) = false := bne_eq_false_iff_eq.mpr c38
                      clear c38
                      have H' := Aside0.mk H
                      clear H
                      have hnb39 := NB377_378.out
                      have hnc39 := NB378_377.out
                      have hcz40_0 : wc.cell? ⟨gb377, 0, none⟩ = some (.bool a0_0) := (blk_cell BK377.out 0).trans rfl
                      have hcz40_1 : wc.cell? ⟨gb377, 1, none⟩ = some (.string a0_1) := (blk_cell BK377.out 1).trans rfl
                      have hcz40_2 : wc.cell? ⟨gb377, 2, none⟩ = some (.int .i64 a0_2) := (blk_cell BK377.out 2).trans rfl
                      have hfz40_0 := blk_frozen BK377.out 0
                      have hfz40_1 := blk_frozen BK377.out 1
                      have hfz40_2 := blk_frozen BK377.out 2
                      go_wp2_with (first | ((with_reducible refine gate_callee (f := 65) rfl ?_); refine goesL_ (some 65) rfl rfl Tryd.func65 (by kernel_rfl) rfl #[.agg #[.bool a0_0, .string a0_1, .int .i64 a0_2], .int .i64 x6_2] rfl (by (try simp only [List.map_toArray, List.map_cons, List.map_nil]); first | done | rfl | (simp only [List.length_drop, List.length_take]; rfl)) ?_; (with_reducible refine (abacusref08_digit.calls a0_0 a0_1 a0_2 x6_2 t379 _ A36.out).mono ?_); rintro e w41 ⟨rfl, hb⟩; refine ⟨_, rfl, ?_⟩; have n0_ := Aside0.mk (blk_below (g := gb377) (o := .cells #[.bool a0_0, .string a0_1, .int .i64 a0_2] 23 (0, 0)) (by (with_reducible repeat (first | refine blk_drewN ?_ _ | refine blk_drew ?_ | refine blk_alloc ?_ _)); exact BK377.out) hb); have n1_ := Aside0.mk (blk_below (g := gb378) (o := .cells #[.bool a1_0, .string a1_1, .int .i64 a1_2] 23 (0, 0)) (by (with_reducible repeat (first | refine blk_drewN ?_ _ | refine blk_drew ?_ | refine blk_alloc ?_ _)); exact BK378.out) hb); have n2_ := Aside0.mk (below_step (by repeat (first | (with_reducible first | exact HB.out | apply below_alloc | apply pw_below_drewN | apply below_drew1 | refine below_set ?_ GE377.out | refine below_set ?_ GE378.out) | exact HB.out)) hb); clear BK377; clear BK378; clear HB; have BK377 := n0_; have BK378 := n1_; have HB := n2_; clear n0_ n1_ n2_; (try clear hb); (try clear hb2); (try clear hk); (try clear hi); have hcz42_0 : w41.cell? ⟨gb378, 0, none⟩ = some (.bool a1_0) := (blk_cell BK378.out 0).trans rfl; have hcz42_1 : w41.cell? ⟨gb378, 1, none⟩ = some (.string a1_1) := (blk_cell BK378.out 1).trans rfl; have hcz42_2 : w41.cell? ⟨gb378, 2, none⟩ = some (.int .i64 a1_2) := (blk_cell BK378.out 2).trans rfl; have hfz42_0 := blk_frozen BK378.out 0; have hfz42_1 := blk_frozen BK378.out 1; have hfz42_2 := blk_frozen BK378.out 2) | ((with_reducible refine gate_callee (f := 65) rfl ?_); refine goesL_ (some 68) rfl rfl Tryd.func65 (by kernel_rfl) rfl #[.agg #[.bool a1_0, .string a1_1, .int .i64 a1_2], .int .i64 x6_2] rfl (by (try simp only [List.map_toArray, List.map_cons, List.map_nil]); first | done | rfl | (simp only [List.length_drop, List.length_take]; rfl)) ?_; (with_reducible refine (abacusref08_digit.calls a1_0 a1_1 a1_2 x6_2 t380 _ A37.out).mono ?_); rintro e w43 ⟨rfl, hb⟩; refine ⟨_, rfl, ?_⟩; have n0_ := Aside0.mk (blk_below (g := gb377) (o := .cells #[.bool a0_0, .string a0_1, .int .i64 a0_2] 23 (0, 0)) (by (with_reducible repeat (first | refine blk_drewN ?_ _ | refine blk_drew ?_ | refine blk_alloc ?_ _)); exact BK377.out) hb); have n1_ := Aside0.mk (blk_below (g := gb378) (o := .cells #[.bool a1_0, .string a1_1, .int .i64 a1_2] 23 (0, 0)) (by (with_reducible repeat (first | refine blk_drewN ?_ _ | refine blk_drew ?_ | refine blk_alloc ?_ _)); exact BK378.out) hb); have n2_ := Aside0.mk (below_step (by repeat (first | (with_reducible first | exact HB.out | apply below_alloc | apply pw_below_drewN | apply below_drew1 | refine below_set ?_ GE377.out | refine below_set ?_ GE378.out) | exact HB.out)) hb); clear BK377; clear BK378; clear HB; have BK377 := n0_; have BK378 := n1_; have HB := n2_; clear n0_ n1_ n2_; (try clear hb); (try clear hb2); (try clear hk); (try clear hi)))
                      go_roundg kj27
                      case measure => have := HJ2.out; have := HK2.out; have := HJ27.out; omega
                      case rel => exact ⟨(wrap64 (x6_2 - 1)), (by first | rfl | (simp; done) | (simp [*]; done)), H', ⟨by have := HJ2.out; have := HK2.out; have := HJ27.out; omega⟩, ⟨by (with_reducible repeat (first | refine blk_drewN ?_ _ | refine blk_drew ?_ | refine blk_alloc ?_ _)); exact BK377.out⟩, ⟨by (with_reducible repeat (first | refine blk_drewN ?_ _ | refine blk_drew ?_ | refine blk_alloc ?_ _)); exact BK378.out⟩, ⟨by repeat (first | (with_reducible first | exact HB.out | apply below_alloc | apply pw_below_drewN | apply below_drew1 | refine below_set ?_ GE377.out | refine below_set ?_ GE378.out) | exact HB.out)⟩⟩
                    · rw [if_neg c38] at H
                      have c38b0 : (t379 == t380) = false := beq_eq_false_iff_ne.mpr c38
                      have c38b1 : (t379 != t380) = true := bne_iff_ne.mpr c38
                      by_cases c44 : t379 < t380
                      · rw [if_pos c44] at H
                        have c44b0 : decide (t379 < t380) = true := decide_eq_true c44
                        clear c44
                        obtain rfl := Option.some.inj H
                        have hnb45 := NB377_378.out
                        have hnc45 := NB378_377.out
                        have hcz46_0 : wc.cell? ⟨gb377, 0, none⟩ = some (.bool a0_0) := (blk_cell BK377.out 0).trans rfl
                        have hcz46_1 : wc.cell? ⟨gb377, 1, none⟩ = some (.string a0_1) := (blk_cell BK377.out 1).trans rfl
                        have hcz46_2 : wc.cell? ⟨gb377, 2, none⟩ = some (.int .i64 a0_2) := (blk_cell BK377.out 2).trans rfl
                        have hfz46_0 := blk_frozen BK377.out 0
                        have hfz46_1 := blk_frozen BK377.out 1
                        have hfz46_2 := blk_frozen BK377.out 2
                        go_wp2_with (first | ((with_reducible refine gate_callee (f := 65) rfl ?_); refine goesL_ (some 65) rfl rfl Tryd.func65 (by kernel_rfl) rfl #[.agg #[.bool a0_0, .string a0_1, .int .i64 a0_2], .int .i64 x6_2] rfl (by (try simp only [List.map_toArray, List.map_cons, List.map_nil]); first | done | rfl | (simp only [List.length_drop, List.length_take]; rfl)) ?_; (with_reducible refine (abacusref08_digit.calls a0_0 a0_1 a0_2 x6_2 t379 _ A36.out).mono ?_); rintro e w47 ⟨rfl, hb⟩; refine ⟨_, rfl, ?_⟩; have n0_ := Aside0.mk (blk_below (g := gb377) (o := .cells #[.bool a0_0, .string a0_1, .int .i64 a0_2] 23 (0, 0)) (by (with_reducible repeat (first | refine blk_drewN ?_ _ | refine blk_drew ?_ | refine blk_alloc ?_ _)); exact BK377.out) hb); have n1_ := Aside0.mk (blk_below (g := gb378) (o := .cells #[.bool a1_0, .string a1_1, .int .i64 a1_2] 23 (0, 0)) (by (with_reducible repeat (first | refine blk_drewN ?_ _ | refine blk_drew ?_ | refine blk_alloc ?_ _)); exact BK378.out) hb); have n2_ := Aside0.mk (below_step (by repeat (first | (with_reducible first | exact HB.out | apply below_alloc | apply pw_below_drewN | apply below_drew1 | refine below_set ?_ GE377.out | refine below_set ?_ GE378.out) | exact HB.out)) hb); clear BK377; clear BK378; clear HB; have BK377 := n0_; have BK378 := n1_; have HB := n2_; clear n0_ n1_ n2_; (try clear hb); (try clear hb2); (try clear hk); (try clear hi); have hcz48_0 : w47.cell? ⟨gb378, 0, none⟩ = some (.bool a1_0) := (blk_cell BK378.out 0).trans rfl; have hcz48_1 : w47.cell? ⟨gb378, 1, none⟩ = some (.string a1_1) := (blk_cell BK378.out 1).trans rfl; have hcz48_2 : w47.cell? ⟨gb378, 2, none⟩ = some (.int .i64 a1_2) := (blk_cell BK378.out 2).trans rfl; have hfz48_0 := blk_frozen BK378.out 0; have hfz48_1 := blk_frozen BK378.out 1; have hfz48_2 := blk_frozen BK378.out 2) | ((with_reducible refine gate_callee (f := 65) rfl ?_); refine goesL_ (some 68) rfl rfl Tryd.func65 (by kernel_rfl) rfl #[.agg #[.bool a1_0, .string a1_1, .int .i64 a1_2], .int .i64 x6_2] rfl (by (try simp only [List.map_toArray, List.map_cons, List.map_nil]); first | done | rfl | (simp only [List.length_drop, List.length_take]; rfl)) ?_; (with_reducible refine (abacusref08_digit.calls a1_0 a1_1 a1_2 x6_2 t380 _ A37.out).mono ?_); rintro e w49 ⟨rfl, hb⟩; refine ⟨_, rfl, ?_⟩; have n0_ := Aside0.mk (blk_below (g := gb377) (o := .cells #[.bool a0_0, .string a0_1, .int .i64 a0_2] 23 (0, 0)) (by (with_reducible repeat (first | refine blk_drewN ?_ _ | refine blk_drew ?_ | refine blk_alloc ?_ _)); exact BK377.out) hb); have n1_ := Aside0.mk (blk_below (g := gb378) (o := .cells #[.bool a1_0, .string a1_1, .int .i64 a1_2] 23 (0, 0)) (by (with_reducible repeat (first | refine blk_drewN ?_ _ | refine blk_drew ?_ | refine blk_alloc ?_ _)); exact BK378.out) hb); have n2_ := Aside0.mk (below_step (by repeat (first | (with_reducible first | exact HB.out | apply below_alloc | apply pw_below_drewN | apply below_drew1 | refine below_set ?_ GE377.out | refine below_set ?_ GE378.out) | exact HB.out)) hb); clear BK377; clear BK378; clear HB; have BK377 := n0_; have BK378 := n1_; have HB := n2_; clear n0_ n1_ n2_; (try clear hb); (try clear hb2); (try clear hk); (try clear hi)))
                        go_ret
                        exact ⟨by first | rfl | (simp [errW_none, errW_some] <;> rfl) | (simp [*, errW_none, errW_some] <;> rfl), by repeat (first | (with_reducible first | exact HB.out | apply below_alloc | apply pw_below_drewN | apply below_drew1 | refine below_set ?_ GE377.out | refine below_set ?_ GE378.out) | exact HB.out)⟩
                      · rw [if_neg c44] at H
                        have c44b0 : decide (t379 < t380) = false := decide_eq_false c44
                        clear c44
                        obtain rfl := Option.some.inj H
                        have hnb50 := NB377_378.out
                        have hnc50 := NB378_377.out
                        have hcz51_0 : wc.cell? ⟨gb377, 0, none⟩ = some (.bool a0_0) := (blk_cell BK377.out 0).trans rfl
                        have hcz51_1 : wc.cell? ⟨gb377, 1, none⟩ = some (.string a0_1) := (blk_cell BK377.out 1).trans rfl
                        have hcz51_2 : wc.cell? ⟨gb377, 2, none⟩ = some (.int .i64 a0_2) := (blk_cell BK377.out 2).trans rfl
                        have hfz51_0 := blk_frozen BK377.out 0
                        have hfz51_1 := blk_frozen BK377.out 1
                        have hfz51_2 := blk_frozen BK377.out 2
                        go_wp2_with (first | ((with_reducible refine gate_callee (f := 65) rfl ?_); refine goesL_ (some 65) rfl rfl Tryd.func65 (by kernel_rfl) rfl #[.agg #[.bool a0_0, .string a0_1, .int .i64 a0_2], .int .i64 x6_2] rfl (by (try simp only [List.map_toArray, List.map_cons, List.map_nil]); first | done | rfl | (simp only [List.length_drop, List.length_take]; rfl)) ?_; (with_reducible refine (abacusref08_digit.calls a0_0 a0_1 a0_2 x6_2 t379 _ A36.out).mono ?_); rintro e w52 ⟨rfl, hb⟩; refine ⟨_, rfl, ?_⟩; have n0_ := Aside0.mk (blk_below (g := gb377) (o := .cells #[.bool a0_0, .string a0_1, .int .i64 a0_2] 23 (0, 0)) (by (with_reducible repeat (first | refine blk_drewN ?_ _ | refine blk_drew ?_ | refine blk_alloc ?_ _)); exact BK377.out) hb); have n1_ := Aside0.mk (blk_below (g := gb378) (o := .cells #[.bool a1_0, .string a1_1, .int .i64 a1_2] 23 (0, 0)) (by (with_reducible repeat (first | refine blk_drewN ?_ _ | refine blk_drew ?_ | refine blk_alloc ?_ _)); exact BK378.out) hb); have n2_ := Aside0.mk (below_step (by repeat (first | (with_reducible first | exact HB.out | apply below_alloc | apply pw_below_drewN | apply below_drew1 | refine below_set ?_ GE377.out | refine below_set ?_ GE378.out) | exact HB.out)) hb); clear BK377; clear BK378; clear HB; have BK377 := n0_; have BK378 := n1_; have HB := n2_; clear n0_ n1_ n2_; (try clear hb); (try clear hb2); (try clear hk); (try clear hi); have hcz53_0 : w52.cell? ⟨gb378, 0, none⟩ = some (.bool a1_0) := (blk_cell BK378.out 0).trans rfl; have hcz53_1 : w52.cell? ⟨gb378, 1, none⟩ = some (.string a1_1) := (blk_cell BK378.out 1).trans rfl; have hcz53_2 : w52.cell? ⟨gb378, 2, none⟩ = some (.int .i64 a1_2) := (blk_cell BK378.out 2).trans rfl; have hfz53_0 := blk_frozen BK378.out 0; have hfz53_1 := blk_frozen BK378.out 1; have hfz53_2 := blk_frozen BK378.out 2) | ((with_reducible refine gate_callee (f := 65) rfl ?_); refine goesL_ (some 68) rfl rfl Tryd.func65 (by kernel_rfl) rfl #[.agg #[.bool a1_0, .string a1_1, .int .i64 a1_2], .int .i64 x6_2] rfl (by (try simp only [List.map_toArray, List.map_cons, List.map_nil]); first | done | rfl | (simp only [List.length_drop, List.length_take]; rfl)) ?_; (with_reducible refine (abacusref08_digit.calls a1_0 a1_1 a1_2 x6_2 t380 _ A37.out).mono ?_); rintro e w54 ⟨rfl, hb⟩; refine ⟨_, rfl, ?_⟩; have n0_ := Aside0.mk (blk_below (g := gb377) (o := .cells #[.bool a0_0, .string a0_1, .int .i64 a0_2] 23 (0, 0)) (by (with_reducible repeat (first | refine blk_drewN ?_ _ | refine blk_drew ?_ | refine blk_alloc ?_ _)); exact BK377.out) hb); have n1_ := Aside0.mk (blk_below (g := gb378) (o := .cells #[.bool a1_0, .string a1_1, .int .i64 a1_2] 23 (0, 0)) (by (with_reducible repeat (first | refine blk_drewN ?_ _ | refine blk_drew ?_ | refine blk_alloc ?_ _)); exact BK378.out) hb); have n2_ := Aside0.mk (below_step (by repeat (first | (with_reducible first | exact HB.out | apply below_alloc | apply pw_below_drewN | apply below_drew1 | refine below_set ?_ GE377.out | refine below_set ?_ GE378.out) | exact HB.out)) hb); clear BK377; clear BK378; clear HB; have BK377 := n0_; have BK378 := n1_; have HB := n2_; clear n0_ n1_ n2_; (try clear hb); (try clear hb2); (try clear hk); (try clear hi)))
                        go_ret
                        exact ⟨by first | rfl | (simp [errW_none, errW_some] <;> rfl) | (simp [*, errW_none, errW_some] <;> rfl), by repeat (first | (with_reducible first | exact HB.out | apply below_alloc | apply pw_below_drewN | apply below_drew1 | refine below_set ?_ GE377.out | refine below_set ?_ GE378.out) | exact HB.out)⟩
                  · replace c35 := Bool.eq_false_iff.mpr c35
                    subst c35
                    have H1 : (some 0) = some r := by rw [if_neg (show ¬ (false = true) by decide)] at H; exact H
                    clear H
                    have H := H1
                    clear H1
                    obtain rfl := Option.some.inj H
                    go_wp2
                    go_ret
                    exact ⟨by first | rfl | (simp [errW_none, errW_some] <;> rfl) | (simp [*, errW_none, errW_some] <;> rfl), by repeat (first | (with_reducible first | exact HB.out | apply below_alloc | apply pw_below_drewN | apply below_drew1 | refine below_set ?_ GE377.out | refine below_set ?_ GE378.out) | exact HB.out)⟩
        · rw [if_neg c24] at H
          have c24b0 : ((wrap64 (a1_2 + (a1_1.size : Int))) == (wrap64 (a0_2 + (a0_1.size : Int)))) = false := beq_eq_false_iff_ne.mpr c24
          have c24b1 : ((wrap64 (a1_2 + (a1_1.size : Int))) != (wrap64 (a0_2 + (a0_1.size : Int)))) = true := bne_iff_ne.mpr c24
          by_cases c55 : (wrap64 (a0_2 + (a0_1.size : Int))) < (wrap64 (a1_2 + (a1_1.size : Int)))
          · rw [if_pos c55] at H
            have c55b0 : decide ((wrap64 (a0_2 + (a0_1.size : Int))) < (wrap64 (a1_2 + (a1_1.size : Int)))) = true := decide_eq_true c55
            clear c55
            obtain rfl := Option.some.inj H
            have hnb56 := NB377_378.out
            have hnc56 := NB378_377.out
            have hcz57_0 : wc.cell? ⟨gb377, 0, none⟩ = some (.bool a0_0) := (blk_cell BK377.out 0).trans rfl
            have hcz57_1 : wc.cell? ⟨gb377, 1, none⟩ = some (.string a0_1) := (blk_cell BK377.out 1).trans rfl
            have hcz57_2 : wc.cell? ⟨gb377, 2, none⟩ = some (.int .i64 a0_2) := (blk_cell BK377.out 2).trans rfl
            have hfz57_0 := blk_frozen BK377.out 0
            have hfz57_1 := blk_frozen BK377.out 1
            have hfz57_2 := blk_frozen BK377.out 2
            have hcz58_0 : wc.cell? ⟨gb378, 0, none⟩ = some (.bool a1_0) := (blk_cell BK378.out 0).trans rfl
            have hcz58_1 : wc.cell? ⟨gb378, 1, none⟩ = some (.string a1_1) := (blk_cell BK378.out 1).trans rfl
            have hcz58_2 : wc.cell? ⟨gb378, 2, none⟩ = some (.int .i64 a1_2) := (blk_cell BK378.out 2).trans rfl
            have hfz58_0 := blk_frozen BK378.out 0
            have hfz58_1 := blk_frozen BK378.out 1
            have hfz58_2 := blk_frozen BK378.out 2
            go_wp2
            go_ret
            exact ⟨by first | rfl | (simp [errW_none, errW_some] <;> rfl) | (simp [*, errW_none, errW_some] <;> rfl), by repeat (first | (with_reducible first | exact HB.out | apply below_alloc | apply pw_below_drewN | apply below_drew1 | refine below_set ?_ GE377.out | refine below_set ?_ GE378.out) | exact HB.out)⟩
          · rw [if_neg c55] at H
            have c55b0 : decide ((wrap64 (a0_2 + (a0_1.size : Int))) < (wrap64 (a1_2 + (a1_1.size : Int)))) = false := decide_eq_false c55
            clear c55
            obtain rfl := Option.some.inj H
            have hnb59 := NB377_378.out
            have hnc59 := NB378_377.out
            have hcz60_0 : wc.cell? ⟨gb377, 0, none⟩ = some (.bool a0_0) := (blk_cell BK377.out 0).trans rfl
            have hcz60_1 : wc.cell? ⟨gb377, 1, none⟩ = some (.string a0_1) := (blk_cell BK377.out 1).trans rfl
            have hcz60_2 : wc.cell? ⟨gb377, 2, none⟩ = some (.int .i64 a0_2) := (blk_cell BK377.out 2).trans rfl
            have hfz60_0 := blk_frozen BK377.out 0
            have hfz60_1 := blk_frozen BK377.out 1
            have hfz60_2 := blk_frozen BK377.out 2
            have hcz61_0 : wc.cell? ⟨gb378, 0, none⟩ = some (.bool a1_0) := (blk_cell BK378.out 0).trans rfl
            have hcz61_1 : wc.cell? ⟨gb378, 1, none⟩ = some (.string a1_1) := (blk_cell BK378.out 1).trans rfl
            have hcz61_2 : wc.cell? ⟨gb378, 2, none⟩ = some (.int .i64 a1_2) := (blk_cell BK378.out 2).trans rfl
            have hfz61_0 := blk_frozen BK378.out 0
            have hfz61_1 := blk_frozen BK378.out 1
            have hfz61_2 := blk_frozen BK378.out 2
            go_wp2
            go_ret
            exact ⟨by first | rfl | (simp [errW_none, errW_some] <;> rfl) | (simp [*, errW_none, errW_some] <;> rfl), by repeat (first | (with_reducible first | exact HB.out | apply below_alloc | apply pw_below_drewN | apply below_drew1 | refine below_set ?_ GE377.out | refine below_set ?_ GE378.out) | exact HB.out)⟩

end Go.Proofs.YtcgjfckhnpimbaaDoor.EScan
end
