/-
  Several texts of this session's own in one: ECcx3 ECcx5 ECcx6.
-/
import Derived.Test.YtdkejcadoepnnaaDoorBkA0
import Derived.Test.YtdkejcadoepnnaaDoorBkECcx0
import Derived.Test.YtdkejcadoepnnaaDoorBkECrx4
set_option linter.unusedSimpArgs false
section
namespace Go.Proofs.YtdkejcadoepnnaaDoor.ECc
open Go.RowKit Go.Proofs.YtdkejcadoepnnaaDoorW.PrintWords Go.Proofs.YtdkejcadoepnnaaDoorW.PrintLast Go.Proofs.YtdkejcadoepnnaaDoorW.PrintMore
attribute [local go_sem] max2_int min2_int max_two min_two max_three min_three max_four min_four
set_option linter.unusedVariables false
def c_row_effect.f (a0_0 : ByteArray) (a0_1 : Int) (a0_2 : Int) (a0_3 : Int) (a0_4 : Int) (a1_0 : Int) (a1_1 : Int) (a1_2 : Int) : Option (Int × Int) := if a0_3 = (-1) then (some (a1_1, a0_4)) else (if a0_3 = (-2) then (some (a1_2, a0_4)) else (some (a0_3, a0_4)))
set_option maxHeartbeats 8000000 in
set_option maxRecDepth 100000 in
theorem c_row_effect.calls (a0_0 : ByteArray) (a0_1 : Int) (a0_2 : Int) (a0_3 : Int) (a0_4 : Int) (a1_0 : Int) (a1_1 : Int) (a1_2 : Int) (r1 : Int) (r2 : Int) (w : World) (h : c_row_effect.f a0_0 a0_1 a0_2 a0_3 a0_4 a1_0 a1_1 a1_2 = some (r1, r2)) :
  Calls Tryd.prog 27 #[.agg #[.string a0_0, .int .i64 a0_1, .int .i64 a0_2, .int .i64 a0_3, .int .i64 a0_4], .agg #[.int .i64 a1_0, .int .i64 a1_1, .int .i64 a1_2]] w fun e w' => e = .returned (.tuple #[.int .i64 r1, .int .i64 r2]) ∧ Below w.heap.size w w' := by
 have hu72 := Tryd.underlying72
 have hu41 := Tryd.underlying41
 have HB := am (Below.refl w.heap.size w)
 have H : (if a0_3 = (-1) then (some (a1_1, a0_4)) else (if a0_3 = (-2) then (some (a1_2, a0_4)) else (some (a0_3, a0_4)))) = some (r1, r2) := h
 clear h
 by_cases c3 : a0_3 = (-1)
 ·rw [if_pos c3] at H
  have c3b0 : (a0_3 == (-1)) = true := beq_iff_eq.mpr c3
  have c3b1 : (a0_3 != (-1)) = false := bne_eq_false_iff_eq.mpr c3
  clear c3
  simp only [Option.some.injEq, Prod.mk.injEq] at H
  obtain ⟨rfl, rfl⟩ := H
  go_enter Tryd.func27, Tryd.ntmps27
  go_wp2_with (first | ((with_reducible refine gate_dst (N := 2) rfl ?_); refine box_event ?hg (N := 2) ?hd (cs := #[.string a0_0, .int .i64 a0_1, .int .i64 a0_2, .int .i64 a0_3, .int .i64 a0_4]) (t := 72) ?hr ?_; (case hd => rfl); (case hg => rfl); (case hr => first | (go_simp; done) | (go_simp; rfl)); intro gb101 hg w4 hbox hb; have n0_ := am (below_step bl hb); have n1_ := am (hbox); have n2_ := am ((by rw [hg]; exact (below_size bl) : w.heap.size ≤ gb101)); have n3_ := n2_; clear HB; have HB := n0_; have BK101 := n1_; have GW101 := n2_; have GE101 := n3_; clear n0_ n1_ n2_ n3_; clear hb hbox hg) | ((with_reducible refine gate_dst (N := 3) rfl ?_); refine box_event ?hg (N := 3) ?hd (cs := #[.int .i64 a1_0, .int .i64 a1_1, .int .i64 a1_2]) (t := 41) ?hr ?_; (case hd => rfl); (case hg => rfl); (case hr => first | (go_simp; done) | (go_simp; rfl)); intro gb102 hg w5 hbox hb; have n0_ := am (blk_below (bu BK101.out) hb); have n1_ := am (below_step bs hb); have n2_ := am (hbox); have n3_ := am ((by rw [hg]; exact (below_size bs) : w.heap.size ≤ gb102)); have n4_ := am ((by rw [hg]; exact (below_size bs) : w.heap.size ≤ gb102)); have n5_ := am ((by rw [hg]; exact Nat.ne_of_lt (blk_lt (bu BK101.out)) : gb101 ≠ gb102)); have n6_ := am ((by rw [hg]; exact Nat.ne_of_gt (blk_lt (bu BK101.out)) : gb102 ≠ gb101)); clear BK101; clear HB; have BK101 := n0_; have HB := n1_; have BK102 := n2_; have GW102 := n3_; have GE102 := n4_; have NB101_102 := n5_; have NB102_101 := n6_; clear n0_ n1_ n2_ n3_ n4_ n5_ n6_; clear hb hbox hg; have hnb6 := NB101_102.out; have hnc6 := NB102_101.out; obtain ⟨⟨hcz7_0, hcz7_1, hcz7_2, hcz7_3, hcz7_4⟩, hfz7_0, hfz7_1, hfz7_2, hfz7_3, hfz7_4⟩ := blkAll5 BK101; obtain ⟨⟨hcz8_0, hcz8_1, hcz8_2⟩, hfz8_0, hfz8_1, hfz8_2⟩ := blkAll3 BK102))
  repeat (go_quiet (fail); try go_wp2)
  go_ret2
  exact ⟨er, bs⟩
 rw [if_neg c3] at H
 have c3b0 : (a0_3 == (-1)) = false := beq_eq_false_iff_ne.mpr c3
 have c3b1 : (a0_3 != (-1)) = true := bne_iff_ne.mpr c3
 by_cases c9 : a0_3 = (-2)
 rotate_left
 ·rw [if_neg c9] at H
  have c9b0 : (a0_3 == (-2)) = false := beq_eq_false_iff_ne.mpr c9
  have c9b1 : (a0_3 != (-2)) = true := bne_iff_ne.mpr c9
  simp only [Option.some.injEq, Prod.mk.injEq] at H
  obtain ⟨rfl, rfl⟩ := H
  go_enter Tryd.func27, Tryd.ntmps27
  go_wp2_with (first | ((with_reducible refine gate_dst (N := 2) rfl ?_); refine box_event ?hg (N := 2) ?hd (cs := #[.string a0_0, .int .i64 a0_1, .int .i64 a0_2, .int .i64 a0_3, .int .i64 a0_4]) (t := 72) ?hr ?_; (case hd => rfl); (case hg => rfl); (case hr => first | (go_simp; done) | (go_simp; rfl)); intro gb101 hg w15 hbox hb; have n0_ := am (below_step bl hb); have n1_ := am (hbox); have n2_ := am ((by rw [hg]; exact (below_size bl) : w.heap.size ≤ gb101)); have n3_ := n2_; clear HB; have HB := n0_; have BK101 := n1_; have GW101 := n2_; have GE101 := n3_; clear n0_ n1_ n2_ n3_; clear hb hbox hg) | ((with_reducible refine gate_dst (N := 3) rfl ?_); refine box_event ?hg (N := 3) ?hd (cs := #[.int .i64 a1_0, .int .i64 a1_1, .int .i64 a1_2]) (t := 41) ?hr ?_; (case hd => rfl); (case hg => rfl); (case hr => first | (go_simp; done) | (go_simp; rfl)); intro gb102 hg w16 hbox hb; have n0_ := am (blk_below (bu BK101.out) hb); have n1_ := am (below_step bs hb); have n2_ := am (hbox); have n3_ := am ((by rw [hg]; exact (below_size bs) : w.heap.size ≤ gb102)); have n4_ := am ((by rw [hg]; exact (below_size bs) : w.heap.size ≤ gb102)); have n5_ := am ((by rw [hg]; exact Nat.ne_of_lt (blk_lt (bu BK101.out)) : gb101 ≠ gb102)); have n6_ := am ((by rw [hg]; exact Nat.ne_of_gt (blk_lt (bu BK101.out)) : gb102 ≠ gb101)); clear BK101; clear HB; have BK101 := n0_; have HB := n1_; have BK102 := n2_; have GW102 := n3_; have GE102 := n4_; have NB101_102 := n5_; have NB102_101 := n6_; clear n0_ n1_ n2_ n3_ n4_ n5_ n6_; clear hb hbox hg; have hnb17 := NB101_102.out; have hnc17 := NB102_101.out; obtain ⟨⟨hcz18_0, hcz18_1, hcz18_2, hcz18_3, hcz18_4⟩, hfz18_0, hfz18_1, hfz18_2, hfz18_3, hfz18_4⟩ := blkAll5 BK101))
  repeat (go_quiet (fail); try go_wp2)
  go_ret2
  exact ⟨er, bs⟩
 rw [if_pos c9] at H
 have c9b0 : (a0_3 == (-2)) = true := beq_iff_eq.mpr c9
 have c9b1 : (a0_3 != (-2)) = false := bne_eq_false_iff_eq.mpr c9
 clear c9
 simp only [Option.some.injEq, Prod.mk.injEq] at H
 obtain ⟨rfl, rfl⟩ := H
 go_enter Tryd.func27, Tryd.ntmps27
 go_wp2_with (first | ((with_reducible refine gate_dst (N := 2) rfl ?_); refine box_event ?hg (N := 2) ?hd (cs := #[.string a0_0, .int .i64 a0_1, .int .i64 a0_2, .int .i64 a0_3, .int .i64 a0_4]) (t := 72) ?hr ?_; (case hd => rfl); (case hg => rfl); (case hr => first | (go_simp; done) | (go_simp; rfl)); intro gb101 hg w10 hbox hb; have n0_ := am (below_step bl hb); have n1_ := am (hbox); have n2_ := am ((by rw [hg]; exact (below_size bl) : w.heap.size ≤ gb101)); have n3_ := n2_; clear HB; have HB := n0_; have BK101 := n1_; have GW101 := n2_; have GE101 := n3_; clear n0_ n1_ n2_ n3_; clear hb hbox hg) | ((with_reducible refine gate_dst (N := 3) rfl ?_); refine box_event ?hg (N := 3) ?hd (cs := #[.int .i64 a1_0, .int .i64 a1_1, .int .i64 a1_2]) (t := 41) ?hr ?_; (case hd => rfl); (case hg => rfl); (case hr => first | (go_simp; done) | (go_simp; rfl)); intro gb102 hg w11 hbox hb; have n0_ := am (blk_below (bu BK101.out) hb); have n1_ := am (below_step bs hb); have n2_ := am (hbox); have n3_ := am ((by rw [hg]; exact (below_size bs) : w.heap.size ≤ gb102)); have n4_ := am ((by rw [hg]; exact (below_size bs) : w.heap.size ≤ gb102)); have n5_ := am ((by rw [hg]; exact Nat.ne_of_lt (blk_lt (bu BK101.out)) : gb101 ≠ gb102)); have n6_ := am ((by rw [hg]; exact Nat.ne_of_gt (blk_lt (bu BK101.out)) : gb102 ≠ gb101)); clear BK101; clear HB; have BK101 := n0_; have HB := n1_; have BK102 := n2_; have GW102 := n3_; have GE102 := n4_; have NB101_102 := n5_; have NB102_101 := n6_; clear n0_ n1_ n2_ n3_ n4_ n5_ n6_; clear hb hbox hg; have hnb12 := NB101_102.out; have hnc12 := NB102_101.out; obtain ⟨⟨hcz13_0, hcz13_1, hcz13_2, hcz13_3, hcz13_4⟩, hfz13_0, hfz13_1, hfz13_2, hfz13_3, hfz13_4⟩ := blkAll5 BK101; obtain ⟨⟨hcz14_0, hcz14_1, hcz14_2⟩, hfz14_0, hfz14_1, hfz14_2⟩ := blkAll3 BK102))
 repeat (go_quiet (fail); try go_wp2)
 go_ret2
 exact ⟨er, bs⟩
end Go.Proofs.YtdkejcadoepnnaaDoor.ECc
end
section
namespace Go.Proofs.YtdkejcadoepnnaaDoor.ECc
open Go.RowKit Go.Proofs.YtdkejcadoepnnaaDoorW.PrintWords Go.Proofs.YtdkejcadoepnnaaDoorW.PrintLast Go.Proofs.YtdkejcadoepnnaaDoorW.PrintMore
attribute [local go_sem] max2_int min2_int max_two min_two max_three min_three max_four min_four
set_option linter.unusedVariables false
def c_arity.j0 : Nat → Int → Bool → Option (Int × Int)
 | 0, _, _ => none
 | k + 1, x4, x5 => if x5 = true then (some (1, 1)) else (if x4 = 2 then (some (2, 3)) else (if x4 = 3 then (some (2, 2)) else (if x4 = 4 then (some (1, 32768)) else (if x4 = 12 then (some (1, 32768)) else (some (1, 0))))))
def c_arity.f (k : Nat) (a0 : Int) : Option (Int × Int) := if a0 = 1 then (c_arity.j0 k a0 (a0 == 1)) else (if a0 = 6 then (c_arity.j0 k a0 (a0 == 6)) else (if a0 = 7 then (c_arity.j0 k a0 (a0 == 7)) else (if a0 = 8 then (c_arity.j0 k a0 (a0 == 8)) else (c_arity.j0 k a0 (a0 == 9)))))
set_option maxHeartbeats 8000000 in
set_option maxRecDepth 100000 in
theorem c_arity.calls (k : Nat) (a0 : Int) (r1 : Int) (r2 : Int) (w : World) (h : c_arity.f k a0 = some (r1, r2)) :
  Calls Tryd.prog 66 #[.int .i64 a0] w fun e w' => e = .returned (.tuple #[.int .i64 r1, .int .i64 r2]) ∧ Drawn0 w w' := by
 have H : (if a0 = 1 then (c_arity.j0 k a0 (a0 == 1)) else (if a0 = 6 then (c_arity.j0 k a0 (a0 == 6)) else (if a0 = 7 then (c_arity.j0 k a0 (a0 == 7)) else (if a0 = 8 then (c_arity.j0 k a0 (a0 == 8)) else (c_arity.j0 k a0 (a0 == 9)))))) = some (r1, r2) := h
 clear h
 have HC2 := am H
 clear H
 go_enter Tryd.func66, Tryd.ntmps66
 go_upto_if 5 with (fail)
 go_cut [5] (fun v5 wc => ∃ (kq : Nat) (x5_1 : Bool), v5 = .bool x5_1 ∧ Aside0 (c_arity.j0 kq a0 x5_1 = some (r1, r2)) ∧ Aside0 (kq ≤ k) ∧ Drawn0 w wc)
 case first =>
  have H := HC2.out
  clear HC2
  by_cases c3 : a0 = 1
  ·rw [if_pos c3] at H
   have c3b0 : (a0 == 1) = true := beq_iff_eq.mpr c3
   have c3b1 : (a0 != 1) = false := bne_eq_false_iff_eq.mpr c3
   clear c3
   (first | rw [c3b0] | (simp only [i64_w, i32_w]; rw [c3b0]) | skip)
   have H' := am H
   clear H
   go_wp2
   go_meet
   case rel => exact ⟨_, ((a0 == 1)), tv, H', ⟨by first | omega | exact Nat.le_refl _⟩, by repeat (first | exact Drawn0.refl _ | apply Drawn0.step)⟩
  rw [if_neg c3] at H
  have c3b0 : (a0 == 1) = false := beq_eq_false_iff_ne.mpr c3
  have c3b1 : (a0 != 1) = true := bne_iff_ne.mpr c3
  (first | rw [c3b0] | (simp only [i64_w, i32_w]; rw [c3b0]) | skip)
  by_cases c4 : a0 = 6
  ·rw [if_pos c4] at H
   have c4b0 : (a0 == 6) = true := beq_iff_eq.mpr c4
   have c4b1 : (a0 != 6) = false := bne_eq_false_iff_eq.mpr c4
   clear c4
   have H' := am H
   clear H
   go_wp2
   go_meet
   case rel => exact ⟨_, ((a0 == 6)), tv, H', ⟨by first | omega | exact Nat.le_refl _⟩, by repeat (first | exact Drawn0.refl _ | apply Drawn0.step)⟩
  rw [if_neg c4] at H
  have c4b0 : (a0 == 6) = false := beq_eq_false_iff_ne.mpr c4
  have c4b1 : (a0 != 6) = true := bne_iff_ne.mpr c4
  by_cases c5 : a0 = 7
  ·rw [if_pos c5] at H
   have c5b0 : (a0 == 7) = true := beq_iff_eq.mpr c5
   have c5b1 : (a0 != 7) = false := bne_eq_false_iff_eq.mpr c5
   clear c5
   have H' := am H
   clear H
   go_wp2
   go_meet
   case rel => exact ⟨_, ((a0 == 7)), tv, H', ⟨by first | omega | exact Nat.le_refl _⟩, by repeat (first | exact Drawn0.refl _ | apply Drawn0.step)⟩
  rw [if_neg c5] at H
  have c5b0 : (a0 == 7) = false := beq_eq_false_iff_ne.mpr c5
  have c5b1 : (a0 != 7) = true := bne_iff_ne.mpr c5
  by_cases c6 : a0 = 8
  rotate_left
  ·rw [if_neg c6] at H
   have c6b0 : (a0 == 8) = false := beq_eq_false_iff_ne.mpr c6
   have c6b1 : (a0 != 8) = true := bne_iff_ne.mpr c6
   have H' := am H
   clear H
   go_wp2
   go_meet
   case rel => exact ⟨_, ((a0 == 9)), tv, H', ⟨by first | omega | exact Nat.le_refl _⟩, by repeat (first | exact Drawn0.refl _ | apply Drawn0.step)⟩
  rw [if_pos c6] at H
  have c6b0 : (a0 == 8) = true := beq_iff_eq.mpr c6
  have c6b1 : (a0 != 8) = false := bne_eq_false_iff_eq.mpr c6
  clear c6
  have H' := am H
  clear H
  go_wp2
  go_meet
  case rel => exact ⟨_, ((a0 == 8)), tv, H', ⟨by first | omega | exact Nat.le_refl _⟩, by repeat (first | exact Drawn0.refl _ | apply Drawn0.step)⟩
 case rest =>
  clear HC2
  try clear p2
  try clear c3
  try clear c3b0
  try clear c3b1
  try clear c4
  try clear c4b0
  try clear c4b1
  try clear c5
  try clear c5b0
  try clear c5b1
  try clear c6
  try clear c6b0
  try clear c6b1
  obtain ⟨kq, x5_1, rfl, HA, HJ1, ⟨mc1, rfl⟩⟩ := hcut
  cases kq with
  | zero => exact absurd HA.out (by simp [c_arity.j0])
  | succ kj1 =>
   have H := HA.out
   clear HA
   simp only [c_arity.j0] at H
   by_cases c7 : x5_1 = true
   ·subst c7
    have H1 : (some (1, 1)) = some (r1, r2) := by rw [if_pos rfl] at H; exact H
    clear H
    have H := H1
    clear H1
    simp only [Option.some.injEq, Prod.mk.injEq] at H
    obtain ⟨rfl, rfl⟩ := H
    go_wp2
    go_ret2
    exact ⟨by first | rfl | (simp; done) | (simp [*]; done), by repeat (first | exact Drawn0.refl _ | apply Drawn0.step)⟩
   replace c7 := Bool.eq_false_iff.mpr c7
   subst c7
   have H1 : (if a0 = 2 then (some (2, 3)) else (if a0 = 3 then (some (2, 2)) else (if a0 = 4 then (some (1, 32768)) else (if a0 = 12 then (some (1, 32768)) else (some (1, 0)))))) = some (r1, r2) := by rw [if_neg (show ¬ (false = true) by decide)] at H; exact H
   clear H
   have H := H1
   clear H1
   by_cases c8 : a0 = 2
   ·rw [if_pos c8] at H
    have c8b0 : (a0 == 2) = true := beq_iff_eq.mpr c8
    have c8b1 : (a0 != 2) = false := bne_eq_false_iff_eq.mpr c8
    clear c8
    simp only [Option.some.injEq, Prod.mk.injEq] at H
    obtain ⟨rfl, rfl⟩ := H
    go_wp2
    go_ret2
    exact ⟨by first | rfl | (simp; done) | (simp [*]; done), by repeat (first | exact Drawn0.refl _ | apply Drawn0.step)⟩
   rw [if_neg c8] at H
   have c8b0 : (a0 == 2) = false := beq_eq_false_iff_ne.mpr c8
   have c8b1 : (a0 != 2) = true := bne_iff_ne.mpr c8
   by_cases c9 : a0 = 3
   ·rw [if_pos c9] at H
    have c9b0 : (a0 == 3) = true := beq_iff_eq.mpr c9
    have c9b1 : (a0 != 3) = false := bne_eq_false_iff_eq.mpr c9
    clear c9
    simp only [Option.some.injEq, Prod.mk.injEq] at H
    obtain ⟨rfl, rfl⟩ := H
    go_wp2
    go_ret2
    exact ⟨by first | rfl | (simp; done) | (simp [*]; done), by repeat (first | exact Drawn0.refl _ | apply Drawn0.step)⟩
   rw [if_neg c9] at H
   have c9b0 : (a0 == 3) = false := beq_eq_false_iff_ne.mpr c9
   have c9b1 : (a0 != 3) = true := bne_iff_ne.mpr c9
   by_cases c10 : a0 = 4
   ·rw [if_pos c10] at H
    have c10b0 : (a0 == 4) = true := beq_iff_eq.mpr c10
    have c10b1 : (a0 != 4) = false := bne_eq_false_iff_eq.mpr c10
    clear c10
    simp only [Option.some.injEq, Prod.mk.injEq] at H
    obtain ⟨rfl, rfl⟩ := H
    go_wp2
    go_ret2
    exact ⟨by first | rfl | (simp; done) | (simp [*]; done), by repeat (first | exact Drawn0.refl _ | apply Drawn0.step)⟩
   rw [if_neg c10] at H
   have c10b0 : (a0 == 4) = false := beq_eq_false_iff_ne.mpr c10
   have c10b1 : (a0 != 4) = true := bne_iff_ne.mpr c10
   by_cases c11 : a0 = 12
   rotate_left
   ·rw [if_neg c11] at H
    have c11b0 : (a0 == 12) = false := beq_eq_false_iff_ne.mpr c11
    have c11b1 : (a0 != 12) = true := bne_iff_ne.mpr c11
    simp only [Option.some.injEq, Prod.mk.injEq] at H
    obtain ⟨rfl, rfl⟩ := H
    go_wp2
    go_ret2
    exact ⟨by first | rfl | (simp; done) | (simp [*]; done), by repeat (first | exact Drawn0.refl _ | apply Drawn0.step)⟩
   rw [if_pos c11] at H
   have c11b0 : (a0 == 12) = true := beq_iff_eq.mpr c11
   have c11b1 : (a0 != 12) = false := bne_eq_false_iff_eq.mpr c11
   clear c11
   simp only [Option.some.injEq, Prod.mk.injEq] at H
   obtain ⟨rfl, rfl⟩ := H
   go_wp2
   go_ret2
   exact ⟨by first | rfl | (simp; done) | (simp [*]; done), by repeat (first | exact Drawn0.refl _ | apply Drawn0.step)⟩
end Go.Proofs.YtdkejcadoepnnaaDoor.ECc
end
section
namespace Go.Proofs.YtdkejcadoepnnaaDoor.ECc
open Go.RowKit Go.Proofs.YtdkejcadoepnnaaDoorW.PrintWords Go.Proofs.YtdkejcadoepnnaaDoorW.PrintLast Go.Proofs.YtdkejcadoepnnaaDoorW.PrintMore
attribute [local go_sem] max2_int min2_int max_two min_two max_three min_three max_four min_four
set_option linter.unusedVariables false
def c_operand.j0 : Nat → Int → Int → Int → Bool → Option (Bool)
 | 0, _, _, _, _ => none
 | k + 1, x1, x2, x11, x16 => if x16 = true then (some (decide (x1 ≥ 0))) else (if x11 = 3 then ((c_within.f x1 0 255).bind fun t103 => (some t103)) else (if x11 = 4 then ((c_within.f x1 0 63).bind fun t104 => (some t104)) else (if x11 = 5 then ((c_within.f x1 1 6).bind fun t105 => (some t105)) else (if x11 = 6 then ((c_within.f x1 1 4).bind fun t106 => (some t106)) else (if x11 = 7 then (if x1 = 10 then (some true) else (some (x1 == 11))) else (if x11 = 8 then ((c_within.f x1 1 6).bind fun t107 => (some t107)) else (if x11 = 9 then (some (decide (x1 ≥ 1))) else (if x11 = 10 then ((c_within.f x1 1 32768).bind fun t108 => (some t108)) else (if x11 = 11 then ((c_arity.f k x1).bind fun bt109 => (some (decide (bt109.1 ≤ bt109.2)))) else (if x11 = 12 then ((c_arity.f k x2).bind fun bt111 => ((c_within.f x1 bt111.1 bt111.2).bind fun t113 => (some t113))) else (some false)))))))))))
def c_operand.f (k : Nat) (a0 : Int) (a1 : Int) (a2 : Int) : Option (Bool) := if a0 = 0 then (some (a1 == 0)) else (if a0 = 1 then (c_operand.j0 k a1 a2 a0 (a0 == 1)) else (c_operand.j0 k a1 a2 a0 (a0 == 2)))
set_option maxHeartbeats 8000000 in
set_option maxRecDepth 100000 in
theorem c_operand.calls (k : Nat) (a0 : Int) (a1 : Int) (a2 : Int) (r : Bool) (w : World) (h : c_operand.f k a0 a1 a2 = some r) :
  Calls Tryd.prog 48 #[.int .i64 a0, .int .i64 a1, .int .i64 a2] w fun e w' => e = .returned (.bool r) ∧ Drawn0 w w' := by
 have H : (if a0 = 0 then (some (a1 == 0)) else (if a0 = 1 then (c_operand.j0 k a1 a2 a0 (a0 == 1)) else (c_operand.j0 k a1 a2 a0 (a0 == 2)))) = some r := h
 clear h
 by_cases c4 : a0 = 0
 ·rw [if_pos c4] at H
  have c4b0 : (a0 == 0) = true := beq_iff_eq.mpr c4
  have c4b1 : (a0 != 0) = false := bne_eq_false_iff_eq.mpr c4
  clear c4
  obtain rfl := Option.some.inj H
  go_enter Tryd.func48, Tryd.ntmps48
  go_wp2
  go_ret
  exact ⟨by first | rfl | (simp; done) | (simp [*]; done), by repeat (first | exact Drawn0.refl _ | apply Drawn0.step)⟩
 rw [if_neg c4] at H
 have c4b0 : (a0 == 0) = false := beq_eq_false_iff_ne.mpr c4
 have c4b1 : (a0 != 0) = true := bne_iff_ne.mpr c4
 have HC5 := am H
 clear H
 go_enter Tryd.func48, Tryd.ntmps48
 go_upto_if 16 with (fail)
 go_cut [16] (fun v16 wc => ∃ (kq : Nat) (x16_4 : Bool), v16 = .bool x16_4 ∧ Aside0 (c_operand.j0 kq a1 a2 a0 x16_4 = some r) ∧ Aside0 (kq ≤ k) ∧ Drawn0 w wc)
 case first =>
  have H := HC5.out
  clear HC5
  by_cases c6 : a0 = 1
  rotate_left
  ·rw [if_neg c6] at H
   have c6b0 : (a0 == 1) = false := beq_eq_false_iff_ne.mpr c6
   have c6b1 : (a0 != 1) = true := bne_iff_ne.mpr c6
   (first | rw [c6b0] | (simp only [i64_w, i32_w]; rw [c6b0]) | skip)
   have H' := am H
   clear H
   go_wp2
   go_meet
   case rel => exact ⟨_, ((a0 == 2)), tv, H', ⟨by first | omega | exact Nat.le_refl _⟩, by repeat (first | exact Drawn0.refl _ | apply Drawn0.step)⟩
  rw [if_pos c6] at H
  have c6b0 : (a0 == 1) = true := beq_iff_eq.mpr c6
  have c6b1 : (a0 != 1) = false := bne_eq_false_iff_eq.mpr c6
  clear c6
  (first | rw [c6b0] | (simp only [i64_w, i32_w]; rw [c6b0]) | skip)
  have H' := am H
  clear H
  go_wp2
  go_meet
  case rel => exact ⟨_, ((a0 == 1)), tv, H', ⟨by first | omega | exact Nat.le_refl _⟩, by repeat (first | exact Drawn0.refl _ | apply Drawn0.step)⟩
 case rest =>
  clear HC5
  try clear p2
  try clear c4
  try clear c4b0
  try clear c4b1
  try clear c6
  try clear c6b0
  try clear c6b1
  obtain ⟨kq, x16_4, rfl, HA, HJ4, ⟨mc4, rfl⟩⟩ := hcut
  cases kq with
  | zero => exact absurd HA.out (by simp [c_operand.j0])
  | succ kj4 =>
   have H := HA.out
   clear HA
   simp only [c_operand.j0] at H
   by_cases c7 : x16_4 = true
   ·subst c7
    have H1 : (some (decide (a1 ≥ 0))) = some r := by rw [if_pos rfl] at H; exact H
    clear H
    have H := H1
    clear H1
    obtain rfl := Option.some.inj H
    go_wp2
    go_ret
    exact ⟨by first | rfl | (simp; done) | (simp [*]; done), by repeat (first | exact Drawn0.refl _ | apply Drawn0.step)⟩
   replace c7 := Bool.eq_false_iff.mpr c7
   subst c7
   have H1 : (if a0 = 3 then ((c_within.f a1 0 255).bind fun t103 => (some t103)) else (if a0 = 4 then ((c_within.f a1 0 63).bind fun t104 => (some t104)) else (if a0 = 5 then ((c_within.f a1 1 6).bind fun t105 => (some t105)) else (if a0 = 6 then ((c_within.f a1 1 4).bind fun t106 => (some t106)) else (if a0 = 7 then (if a1 = 10 then (some true) else (some (a1 == 11))) else (if a0 = 8 then ((c_within.f a1 1 6).bind fun t107 => (some t107)) else (if a0 = 9 then (some (decide (a1 ≥ 1))) else (if a0 = 10 then ((c_within.f a1 1 32768).bind fun t108 => (some t108)) else (if a0 = 11 then ((c_arity.f kj4 a1).bind fun bt109 => (some (decide (bt109.1 ≤ bt109.2)))) else (if a0 = 12 then ((c_arity.f kj4 a2).bind fun bt111 => ((c_within.f a1 bt111.1 bt111.2).bind fun t113 => (some t113))) else (some false))))))))))) = some r := by rw [if_neg (show ¬ (false = true) by decide)] at H; exact H
   clear H
   have H := H1
   clear H1
   by_cases c8 : a0 = 3
   ·rw [if_pos c8] at H
    have c8b0 : (a0 == 3) = true := beq_iff_eq.mpr c8
    have c8b1 : (a0 != 3) = false := bne_eq_false_iff_eq.mpr c8
    clear c8
    replace H := Option.bind_eq_some_iff.mp H
    obtain ⟨t103, A90, H⟩ := H
    replace H : (some t103) = some r := H
    have A9 := am A90
    clear A90
    obtain rfl := Option.some.inj H
    go_wp2_with (first | ((with_reducible refine gate_callee (f := 47) rfl ?_); refine goesL_ (some 24) rfl rfl Tryd.func47 (by kernel_rfl) rfl #[.int .i64 a1, .int .i64 0, .int .i64 255] rfl ls ?_; (with_reducible refine (c_within.calls a1 0 255 t103 _ A9.out).mono ?_); rintro e w' ⟨rfl, ⟨nd, rfl⟩⟩; refine ⟨_, rfl, ?_⟩))
    go_ret
    exact ⟨by first | rfl | (simp; done) | (simp [*]; done), by repeat (first | exact Drawn0.refl _ | apply Drawn0.step)⟩
   rw [if_neg c8] at H
   have c8b0 : (a0 == 3) = false := beq_eq_false_iff_ne.mpr c8
   have c8b1 : (a0 != 3) = true := bne_iff_ne.mpr c8
   by_cases c10 : a0 = 4
   ·rw [if_pos c10] at H
    have c10b0 : (a0 == 4) = true := beq_iff_eq.mpr c10
    have c10b1 : (a0 != 4) = false := bne_eq_false_iff_eq.mpr c10
    clear c10
    replace H := Option.bind_eq_some_iff.mp H
    obtain ⟨t104, A110, H⟩ := H
    replace H : (some t104) = some r := H
    have A11 := am A110
    clear A110
    obtain rfl := Option.some.inj H
    go_wp2_with (first | ((with_reducible refine gate_callee (f := 47) rfl ?_); refine goesL_ (some 28) rfl rfl Tryd.func47 (by kernel_rfl) rfl #[.int .i64 a1, .int .i64 0, .int .i64 63] rfl ls ?_; (with_reducible refine (c_within.calls a1 0 63 t104 _ A11.out).mono ?_); rintro e w' ⟨rfl, ⟨nd, rfl⟩⟩; refine ⟨_, rfl, ?_⟩))
    go_ret
    exact ⟨by first | rfl | (simp; done) | (simp [*]; done), by repeat (first | exact Drawn0.refl _ | apply Drawn0.step)⟩
   rw [if_neg c10] at H
   have c10b0 : (a0 == 4) = false := beq_eq_false_iff_ne.mpr c10
   have c10b1 : (a0 != 4) = true := bne_iff_ne.mpr c10
   by_cases c12 : a0 = 5
   ·rw [if_pos c12] at H
    have c12b0 : (a0 == 5) = true := beq_iff_eq.mpr c12
    have c12b1 : (a0 != 5) = false := bne_eq_false_iff_eq.mpr c12
    clear c12
    replace H := Option.bind_eq_some_iff.mp H
    obtain ⟨t105, A130, H⟩ := H
    replace H : (some t105) = some r := H
    have A13 := am A130
    clear A130
    obtain rfl := Option.some.inj H
    go_wp2_with (first | ((with_reducible refine gate_callee (f := 47) rfl ?_); refine goesL_ (some 32) rfl rfl Tryd.func47 (by kernel_rfl) rfl #[.int .i64 a1, .int .i64 1, .int .i64 6] rfl ls ?_; (with_reducible refine (c_within.calls a1 1 6 t105 _ A13.out).mono ?_); rintro e w' ⟨rfl, ⟨nd, rfl⟩⟩; refine ⟨_, rfl, ?_⟩))
    go_ret
    exact ⟨by first | rfl | (simp; done) | (simp [*]; done), by repeat (first | exact Drawn0.refl _ | apply Drawn0.step)⟩
   rw [if_neg c12] at H
   have c12b0 : (a0 == 5) = false := beq_eq_false_iff_ne.mpr c12
   have c12b1 : (a0 != 5) = true := bne_iff_ne.mpr c12
   by_cases c14 : a0 = 6
   ·rw [if_pos c14] at H
    have c14b0 : (a0 == 6) = true := beq_iff_eq.mpr c14
    have c14b1 : (a0 != 6) = false := bne_eq_false_iff_eq.mpr c14
    clear c14
    replace H := Option.bind_eq_some_iff.mp H
    obtain ⟨t106, A150, H⟩ := H
    replace H : (some t106) = some r := H
    have A15 := am A150
    clear A150
    obtain rfl := Option.some.inj H
    go_wp2_with (first | ((with_reducible refine gate_callee (f := 47) rfl ?_); refine goesL_ (some 36) rfl rfl Tryd.func47 (by kernel_rfl) rfl #[.int .i64 a1, .int .i64 1, .int .i64 4] rfl ls ?_; (with_reducible refine (c_within.calls a1 1 4 t106 _ A15.out).mono ?_); rintro e w' ⟨rfl, ⟨nd, rfl⟩⟩; refine ⟨_, rfl, ?_⟩))
    go_ret
    exact ⟨by first | rfl | (simp; done) | (simp [*]; done), by repeat (first | exact Drawn0.refl _ | apply Drawn0.step)⟩
   rw [if_neg c14] at H
   have c14b0 : (a0 == 6) = false := beq_eq_false_iff_ne.mpr c14
   have c14b1 : (a0 != 6) = true := bne_iff_ne.mpr c14
   by_cases c16 : a0 = 7
   ·rw [if_pos c16] at H
    have c16b0 : (a0 == 7) = true := beq_iff_eq.mpr c16
    have c16b1 : (a0 != 7) = false := bne_eq_false_iff_eq.mpr c16
    clear c16
    by_cases c17 : a1 = 10
    rotate_left
    ·rw [if_neg c17] at H
     have c17b0 : (a1 == 10) = false := beq_eq_false_iff_ne.mpr c17
     have c17b1 : (a1 != 10) = true := bne_iff_ne.mpr c17
     obtain rfl := Option.some.inj H
     go_wp2
     go_ret
     exact ⟨by first | rfl | (simp; done) | (simp [*]; done), by repeat (first | exact Drawn0.refl _ | apply Drawn0.step)⟩
    rw [if_pos c17] at H
    have c17b0 : (a1 == 10) = true := beq_iff_eq.mpr c17
    have c17b1 : (a1 != 10) = false := bne_eq_false_iff_eq.mpr c17
    clear c17
    obtain rfl := Option.some.inj H
    go_wp2
    go_ret
    exact ⟨by first | rfl | (simp; done) | (simp [*]; done), by repeat (first | exact Drawn0.refl _ | apply Drawn0.step)⟩
   rw [if_neg c16] at H
   have c16b0 : (a0 == 7) = false := beq_eq_false_iff_ne.mpr c16
   have c16b1 : (a0 != 7) = true := bne_iff_ne.mpr c16
   by_cases c18 : a0 = 8
   ·rw [if_pos c18] at H
    have c18b0 : (a0 == 8) = true := beq_iff_eq.mpr c18
    have c18b1 : (a0 != 8) = false := bne_eq_false_iff_eq.mpr c18
    clear c18
    replace H := Option.bind_eq_some_iff.mp H
    obtain ⟨t107, A190, H⟩ := H
    replace H : (some t107) = some r := H
    have A19 := am A190
    clear A190
    obtain rfl := Option.some.inj H
    go_wp2_with (first | ((with_reducible refine gate_callee (f := 47) rfl ?_); refine goesL_ (some 48) rfl rfl Tryd.func47 (by kernel_rfl) rfl #[.int .i64 a1, .int .i64 1, .int .i64 6] rfl ls ?_; (with_reducible refine (c_within.calls a1 1 6 t107 _ A19.out).mono ?_); rintro e w' ⟨rfl, ⟨nd, rfl⟩⟩; refine ⟨_, rfl, ?_⟩))
    go_ret
    exact ⟨by first | rfl | (simp; done) | (simp [*]; done), by repeat (first | exact Drawn0.refl _ | apply Drawn0.step)⟩
   rw [if_neg c18] at H
   have c18b0 : (a0 == 8) = false := beq_eq_false_iff_ne.mpr c18
   have c18b1 : (a0 != 8) = true := bne_iff_ne.mpr c18
   by_cases c20 : a0 = 9
   ·rw [if_pos c20] at H
    have c20b0 : (a0 == 9) = true := beq_iff_eq.mpr c20
    have c20b1 : (a0 != 9) = false := bne_eq_false_iff_eq.mpr c20
    clear c20
    obtain rfl := Option.some.inj H
    go_wp2
    go_ret
    exact ⟨by first | rfl | (simp; done) | (simp [*]; done), by repeat (first | exact Drawn0.refl _ | apply Drawn0.step)⟩
   rw [if_neg c20] at H
   have c20b0 : (a0 == 9) = false := beq_eq_false_iff_ne.mpr c20
   have c20b1 : (a0 != 9) = true := bne_iff_ne.mpr c20
   by_cases c21 : a0 = 10
   ·rw [if_pos c21] at H
    have c21b0 : (a0 == 10) = true := beq_iff_eq.mpr c21
    have c21b1 : (a0 != 10) = false := bne_eq_false_iff_eq.mpr c21
    clear c21
    replace H := Option.bind_eq_some_iff.mp H
    obtain ⟨t108, A220, H⟩ := H
    replace H : (some t108) = some r := H
    have A22 := am A220
    clear A220
    obtain rfl := Option.some.inj H
    go_wp2_with (first | ((with_reducible refine gate_callee (f := 47) rfl ?_); refine goesL_ (some 56) rfl rfl Tryd.func47 (by kernel_rfl) rfl #[.int .i64 a1, .int .i64 1, .int .i64 32768] rfl ls ?_; (with_reducible refine (c_within.calls a1 1 32768 t108 _ A22.out).mono ?_); rintro e w' ⟨rfl, ⟨nd, rfl⟩⟩; refine ⟨_, rfl, ?_⟩))
    go_ret
    exact ⟨by first | rfl | (simp; done) | (simp [*]; done), by repeat (first | exact Drawn0.refl _ | apply Drawn0.step)⟩
   rw [if_neg c21] at H
   have c21b0 : (a0 == 10) = false := beq_eq_false_iff_ne.mpr c21
   have c21b1 : (a0 != 10) = true := bne_iff_ne.mpr c21
   by_cases c23 : a0 = 11
   ·rw [if_pos c23] at H
    have c23b0 : (a0 == 11) = true := beq_iff_eq.mpr c23
    have c23b1 : (a0 != 11) = false := bne_eq_false_iff_eq.mpr c23
    clear c23
    replace H := Option.bind_eq_some_iff.mp H
    obtain ⟨⟨t109, t110⟩, A240, H⟩ := H
    replace H : (some (decide (t109 ≤ t110))) = some r := H
    have A24 := am A240
    clear A240
    obtain rfl := Option.some.inj H
    go_wp2_with (first | ((with_reducible refine gate_callee (f := 66) rfl ?_); refine goesL_ (some 61) rfl rfl Tryd.func66 (by kernel_rfl) rfl #[.int .i64 a1] rfl ls ?_; (with_reducible refine (c_arity.calls kj4 a1 t109 t110 _ A24.out).mono ?_); rintro e w' ⟨rfl, ⟨nd, rfl⟩⟩; refine ⟨_, rfl, ?_⟩))
    go_ret
    exact ⟨by first | rfl | (simp; done) | (simp [*]; done), by repeat (first | exact Drawn0.refl _ | apply Drawn0.step)⟩
   rw [if_neg c23] at H
   have c23b0 : (a0 == 11) = false := beq_eq_false_iff_ne.mpr c23
   have c23b1 : (a0 != 11) = true := bne_iff_ne.mpr c23
   by_cases c25 : a0 = 12
   rotate_left
   ·rw [if_neg c25] at H
    have c25b0 : (a0 == 12) = false := beq_eq_false_iff_ne.mpr c25
    have c25b1 : (a0 != 12) = true := bne_iff_ne.mpr c25
    obtain rfl := Option.some.inj H
    go_wp2
    go_ret
    exact ⟨by first | rfl | (simp; done) | (simp [*]; done), by repeat (first | exact Drawn0.refl _ | apply Drawn0.step)⟩
   rw [if_pos c25] at H
   have c25b0 : (a0 == 12) = true := beq_iff_eq.mpr c25
   have c25b1 : (a0 != 12) = false := bne_eq_false_iff_eq.mpr c25
   clear c25
   replace H := Option.bind_eq_some_iff.mp H
   obtain ⟨⟨t111, t112⟩, A260, H⟩ := H
   replace H : ((c_within.f a1 t111 t112).bind fun t113 => (some t113)) = some r := H
   have A26 := am A260
   clear A260
   replace H := Option.bind_eq_some_iff.mp H
   obtain ⟨t113, A270, H⟩ := H
   replace H : (some t113) = some r := H
   have A27 := am A270
   clear A270
   obtain rfl := Option.some.inj H
   go_wp2_with (first | ((with_reducible refine gate_callee (f := 66) rfl ?_); refine goesL_ (some 71) rfl rfl Tryd.func66 (by kernel_rfl) rfl #[.int .i64 a2] rfl ls ?_; (with_reducible refine (c_arity.calls kj4 a2 t111 t112 _ A26.out).mono ?_); rintro e w' ⟨rfl, ⟨nd, rfl⟩⟩; refine ⟨_, rfl, ?_⟩) | ((with_reducible refine gate_callee (f := 47) rfl ?_); refine goesL_ (some 77) rfl rfl Tryd.func47 (by kernel_rfl) rfl #[.int .i64 a1, .int .i64 t111, .int .i64 t112] rfl ls ?_; (with_reducible refine (c_within.calls a1 t111 t112 t113 _ A27.out).mono ?_); rintro e w' ⟨rfl, ⟨nd, rfl⟩⟩; refine ⟨_, rfl, ?_⟩))
   go_ret
   exact ⟨by first | rfl | (simp; done) | (simp [*]; done), by repeat (first | exact Drawn0.refl _ | apply Drawn0.step)⟩
end Go.Proofs.YtdkejcadoepnnaaDoor.ECc
end
