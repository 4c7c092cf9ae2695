/-
 A text of this session's own.
-/
import Derived.Test.YtdkejcadoepnnaaDoorBkA0
import Derived.Test.YtdkejcadoepnnaaDoorBkECcx0
import Derived.Test.YtdkejcadoepnnaaDoorBkECrx4
import Derived.Test.YtdkejcadoepnnaaDoorBkECcx6
set_option linter.unusedSimpArgs false
namespace Go.Proofs.YtdkejcadoepnnaaDoor.ECc
open Go.RowKit Go.Proofs.YtdkejcadoepnnaaDoorW.PrintWords Go.Proofs.YtdkejcadoepnnaaDoorW.PrintLast Go.Proofs.YtdkejcadoepnnaaDoorW.PrintMore
attribute [local go_sem] max2_int min2_int max_two min_two max_three min_three max_four min_four
set_option linter.unusedVariables false
def c_known.f (k : Nat) (l0 : List (S72)) (a1_0 : Int) (a1_1 : Int) (a1_2 : Int) : Option (ByteArray × Int × Int × Int × Int × Bool) := (c_within.f a1_0 1 33).bind fun t116 => (if t116 = true then (if 0 ≤ a1_0 then (if a1_0 < (l0.length : Int) then ((c_operand.f k ((rd_T72 l0 a1_0).f1) a1_1 0).bind fun t119 => (if t119 = true then ((c_operand.f k ((rd_T72 l0 a1_0).f2) a1_2 a1_1).bind fun t120 => (some ((rd_T72 l0 a1_0).f0, (rd_T72 l0 a1_0).f1, (rd_T72 l0 a1_0).f2, (rd_T72 l0 a1_0).f3, (rd_T72 l0 a1_0).f4, t120))) else (some ((rd_T72 l0 a1_0).f0, (rd_T72 l0 a1_0).f1, (rd_T72 l0 a1_0).f2, (rd_T72 l0 a1_0).f3, (rd_T72 l0 a1_0).f4, false)))) else (none)) else (none)) else (some ((⟨#[]⟩ : ByteArray), 0, 0, 0, 0, false)))
def c_known.T3 : Bool × List (List Nat × List Nat) := (true, [([], []), ([], []), ([1], [1]), ([0], [0]), ([3, 2], [2, 3]), ([4], [4]), ([], []), ([6, 5, 0, 1, 2, 3, 4, 5, 6], [5, 6])])
def c_known.B3 : List Nat := [0, 0, 2, 1, 15, 31, 0, 127]
theorem c_known.tab3 : rtab .any (opsOf Tryd.f33 3) = c_known.T3 := by kernel_rfl
theorem c_known.bits3 : waitsOk c_known.T3.2 c_known.B3 = true := by kernel_rfl
def c_known.T4 : Bool × List (List Nat × List Nat) := (true, [([], []), ([], []), ([1], [1]), ([], []), ([3], [3]), ([2, 4], [2, 4]), ([5, 5], [5]), ([6], [6]), ([7, 6], [6, 7]), ([6], [6]), ([9, 6], [6, 9]), ([6], [6]), ([11, 6], [6, 11]), ([8, 10, 12, 6, 6], [6, 8, 10, 12]), ([6, 13], [6, 13]), ([0, 13, 0], [0]), ([14, 15, 0, 1, 2, 3, 4, 5, 6, 7, 8, 9, 10, 11, 12, 13, 14, 15], [14])])
def c_known.B4 : List Nat := [0, 0, 2, 0, 8, 30, 62, 126, 254, 126, 638, 126, 2174, 8190, 16382, 16383, 65535]
theorem c_known.tab4 : rtab .any (opsOf Tryd.f33 4) = c_known.T4 := by kernel_rfl
theorem c_known.bits4 : waitsOk c_known.T4.2 c_known.B4 = true := by kernel_rfl
set_option maxHeartbeats 8000000 in
set_option maxRecDepth 100000 in
theorem c_known.calls (k : Nat) (A0 : Option Addr) (l0 : List (S72)) (a1_0 : Int) (a1_1 : Int) (a1_2 : Int) (r1 : ByteArray) (r2 : Int) (r3 : Int) (r4 : Int) (r5 : Int) (r6 : Bool) (w : World) (hr0 : Kd.C k72 w A0 l0.length l0) (hc0 : l0.length = 34) (h : c_known.f k l0 a1_0 a1_1 a1_2 = some (r1, r2, r3, r4, r5, r6)) :
  Calls Tryd.prog 33 #[.pointer A0, .agg #[.int .i64 a1_0, .int .i64 a1_1, .int .i64 a1_2]] w fun e w' => e = .returned (.tuple #[.agg #[.string r1, .int .i64 r2, .int .i64 r3, .int .i64 r4, .int .i64 r5], .bool r6]) ∧ Below w.heap.size w w' := by
 have hu41 := Tryd.underlying41
 have hu72 := Tryd.underlying72
 have HR0 := am hr0
 have HC0 := am hc0
 clear hr0 hc0
 have HB := am (Below.refl w.heap.size w)
 have H : ((c_within.f a1_0 1 33).bind fun t116 => (if t116 = true then (if 0 ≤ a1_0 then (if a1_0 < (l0.length : Int) then ((c_operand.f k ((rd_T72 l0 a1_0).f1) a1_1 0).bind fun t119 => (if t119 = true then ((c_operand.f k ((rd_T72 l0 a1_0).f2) a1_2 a1_1).bind fun t120 => (some ((rd_T72 l0 a1_0).f0, (rd_T72 l0 a1_0).f1, (rd_T72 l0 a1_0).f2, (rd_T72 l0 a1_0).f3, (rd_T72 l0 a1_0).f4, t120))) else (some ((rd_T72 l0 a1_0).f0, (rd_T72 l0 a1_0).f1, (rd_T72 l0 a1_0).f2, (rd_T72 l0 a1_0).f3, (rd_T72 l0 a1_0).f4, false)))) else (none)) else (none)) else (some ((⟨#[]⟩ : ByteArray), 0, 0, 0, 0, false)))) = some (r1, r2, r3, r4, r5, r6) := h
 clear h
 replace H := Option.bind_eq_some_iff.mp H
 obtain ⟨t116, A30, H⟩ := H
 replace H : (if t116 = true then (if 0 ≤ a1_0 then (if a1_0 < (l0.length : Int) then ((c_operand.f k ((rd_T72 l0 a1_0).f1) a1_1 0).bind fun t119 => (if t119 = true then ((c_operand.f k ((rd_T72 l0 a1_0).f2) a1_2 a1_1).bind fun t120 => (some ((rd_T72 l0 a1_0).f0, (rd_T72 l0 a1_0).f1, (rd_T72 l0 a1_0).f2, (rd_T72 l0 a1_0).f3, (rd_T72 l0 a1_0).f4, t120))) else (some ((rd_T72 l0 a1_0).f0, (rd_T72 l0 a1_0).f1, (rd_T72 l0 a1_0).f2, (rd_T72 l0 a1_0).f3, (rd_T72 l0 a1_0).f4, false)))) else (none)) else (none)) else (some ((⟨#[]⟩ : ByteArray), 0, 0, 0, 0, false))) = some (r1, r2, r3, r4, r5, r6) := H
 have A3 := am A30
 clear A30
 by_cases c4 : t116 = true
 rotate_left
 ·replace c4 := Bool.eq_false_iff.mpr c4
  subst c4
  have H1 : (some ((⟨#[]⟩ : ByteArray), 0, 0, 0, 0, false)) = some (r1, r2, r3, r4, r5, r6) := by rw [if_neg (show ¬ (false = true) by decide)] at H; exact H
  clear H
  have H := H1
  clear H1
  simp only [Option.some.injEq, Prod.mk.injEq] at H
  obtain ⟨rfl, rfl, rfl, rfl, rfl, rfl⟩ := H
  go_enter Tryd.func33, Tryd.ntmps33
  go_wp2_with (first | ((with_reducible refine gate_dst (N := 3) rfl ?_); refine box_event ?hg (N := 3) ?hd (cs := #[.int .i64 a1_0, .int .i64 a1_1, .int .i64 a1_2]) (t := 41) ?hr ?_; (case hd => rfl); (case hg => rfl); (case hr => first | (go_simp; done) | (go_simp; rfl)); intro gb114 hg w46 hbox hb; have n0_ := am (below_step bl hb); have n1_ := am (hbox); have n2_ := am ((by rw [hg]; exact (below_size bl) : w.heap.size ≤ gb114)); have n3_ := n2_; clear HB; have HB := n0_; have BK114 := n1_; have GW114 := n2_; have GE114 := n3_; clear n0_ n1_ n2_ n3_; clear hb hbox hg) | ((with_reducible refine gate_dst (N := 4) rfl ?_); refine box_event ?hg (N := 4) ?hd (cs := #[.string (⟨#[]⟩ : ByteArray), .int .i64 0, .int .i64 0, .int .i64 0, .int .i64 0]) (t := 72) ?hr ?_; (case hd => rfl); (case hg => rfl); (case hr => first | (go_simp; done) | (go_simp; rfl)); intro gb115 hg w47 hbox hb; have n0_ := am (blk_below (bu BK114.out) hb); have n1_ := am (below_step bs hb); have n2_ := am (hbox); have n3_ := am ((by rw [hg]; exact (below_size bs) : w.heap.size ≤ gb115)); have n4_ := am ((by rw [hg]; exact (below_size bs) : w.heap.size ≤ gb115)); have n5_ := am ((by rw [hg]; exact Nat.ne_of_lt (blk_lt (bu BK114.out)) : gb114 ≠ gb115)); have n6_ := am ((by rw [hg]; exact Nat.ne_of_gt (blk_lt (bu BK114.out)) : gb115 ≠ gb114)); clear BK114; clear HB; have BK114 := n0_; have HB := n1_; have BK115 := n2_; have GW115 := n3_; have GE115 := n4_; have NB114_115 := n5_; have NB115_114 := n6_; clear n0_ n1_ n2_ n3_ n4_ n5_ n6_; clear hb hbox hg; have hnb48 := NB114_115.out; have hnc48 := NB115_114.out; obtain ⟨⟨hcz49_0, hcz49_1, hcz49_2⟩, hfz49_0, hfz49_1, hfz49_2⟩ := blkAll3 BK114) | ((with_reducible refine gate_callee (f := 47) rfl ?_); refine goesL_ (some 9) rfl rfl Tryd.func47 (by kernel_rfl) rfl #[.int .i64 a1_0, .int .i64 1, .int .i64 33] rfl ls ?_; (with_reducible refine (c_within.calls a1_0 1 33 false _ A3.out).mono ?_); rintro e w' ⟨rfl, ⟨nd, rfl⟩⟩; refine ⟨_, rfl, ?_⟩; (try (rw [drewN_self w47]; generalize hq_ : World.drewN w47 _ = w47; have n0_ : Aside0 (w47.heap[gb114]? = some (.cells #[.int .i64 a1_0, .int .i64 a1_1, .int .i64 a1_2] 41 (0, 0))) := ⟨by rw [← hq_]; exact (bu BK114.out)⟩; have n1_ : Aside0 (w47.heap[gb115]? = some (.cells #[.string (⟨#[]⟩ : ByteArray), .int .i64 0, .int .i64 0, .int .i64 0, .int .i64 0] 72 (0, 0))) := ⟨by rw [← hq_]; exact (bu BK115.out)⟩; have n2_ : Aside0 (Below w.heap.size w w47) := ⟨by rw [← hq_]; exact bs⟩; clear BK114 BK115 HB hq_; have BK114 := n0_; have BK115 := n1_; have HB := n2_; clear n0_ n1_ n2_)); obtain ⟨⟨hcz50_0, hcz50_1, hcz50_2, hcz50_3, hcz50_4⟩, hfz50_0, hfz50_1, hfz50_2, hfz50_3, hfz50_4⟩ := blkAll5 BK115))
  refine bodyPost_ret (results_ct rfl _ _ gb115 72 #[.string (⟨#[]⟩ : ByteArray), .int .i64 0, .int .i64 0, .int .i64 0, .int .i64 0] (0, 0) _ rfl (by refine bu ?_; refine blk_put (cs := #[.string (⟨#[]⟩ : ByteArray), .int .i64 0, .int .i64 0, .int .i64 0, .int .i64 0]) ?_ 4 _ rfl; refine bu ?_; refine blk_put (cs := #[.string (⟨#[]⟩ : ByteArray), .int .i64 0, .int .i64 0, .int .i64 0, .int .i64 0]) ?_ 3 _ rfl; refine bu ?_; refine blk_put (cs := #[.string (⟨#[]⟩ : ByteArray), .int .i64 0, .int .i64 0, .int .i64 0, .int .i64 0]) ?_ 2 _ rfl; refine bu ?_; refine blk_put (cs := #[.string (⟨#[]⟩ : ByteArray), .int .i64 0, .int .i64 0, .int .i64 0, .int .i64 0]) ?_ 1 _ rfl; refine bu ?_; refine blk_put (cs := #[.string (⟨#[]⟩ : ByteArray), .int .i64 0, .int .i64 0, .int .i64 0, .int .i64 0]) ?_ 0 _ rfl; refine bu ?_; exact BK115.out) Tryd.underlying72 rfl (by kernel_rfl)) rfl ?_
  exact ⟨er, bs⟩
 subst c4
 have H1 : (if 0 ≤ a1_0 then (if a1_0 < (l0.length : Int) then ((c_operand.f k ((rd_T72 l0 a1_0).f1) a1_1 0).bind fun t119 => (if t119 = true then ((c_operand.f k ((rd_T72 l0 a1_0).f2) a1_2 a1_1).bind fun t120 => (some ((rd_T72 l0 a1_0).f0, (rd_T72 l0 a1_0).f1, (rd_T72 l0 a1_0).f2, (rd_T72 l0 a1_0).f3, (rd_T72 l0 a1_0).f4, t120))) else (some ((rd_T72 l0 a1_0).f0, (rd_T72 l0 a1_0).f1, (rd_T72 l0 a1_0).f2, (rd_T72 l0 a1_0).f3, (rd_T72 l0 a1_0).f4, false)))) else (none)) else (none)) = some (r1, r2, r3, r4, r5, r6) := by rw [if_pos rfl] at H; exact H
 clear H
 have H := H1
 clear H1
 by_cases c5 : 0 ≤ a1_0
 rotate_left
 ·rw [if_neg c5] at H
  exact absurd H (by simp)
 rw [if_pos c5] at H
 have c5b0 := decide_eq_true c5
 clear c5
 by_cases c6 : a1_0 < (l0.length : Int)
 rotate_left
 ·rw [if_neg c6] at H
  exact absurd H (by simp)
 rw [if_pos c6] at H
 have c6b0 := decide_eq_true c6
 clear c6
 replace H := Option.bind_eq_some_iff.mp H
 obtain ⟨t119, A70, H⟩ := H
 replace H : (if t119 = true then ((c_operand.f k ((rd_T72 l0 a1_0).f2) a1_2 a1_1).bind fun t120 => (some ((rd_T72 l0 a1_0).f0, (rd_T72 l0 a1_0).f1, (rd_T72 l0 a1_0).f2, (rd_T72 l0 a1_0).f3, (rd_T72 l0 a1_0).f4, t120))) else (some ((rd_T72 l0 a1_0).f0, (rd_T72 l0 a1_0).f1, (rd_T72 l0 a1_0).f2, (rd_T72 l0 a1_0).f3, (rd_T72 l0 a1_0).f4, false))) = some (r1, r2, r3, r4, r5, r6) := H
 have A7 := am A70
 clear A70
 by_cases c8 : t119 = true
 rotate_left
 ·replace c8 := Bool.eq_false_iff.mpr c8
  subst c8
  have H1 : (some ((rd_T72 l0 a1_0).f0, (rd_T72 l0 a1_0).f1, (rd_T72 l0 a1_0).f2, (rd_T72 l0 a1_0).f3, (rd_T72 l0 a1_0).f4, false)) = some (r1, r2, r3, r4, r5, r6) := by rw [if_neg (show ¬ (false = true) by decide)] at H; exact H
  clear H
  have H := H1
  clear H1
  simp only [Option.some.injEq, Prod.mk.injEq] at H
  obtain ⟨rfl, rfl, rfl, rfl, rfl, rfl⟩ := H
  go_enter Tryd.func33, Tryd.ntmps33
  try go_wp2_with (first | ((with_reducible refine gate_dst (N := 3) rfl ?_); refine box_event ?hg (N := 3) ?hd (cs := #[.int .i64 a1_0, .int .i64 a1_1, .int .i64 a1_2]) (t := 41) ?hr ?_; (case hd => rfl); (case hg => rfl); (case hr => first | (go_simp; done) | (go_simp; rfl)); intro gb114 hg w28 hbox hb; have n0_ := am (below_step bl hb); have n1_ := am (hbox); have n2_ := am ((by rw [hg]; exact (below_size bl) : w.heap.size ≤ gb114)); have n3_ := n2_; clear HB; have HB := n0_; have BK114 := n1_; have GW114 := n2_; have GE114 := n3_; clear n0_ n1_ n2_ n3_; clear hb hbox hg) | ((with_reducible refine gate_dst (N := 4) rfl ?_); refine box_event ?hg (N := 4) ?hd (cs := #[.string (⟨#[]⟩ : ByteArray), .int .i64 0, .int .i64 0, .int .i64 0, .int .i64 0]) (t := 72) ?hr ?_; (case hd => rfl); (case hg => rfl); (case hr => first | (go_simp; done) | (go_simp; rfl)); intro gb115 hg w29 hbox hb; have n0_ := am (blk_below (bu BK114.out) hb); have n1_ := am (below_step bs hb); have n2_ := am (hbox); have n3_ := am ((by rw [hg]; exact (below_size bs) : w.heap.size ≤ gb115)); have n4_ := am ((by rw [hg]; exact (below_size bs) : w.heap.size ≤ gb115)); have n5_ := am ((by rw [hg]; exact Nat.ne_of_lt (blk_lt (bu BK114.out)) : gb114 ≠ gb115)); have n6_ := am ((by rw [hg]; exact Nat.ne_of_gt (blk_lt (bu BK114.out)) : gb115 ≠ gb114)); clear BK114; clear HB; have BK114 := n0_; have HB := n1_; have BK115 := n2_; have GW115 := n3_; have GE115 := n4_; have NB114_115 := n5_; have NB115_114 := n6_; clear n0_ n1_ n2_ n3_ n4_ n5_ n6_; clear hb hbox hg; have hnb30 := NB114_115.out; have hnc30 := NB115_114.out; obtain ⟨⟨hcz31_0, hcz31_1, hcz31_2⟩, hfz31_0, hfz31_1, hfz31_2⟩ := blkAll3 BK114) | ((with_reducible refine gate_callee (f := 47) rfl ?_); refine goesL_ (some 9) rfl rfl Tryd.func47 (by kernel_rfl) rfl #[.int .i64 a1_0, .int .i64 1, .int .i64 33] rfl ls ?_; (with_reducible refine (c_within.calls a1_0 1 33 true _ A3.out).mono ?_); rintro e w' ⟨rfl, ⟨nd, rfl⟩⟩; refine ⟨_, rfl, ?_⟩; (try (rw [drewN_self w29]; generalize hq_ : World.drewN w29 _ = w29; have n0_ : Aside0 (w29.heap[gb114]? = some (.cells #[.int .i64 a1_0, .int .i64 a1_1, .int .i64 a1_2] 41 (0, 0))) := ⟨by rw [← hq_]; exact (bu BK114.out)⟩; have n1_ : Aside0 (w29.heap[gb115]? = some (.cells #[.string (⟨#[]⟩ : ByteArray), .int .i64 0, .int .i64 0, .int .i64 0, .int .i64 0] 72 (0, 0))) := ⟨by rw [← hq_]; exact (bu BK115.out)⟩; have n2_ : Aside0 (Below w.heap.size w w29) := ⟨by rw [← hq_]; exact bs⟩; clear BK114 BK115 HB hq_; have BK114 := n0_; have BK115 := n1_; have HB := n2_; clear n0_ n1_ n2_))))
  have n0_ := am (blk_drew BK114.out)
  have n1_ := am (blk_drew BK115.out)
  have n2_ := am (below_drew1 HB.out)
  clear BK114
  clear BK115
  clear HB
  have BK114 := n0_
  have BK115 := n1_
  have HB := n2_
  clear n0_ n1_ n2_
  have p117 : 0 ≤ (a1_0 : Int) := of_decide_eq_true od
  have q117 : a1_0 < (l0.length : Int) := of_decide_eq_true od
  have q117n : (a1_0 < 34) = True := eq_true (by have h_ := HC0.out; omega)
  obtain ⟨ad117, e117, hx117_0, hx117_1, hx117_2, hx117_3, hx117_4⟩ := at_T72 HR0.out a1_0 p117 q117
  have hw117_4 := hx117_4
  have hw117_3 := hx117_3
  have hw117_2 := hx117_2
  have hw117_1 := hx117_1
  have hw117_0 := hx117_0
  cases e117
  replace hx117_0 := (HB.out.cell (World.block_lt_of_cell? w _ hx117_0)).trans hx117_0
  replace hx117_1 := (HB.out.cell (World.block_lt_of_cell? w _ hx117_1)).trans hx117_1
  replace hx117_2 := (HB.out.cell (World.block_lt_of_cell? w _ hx117_2)).trans hx117_2
  replace hx117_3 := (HB.out.cell (World.block_lt_of_cell? w _ hx117_3)).trans hx117_3
  replace hx117_4 := (HB.out.cell (World.block_lt_of_cell? w _ hx117_4)).trans hx117_4
  replace p117 := eq_true p117
  replace q117 := eq_true q117
  refine start_ (n := 8) (S := fun w' => w'.cell? ⟨gb114, 0, none⟩ = some (.int .i64 a1_0) ∧ w'.cell? ⟨gb114, 1, none⟩ = some (.int .i64 a1_1) ∧ w'.cell? ⟨gb114, 2, none⟩ = some (.int .i64 a1_2) ∧ w'.cell? (ad117.add ((a1_0).toNat * 5)) = some (.string ((rd_T72 l0 a1_0).f0)) ∧ w'.cell? ⟨(ad117.add ((a1_0).toNat * 5)).block, (ad117.add ((a1_0).toNat * 5)).off + 1, none⟩ = some (.int .i64 ((rd_T72 l0 a1_0).f1)) ∧ w'.cell? ⟨(ad117.add ((a1_0).toNat * 5)).block, (ad117.add ((a1_0).toNat * 5)).off + 2, none⟩ = some (.int .i64 ((rd_T72 l0 a1_0).f2)) ∧ w'.cell? ⟨(ad117.add ((a1_0).toNat * 5)).block, (ad117.add ((a1_0).toNat * 5)).off + 3, none⟩ = some (.int .i64 ((rd_T72 l0 a1_0).f3)) ∧ w'.cell? ⟨(ad117.add ((a1_0).toNat * 5)).block, (ad117.add ((a1_0).toNat * 5)).off + 4, none⟩ = some (.int .i64 ((rd_T72 l0 a1_0).f4))) (ds := []) #[false, false, false, false, false, false, false, false] (by kernel_rfl) rfl rfl ⟨(blk_cell BK114.out 0).trans rfl, (blk_cell BK114.out 1).trans rfl, (blk_cell BK114.out 2).trans rfl, ((HB.out.cell (World.block_lt_of_cell? w _ hw117_0)).trans hw117_0), ((HB.out.cell (World.block_lt_of_cell? w _ hw117_1)).trans hw117_1), ((HB.out.cell (World.block_lt_of_cell? w _ hw117_2)).trans hw117_2), ((HB.out.cell (World.block_lt_of_cell? w _ hw117_3)).trans hw117_3), ((HB.out.cell (World.block_lt_of_cell? w _ hw117_4)).trans hw117_4)⟩ (fun hHeld => ?_); refine with_tabW c_known.tab3 c_known.bits3 (fun HT_ HW_ => ?_)
  generalize w29.drew = w32 at BK114 BK115 HB hx117_0 hx117_1 hx117_2 hx117_3 hx117_4 hHeld ⊢
  refine pure_ (i := 0) (N := some 12) (v := ?_) (a' := ?_) #[true, false, false, false, false, false, false, false] rfl rfl (any_of HT_.out (by kernel_rfl)) (fun _ _ _ h => h) (Or.inl ⟨by rfl, ?_⟩) ?_ ?_
  rotate_left
  ·intro w'
   go_simp
   with_reducible rfl
  rotate_left
  ·simp only [Act.put, List.setIfInBounds_toArray, List.set_cons_zero, List.set_cons_succ, i64_w, i32_w]
   rfl
  refine pure_ (i := 1) (N := some 13) (v := ?_) (a' := ?_) #[true, true, false, false, false, false, false, false] rfl rfl (any_of HT_.out (by kernel_rfl)) (fun _ _ _ h => h) (Or.inl ⟨by rfl, ?_⟩) ?_ ?_
  rotate_left
  ·intro w'
   go_simp
   with_reducible rfl
  rotate_left
  ·simp only [Act.put, List.setIfInBounds_toArray, List.set_cons_zero, List.set_cons_succ, i64_w, i32_w]
   rfl
  refine pure_ (i := 3) (N := some 15) (v := ?_) (a' := ?_) #[true, true, false, true, false, false, false, false] rfl rfl (any_of HT_.out (by kernel_rfl)) (fun _ _ _ h => h) (Or.inl ⟨by rfl, ?_⟩) ?_ ?_
  rotate_left
  ·intro w'
   go_simp
   with_reducible rfl
  rotate_left
  ·simp only [Act.put, List.setIfInBounds_toArray, List.set_cons_zero, List.set_cons_succ, i64_w, i32_w]
   rfl
  refine take_ (i := 2) (N := some 14) (v := ?_) (a' := ?_) #[true, true, true, true, false, false, false, false] rfl rfl (take_ofW HT_.out HW_.out (by kernel_rfl)) (fun _ _ _ h => h) (Or.inl ⟨by rfl, ?_⟩) hHeld ?_ ?_
  rotate_left
  ·rintro w' ⟨s0, s1, s2, s3, s4, s5, s6, s7⟩
   go_simp
   with_reducible rfl
  rotate_left
  ·simp only [Act.put, List.setIfInBounds_toArray, List.set_cons_zero, List.set_cons_succ, i64_w, i32_w]
   rfl
  refine pure_ (i := 4) (N := some 16) (v := ?_) (a' := ?_) #[true, true, true, true, true, false, false, false] rfl rfl (any_of HT_.out (by kernel_rfl)) (fun _ _ _ h => h) (Or.inl ⟨by rfl, ?_⟩) ?_ ?_
  rotate_left
  ·intro w'
   go_simp
   with_reducible rfl
  rotate_left
  ·simp only [Act.put, List.setIfInBounds_toArray, List.set_cons_zero, List.set_cons_succ, i64_w, i32_w]
   rfl
  refine take_ (i := 5) (N := some 17) (v := ?_) (a' := ?_) #[true, true, true, true, true, true, false, false] rfl rfl (take_ofW HT_.out HW_.out (by kernel_rfl)) (fun _ _ _ h => h) (Or.inl ⟨by rfl, ?_⟩) hHeld ?_ ?_
  rotate_left
  ·rintro w' ⟨s0, s1, s2, s3, s4, s5, s6, s7⟩
   go_simp
   with_reducible rfl
  rotate_left
  ·simp only [Act.put, List.setIfInBounds_toArray, List.set_cons_zero, List.set_cons_succ, i64_w, i32_w]
   rfl
  refine one_ (i := 6) (N := some 6) #[true, true, true, true, true, true, true, false] rfl rfl (one_of HT_.out (by kernel_rfl)) (by decide) (fun K hK => ?_)
  refine box_step ?hg (N := 6) ?hd (cs := #[.string (⟨#[]⟩ : ByteArray), .int .i64 0, .int .i64 0, .int .i64 0, .int .i64 0]) (t := 72) ?hr ?_; (case hd => rfl); (case hg => rfl); (case hr => first | (go_simp; done) | (go_simp; rfl))
  intro gb118 hg w33 hbox hb
  have n0_ := am (blk_below (bu BK114.out) hb)
  have n1_ := am (blk_below (bu BK115.out) hb)
  have n2_ := am (below_step bs hb)
  have n3_ := am (hbox)
  have n4_ := am ((by rw [hg]; exact (below_size bs) : w.heap.size ≤ gb118))
  have n5_ := am ((by rw [hg]; exact (below_size bs) : w.heap.size ≤ gb118))
  have n6_ := am ((by rw [hg]; exact Nat.ne_of_lt (blk_lt (bu BK114.out)) : gb114 ≠ gb118))
  have n7_ := am ((by rw [hg]; exact Nat.ne_of_gt (blk_lt (bu BK114.out)) : gb118 ≠ gb114))
  have n8_ := am ((by rw [hg]; exact Nat.ne_of_lt (blk_lt (bu BK115.out)) : gb115 ≠ gb118))
  have n9_ := am ((by rw [hg]; exact Nat.ne_of_gt (blk_lt (bu BK115.out)) : gb118 ≠ gb115))
  clear BK114
  clear BK115
  clear HB
  have BK114 := n0_
  have BK115 := n1_
  have HB := n2_
  have BK118 := n3_
  have GW118 := n4_
  have GE118 := n5_
  have NB114_118 := n6_
  have NB118_114 := n7_
  have NB115_118 := n8_
  have NB118_115 := n9_
  clear n0_ n1_ n2_ n3_ n4_ n5_ n6_ n7_ n8_ n9_
  clear hb hbox hg
  refine hK.out _ _ ⟨(blk_cell BK114.out 0).trans rfl, (blk_cell BK114.out 1).trans rfl, (blk_cell BK114.out 2).trans rfl, ((HB.out.cell (World.block_lt_of_cell? w _ hw117_0)).trans hw117_0), ((HB.out.cell (World.block_lt_of_cell? w _ hw117_1)).trans hw117_1), ((HB.out.cell (World.block_lt_of_cell? w _ hw117_2)).trans hw117_2), ((HB.out.cell (World.block_lt_of_cell? w _ hw117_3)).trans hw117_3), ((HB.out.cell (World.block_lt_of_cell? w _ hw117_4)).trans hw117_4)⟩ (fun hHeld => ?_)
  clear hK K
  refine norm_ (a' := ?_) ?_ ?_
  rotate_left
  ·show Act.put _ (some 6) _ = _
   simp only [Act.put, List.setIfInBounds_toArray, List.set_cons_zero, List.set_cons_succ, i64_w, i32_w]
   rfl
  refine one_ (i := 7) (N := none) #[true, true, true, true, true, true, true, true] rfl rfl (one_of HT_.out (by kernel_rfl)) (by decide) (fun K hK => ?_)
  have hs34 : w33.cell? ⟨gb118, 0, none⟩ = some (.string (⟨#[]⟩ : ByteArray)) := (blk_cell BK118.out 0).trans rfl
  have hfs34 := blk_frozen BK118.out 0
  have hns34_0 := NB114_118.out
  have hns34_1 := NB115_118.out
  have hms34_0 := NB118_114.out
  have hms34_1 := NB118_115.out
  have hs35 : w33.cell? ⟨gb118, 1, none⟩ = some (.int .i64 0) := (blk_cell BK118.out 1).trans rfl
  have hfs35 := blk_frozen BK118.out 1
  have hns35_0 := NB114_118.out
  have hns35_1 := NB115_118.out
  have hms35_0 := NB118_114.out
  have hms35_1 := NB118_115.out
  have hs36 : w33.cell? ⟨gb118, 2, none⟩ = some (.int .i64 0) := (blk_cell BK118.out 2).trans rfl
  have hfs36 := blk_frozen BK118.out 2
  have hns36_0 := NB114_118.out
  have hns36_1 := NB115_118.out
  have hms36_0 := NB118_114.out
  have hms36_1 := NB118_115.out
  have hs37 : w33.cell? ⟨gb118, 3, none⟩ = some (.int .i64 0) := (blk_cell BK118.out 3).trans rfl
  have hfs37 := blk_frozen BK118.out 3
  have hns37_0 := NB114_118.out
  have hns37_1 := NB115_118.out
  have hms37_0 := NB118_114.out
  have hms37_1 := NB118_115.out
  have hs38 : w33.cell? ⟨gb118, 4, none⟩ = some (.int .i64 0) := (blk_cell BK118.out 4).trans rfl
  have hfs38 := blk_frozen BK118.out 4
  have hns38_0 := NB114_118.out
  have hns38_1 := NB115_118.out
  have hms38_0 := NB118_114.out
  have hms38_1 := NB118_115.out
  refine skip_ (w1 := ?_) (by rfl) rfl ?_ ?_
  rotate_left
  ·go_simp
   rfl
  refine hK.out _ _ ⟨((cell_far (p := ⟨gb118, _, none⟩) NB114_118.out _).trans (((cell_far (p := ⟨gb118, _, none⟩) NB114_118.out _).trans (((cell_far (p := ⟨gb118, _, none⟩) NB114_118.out _).trans (((cell_far (p := ⟨gb118, _, none⟩) NB114_118.out _).trans (((cell_far (p := ⟨gb118, _, none⟩) NB114_118.out _).trans (hHeld.1)))))))))), ((cell_far (p := ⟨gb118, _, none⟩) NB114_118.out _).trans (((cell_far (p := ⟨gb118, _, none⟩) NB114_118.out _).trans (((cell_far (p := ⟨gb118, _, none⟩) NB114_118.out _).trans (((cell_far (p := ⟨gb118, _, none⟩) NB114_118.out _).trans (((cell_far (p := ⟨gb118, _, none⟩) NB114_118.out _).trans (hHeld.2.1)))))))))), ((cell_far (p := ⟨gb118, _, none⟩) NB114_118.out _).trans (((cell_far (p := ⟨gb118, _, none⟩) NB114_118.out _).trans (((cell_far (p := ⟨gb118, _, none⟩) NB114_118.out _).trans (((cell_far (p := ⟨gb118, _, none⟩) NB114_118.out _).trans (((cell_far (p := ⟨gb118, _, none⟩) NB114_118.out _).trans (hHeld.2.2.1)))))))))), ((cell_far (p := ⟨gb118, _, none⟩) (by first | exact Nat.ne_of_lt (Nat.lt_of_lt_of_le (by have := World.block_lt_of_cell? _ _ hw117_0; first | rwa [add_block] at this | exact this) GW118.out) | (rw [add_block]; exact Nat.ne_of_lt (Nat.lt_of_lt_of_le (by have := World.block_lt_of_cell? _ _ hw117_0; first | rwa [add_block] at this | exact this) GW118.out)) | (show (Addr.add _ _).block ≠ _; rw [add_block]; exact Nat.ne_of_lt (Nat.lt_of_lt_of_le (by have := World.block_lt_of_cell? _ _ hw117_0; first | rwa [add_block] at this | exact this) GW118.out)) | (dsimp only; exact Nat.ne_of_lt (Nat.lt_of_lt_of_le (by have := World.block_lt_of_cell? _ _ hw117_0; first | rwa [add_block] at this | exact this) GW118.out))) _).trans (((cell_far (p := ⟨gb118, _, none⟩) (by first | exact Nat.ne_of_lt (Nat.lt_of_lt_of_le (by have := World.block_lt_of_cell? _ _ hw117_0; first | rwa [add_block] at this | exact this) GW118.out) | (rw [add_block]; exact Nat.ne_of_lt (Nat.lt_of_lt_of_le (by have := World.block_lt_of_cell? _ _ hw117_0; first | rwa [add_block] at this | exact this) GW118.out)) | (show (Addr.add _ _).block ≠ _; rw [add_block]; exact Nat.ne_of_lt (Nat.lt_of_lt_of_le (by have := World.block_lt_of_cell? _ _ hw117_0; first | rwa [add_block] at this | exact this) GW118.out)) | (dsimp only; exact Nat.ne_of_lt (Nat.lt_of_lt_of_le (by have := World.block_lt_of_cell? _ _ hw117_0; first | rwa [add_block] at this | exact this) GW118.out))) _).trans (((cell_far (p := ⟨gb118, _, none⟩) (by first | exact Nat.ne_of_lt (Nat.lt_of_lt_of_le (by have := World.block_lt_of_cell? _ _ hw117_0; first | rwa [add_block] at this | exact this) GW118.out) | (rw [add_block]; exact Nat.ne_of_lt (Nat.lt_of_lt_of_le (by have := World.block_lt_of_cell? _ _ hw117_0; first | rwa [add_block] at this | exact this) GW118.out)) | (show (Addr.add _ _).block ≠ _; rw [add_block]; exact Nat.ne_of_lt (Nat.lt_of_lt_of_le (by have := World.block_lt_of_cell? _ _ hw117_0; first | rwa [add_block] at this | exact this) GW118.out)) | (dsimp only; exact Nat.ne_of_lt (Nat.lt_of_lt_of_le (by have := World.block_lt_of_cell? _ _ hw117_0; first | rwa [add_block] at this | exact this) GW118.out))) _).trans (((cell_far (p := ⟨gb118, _, none⟩) (by first | exact Nat.ne_of_lt (Nat.lt_of_lt_of_le (by have := World.block_lt_of_cell? _ _ hw117_0; first | rwa [add_block] at this | exact this) GW118.out) | (rw [add_block]; exact Nat.ne_of_lt (Nat.lt_of_lt_of_le (by have := World.block_lt_of_cell? _ _ hw117_0; first | rwa [add_block] at this | exact this) GW118.out)) | (show (Addr.add _ _).block ≠ _; rw [add_block]; exact Nat.ne_of_lt (Nat.lt_of_lt_of_le (by have := World.block_lt_of_cell? _ _ hw117_0; first | rwa [add_block] at this | exact this) GW118.out)) | (dsimp only; exact Nat.ne_of_lt (Nat.lt_of_lt_of_le (by have := World.block_lt_of_cell? _ _ hw117_0; first | rwa [add_block] at this | exact this) GW118.out))) _).trans (((cell_far (p := ⟨gb118, _, none⟩) (by first | exact Nat.ne_of_lt (Nat.lt_of_lt_of_le (by have := World.block_lt_of_cell? _ _ hw117_0; first | rwa [add_block] at this | exact this) GW118.out) | (rw [add_block]; exact Nat.ne_of_lt (Nat.lt_of_lt_of_le (by have := World.block_lt_of_cell? _ _ hw117_0; first | rwa [add_block] at this | exact this) GW118.out)) | (show (Addr.add _ _).block ≠ _; rw [add_block]; exact Nat.ne_of_lt (Nat.lt_of_lt_of_le (by have := World.block_lt_of_cell? _ _ hw117_0; first | rwa [add_block] at this | exact this) GW118.out)) | (dsimp only; exact Nat.ne_of_lt (Nat.lt_of_lt_of_le (by have := World.block_lt_of_cell? _ _ hw117_0; first | rwa [add_block] at this | exact this) GW118.out))) _).trans (hHeld.2.2.2.1)))))))))), ((cell_far (p := ⟨gb118, _, none⟩) (by first | exact Nat.ne_of_lt (Nat.lt_of_lt_of_le (by have := World.block_lt_of_cell? _ _ hw117_1; first | rwa [add_block] at this | exact this) GW118.out) | (rw [add_block]; exact Nat.ne_of_lt (Nat.lt_of_lt_of_le (by have := World.block_lt_of_cell? _ _ hw117_1; first | rwa [add_block] at this | exact this) GW118.out)) | (show (Addr.add _ _).block ≠ _; rw [add_block]; exact Nat.ne_of_lt (Nat.lt_of_lt_of_le (by have := World.block_lt_of_cell? _ _ hw117_1; first | rwa [add_block] at this | exact this) GW118.out)) | (dsimp only; exact Nat.ne_of_lt (Nat.lt_of_lt_of_le (by have := World.block_lt_of_cell? _ _ hw117_1; first | rwa [add_block] at this | exact this) GW118.out))) _).trans (((cell_far (p := ⟨gb118, _, none⟩) (by first | exact Nat.ne_of_lt (Nat.lt_of_lt_of_le (by have := World.block_lt_of_cell? _ _ hw117_1; first | rwa [add_block] at this | exact this) GW118.out) | (rw [add_block]; exact Nat.ne_of_lt (Nat.lt_of_lt_of_le (by have := World.block_lt_of_cell? _ _ hw117_1; first | rwa [add_block] at this | exact this) GW118.out)) | (show (Addr.add _ _).block ≠ _; rw [add_block]; exact Nat.ne_of_lt (Nat.lt_of_lt_of_le (by have := World.block_lt_of_cell? _ _ hw117_1; first | rwa [add_block] at this | exact this) GW118.out)) | (dsimp only; exact Nat.ne_of_lt (Nat.lt_of_lt_of_le (by have := World.block_lt_of_cell? _ _ hw117_1; first | rwa [add_block] at this | exact this) GW118.out))) _).trans (((cell_far (p := ⟨gb118, _, none⟩) (by first | exact Nat.ne_of_lt (Nat.lt_of_lt_of_le (by have := World.block_lt_of_cell? _ _ hw117_1; first | rwa [add_block] at this | exact this) GW118.out) | (rw [add_block]; exact Nat.ne_of_lt (Nat.lt_of_lt_of_le (by have := World.block_lt_of_cell? _ _ hw117_1; first | rwa [add_block] at this | exact this) GW118.out)) | (show (Addr.add _ _).block ≠ _; rw [add_block]; exact Nat.ne_of_lt (Nat.lt_of_lt_of_le (by have := World.block_lt_of_cell? _ _ hw117_1; first | rwa [add_block] at this | exact this) GW118.out)) | (dsimp only; exact Nat.ne_of_lt (Nat.lt_of_lt_of_le (by have := World.block_lt_of_cell? _ _ hw117_1; first | rwa [add_block] at this | exact this) GW118.out))) _).trans (((cell_far (p := ⟨gb118, _, none⟩) (by first | exact Nat.ne_of_lt (Nat.lt_of_lt_of_le (by have := World.block_lt_of_cell? _ _ hw117_1; first | rwa [add_block] at this | exact this) GW118.out) | (rw [add_block]; exact Nat.ne_of_lt (Nat.lt_of_lt_of_le (by have := World.block_lt_of_cell? _ _ hw117_1; first | rwa [add_block] at this | exact this) GW118.out)) | (show (Addr.add _ _).block ≠ _; rw [add_block]; exact Nat.ne_of_lt (Nat.lt_of_lt_of_le (by have := World.block_lt_of_cell? _ _ hw117_1; first | rwa [add_block] at this | exact this) GW118.out)) | (dsimp only; exact Nat.ne_of_lt (Nat.lt_of_lt_of_le (by have := World.block_lt_of_cell? _ _ hw117_1; first | rwa [add_block] at this | exact this) GW118.out))) _).trans (((cell_far (p := ⟨gb118, _, none⟩) (by first | exact Nat.ne_of_lt (Nat.lt_of_lt_of_le (by have := World.block_lt_of_cell? _ _ hw117_1; first | rwa [add_block] at this | exact this) GW118.out) | (rw [add_block]; exact Nat.ne_of_lt (Nat.lt_of_lt_of_le (by have := World.block_lt_of_cell? _ _ hw117_1; first | rwa [add_block] at this | exact this) GW118.out)) | (show (Addr.add _ _).block ≠ _; rw [add_block]; exact Nat.ne_of_lt (Nat.lt_of_lt_of_le (by have := World.block_lt_of_cell? _ _ hw117_1; first | rwa [add_block] at this | exact this) GW118.out)) | (dsimp only; exact Nat.ne_of_lt (Nat.lt_of_lt_of_le (by have := World.block_lt_of_cell? _ _ hw117_1; first | rwa [add_block] at this | exact this) GW118.out))) _).trans (hHeld.2.2.2.2.1)))))))))), ((cell_far (p := ⟨gb118, _, none⟩) (by first | exact Nat.ne_of_lt (Nat.lt_of_lt_of_le (by have := World.block_lt_of_cell? _ _ hw117_2; first | rwa [add_block] at this | exact this) GW118.out) | (rw [add_block]; exact Nat.ne_of_lt (Nat.lt_of_lt_of_le (by have := World.block_lt_of_cell? _ _ hw117_2; first | rwa [add_block] at this | exact this) GW118.out)) | (show (Addr.add _ _).block ≠ _; rw [add_block]; exact Nat.ne_of_lt (Nat.lt_of_lt_of_le (by have := World.block_lt_of_cell? _ _ hw117_2; first | rwa [add_block] at this | exact this) GW118.out)) | (dsimp only; exact Nat.ne_of_lt (Nat.lt_of_lt_of_le (by have := World.block_lt_of_cell? _ _ hw117_2; first | rwa [add_block] at this | exact this) GW118.out))) _).trans (((cell_far (p := ⟨gb118, _, none⟩) (by first | exact Nat.ne_of_lt (Nat.lt_of_lt_of_le (by have := World.block_lt_of_cell? _ _ hw117_2; first | rwa [add_block] at this | exact this) GW118.out) | (rw [add_block]; exact Nat.ne_of_lt (Nat.lt_of_lt_of_le (by have := World.block_lt_of_cell? _ _ hw117_2; first | rwa [add_block] at this | exact this) GW118.out)) | (show (Addr.add _ _).block ≠ _; rw [add_block]; exact Nat.ne_of_lt (Nat.lt_of_lt_of_le (by have := World.block_lt_of_cell? _ _ hw117_2; first | rwa [add_block] at this | exact this) GW118.out)) | (dsimp only; exact Nat.ne_of_lt (Nat.lt_of_lt_of_le (by have := World.block_lt_of_cell? _ _ hw117_2; first | rwa [add_block] at this | exact this) GW118.out))) _).trans (((cell_far (p := ⟨gb118, _, none⟩) (by first | exact Nat.ne_of_lt (Nat.lt_of_lt_of_le (by have := World.block_lt_of_cell? _ _ hw117_2; first | rwa [add_block] at this | exact this) GW118.out) | (rw [add_block]; exact Nat.ne_of_lt (Nat.lt_of_lt_of_le (by have := World.block_lt_of_cell? _ _ hw117_2; first | rwa [add_block] at this | exact this) GW118.out)) | (show (Addr.add _ _).block ≠ _; rw [add_block]; exact Nat.ne_of_lt (Nat.lt_of_lt_of_le (by have := World.block_lt_of_cell? _ _ hw117_2; first | rwa [add_block] at this | exact this) GW118.out)) | (dsimp only; exact Nat.ne_of_lt (Nat.lt_of_lt_of_le (by have := World.block_lt_of_cell? _ _ hw117_2; first | rwa [add_block] at this | exact this) GW118.out))) _).trans (((cell_far (p := ⟨gb118, _, none⟩) (by first | exact Nat.ne_of_lt (Nat.lt_of_lt_of_le (by have := World.block_lt_of_cell? _ _ hw117_2; first | rwa [add_block] at this | exact this) GW118.out) | (rw [add_block]; exact Nat.ne_of_lt (Nat.lt_of_lt_of_le (by have := World.block_lt_of_cell? _ _ hw117_2; first | rwa [add_block] at this | exact this) GW118.out)) | (show (Addr.add _ _).block ≠ _; rw [add_block]; exact Nat.ne_of_lt (Nat.lt_of_lt_of_le (by have := World.block_lt_of_cell? _ _ hw117_2; first | rwa [add_block] at this | exact this) GW118.out)) | (dsimp only; exact Nat.ne_of_lt (Nat.lt_of_lt_of_le (by have := World.block_lt_of_cell? _ _ hw117_2; first | rwa [add_block] at this | exact this) GW118.out))) _).trans (((cell_far (p := ⟨gb118, _, none⟩) (by first | exact Nat.ne_of_lt (Nat.lt_of_lt_of_le (by have := World.block_lt_of_cell? _ _ hw117_2; first | rwa [add_block] at this | exact this) GW118.out) | (rw [add_block]; exact Nat.ne_of_lt (Nat.lt_of_lt_of_le (by have := World.block_lt_of_cell? _ _ hw117_2; first | rwa [add_block] at this | exact this) GW118.out)) | (show (Addr.add _ _).block ≠ _; rw [add_block]; exact Nat.ne_of_lt (Nat.lt_of_lt_of_le (by have := World.block_lt_of_cell? _ _ hw117_2; first | rwa [add_block] at this | exact this) GW118.out)) | (dsimp only; exact Nat.ne_of_lt (Nat.lt_of_lt_of_le (by have := World.block_lt_of_cell? _ _ hw117_2; first | rwa [add_block] at this | exact this) GW118.out))) _).trans (hHeld.2.2.2.2.2.1)))))))))), ((cell_far (p := ⟨gb118, _, none⟩) (by first | exact Nat.ne_of_lt (Nat.lt_of_lt_of_le (by have := World.block_lt_of_cell? _ _ hw117_3; first | rwa [add_block] at this | exact this) GW118.out) | (rw [add_block]; exact Nat.ne_of_lt (Nat.lt_of_lt_of_le (by have := World.block_lt_of_cell? _ _ hw117_3; first | rwa [add_block] at this | exact this) GW118.out)) | (show (Addr.add _ _).block ≠ _; rw [add_block]; exact Nat.ne_of_lt (Nat.lt_of_lt_of_le (by have := World.block_lt_of_cell? _ _ hw117_3; first | rwa [add_block] at this | exact this) GW118.out)) | (dsimp only; exact Nat.ne_of_lt (Nat.lt_of_lt_of_le (by have := World.block_lt_of_cell? _ _ hw117_3; first | rwa [add_block] at this | exact this) GW118.out))) _).trans (((cell_far (p := ⟨gb118, _, none⟩) (by first | exact Nat.ne_of_lt (Nat.lt_of_lt_of_le (by have := World.block_lt_of_cell? _ _ hw117_3; first | rwa [add_block] at this | exact this) GW118.out) | (rw [add_block]; exact Nat.ne_of_lt (Nat.lt_of_lt_of_le (by have := World.block_lt_of_cell? _ _ hw117_3; first | rwa [add_block] at this | exact this) GW118.out)) | (show (Addr.add _ _).block ≠ _; rw [add_block]; exact Nat.ne_of_lt (Nat.lt_of_lt_of_le (by have := World.block_lt_of_cell? _ _ hw117_3; first | rwa [add_block] at this | exact this) GW118.out)) | (dsimp only; exact Nat.ne_of_lt (Nat.lt_of_lt_of_le (by have := World.block_lt_of_cell? _ _ hw117_3; first | rwa [add_block] at this | exact this) GW118.out))) _).trans (((cell_far (p := ⟨gb118, _, none⟩) (by first | exact Nat.ne_of_lt (Nat.lt_of_lt_of_le (by have := World.block_lt_of_cell? _ _ hw117_3; first | rwa [add_block] at this | exact this) GW118.out) | (rw [add_block]; exact Nat.ne_of_lt (Nat.lt_of_lt_of_le (by have := World.block_lt_of_cell? _ _ hw117_3; first | rwa [add_block] at this | exact this) GW118.out)) | (show (Addr.add _ _).block ≠ _; rw [add_block]; exact Nat.ne_of_lt (Nat.lt_of_lt_of_le (by have := World.block_lt_of_cell? _ _ hw117_3; first | rwa [add_block] at this | exact this) GW118.out)) | (dsimp only; exact Nat.ne_of_lt (Nat.lt_of_lt_of_le (by have := World.block_lt_of_cell? _ _ hw117_3; first | rwa [add_block] at this | exact this) GW118.out))) _).trans (((cell_far (p := ⟨gb118, _, none⟩) (by first | exact Nat.ne_of_lt (Nat.lt_of_lt_of_le (by have := World.block_lt_of_cell? _ _ hw117_3; first | rwa [add_block] at this | exact this) GW118.out) | (rw [add_block]; exact Nat.ne_of_lt (Nat.lt_of_lt_of_le (by have := World.block_lt_of_cell? _ _ hw117_3; first | rwa [add_block] at this | exact this) GW118.out)) | (show (Addr.add _ _).block ≠ _; rw [add_block]; exact Nat.ne_of_lt (Nat.lt_of_lt_of_le (by have := World.block_lt_of_cell? _ _ hw117_3; first | rwa [add_block] at this | exact this) GW118.out)) | (dsimp only; exact Nat.ne_of_lt (Nat.lt_of_lt_of_le (by have := World.block_lt_of_cell? _ _ hw117_3; first | rwa [add_block] at this | exact this) GW118.out))) _).trans (((cell_far (p := ⟨gb118, _, none⟩) (by first | exact Nat.ne_of_lt (Nat.lt_of_lt_of_le (by have := World.block_lt_of_cell? _ _ hw117_3; first | rwa [add_block] at this | exact this) GW118.out) | (rw [add_block]; exact Nat.ne_of_lt (Nat.lt_of_lt_of_le (by have := World.block_lt_of_cell? _ _ hw117_3; first | rwa [add_block] at this | exact this) GW118.out)) | (show (Addr.add _ _).block ≠ _; rw [add_block]; exact Nat.ne_of_lt (Nat.lt_of_lt_of_le (by have := World.block_lt_of_cell? _ _ hw117_3; first | rwa [add_block] at this | exact this) GW118.out)) | (dsimp only; exact Nat.ne_of_lt (Nat.lt_of_lt_of_le (by have := World.block_lt_of_cell? _ _ hw117_3; first | rwa [add_block] at this | exact this) GW118.out))) _).trans (hHeld.2.2.2.2.2.2.1)))))))))), ((cell_far (p := ⟨gb118, _, none⟩) (by first | exact Nat.ne_of_lt (Nat.lt_of_lt_of_le (by have := World.block_lt_of_cell? _ _ hw117_4; first | rwa [add_block] at this | exact this) GW118.out) | (rw [add_block]; exact Nat.ne_of_lt (Nat.lt_of_lt_of_le (by have := World.block_lt_of_cell? _ _ hw117_4; first | rwa [add_block] at this | exact this) GW118.out)) | (show (Addr.add _ _).block ≠ _; rw [add_block]; exact Nat.ne_of_lt (Nat.lt_of_lt_of_le (by have := World.block_lt_of_cell? _ _ hw117_4; first | rwa [add_block] at this | exact this) GW118.out)) | (dsimp only; exact Nat.ne_of_lt (Nat.lt_of_lt_of_le (by have := World.block_lt_of_cell? _ _ hw117_4; first | rwa [add_block] at this | exact this) GW118.out))) _).trans (((cell_far (p := ⟨gb118, _, none⟩) (by first | exact Nat.ne_of_lt (Nat.lt_of_lt_of_le (by have := World.block_lt_of_cell? _ _ hw117_4; first | rwa [add_block] at this | exact this) GW118.out) | (rw [add_block]; exact Nat.ne_of_lt (Nat.lt_of_lt_of_le (by have := World.block_lt_of_cell? _ _ hw117_4; first | rwa [add_block] at this | exact this) GW118.out)) | (show (Addr.add _ _).block ≠ _; rw [add_block]; exact Nat.ne_of_lt (Nat.lt_of_lt_of_le (by have := World.block_lt_of_cell? _ _ hw117_4; first | rwa [add_block] at this | exact this) GW118.out)) | (dsimp only; exact Nat.ne_of_lt (Nat.lt_of_lt_of_le (by have := World.block_lt_of_cell? _ _ hw117_4; first | rwa [add_block] at this | exact this) GW118.out))) _).trans (((cell_far (p := ⟨gb118, _, none⟩) (by first | exact Nat.ne_of_lt (Nat.lt_of_lt_of_le (by have := World.block_lt_of_cell? _ _ hw117_4; first | rwa [add_block] at this | exact this) GW118.out) | (rw [add_block]; exact Nat.ne_of_lt (Nat.lt_of_lt_of_le (by have := World.block_lt_of_cell? _ _ hw117_4; first | rwa [add_block] at this | exact this) GW118.out)) | (show (Addr.add _ _).block ≠ _; rw [add_block]; exact Nat.ne_of_lt (Nat.lt_of_lt_of_le (by have := World.block_lt_of_cell? _ _ hw117_4; first | rwa [add_block] at this | exact this) GW118.out)) | (dsimp only; exact Nat.ne_of_lt (Nat.lt_of_lt_of_le (by have := World.block_lt_of_cell? _ _ hw117_4; first | rwa [add_block] at this | exact this) GW118.out))) _).trans (((cell_far (p := ⟨gb118, _, none⟩) (by first | exact Nat.ne_of_lt (Nat.lt_of_lt_of_le (by have := World.block_lt_of_cell? _ _ hw117_4; first | rwa [add_block] at this | exact this) GW118.out) | (rw [add_block]; exact Nat.ne_of_lt (Nat.lt_of_lt_of_le (by have := World.block_lt_of_cell? _ _ hw117_4; first | rwa [add_block] at this | exact this) GW118.out)) | (show (Addr.add _ _).block ≠ _; rw [add_block]; exact Nat.ne_of_lt (Nat.lt_of_lt_of_le (by have := World.block_lt_of_cell? _ _ hw117_4; first | rwa [add_block] at this | exact this) GW118.out)) | (dsimp only; exact Nat.ne_of_lt (Nat.lt_of_lt_of_le (by have := World.block_lt_of_cell? _ _ hw117_4; first | rwa [add_block] at this | exact this) GW118.out))) _).trans (((cell_far (p := ⟨gb118, _, none⟩) (by first | exact Nat.ne_of_lt (Nat.lt_of_lt_of_le (by have := World.block_lt_of_cell? _ _ hw117_4; first | rwa [add_block] at this | exact this) GW118.out) | (rw [add_block]; exact Nat.ne_of_lt (Nat.lt_of_lt_of_le (by have := World.block_lt_of_cell? _ _ hw117_4; first | rwa [add_block] at this | exact this) GW118.out)) | (show (Addr.add _ _).block ≠ _; rw [add_block]; exact Nat.ne_of_lt (Nat.lt_of_lt_of_le (by have := World.block_lt_of_cell? _ _ hw117_4; first | rwa [add_block] at this | exact this) GW118.out)) | (dsimp only; exact Nat.ne_of_lt (Nat.lt_of_lt_of_le (by have := World.block_lt_of_cell? _ _ hw117_4; first | rwa [add_block] at this | exact this) GW118.out))) _).trans (hHeld.2.2.2.2.2.2.2))))))))))⟩ (fun hHeld => ?_)
  clear hK K
  refine done_ (done_of HT_.out (by kernel_rfl)) ?_
  try go_wp2
  have n0_ : Aside0 ((((((w33.setCell ⟨gb118, 0, none⟩ (.string ((rd_T72 l0 a1_0).f0))).setCell ⟨gb118, 1, none⟩ (.int .i64 ((rd_T72 l0 a1_0).f1))).setCell ⟨gb118, 2, none⟩ (.int .i64 ((rd_T72 l0 a1_0).f2))).setCell ⟨gb118, 3, none⟩ (.int .i64 ((rd_T72 l0 a1_0).f3))).setCell ⟨gb118, 4, none⟩ (.int .i64 ((rd_T72 l0 a1_0).f4))).heap[gb114]? = some (.cells #[.int .i64 a1_0, .int .i64 a1_1, .int .i64 a1_2] 41 (0, 0))) := ⟨by refine bu ?_; refine blk_far ?_ NB114_118.out _; refine bu ?_; refine blk_far ?_ NB114_118.out _; refine bu ?_; refine blk_far ?_ NB114_118.out _; refine bu ?_; refine blk_far ?_ NB114_118.out _; refine bu ?_; refine blk_far ?_ NB114_118.out _; refine bu ?_; exact BK114.out⟩
  have n1_ : Aside0 ((((((w33.setCell ⟨gb118, 0, none⟩ (.string ((rd_T72 l0 a1_0).f0))).setCell ⟨gb118, 1, none⟩ (.int .i64 ((rd_T72 l0 a1_0).f1))).setCell ⟨gb118, 2, none⟩ (.int .i64 ((rd_T72 l0 a1_0).f2))).setCell ⟨gb118, 3, none⟩ (.int .i64 ((rd_T72 l0 a1_0).f3))).setCell ⟨gb118, 4, none⟩ (.int .i64 ((rd_T72 l0 a1_0).f4))).heap[gb115]? = some (.cells #[.string (⟨#[]⟩ : ByteArray), .int .i64 0, .int .i64 0, .int .i64 0, .int .i64 0] 72 (0, 0))) := ⟨by refine bu ?_; refine blk_far ?_ NB115_118.out _; refine bu ?_; refine blk_far ?_ NB115_118.out _; refine bu ?_; refine blk_far ?_ NB115_118.out _; refine bu ?_; refine blk_far ?_ NB115_118.out _; refine bu ?_; refine blk_far ?_ NB115_118.out _; refine bu ?_; exact BK115.out⟩
  have n2_ : Aside0 ((((((w33.setCell ⟨gb118, 0, none⟩ (.string ((rd_T72 l0 a1_0).f0))).setCell ⟨gb118, 1, none⟩ (.int .i64 ((rd_T72 l0 a1_0).f1))).setCell ⟨gb118, 2, none⟩ (.int .i64 ((rd_T72 l0 a1_0).f2))).setCell ⟨gb118, 3, none⟩ (.int .i64 ((rd_T72 l0 a1_0).f3))).setCell ⟨gb118, 4, none⟩ (.int .i64 ((rd_T72 l0 a1_0).f4))).heap[gb118]? = some (.cells #[.string ((rd_T72 l0 a1_0).f0), .int .i64 ((rd_T72 l0 a1_0).f1), .int .i64 ((rd_T72 l0 a1_0).f2), .int .i64 ((rd_T72 l0 a1_0).f3), .int .i64 ((rd_T72 l0 a1_0).f4)] 72 (0, 0))) := ⟨by refine bu ?_; refine blk_put (cs := #[.string ((rd_T72 l0 a1_0).f0), .int .i64 ((rd_T72 l0 a1_0).f1), .int .i64 ((rd_T72 l0 a1_0).f2), .int .i64 ((rd_T72 l0 a1_0).f3), .int .i64 0]) ?_ 4 _ rfl; refine bu ?_; refine blk_put (cs := #[.string ((rd_T72 l0 a1_0).f0), .int .i64 ((rd_T72 l0 a1_0).f1), .int .i64 ((rd_T72 l0 a1_0).f2), .int .i64 0, .int .i64 0]) ?_ 3 _ rfl; refine bu ?_; refine blk_put (cs := #[.string ((rd_T72 l0 a1_0).f0), .int .i64 ((rd_T72 l0 a1_0).f1), .int .i64 0, .int .i64 0, .int .i64 0]) ?_ 2 _ rfl; refine bu ?_; refine blk_put (cs := #[.string ((rd_T72 l0 a1_0).f0), .int .i64 0, .int .i64 0, .int .i64 0, .int .i64 0]) ?_ 1 _ rfl; refine bu ?_; refine blk_put (cs := #[.string (⟨#[]⟩ : ByteArray), .int .i64 0, .int .i64 0, .int .i64 0, .int .i64 0]) ?_ 0 _ rfl; refine bu ?_; exact BK118.out⟩
  have n3_ : Aside0 (Below w.heap.size w (((((w33.setCell ⟨gb118, 0, none⟩ (.string ((rd_T72 l0 a1_0).f0))).setCell ⟨gb118, 1, none⟩ (.int .i64 ((rd_T72 l0 a1_0).f1))).setCell ⟨gb118, 2, none⟩ (.int .i64 ((rd_T72 l0 a1_0).f2))).setCell ⟨gb118, 3, none⟩ (.int .i64 ((rd_T72 l0 a1_0).f3))).setCell ⟨gb118, 4, none⟩ (.int .i64 ((rd_T72 l0 a1_0).f4)))) := ⟨bs⟩
  (try clear BK114)
  (try clear BK115)
  (try clear BK118)
  (try clear HB)
  generalize (((((w33.setCell ⟨gb118, 0, none⟩ (.string ((rd_T72 l0 a1_0).f0))).setCell ⟨gb118, 1, none⟩ (.int .i64 ((rd_T72 l0 a1_0).f1))).setCell ⟨gb118, 2, none⟩ (.int .i64 ((rd_T72 l0 a1_0).f2))).setCell ⟨gb118, 3, none⟩ (.int .i64 ((rd_T72 l0 a1_0).f3))).setCell ⟨gb118, 4, none⟩ (.int .i64 ((rd_T72 l0 a1_0).f4))) = w39 at n0_ n1_ n2_ n3_ ⊢
  have BK114 := n0_
  have BK115 := n1_
  have BK118 := n2_
  have HB := n3_
  clear n0_ n1_ n2_ n3_
  have n0_ := am (blk_drew BK114.out)
  have n1_ := am (blk_drew BK115.out)
  have n2_ := am (blk_drew BK118.out)
  have n3_ := am (below_drew1 HB.out)
  clear BK114
  clear BK115
  clear BK118
  clear HB
  have BK114 := n0_
  have BK115 := n1_
  have BK118 := n2_
  have HB := n3_
  clear n0_ n1_ n2_ n3_
  refine start_ (n := 17) (S := fun w' => w'.cell? ⟨gb118, 0, none⟩ = some (.string ((rd_T72 l0 a1_0).f0)) ∧ w'.cell? ⟨gb118, 1, none⟩ = some (.int .i64 ((rd_T72 l0 a1_0).f1)) ∧ w'.cell? ⟨gb118, 2, none⟩ = some (.int .i64 ((rd_T72 l0 a1_0).f2)) ∧ w'.cell? ⟨gb118, 3, none⟩ = some (.int .i64 ((rd_T72 l0 a1_0).f3)) ∧ w'.cell? ⟨gb118, 4, none⟩ = some (.int .i64 ((rd_T72 l0 a1_0).f4)) ∧ w'.cell? ⟨gb114, 0, none⟩ = some (.int .i64 a1_0) ∧ w'.cell? ⟨gb114, 1, none⟩ = some (.int .i64 a1_1) ∧ w'.cell? ⟨gb114, 2, none⟩ = some (.int .i64 a1_2)) (ds := []) #[false, false, false, false, false, false, false, false, false, false, false, false, false, false, false, false, false] (by kernel_rfl) rfl rfl ⟨(blk_cell BK118.out 0).trans rfl, (blk_cell BK118.out 1).trans rfl, (blk_cell BK118.out 2).trans rfl, (blk_cell BK118.out 3).trans rfl, (blk_cell BK118.out 4).trans rfl, (blk_cell BK114.out 0).trans rfl, (blk_cell BK114.out 1).trans rfl, (blk_cell BK114.out 2).trans rfl⟩ (fun hHeld => ?_); refine with_tabW c_known.tab4 c_known.bits4 (fun HT_ HW_ => ?_)
  generalize w39.drew = w40 at BK114 BK115 BK118 HB hHeld ⊢
  refine pure_ (i := 1) (N := some 19) (v := ?_) (a' := ?_) #[false, true, false, false, false, false, false, false, false, false, false, false, false, false, false, false, false] rfl rfl (any_of HT_.out (by kernel_rfl)) (fun _ _ _ h => h) (Or.inl ⟨by rfl, ?_⟩) ?_ ?_
  rotate_left
  ·intro w'
   go_simp
   with_reducible rfl
  rotate_left
  ·simp only [Act.put, List.setIfInBounds_toArray, List.set_cons_zero, List.set_cons_succ, i64_w, i32_w]
   rfl
  refine pure_ (i := 3) (N := some 21) (v := ?_) (a' := ?_) #[false, true, false, true, false, false, false, false, false, false, false, false, false, false, false, false, false] rfl rfl (any_of HT_.out (by kernel_rfl)) (fun _ _ _ h => h) (Or.inl ⟨by rfl, ?_⟩) ?_ ?_
  rotate_left
  ·intro w'
   go_simp
   with_reducible rfl
  rotate_left
  ·simp only [Act.put, List.setIfInBounds_toArray, List.set_cons_zero, List.set_cons_succ, i64_w, i32_w]
   rfl
  refine take_ (i := 0) (N := some 18) (v := ?_) (a' := ?_) #[true, true, false, true, false, false, false, false, false, false, false, false, false, false, false, false, false] rfl rfl (take_ofW HT_.out HW_.out (by kernel_rfl)) (fun _ _ _ h => h) (Or.inl ⟨by rfl, ?_⟩) hHeld ?_ ?_
  rotate_left
  ·rintro w' ⟨s0, s1, s2, s3, s4, s5, s6, s7⟩
   go_simp
   with_reducible rfl
  rotate_left
  ·simp only [Act.put, List.setIfInBounds_toArray, List.set_cons_zero, List.set_cons_succ, i64_w, i32_w]
   rfl
  refine take_ (i := 2) (N := some 20) (v := ?_) (a' := ?_) #[true, true, true, true, false, false, false, false, false, false, false, false, false, false, false, false, false] rfl rfl (take_ofW HT_.out HW_.out (by kernel_rfl)) (fun _ _ _ h => h) (Or.inl ⟨by rfl, ?_⟩) hHeld ?_ ?_
  rotate_left
  ·rintro w' ⟨s0, s1, s2, s3, s4, s5, s6, s7⟩
   go_simp
   with_reducible rfl
  rotate_left
  ·simp only [Act.put, List.setIfInBounds_toArray, List.set_cons_zero, List.set_cons_succ, i64_w, i32_w]
   rfl
  refine take_ (i := 4) (N := some 22) (v := ?_) (a' := ?_) #[true, true, true, true, true, false, false, false, false, false, false, false, false, false, false, false, false] rfl rfl (take_ofW HT_.out HW_.out (by kernel_rfl)) (fun _ _ _ h => h) (Or.inl ⟨by rfl, ?_⟩) hHeld ?_ ?_
  rotate_left
  ·rintro w' ⟨s0, s1, s2, s3, s4, s5, s6, s7⟩
   go_simp
   with_reducible rfl
  rotate_left
  ·simp only [Act.put, List.setIfInBounds_toArray, List.set_cons_zero, List.set_cons_succ, i64_w, i32_w]
   rfl
  refine one_ (i := 5) (N := some 23) #[true, true, true, true, true, true, false, false, false, false, false, false, false, false, false, false, false] rfl rfl (one_of HT_.out (by kernel_rfl)) (by decide) (fun K hK => ?_)
  refine goes_ Tryd.func48 (by kernel_rfl) rfl #[.int .i64 ((rd_T72 l0 a1_0).f1), .int .i64 a1_1, .int .i64 0] (by rfl) rfl rfl ls ?_
  with_reducible refine (c_operand.calls k ((rd_T72 l0 a1_0).f1) a1_1 0 false _ A7.out).mono ?_
  rintro e w' ⟨rfl, ⟨nd, rfl⟩⟩
  refine ⟨_, rfl, ?_⟩
  refine hK.out _ _ ⟨(blk_cell BK118.out 0).trans rfl, (blk_cell BK118.out 1).trans rfl, (blk_cell BK118.out 2).trans rfl, (blk_cell BK118.out 3).trans rfl, (blk_cell BK118.out 4).trans rfl, (blk_cell BK114.out 0).trans rfl, (blk_cell BK114.out 1).trans rfl, (blk_cell BK114.out 2).trans rfl⟩ (fun hHeld => ?_)
  clear hK K
  refine norm_ (a' := ?_) ?_ ?_
  rotate_left
  ·show Act.put _ (some 23) _ = _
   simp only [Act.put, List.setIfInBounds_toArray, List.set_cons_zero, List.set_cons_succ, i64_w, i32_w]
   rfl
  refine pure_ (i := 6) (N := some 24) (v := ?_) (a' := ?_) #[true, true, true, true, true, true, true, false, false, false, false, false, false, false, false, false, false] rfl rfl (any_of HT_.out (by kernel_rfl)) (fun _ _ _ h => h) (Or.inl ⟨by rfl, ?_⟩) ?_ ?_
  rotate_left
  ·intro w'
   go_simp
   with_reducible rfl
  rotate_left
  ·simp only [Act.put, List.setIfInBounds_toArray, List.set_cons_zero, List.set_cons_succ, i64_w, i32_w]
   rfl
  refine pure_ (i := 7) (N := some 25) (v := undef) (a' := ?_) #[true, true, true, true, true, true, true, true, false, false, false, false, false, false, false, false, false] rfl rfl (any_of HT_.out (by kernel_rfl)) (fun _ _ _ h => h) (Or.inr ⟨by rfl, rfl⟩) ?_ ?_
  rotate_left
  ·simp only [Act.put, List.setIfInBounds_toArray, List.set_cons_zero, List.set_cons_succ, i64_w, i32_w]
   rfl
  refine pure_ (i := 8) (N := some 26) (v := undef) (a' := ?_) #[true, true, true, true, true, true, true, true, true, false, false, false, false, false, false, false, false] rfl rfl (any_of HT_.out (by kernel_rfl)) (fun _ _ _ h => h) (Or.inr ⟨by rfl, rfl⟩) ?_ ?_
  rotate_left
  ·simp only [Act.put, List.setIfInBounds_toArray, List.set_cons_zero, List.set_cons_succ, i64_w, i32_w]
   rfl
  refine pure_ (i := 9) (N := some 27) (v := undef) (a' := ?_) #[true, true, true, true, true, true, true, true, true, true, false, false, false, false, false, false, false] rfl rfl (any_of HT_.out (by kernel_rfl)) (fun _ _ _ h => h) (Or.inr ⟨by rfl, rfl⟩) ?_ ?_
  rotate_left
  ·simp only [Act.put, List.setIfInBounds_toArray, List.set_cons_zero, List.set_cons_succ, i64_w, i32_w]
   rfl
  refine pure_ (i := 10) (N := some 28) (v := undef) (a' := ?_) #[true, true, true, true, true, true, true, true, true, true, true, false, false, false, false, false, false] rfl rfl (any_of HT_.out (by kernel_rfl)) (fun _ _ _ h => h) (Or.inr ⟨by rfl, rfl⟩) ?_ ?_
  rotate_left
  ·simp only [Act.put, List.setIfInBounds_toArray, List.set_cons_zero, List.set_cons_succ, i64_w, i32_w]
   rfl
  refine pure_ (i := 11) (N := some 29) (v := undef) (a' := ?_) #[true, true, true, true, true, true, true, true, true, true, true, true, false, false, false, false, false] rfl rfl (any_of HT_.out (by kernel_rfl)) (fun _ _ _ h => h) (Or.inr ⟨by rfl, rfl⟩) ?_ ?_
  rotate_left
  ·simp only [Act.put, List.setIfInBounds_toArray, List.set_cons_zero, List.set_cons_succ, i64_w, i32_w]
   rfl
  refine pure_ (i := 12) (N := some 30) (v := undef) (a' := ?_) #[true, true, true, true, true, true, true, true, true, true, true, true, true, false, false, false, false] rfl rfl (any_of HT_.out (by kernel_rfl)) (fun _ _ _ h => h) (Or.inr ⟨by rfl, rfl⟩) ?_ ?_
  rotate_left
  ·simp only [Act.put, List.setIfInBounds_toArray, List.set_cons_zero, List.set_cons_succ, i64_w, i32_w]
   rfl
  refine pure_ (i := 13) (N := some 31) (v := undef) (a' := ?_) #[true, true, true, true, true, true, true, true, true, true, true, true, true, true, false, false, false] rfl rfl (any_of HT_.out (by kernel_rfl)) (fun _ _ _ h => h) (Or.inr ⟨by rfl, rfl⟩) ?_ ?_
  rotate_left
  ·simp only [Act.put, List.setIfInBounds_toArray, List.set_cons_zero, List.set_cons_succ, i64_w, i32_w]
   rfl
  refine pure_ (i := 14) (N := some 32) (v := ?_) (a' := ?_) #[true, true, true, true, true, true, true, true, true, true, true, true, true, true, true, false, false] rfl rfl (any_of HT_.out (by kernel_rfl)) (fun _ _ _ h => h) (Or.inl ⟨by rfl, ?_⟩) ?_ ?_
  rotate_left
  ·intro w'
   go_simp
   with_reducible rfl
  rotate_left
  ·simp only [Act.put, List.setIfInBounds_toArray, List.set_cons_zero, List.set_cons_succ, i64_w, i32_w]
   rfl
  refine one_ (i := 15) (N := none) #[true, true, true, true, true, true, true, true, true, true, true, true, true, true, true, true, false] rfl rfl (one_of HT_.out (by kernel_rfl)) (by decide) (fun K hK => ?_)
  have hs41 : w40.cell? ⟨gb115, 0, none⟩ = some (.string (⟨#[]⟩ : ByteArray)) := (blk_cell BK115.out 0).trans rfl
  have hfs41 := blk_frozen BK115.out 0
  have hns41_0 := NB114_115.out
  have hns41_2 := NB118_115.out
  have hms41_0 := NB115_114.out
  have hms41_2 := NB115_118.out
  have hs42 : w40.cell? ⟨gb115, 1, none⟩ = some (.int .i64 0) := (blk_cell BK115.out 1).trans rfl
  have hfs42 := blk_frozen BK115.out 1
  have hns42_0 := NB114_115.out
  have hns42_2 := NB118_115.out
  have hms42_0 := NB115_114.out
  have hms42_2 := NB115_118.out
  have hs43 : w40.cell? ⟨gb115, 2, none⟩ = some (.int .i64 0) := (blk_cell BK115.out 2).trans rfl
  have hfs43 := blk_frozen BK115.out 2
  have hns43_0 := NB114_115.out
  have hns43_2 := NB118_115.out
  have hms43_0 := NB115_114.out
  have hms43_2 := NB115_118.out
  have hs44 : w40.cell? ⟨gb115, 3, none⟩ = some (.int .i64 0) := (blk_cell BK115.out 3).trans rfl
  have hfs44 := blk_frozen BK115.out 3
  have hns44_0 := NB114_115.out
  have hns44_2 := NB118_115.out
  have hms44_0 := NB115_114.out
  have hms44_2 := NB115_118.out
  have hs45 : w40.cell? ⟨gb115, 4, none⟩ = some (.int .i64 0) := (blk_cell BK115.out 4).trans rfl
  have hfs45 := blk_frozen BK115.out 4
  have hns45_0 := NB114_115.out
  have hns45_2 := NB118_115.out
  have hms45_0 := NB115_114.out
  have hms45_2 := NB115_118.out
  refine skip_ (w1 := ?_) (by rfl) rfl ?_ ?_
  rotate_left
  ·go_simp
   rfl
  refine hK.out _ _ ⟨((cell_far (p := ⟨gb115, _, none⟩) NB118_115.out _).trans (((cell_far (p := ⟨gb115, _, none⟩) NB118_115.out _).trans (((cell_far (p := ⟨gb115, _, none⟩) NB118_115.out _).trans (((cell_far (p := ⟨gb115, _, none⟩) NB118_115.out _).trans (((cell_far (p := ⟨gb115, _, none⟩) NB118_115.out _).trans (hHeld.1)))))))))), ((cell_far (p := ⟨gb115, _, none⟩) NB118_115.out _).trans (((cell_far (p := ⟨gb115, _, none⟩) NB118_115.out _).trans (((cell_far (p := ⟨gb115, _, none⟩) NB118_115.out _).trans (((cell_far (p := ⟨gb115, _, none⟩) NB118_115.out _).trans (((cell_far (p := ⟨gb115, _, none⟩) NB118_115.out _).trans (hHeld.2.1)))))))))), ((cell_far (p := ⟨gb115, _, none⟩) NB118_115.out _).trans (((cell_far (p := ⟨gb115, _, none⟩) NB118_115.out _).trans (((cell_far (p := ⟨gb115, _, none⟩) NB118_115.out _).trans (((cell_far (p := ⟨gb115, _, none⟩) NB118_115.out _).trans (((cell_far (p := ⟨gb115, _, none⟩) NB118_115.out _).trans (hHeld.2.2.1)))))))))), ((cell_far (p := ⟨gb115, _, none⟩) NB118_115.out _).trans (((cell_far (p := ⟨gb115, _, none⟩) NB118_115.out _).trans (((cell_far (p := ⟨gb115, _, none⟩) NB118_115.out _).trans (((cell_far (p := ⟨gb115, _, none⟩) NB118_115.out _).trans (((cell_far (p := ⟨gb115, _, none⟩) NB118_115.out _).trans (hHeld.2.2.2.1)))))))))), ((cell_far (p := ⟨gb115, _, none⟩) NB118_115.out _).trans (((cell_far (p := ⟨gb115, _, none⟩) NB118_115.out _).trans (((cell_far (p := ⟨gb115, _, none⟩) NB118_115.out _).trans (((cell_far (p := ⟨gb115, _, none⟩) NB118_115.out _).trans (((cell_far (p := ⟨gb115, _, none⟩) NB118_115.out _).trans (hHeld.2.2.2.2.1)))))))))), ((cell_far (p := ⟨gb115, _, none⟩) NB114_115.out _).trans (((cell_far (p := ⟨gb115, _, none⟩) NB114_115.out _).trans (((cell_far (p := ⟨gb115, _, none⟩) NB114_115.out _).trans (((cell_far (p := ⟨gb115, _, none⟩) NB114_115.out _).trans (((cell_far (p := ⟨gb115, _, none⟩) NB114_115.out _).trans (hHeld.2.2.2.2.2.1)))))))))), ((cell_far (p := ⟨gb115, _, none⟩) NB114_115.out _).trans (((cell_far (p := ⟨gb115, _, none⟩) NB114_115.out _).trans (((cell_far (p := ⟨gb115, _, none⟩) NB114_115.out _).trans (((cell_far (p := ⟨gb115, _, none⟩) NB114_115.out _).trans (((cell_far (p := ⟨gb115, _, none⟩) NB114_115.out _).trans (hHeld.2.2.2.2.2.2.1)))))))))), ((cell_far (p := ⟨gb115, _, none⟩) NB114_115.out _).trans (((cell_far (p := ⟨gb115, _, none⟩) NB114_115.out _).trans (((cell_far (p := ⟨gb115, _, none⟩) NB114_115.out _).trans (((cell_far (p := ⟨gb115, _, none⟩) NB114_115.out _).trans (((cell_far (p := ⟨gb115, _, none⟩) NB114_115.out _).trans (hHeld.2.2.2.2.2.2.2))))))))))⟩ (fun hHeld => ?_)
  clear hK K
  refine pure_ (i := 16) (N := some 5) (v := ?_) (a' := ?_) #[true, true, true, true, true, true, true, true, true, true, true, true, true, true, true, true, true] rfl rfl (any_of HT_.out (by kernel_rfl)) (fun _ _ _ h => h) (Or.inl ⟨by rfl, ?_⟩) ?_ ?_
  rotate_left
  ·intro w'
   go_simp
   with_reducible rfl
  rotate_left
  ·simp only [Act.put, List.setIfInBounds_toArray, List.set_cons_zero, List.set_cons_succ, i64_w, i32_w]
   rfl
  refine done_ (done_of HT_.out (by kernel_rfl)) ?_
  try go_wp2
  refine bodyPost_ret (results_ct rfl _ _ gb115 72 #[.string ((rd_T72 l0 a1_0).f0), .int .i64 ((rd_T72 l0 a1_0).f1), .int .i64 ((rd_T72 l0 a1_0).f2), .int .i64 ((rd_T72 l0 a1_0).f3), .int .i64 ((rd_T72 l0 a1_0).f4)] (0, 0) _ rfl (by refine bu ?_; refine blk_put (cs := #[.string ((rd_T72 l0 a1_0).f0), .int .i64 ((rd_T72 l0 a1_0).f1), .int .i64 ((rd_T72 l0 a1_0).f2), .int .i64 ((rd_T72 l0 a1_0).f3), .int .i64 0]) ?_ 4 _ rfl; refine bu ?_; refine blk_put (cs := #[.string ((rd_T72 l0 a1_0).f0), .int .i64 ((rd_T72 l0 a1_0).f1), .int .i64 ((rd_T72 l0 a1_0).f2), .int .i64 0, .int .i64 0]) ?_ 3 _ rfl; refine bu ?_; refine blk_put (cs := #[.string ((rd_T72 l0 a1_0).f0), .int .i64 ((rd_T72 l0 a1_0).f1), .int .i64 0, .int .i64 0, .int .i64 0]) ?_ 2 _ rfl; refine bu ?_; refine blk_put (cs := #[.string ((rd_T72 l0 a1_0).f0), .int .i64 0, .int .i64 0, .int .i64 0, .int .i64 0]) ?_ 1 _ rfl; refine bu ?_; refine blk_put (cs := #[.string (⟨#[]⟩ : ByteArray), .int .i64 0, .int .i64 0, .int .i64 0, .int .i64 0]) ?_ 0 _ rfl; refine bu ?_; exact BK115.out) Tryd.underlying72 rfl (by kernel_rfl)) rfl ?_
  exact ⟨er, bs⟩
 subst c8
 have H1 : ((c_operand.f k ((rd_T72 l0 a1_0).f2) a1_2 a1_1).bind fun t120 => (some ((rd_T72 l0 a1_0).f0, (rd_T72 l0 a1_0).f1, (rd_T72 l0 a1_0).f2, (rd_T72 l0 a1_0).f3, (rd_T72 l0 a1_0).f4, t120))) = some (r1, r2, r3, r4, r5, r6) := by rw [if_pos rfl] at H; exact H
 clear H
 have H := H1
 clear H1
 replace H := Option.bind_eq_some_iff.mp H
 obtain ⟨t120, A90, H⟩ := H
 replace H : (some ((rd_T72 l0 a1_0).f0, (rd_T72 l0 a1_0).f1, (rd_T72 l0 a1_0).f2, (rd_T72 l0 a1_0).f3, (rd_T72 l0 a1_0).f4, t120)) = some (r1, r2, r3, r4, r5, r6) := H
 have A9 := am A90
 clear A90
 simp only [Option.some.injEq, Prod.mk.injEq] at H
 obtain ⟨rfl, rfl, rfl, rfl, rfl, rfl⟩ := H
 go_enter Tryd.func33, Tryd.ntmps33
 try go_wp2_with (first | ((with_reducible refine gate_dst (N := 3) rfl ?_); refine box_event ?hg (N := 3) ?hd (cs := #[.int .i64 a1_0, .int .i64 a1_1, .int .i64 a1_2]) (t := 41) ?hr ?_; (case hd => rfl); (case hg => rfl); (case hr => first | (go_simp; done) | (go_simp; rfl)); intro gb114 hg w10 hbox hb; have n0_ := am (below_step bl hb); have n1_ := am (hbox); have n2_ := am ((by rw [hg]; exact (below_size bl) : w.heap.size ≤ gb114)); have n3_ := n2_; clear HB; have HB := n0_; have BK114 := n1_; have GW114 := n2_; have GE114 := n3_; clear n0_ n1_ n2_ n3_; clear hb hbox hg) | ((with_reducible refine gate_dst (N := 4) rfl ?_); refine box_event ?hg (N := 4) ?hd (cs := #[.string (⟨#[]⟩ : ByteArray), .int .i64 0, .int .i64 0, .int .i64 0, .int .i64 0]) (t := 72) ?hr ?_; (case hd => rfl); (case hg => rfl); (case hr => first | (go_simp; done) | (go_simp; rfl)); intro gb115 hg w11 hbox hb; have n0_ := am (blk_below (bu BK114.out) hb); have n1_ := am (below_step bs hb); have n2_ := am (hbox); have n3_ := am ((by rw [hg]; exact (below_size bs) : w.heap.size ≤ gb115)); have n4_ := am ((by rw [hg]; exact (below_size bs) : w.heap.size ≤ gb115)); have n5_ := am ((by rw [hg]; exact Nat.ne_of_lt (blk_lt (bu BK114.out)) : gb114 ≠ gb115)); have n6_ := am ((by rw [hg]; exact Nat.ne_of_gt (blk_lt (bu BK114.out)) : gb115 ≠ gb114)); clear BK114; clear HB; have BK114 := n0_; have HB := n1_; have BK115 := n2_; have GW115 := n3_; have GE115 := n4_; have NB114_115 := n5_; have NB115_114 := n6_; clear n0_ n1_ n2_ n3_ n4_ n5_ n6_; clear hb hbox hg; have hnb12 := NB114_115.out; have hnc12 := NB115_114.out; obtain ⟨⟨hcz13_0, hcz13_1, hcz13_2⟩, hfz13_0, hfz13_1, hfz13_2⟩ := blkAll3 BK114) | ((with_reducible refine gate_callee (f := 47) rfl ?_); refine goesL_ (some 9) rfl rfl Tryd.func47 (by kernel_rfl) rfl #[.int .i64 a1_0, .int .i64 1, .int .i64 33] rfl ls ?_; (with_reducible refine (c_within.calls a1_0 1 33 true _ A3.out).mono ?_); rintro e w' ⟨rfl, ⟨nd, rfl⟩⟩; refine ⟨_, rfl, ?_⟩; (try (rw [drewN_self w11]; generalize hq_ : World.drewN w11 _ = w11; have n0_ : Aside0 (w11.heap[gb114]? = some (.cells #[.int .i64 a1_0, .int .i64 a1_1, .int .i64 a1_2] 41 (0, 0))) := ⟨by rw [← hq_]; exact (bu BK114.out)⟩; have n1_ : Aside0 (w11.heap[gb115]? = some (.cells #[.string (⟨#[]⟩ : ByteArray), .int .i64 0, .int .i64 0, .int .i64 0, .int .i64 0] 72 (0, 0))) := ⟨by rw [← hq_]; exact (bu BK115.out)⟩; have n2_ : Aside0 (Below w.heap.size w w11) := ⟨by rw [← hq_]; exact bs⟩; clear BK114 BK115 HB hq_; have BK114 := n0_; have BK115 := n1_; have HB := n2_; clear n0_ n1_ n2_))))
 have n0_ := am (blk_drew BK114.out)
 have n1_ := am (blk_drew BK115.out)
 have n2_ := am (below_drew1 HB.out)
 clear BK114
 clear BK115
 clear HB
 have BK114 := n0_
 have BK115 := n1_
 have HB := n2_
 clear n0_ n1_ n2_
 have p117 : 0 ≤ (a1_0 : Int) := of_decide_eq_true od
 have q117 : a1_0 < (l0.length : Int) := of_decide_eq_true od
 have q117n : (a1_0 < 34) = True := eq_true (by have h_ := HC0.out; omega)
 obtain ⟨ad117, e117, hx117_0, hx117_1, hx117_2, hx117_3, hx117_4⟩ := at_T72 HR0.out a1_0 p117 q117
 have hw117_4 := hx117_4
 have hw117_3 := hx117_3
 have hw117_2 := hx117_2
 have hw117_1 := hx117_1
 have hw117_0 := hx117_0
 cases e117
 replace hx117_0 := (HB.out.cell (World.block_lt_of_cell? w _ hx117_0)).trans hx117_0
 replace hx117_1 := (HB.out.cell (World.block_lt_of_cell? w _ hx117_1)).trans hx117_1
 replace hx117_2 := (HB.out.cell (World.block_lt_of_cell? w _ hx117_2)).trans hx117_2
 replace hx117_3 := (HB.out.cell (World.block_lt_of_cell? w _ hx117_3)).trans hx117_3
 replace hx117_4 := (HB.out.cell (World.block_lt_of_cell? w _ hx117_4)).trans hx117_4
 replace p117 := eq_true p117
 replace q117 := eq_true q117
 refine start_ (n := 8) (S := fun w' => w'.cell? ⟨gb114, 0, none⟩ = some (.int .i64 a1_0) ∧ w'.cell? ⟨gb114, 1, none⟩ = some (.int .i64 a1_1) ∧ w'.cell? ⟨gb114, 2, none⟩ = some (.int .i64 a1_2) ∧ w'.cell? (ad117.add ((a1_0).toNat * 5)) = some (.string ((rd_T72 l0 a1_0).f0)) ∧ w'.cell? ⟨(ad117.add ((a1_0).toNat * 5)).block, (ad117.add ((a1_0).toNat * 5)).off + 1, none⟩ = some (.int .i64 ((rd_T72 l0 a1_0).f1)) ∧ w'.cell? ⟨(ad117.add ((a1_0).toNat * 5)).block, (ad117.add ((a1_0).toNat * 5)).off + 2, none⟩ = some (.int .i64 ((rd_T72 l0 a1_0).f2)) ∧ w'.cell? ⟨(ad117.add ((a1_0).toNat * 5)).block, (ad117.add ((a1_0).toNat * 5)).off + 3, none⟩ = some (.int .i64 ((rd_T72 l0 a1_0).f3)) ∧ w'.cell? ⟨(ad117.add ((a1_0).toNat * 5)).block, (ad117.add ((a1_0).toNat * 5)).off + 4, none⟩ = some (.int .i64 ((rd_T72 l0 a1_0).f4))) (ds := []) #[false, false, false, false, false, false, false, false] (by kernel_rfl) rfl rfl ⟨(blk_cell BK114.out 0).trans rfl, (blk_cell BK114.out 1).trans rfl, (blk_cell BK114.out 2).trans rfl, ((HB.out.cell (World.block_lt_of_cell? w _ hw117_0)).trans hw117_0), ((HB.out.cell (World.block_lt_of_cell? w _ hw117_1)).trans hw117_1), ((HB.out.cell (World.block_lt_of_cell? w _ hw117_2)).trans hw117_2), ((HB.out.cell (World.block_lt_of_cell? w _ hw117_3)).trans hw117_3), ((HB.out.cell (World.block_lt_of_cell? w _ hw117_4)).trans hw117_4)⟩ (fun hHeld => ?_); refine with_tabW c_known.tab3 c_known.bits3 (fun HT_ HW_ => ?_)
 generalize w11.drew = w14 at BK114 BK115 HB hx117_0 hx117_1 hx117_2 hx117_3 hx117_4 hHeld ⊢
 refine pure_ (i := 0) (N := some 12) (v := ?_) (a' := ?_) #[true, false, false, false, false, false, false, false] rfl rfl (any_of HT_.out (by kernel_rfl)) (fun _ _ _ h => h) (Or.inl ⟨by rfl, ?_⟩) ?_ ?_
 rotate_left
 ·intro w'
  go_simp
  with_reducible rfl
 rotate_left
 ·simp only [Act.put, List.setIfInBounds_toArray, List.set_cons_zero, List.set_cons_succ, i64_w, i32_w]
  rfl
 refine pure_ (i := 1) (N := some 13) (v := ?_) (a' := ?_) #[true, true, false, false, false, false, false, false] rfl rfl (any_of HT_.out (by kernel_rfl)) (fun _ _ _ h => h) (Or.inl ⟨by rfl, ?_⟩) ?_ ?_
 rotate_left
 ·intro w'
  go_simp
  with_reducible rfl
 rotate_left
 ·simp only [Act.put, List.setIfInBounds_toArray, List.set_cons_zero, List.set_cons_succ, i64_w, i32_w]
  rfl
 refine pure_ (i := 3) (N := some 15) (v := ?_) (a' := ?_) #[true, true, false, true, false, false, false, false] rfl rfl (any_of HT_.out (by kernel_rfl)) (fun _ _ _ h => h) (Or.inl ⟨by rfl, ?_⟩) ?_ ?_
 rotate_left
 ·intro w'
  go_simp
  with_reducible rfl
 rotate_left
 ·simp only [Act.put, List.setIfInBounds_toArray, List.set_cons_zero, List.set_cons_succ, i64_w, i32_w]
  rfl
 refine take_ (i := 2) (N := some 14) (v := ?_) (a' := ?_) #[true, true, true, true, false, false, false, false] rfl rfl (take_ofW HT_.out HW_.out (by kernel_rfl)) (fun _ _ _ h => h) (Or.inl ⟨by rfl, ?_⟩) hHeld ?_ ?_
 rotate_left
 ·rintro w' ⟨s0, s1, s2, s3, s4, s5, s6, s7⟩
  go_simp
  with_reducible rfl
 rotate_left
 ·simp only [Act.put, List.setIfInBounds_toArray, List.set_cons_zero, List.set_cons_succ, i64_w, i32_w]
  rfl
 refine pure_ (i := 4) (N := some 16) (v := ?_) (a' := ?_) #[true, true, true, true, true, false, false, false] rfl rfl (any_of HT_.out (by kernel_rfl)) (fun _ _ _ h => h) (Or.inl ⟨by rfl, ?_⟩) ?_ ?_
 rotate_left
 ·intro w'
  go_simp
  with_reducible rfl
 rotate_left
 ·simp only [Act.put, List.setIfInBounds_toArray, List.set_cons_zero, List.set_cons_succ, i64_w, i32_w]
  rfl
 refine take_ (i := 5) (N := some 17) (v := ?_) (a' := ?_) #[true, true, true, true, true, true, false, false] rfl rfl (take_ofW HT_.out HW_.out (by kernel_rfl)) (fun _ _ _ h => h) (Or.inl ⟨by rfl, ?_⟩) hHeld ?_ ?_
 rotate_left
 ·rintro w' ⟨s0, s1, s2, s3, s4, s5, s6, s7⟩
  go_simp
  with_reducible rfl
 rotate_left
 ·simp only [Act.put, List.setIfInBounds_toArray, List.set_cons_zero, List.set_cons_succ, i64_w, i32_w]
  rfl
 refine one_ (i := 6) (N := some 6) #[true, true, true, true, true, true, true, false] rfl rfl (one_of HT_.out (by kernel_rfl)) (by decide) (fun K hK => ?_)
 refine box_step ?hg (N := 6) ?hd (cs := #[.string (⟨#[]⟩ : ByteArray), .int .i64 0, .int .i64 0, .int .i64 0, .int .i64 0]) (t := 72) ?hr ?_; (case hd => rfl); (case hg => rfl); (case hr => first | (go_simp; done) | (go_simp; rfl))
 intro gb118 hg w15 hbox hb
 have n0_ := am (blk_below (bu BK114.out) hb)
 have n1_ := am (blk_below (bu BK115.out) hb)
 have n2_ := am (below_step bs hb)
 have n3_ := am (hbox)
 have n4_ := am ((by rw [hg]; exact (below_size bs) : w.heap.size ≤ gb118))
 have n5_ := am ((by rw [hg]; exact (below_size bs) : w.heap.size ≤ gb118))
 have n6_ := am ((by rw [hg]; exact Nat.ne_of_lt (blk_lt (bu BK114.out)) : gb114 ≠ gb118))
 have n7_ := am ((by rw [hg]; exact Nat.ne_of_gt (blk_lt (bu BK114.out)) : gb118 ≠ gb114))
 have n8_ := am ((by rw [hg]; exact Nat.ne_of_lt (blk_lt (bu BK115.out)) : gb115 ≠ gb118))
 have n9_ := am ((by rw [hg]; exact Nat.ne_of_gt (blk_lt (bu BK115.out)) : gb118 ≠ gb115))
 clear BK114
 clear BK115
 clear HB
 have BK114 := n0_
 have BK115 := n1_
 have HB := n2_
 have BK118 := n3_
 have GW118 := n4_
 have GE118 := n5_
 have NB114_118 := n6_
 have NB118_114 := n7_
 have NB115_118 := n8_
 have NB118_115 := n9_
 clear n0_ n1_ n2_ n3_ n4_ n5_ n6_ n7_ n8_ n9_
 clear hb hbox hg
 refine hK.out _ _ ⟨(blk_cell BK114.out 0).trans rfl, (blk_cell BK114.out 1).trans rfl, (blk_cell BK114.out 2).trans rfl, ((HB.out.cell (World.block_lt_of_cell? w _ hw117_0)).trans hw117_0), ((HB.out.cell (World.block_lt_of_cell? w _ hw117_1)).trans hw117_1), ((HB.out.cell (World.block_lt_of_cell? w _ hw117_2)).trans hw117_2), ((HB.out.cell (World.block_lt_of_cell? w _ hw117_3)).trans hw117_3), ((HB.out.cell (World.block_lt_of_cell? w _ hw117_4)).trans hw117_4)⟩ (fun hHeld => ?_)
 clear hK K
 refine norm_ (a' := ?_) ?_ ?_
 rotate_left
 ·show Act.put _ (some 6) _ = _
  simp only [Act.put, List.setIfInBounds_toArray, List.set_cons_zero, List.set_cons_succ, i64_w, i32_w]
  rfl
 refine one_ (i := 7) (N := none) #[true, true, true, true, true, true, true, true] rfl rfl (one_of HT_.out (by kernel_rfl)) (by decide) (fun K hK => ?_)
 have hs16 : w15.cell? ⟨gb118, 0, none⟩ = some (.string (⟨#[]⟩ : ByteArray)) := (blk_cell BK118.out 0).trans rfl
 have hfs16 := blk_frozen BK118.out 0
 have hns16_0 := NB114_118.out
 have hns16_1 := NB115_118.out
 have hms16_0 := NB118_114.out
 have hms16_1 := NB118_115.out
 have hs17 : w15.cell? ⟨gb118, 1, none⟩ = some (.int .i64 0) := (blk_cell BK118.out 1).trans rfl
 have hfs17 := blk_frozen BK118.out 1
 have hns17_0 := NB114_118.out
 have hns17_1 := NB115_118.out
 have hms17_0 := NB118_114.out
 have hms17_1 := NB118_115.out
 have hs18 : w15.cell? ⟨gb118, 2, none⟩ = some (.int .i64 0) := (blk_cell BK118.out 2).trans rfl
 have hfs18 := blk_frozen BK118.out 2
 have hns18_0 := NB114_118.out
 have hns18_1 := NB115_118.out
 have hms18_0 := NB118_114.out
 have hms18_1 := NB118_115.out
 have hs19 : w15.cell? ⟨gb118, 3, none⟩ = some (.int .i64 0) := (blk_cell BK118.out 3).trans rfl
 have hfs19 := blk_frozen BK118.out 3
 have hns19_0 := NB114_118.out
 have hns19_1 := NB115_118.out
 have hms19_0 := NB118_114.out
 have hms19_1 := NB118_115.out
 have hs20 : w15.cell? ⟨gb118, 4, none⟩ = some (.int .i64 0) := (blk_cell BK118.out 4).trans rfl
 have hfs20 := blk_frozen BK118.out 4
 have hns20_0 := NB114_118.out
 have hns20_1 := NB115_118.out
 have hms20_0 := NB118_114.out
 have hms20_1 := NB118_115.out
 refine skip_ (w1 := ?_) (by rfl) rfl ?_ ?_
 rotate_left
 ·go_simp
  rfl
 refine hK.out _ _ ⟨((cell_far (p := ⟨gb118, _, none⟩) NB114_118.out _).trans (((cell_far (p := ⟨gb118, _, none⟩) NB114_118.out _).trans (((cell_far (p := ⟨gb118, _, none⟩) NB114_118.out _).trans (((cell_far (p := ⟨gb118, _, none⟩) NB114_118.out _).trans (((cell_far (p := ⟨gb118, _, none⟩) NB114_118.out _).trans (hHeld.1)))))))))), ((cell_far (p := ⟨gb118, _, none⟩) NB114_118.out _).trans (((cell_far (p := ⟨gb118, _, none⟩) NB114_118.out _).trans (((cell_far (p := ⟨gb118, _, none⟩) NB114_118.out _).trans (((cell_far (p := ⟨gb118, _, none⟩) NB114_118.out _).trans (((cell_far (p := ⟨gb118, _, none⟩) NB114_118.out _).trans (hHeld.2.1)))))))))), ((cell_far (p := ⟨gb118, _, none⟩) NB114_118.out _).trans (((cell_far (p := ⟨gb118, _, none⟩) NB114_118.out _).trans (((cell_far (p := ⟨gb118, _, none⟩) NB114_118.out _).trans (((cell_far (p := ⟨gb118, _, none⟩) NB114_118.out _).trans (((cell_far (p := ⟨gb118, _, none⟩) NB114_118.out _).trans (hHeld.2.2.1)))))))))), ((cell_far (p := ⟨gb118, _, none⟩) (by first | exact Nat.ne_of_lt (Nat.lt_of_lt_of_le (by have := World.block_lt_of_cell? _ _ hw117_0; first | rwa [add_block] at this | exact this) GW118.out) | (rw [add_block]; exact Nat.ne_of_lt (Nat.lt_of_lt_of_le (by have := World.block_lt_of_cell? _ _ hw117_0; first | rwa [add_block] at this | exact this) GW118.out)) | (show (Addr.add _ _).block ≠ _; rw [add_block]; exact Nat.ne_of_lt (Nat.lt_of_lt_of_le (by have := World.block_lt_of_cell? _ _ hw117_0; first | rwa [add_block] at this | exact this) GW118.out)) | (dsimp only; exact Nat.ne_of_lt (Nat.lt_of_lt_of_le (by have := World.block_lt_of_cell? _ _ hw117_0; first | rwa [add_block] at this | exact this) GW118.out))) _).trans (((cell_far (p := ⟨gb118, _, none⟩) (by first | exact Nat.ne_of_lt (Nat.lt_of_lt_of_le (by have := World.block_lt_of_cell? _ _ hw117_0; first | rwa [add_block] at this | exact this) GW118.out) | (rw [add_block]; exact Nat.ne_of_lt (Nat.lt_of_lt_of_le (by have := World.block_lt_of_cell? _ _ hw117_0; first | rwa [add_block] at this | exact this) GW118.out)) | (show (Addr.add _ _).block ≠ _; rw [add_block]; exact Nat.ne_of_lt (Nat.lt_of_lt_of_le (by have := World.block_lt_of_cell? _ _ hw117_0; first | rwa [add_block] at this | exact this) GW118.out)) | (dsimp only; exact Nat.ne_of_lt (Nat.lt_of_lt_of_le (by have := World.block_lt_of_cell? _ _ hw117_0; first | rwa [add_block] at this | exact this) GW118.out))) _).trans (((cell_far (p := ⟨gb118, _, none⟩) (by first | exact Nat.ne_of_lt (Nat.lt_of_lt_of_le (by have := World.block_lt_of_cell? _ _ hw117_0; first | rwa [add_block] at this | exact this) GW118.out) | (rw [add_block]; exact Nat.ne_of_lt (Nat.lt_of_lt_of_le (by have := World.block_lt_of_cell? _ _ hw117_0; first | rwa [add_block] at this | exact this) GW118.out)) | (show (Addr.add _ _).block ≠ _; rw [add_block]; exact Nat.ne_of_lt (Nat.lt_of_lt_of_le (by have := World.block_lt_of_cell? _ _ hw117_0; first | rwa [add_block] at this | exact this) GW118.out)) | (dsimp only; exact Nat.ne_of_lt (Nat.lt_of_lt_of_le (by have := World.block_lt_of_cell? _ _ hw117_0; first | rwa [add_block] at this | exact this) GW118.out))) _).trans (((cell_far (p := ⟨gb118, _, none⟩) (by first | exact Nat.ne_of_lt (Nat.lt_of_lt_of_le (by have := World.block_lt_of_cell? _ _ hw117_0; first | rwa [add_block] at this | exact this) GW118.out) | (rw [add_block]; exact Nat.ne_of_lt (Nat.lt_of_lt_of_le (by have := World.block_lt_of_cell? _ _ hw117_0; first | rwa [add_block] at this | exact this) GW118.out)) | (show (Addr.add _ _).block ≠ _; rw [add_block]; exact Nat.ne_of_lt (Nat.lt_of_lt_of_le (by have := World.block_lt_of_cell? _ _ hw117_0; first | rwa [add_block] at this | exact this) GW118.out)) | (dsimp only; exact Nat.ne_of_lt (Nat.lt_of_lt_of_le (by have := World.block_lt_of_cell? _ _ hw117_0; first | rwa [add_block] at this | exact this) GW118.out))) _).trans (((cell_far (p := ⟨gb118, _, none⟩) (by first | exact Nat.ne_of_lt (Nat.lt_of_lt_of_le (by have := World.block_lt_of_cell? _ _ hw117_0; first | rwa [add_block] at this | exact this) GW118.out) | (rw [add_block]; exact Nat.ne_of_lt (Nat.lt_of_lt_of_le (by have := World.block_lt_of_cell? _ _ hw117_0; first | rwa [add_block] at this | exact this) GW118.out)) | (show (Addr.add _ _).block ≠ _; rw [add_block]; exact Nat.ne_of_lt (Nat.lt_of_lt_of_le (by have := World.block_lt_of_cell? _ _ hw117_0; first | rwa [add_block] at this | exact this) GW118.out)) | (dsimp only; exact Nat.ne_of_lt (Nat.lt_of_lt_of_le (by have := World.block_lt_of_cell? _ _ hw117_0; first | rwa [add_block] at this | exact this) GW118.out))) _).trans (hHeld.2.2.2.1)))))))))), ((cell_far (p := ⟨gb118, _, none⟩) (by first | exact Nat.ne_of_lt (Nat.lt_of_lt_of_le (by have := World.block_lt_of_cell? _ _ hw117_1; first | rwa [add_block] at this | exact this) GW118.out) | (rw [add_block]; exact Nat.ne_of_lt (Nat.lt_of_lt_of_le (by have := World.block_lt_of_cell? _ _ hw117_1; first | rwa [add_block] at this | exact this) GW118.out)) | (show (Addr.add _ _).block ≠ _; rw [add_block]; exact Nat.ne_of_lt (Nat.lt_of_lt_of_le (by have := World.block_lt_of_cell? _ _ hw117_1; first | rwa [add_block] at this | exact this) GW118.out)) | (dsimp only; exact Nat.ne_of_lt (Nat.lt_of_lt_of_le (by have := World.block_lt_of_cell? _ _ hw117_1; first | rwa [add_block] at this | exact this) GW118.out))) _).trans (((cell_far (p := ⟨gb118, _, none⟩) (by first | exact Nat.ne_of_lt (Nat.lt_of_lt_of_le (by have := World.block_lt_of_cell? _ _ hw117_1; first | rwa [add_block] at this | exact this) GW118.out) | (rw [add_block]; exact Nat.ne_of_lt (Nat.lt_of_lt_of_le (by have := World.block_lt_of_cell? _ _ hw117_1; first | rwa [add_block] at this | exact this) GW118.out)) | (show (Addr.add _ _).block ≠ _; rw [add_block]; exact Nat.ne_of_lt (Nat.lt_of_lt_of_le (by have := World.block_lt_of_cell? _ _ hw117_1; first | rwa [add_block] at this | exact this) GW118.out)) | (dsimp only; exact Nat.ne_of_lt (Nat.lt_of_lt_of_le (by have := World.block_lt_of_cell? _ _ hw117_1; first | rwa [add_block] at this | exact this) GW118.out))) _).trans (((cell_far (p := ⟨gb118, _, none⟩) (by first | exact Nat.ne_of_lt (Nat.lt_of_lt_of_le (by have := World.block_lt_of_cell? _ _ hw117_1; first | rwa [add_block] at this | exact this) GW118.out) | (rw [add_block]; exact Nat.ne_of_lt (Nat.lt_of_lt_of_le (by have := World.block_lt_of_cell? _ _ hw117_1; first | rwa [add_block] at this | exact this) GW118.out)) | (show (Addr.add _ _).block ≠ _; rw [add_block]; exact Nat.ne_of_lt (Nat.lt_of_lt_of_le (by have := World.block_lt_of_cell? _ _ hw117_1; first | rwa [add_block] at this | exact this) GW118.out)) | (dsimp only; exact Nat.ne_of_lt (Nat.lt_of_lt_of_le (by have := World.block_lt_of_cell? _ _ hw117_1; first | rwa [add_block] at this | exact this) GW118.out))) _).trans (((cell_far (p := ⟨gb118, _, none⟩) (by first | exact Nat.ne_of_lt (Nat.lt_of_lt_of_le (by have := World.block_lt_of_cell? _ _ hw117_1; first | rwa [add_block] at this | exact this) GW118.out) | (rw [add_block]; exact Nat.ne_of_lt (Nat.lt_of_lt_of_le (by have := World.block_lt_of_cell? _ _ hw117_1; first | rwa [add_block] at this | exact this) GW118.out)) | (show (Addr.add _ _).block ≠ _; rw [add_block]; exact Nat.ne_of_lt (Nat.lt_of_lt_of_le (by have := World.block_lt_of_cell? _ _ hw117_1; first | rwa [add_block] at this | exact this) GW118.out)) | (dsimp only; exact Nat.ne_of_lt (Nat.lt_of_lt_of_le (by have := World.block_lt_of_cell? _ _ hw117_1; first | rwa [add_block] at this | exact this) GW118.out))) _).trans (((cell_far (p := ⟨gb118, _, none⟩) (by first | exact Nat.ne_of_lt (Nat.lt_of_lt_of_le (by have := World.block_lt_of_cell? _ _ hw117_1; first | rwa [add_block] at this | exact this) GW118.out) | (rw [add_block]; exact Nat.ne_of_lt (Nat.lt_of_lt_of_le (by have := World.block_lt_of_cell? _ _ hw117_1; first | rwa [add_block] at this | exact this) GW118.out)) | (show (Addr.add _ _).block ≠ _; rw [add_block]; exact Nat.ne_of_lt (Nat.lt_of_lt_of_le (by have := World.block_lt_of_cell? _ _ hw117_1; first | rwa [add_block] at this | exact this) GW118.out)) | (dsimp only; exact Nat.ne_of_lt (Nat.lt_of_lt_of_le (by have := World.block_lt_of_cell? _ _ hw117_1; first | rwa [add_block] at this | exact this) GW118.out))) _).trans (hHeld.2.2.2.2.1)))))))))), ((cell_far (p := ⟨gb118, _, none⟩) (by first | exact Nat.ne_of_lt (Nat.lt_of_lt_of_le (by have := World.block_lt_of_cell? _ _ hw117_2; first | rwa [add_block] at this | exact this) GW118.out) | (rw [add_block]; exact Nat.ne_of_lt (Nat.lt_of_lt_of_le (by have := World.block_lt_of_cell? _ _ hw117_2; first | rwa [add_block] at this | exact this) GW118.out)) | (show (Addr.add _ _).block ≠ _; rw [add_block]; exact Nat.ne_of_lt (Nat.lt_of_lt_of_le (by have := World.block_lt_of_cell? _ _ hw117_2; first | rwa [add_block] at this | exact this) GW118.out)) | (dsimp only; exact Nat.ne_of_lt (Nat.lt_of_lt_of_le (by have := World.block_lt_of_cell? _ _ hw117_2; first | rwa [add_block] at this | exact this) GW118.out))) _).trans (((cell_far (p := ⟨gb118, _, none⟩) (by first | exact Nat.ne_of_lt (Nat.lt_of_lt_of_le (by have := World.block_lt_of_cell? _ _ hw117_2; first | rwa [add_block] at this | exact this) GW118.out) | (rw [add_block]; exact Nat.ne_of_lt (Nat.lt_of_lt_of_le (by have := World.block_lt_of_cell? _ _ hw117_2; first | rwa [add_block] at this | exact this) GW118.out)) | (show (Addr.add _ _).block ≠ _; rw [add_block]; exact Nat.ne_of_lt (Nat.lt_of_lt_of_le (by have := World.block_lt_of_cell? _ _ hw117_2; first | rwa [add_block] at this | exact this) GW118.out)) | (dsimp only; exact Nat.ne_of_lt (Nat.lt_of_lt_of_le (by have := World.block_lt_of_cell? _ _ hw117_2; first | rwa [add_block] at this | exact this) GW118.out))) _).trans (((cell_far (p := ⟨gb118, _, none⟩) (by first | exact Nat.ne_of_lt (Nat.lt_of_lt_of_le (by have := World.block_lt_of_cell? _ _ hw117_2; first | rwa [add_block] at this | exact this) GW118.out) | (rw [add_block]; exact Nat.ne_of_lt (Nat.lt_of_lt_of_le (by have := World.block_lt_of_cell? _ _ hw117_2; first | rwa [add_block] at this | exact this) GW118.out)) | (show (Addr.add _ _).block ≠ _; rw [add_block]; exact Nat.ne_of_lt (Nat.lt_of_lt_of_le (by have := World.block_lt_of_cell? _ _ hw117_2; first | rwa [add_block] at this | exact this) GW118.out)) | (dsimp only; exact Nat.ne_of_lt (Nat.lt_of_lt_of_le (by have := World.block_lt_of_cell? _ _ hw117_2; first | rwa [add_block] at this | exact this) GW118.out))) _).trans (((cell_far (p := ⟨gb118, _, none⟩) (by first | exact Nat.ne_of_lt (Nat.lt_of_lt_of_le (by have := World.block_lt_of_cell? _ _ hw117_2; first | rwa [add_block] at this | exact this) GW118.out) | (rw [add_block]; exact Nat.ne_of_lt (Nat.lt_of_lt_of_le (by have := World.block_lt_of_cell? _ _ hw117_2; first | rwa [add_block] at this | exact this) GW118.out)) | (show (Addr.add _ _).block ≠ _; rw [add_block]; exact Nat.ne_of_lt (Nat.lt_of_lt_of_le (by have := World.block_lt_of_cell? _ _ hw117_2; first | rwa [add_block] at this | exact this) GW118.out)) | (dsimp only; exact Nat.ne_of_lt (Nat.lt_of_lt_of_le (by have := World.block_lt_of_cell? _ _ hw117_2; first | rwa [add_block] at this | exact this) GW118.out))) _).trans (((cell_far (p := ⟨gb118, _, none⟩) (by first | exact Nat.ne_of_lt (Nat.lt_of_lt_of_le (by have := World.block_lt_of_cell? _ _ hw117_2; first | rwa [add_block] at this | exact this) GW118.out) | (rw [add_block]; exact Nat.ne_of_lt (Nat.lt_of_lt_of_le (by have := World.block_lt_of_cell? _ _ hw117_2; first | rwa [add_block] at this | exact this) GW118.out)) | (show (Addr.add _ _).block ≠ _; rw [add_block]; exact Nat.ne_of_lt (Nat.lt_of_lt_of_le (by have := World.block_lt_of_cell? _ _ hw117_2; first | rwa [add_block] at this | exact this) GW118.out)) | (dsimp only; exact Nat.ne_of_lt (Nat.lt_of_lt_of_le (by have := World.block_lt_of_cell? _ _ hw117_2; first | rwa [add_block] at this | exact this) GW118.out))) _).trans (hHeld.2.2.2.2.2.1)))))))))), ((cell_far (p := ⟨gb118, _, none⟩) (by first | exact Nat.ne_of_lt (Nat.lt_of_lt_of_le (by have := World.block_lt_of_cell? _ _ hw117_3; first | rwa [add_block] at this | exact this) GW118.out) | (rw [add_block]; exact Nat.ne_of_lt (Nat.lt_of_lt_of_le (by have := World.block_lt_of_cell? _ _ hw117_3; first | rwa [add_block] at this | exact this) GW118.out)) | (show (Addr.add _ _).block ≠ _; rw [add_block]; exact Nat.ne_of_lt (Nat.lt_of_lt_of_le (by have := World.block_lt_of_cell? _ _ hw117_3; first | rwa [add_block] at this | exact this) GW118.out)) | (dsimp only; exact Nat.ne_of_lt (Nat.lt_of_lt_of_le (by have := World.block_lt_of_cell? _ _ hw117_3; first | rwa [add_block] at this | exact this) GW118.out))) _).trans (((cell_far (p := ⟨gb118, _, none⟩) (by first | exact Nat.ne_of_lt (Nat.lt_of_lt_of_le (by have := World.block_lt_of_cell? _ _ hw117_3; first | rwa [add_block] at this | exact this) GW118.out) | (rw [add_block]; exact Nat.ne_of_lt (Nat.lt_of_lt_of_le (by have := World.block_lt_of_cell? _ _ hw117_3; first | rwa [add_block] at this | exact this) GW118.out)) | (show (Addr.add _ _).block ≠ _; rw [add_block]; exact Nat.ne_of_lt (Nat.lt_of_lt_of_le (by have := World.block_lt_of_cell? _ _ hw117_3; first | rwa [add_block] at this | exact this) GW118.out)) | (dsimp only; exact Nat.ne_of_lt (Nat.lt_of_lt_of_le (by have := World.block_lt_of_cell? _ _ hw117_3; first | rwa [add_block] at this | exact this) GW118.out))) _).trans (((cell_far (p := ⟨gb118, _, none⟩) (by first | exact Nat.ne_of_lt (Nat.lt_of_lt_of_le (by have := World.block_lt_of_cell? _ _ hw117_3; first | rwa [add_block] at this | exact this) GW118.out) | (rw [add_block]; exact Nat.ne_of_lt (Nat.lt_of_lt_of_le (by have := World.block_lt_of_cell? _ _ hw117_3; first | rwa [add_block] at this | exact this) GW118.out)) | (show (Addr.add _ _).block ≠ _; rw [add_block]; exact Nat.ne_of_lt (Nat.lt_of_lt_of_le (by have := World.block_lt_of_cell? _ _ hw117_3; first | rwa [add_block] at this | exact this) GW118.out)) | (dsimp only; exact Nat.ne_of_lt (Nat.lt_of_lt_of_le (by have := World.block_lt_of_cell? _ _ hw117_3; first | rwa [add_block] at this | exact this) GW118.out))) _).trans (((cell_far (p := ⟨gb118, _, none⟩) (by first | exact Nat.ne_of_lt (Nat.lt_of_lt_of_le (by have := World.block_lt_of_cell? _ _ hw117_3; first | rwa [add_block] at this | exact this) GW118.out) | (rw [add_block]; exact Nat.ne_of_lt (Nat.lt_of_lt_of_le (by have := World.block_lt_of_cell? _ _ hw117_3; first | rwa [add_block] at this | exact this) GW118.out)) | (show (Addr.add _ _).block ≠ _; rw [add_block]; exact Nat.ne_of_lt (Nat.lt_of_lt_of_le (by have := World.block_lt_of_cell? _ _ hw117_3; first | rwa [add_block] at this | exact this) GW118.out)) | (dsimp only; exact Nat.ne_of_lt (Nat.lt_of_lt_of_le (by have := World.block_lt_of_cell? _ _ hw117_3; first | rwa [add_block] at this | exact this) GW118.out))) _).trans (((cell_far (p := ⟨gb118, _, none⟩) (by first | exact Nat.ne_of_lt (Nat.lt_of_lt_of_le (by have := World.block_lt_of_cell? _ _ hw117_3; first | rwa [add_block] at this | exact this) GW118.out) | (rw [add_block]; exact Nat.ne_of_lt (Nat.lt_of_lt_of_le (by have := World.block_lt_of_cell? _ _ hw117_3; first | rwa [add_block] at this | exact this) GW118.out)) | (show (Addr.add _ _).block ≠ _; rw [add_block]; exact Nat.ne_of_lt (Nat.lt_of_lt_of_le (by have := World.block_lt_of_cell? _ _ hw117_3; first | rwa [add_block] at this | exact this) GW118.out)) | (dsimp only; exact Nat.ne_of_lt (Nat.lt_of_lt_of_le (by have := World.block_lt_of_cell? _ _ hw117_3; first | rwa [add_block] at this | exact this) GW118.out))) _).trans (hHeld.2.2.2.2.2.2.1)))))))))), ((cell_far (p := ⟨gb118, _, none⟩) (by first | exact Nat.ne_of_lt (Nat.lt_of_lt_of_le (by have := World.block_lt_of_cell? _ _ hw117_4; first | rwa [add_block] at this | exact this) GW118.out) | (rw [add_block]; exact Nat.ne_of_lt (Nat.lt_of_lt_of_le (by have := World.block_lt_of_cell? _ _ hw117_4; first | rwa [add_block] at this | exact this) GW118.out)) | (show (Addr.add _ _).block ≠ _; rw [add_block]; exact Nat.ne_of_lt (Nat.lt_of_lt_of_le (by have := World.block_lt_of_cell? _ _ hw117_4; first | rwa [add_block] at this | exact this) GW118.out)) | (dsimp only; exact Nat.ne_of_lt (Nat.lt_of_lt_of_le (by have := World.block_lt_of_cell? _ _ hw117_4; first | rwa [add_block] at this | exact this) GW118.out))) _).trans (((cell_far (p := ⟨gb118, _, none⟩) (by first | exact Nat.ne_of_lt (Nat.lt_of_lt_of_le (by have := World.block_lt_of_cell? _ _ hw117_4; first | rwa [add_block] at this | exact this) GW118.out) | (rw [add_block]; exact Nat.ne_of_lt (Nat.lt_of_lt_of_le (by have := World.block_lt_of_cell? _ _ hw117_4; first | rwa [add_block] at this | exact this) GW118.out)) | (show (Addr.add _ _).block ≠ _; rw [add_block]; exact Nat.ne_of_lt (Nat.lt_of_lt_of_le (by have := World.block_lt_of_cell? _ _ hw117_4; first | rwa [add_block] at this | exact this) GW118.out)) | (dsimp only; exact Nat.ne_of_lt (Nat.lt_of_lt_of_le (by have := World.block_lt_of_cell? _ _ hw117_4; first | rwa [add_block] at this | exact this) GW118.out))) _).trans (((cell_far (p := ⟨gb118, _, none⟩) (by first | exact Nat.ne_of_lt (Nat.lt_of_lt_of_le (by have := World.block_lt_of_cell? _ _ hw117_4; first | rwa [add_block] at this | exact this) GW118.out) | (rw [add_block]; exact Nat.ne_of_lt (Nat.lt_of_lt_of_le (by have := World.block_lt_of_cell? _ _ hw117_4; first | rwa [add_block] at this | exact this) GW118.out)) | (show (Addr.add _ _).block ≠ _; rw [add_block]; exact Nat.ne_of_lt (Nat.lt_of_lt_of_le (by have := World.block_lt_of_cell? _ _ hw117_4; first | rwa [add_block] at this | exact this) GW118.out)) | (dsimp only; exact Nat.ne_of_lt (Nat.lt_of_lt_of_le (by have := World.block_lt_of_cell? _ _ hw117_4; first | rwa [add_block] at this | exact this) GW118.out))) _).trans (((cell_far (p := ⟨gb118, _, none⟩) (by first | exact Nat.ne_of_lt (Nat.lt_of_lt_of_le (by have := World.block_lt_of_cell? _ _ hw117_4; first | rwa [add_block] at this | exact this) GW118.out) | (rw [add_block]; exact Nat.ne_of_lt (Nat.lt_of_lt_of_le (by have := World.block_lt_of_cell? _ _ hw117_4; first | rwa [add_block] at this | exact this) GW118.out)) | (show (Addr.add _ _).block ≠ _; rw [add_block]; exact Nat.ne_of_lt (Nat.lt_of_lt_of_le (by have := World.block_lt_of_cell? _ _ hw117_4; first | rwa [add_block] at this | exact this) GW118.out)) | (dsimp only; exact Nat.ne_of_lt (Nat.lt_of_lt_of_le (by have := World.block_lt_of_cell? _ _ hw117_4; first | rwa [add_block] at this | exact this) GW118.out))) _).trans (((cell_far (p := ⟨gb118, _, none⟩) (by first | exact Nat.ne_of_lt (Nat.lt_of_lt_of_le (by have := World.block_lt_of_cell? _ _ hw117_4; first | rwa [add_block] at this | exact this) GW118.out) | (rw [add_block]; exact Nat.ne_of_lt (Nat.lt_of_lt_of_le (by have := World.block_lt_of_cell? _ _ hw117_4; first | rwa [add_block] at this | exact this) GW118.out)) | (show (Addr.add _ _).block ≠ _; rw [add_block]; exact Nat.ne_of_lt (Nat.lt_of_lt_of_le (by have := World.block_lt_of_cell? _ _ hw117_4; first | rwa [add_block] at this | exact this) GW118.out)) | (dsimp only; exact Nat.ne_of_lt (Nat.lt_of_lt_of_le (by have := World.block_lt_of_cell? _ _ hw117_4; first | rwa [add_block] at this | exact this) GW118.out))) _).trans (hHeld.2.2.2.2.2.2.2))))))))))⟩ (fun hHeld => ?_)
 clear hK K
 refine done_ (done_of HT_.out (by kernel_rfl)) ?_
 try go_wp2
 have n0_ : Aside0 ((((((w15.setCell ⟨gb118, 0, none⟩ (.string ((rd_T72 l0 a1_0).f0))).setCell ⟨gb118, 1, none⟩ (.int .i64 ((rd_T72 l0 a1_0).f1))).setCell ⟨gb118, 2, none⟩ (.int .i64 ((rd_T72 l0 a1_0).f2))).setCell ⟨gb118, 3, none⟩ (.int .i64 ((rd_T72 l0 a1_0).f3))).setCell ⟨gb118, 4, none⟩ (.int .i64 ((rd_T72 l0 a1_0).f4))).heap[gb114]? = some (.cells #[.int .i64 a1_0, .int .i64 a1_1, .int .i64 a1_2] 41 (0, 0))) := ⟨by refine bu ?_; refine blk_far ?_ NB114_118.out _; refine bu ?_; refine blk_far ?_ NB114_118.out _; refine bu ?_; refine blk_far ?_ NB114_118.out _; refine bu ?_; refine blk_far ?_ NB114_118.out _; refine bu ?_; refine blk_far ?_ NB114_118.out _; refine bu ?_; exact BK114.out⟩
 have n1_ : Aside0 ((((((w15.setCell ⟨gb118, 0, none⟩ (.string ((rd_T72 l0 a1_0).f0))).setCell ⟨gb118, 1, none⟩ (.int .i64 ((rd_T72 l0 a1_0).f1))).setCell ⟨gb118, 2, none⟩ (.int .i64 ((rd_T72 l0 a1_0).f2))).setCell ⟨gb118, 3, none⟩ (.int .i64 ((rd_T72 l0 a1_0).f3))).setCell ⟨gb118, 4, none⟩ (.int .i64 ((rd_T72 l0 a1_0).f4))).heap[gb115]? = some (.cells #[.string (⟨#[]⟩ : ByteArray), .int .i64 0, .int .i64 0, .int .i64 0, .int .i64 0] 72 (0, 0))) := ⟨by refine bu ?_; refine blk_far ?_ NB115_118.out _; refine bu ?_; refine blk_far ?_ NB115_118.out _; refine bu ?_; refine blk_far ?_ NB115_118.out _; refine bu ?_; refine blk_far ?_ NB115_118.out _; refine bu ?_; refine blk_far ?_ NB115_118.out _; refine bu ?_; exact BK115.out⟩
 have n2_ : Aside0 ((((((w15.setCell ⟨gb118, 0, none⟩ (.string ((rd_T72 l0 a1_0).f0))).setCell ⟨gb118, 1, none⟩ (.int .i64 ((rd_T72 l0 a1_0).f1))).setCell ⟨gb118, 2, none⟩ (.int .i64 ((rd_T72 l0 a1_0).f2))).setCell ⟨gb118, 3, none⟩ (.int .i64 ((rd_T72 l0 a1_0).f3))).setCell ⟨gb118, 4, none⟩ (.int .i64 ((rd_T72 l0 a1_0).f4))).heap[gb118]? = some (.cells #[.string ((rd_T72 l0 a1_0).f0), .int .i64 ((rd_T72 l0 a1_0).f1), .int .i64 ((rd_T72 l0 a1_0).f2), .int .i64 ((rd_T72 l0 a1_0).f3), .int .i64 ((rd_T72 l0 a1_0).f4)] 72 (0, 0))) := ⟨by refine bu ?_; refine blk_put (cs := #[.string ((rd_T72 l0 a1_0).f0), .int .i64 ((rd_T72 l0 a1_0).f1), .int .i64 ((rd_T72 l0 a1_0).f2), .int .i64 ((rd_T72 l0 a1_0).f3), .int .i64 0]) ?_ 4 _ rfl; refine bu ?_; refine blk_put (cs := #[.string ((rd_T72 l0 a1_0).f0), .int .i64 ((rd_T72 l0 a1_0).f1), .int .i64 ((rd_T72 l0 a1_0).f2), .int .i64 0, .int .i64 0]) ?_ 3 _ rfl; refine bu ?_; refine blk_put (cs := #[.string ((rd_T72 l0 a1_0).f0), .int .i64 ((rd_T72 l0 a1_0).f1), .int .i64 0, .int .i64 0, .int .i64 0]) ?_ 2 _ rfl; refine bu ?_; refine blk_put (cs := #[.string ((rd_T72 l0 a1_0).f0), .int .i64 0, .int .i64 0, .int .i64 0, .int .i64 0]) ?_ 1 _ rfl; refine bu ?_; refine blk_put (cs := #[.string (⟨#[]⟩ : ByteArray), .int .i64 0, .int .i64 0, .int .i64 0, .int .i64 0]) ?_ 0 _ rfl; refine bu ?_; exact BK118.out⟩
 have n3_ : Aside0 (Below w.heap.size w (((((w15.setCell ⟨gb118, 0, none⟩ (.string ((rd_T72 l0 a1_0).f0))).setCell ⟨gb118, 1, none⟩ (.int .i64 ((rd_T72 l0 a1_0).f1))).setCell ⟨gb118, 2, none⟩ (.int .i64 ((rd_T72 l0 a1_0).f2))).setCell ⟨gb118, 3, none⟩ (.int .i64 ((rd_T72 l0 a1_0).f3))).setCell ⟨gb118, 4, none⟩ (.int .i64 ((rd_T72 l0 a1_0).f4)))) := ⟨bs⟩
 (try clear BK114)
 (try clear BK115)
 (try clear BK118)
 (try clear HB)
 generalize (((((w15.setCell ⟨gb118, 0, none⟩ (.string ((rd_T72 l0 a1_0).f0))).setCell ⟨gb118, 1, none⟩ (.int .i64 ((rd_T72 l0 a1_0).f1))).setCell ⟨gb118, 2, none⟩ (.int .i64 ((rd_T72 l0 a1_0).f2))).setCell ⟨gb118, 3, none⟩ (.int .i64 ((rd_T72 l0 a1_0).f3))).setCell ⟨gb118, 4, none⟩ (.int .i64 ((rd_T72 l0 a1_0).f4))) = w21 at n0_ n1_ n2_ n3_ ⊢
 have BK114 := n0_
 have BK115 := n1_
 have BK118 := n2_
 have HB := n3_
 clear n0_ n1_ n2_ n3_
 have n0_ := am (blk_drew BK114.out)
 have n1_ := am (blk_drew BK115.out)
 have n2_ := am (blk_drew BK118.out)
 have n3_ := am (below_drew1 HB.out)
 clear BK114
 clear BK115
 clear BK118
 clear HB
 have BK114 := n0_
 have BK115 := n1_
 have BK118 := n2_
 have HB := n3_
 clear n0_ n1_ n2_ n3_
 refine start_ (n := 17) (S := fun w' => w'.cell? ⟨gb118, 0, none⟩ = some (.string ((rd_T72 l0 a1_0).f0)) ∧ w'.cell? ⟨gb118, 1, none⟩ = some (.int .i64 ((rd_T72 l0 a1_0).f1)) ∧ w'.cell? ⟨gb118, 2, none⟩ = some (.int .i64 ((rd_T72 l0 a1_0).f2)) ∧ w'.cell? ⟨gb118, 3, none⟩ = some (.int .i64 ((rd_T72 l0 a1_0).f3)) ∧ w'.cell? ⟨gb118, 4, none⟩ = some (.int .i64 ((rd_T72 l0 a1_0).f4)) ∧ w'.cell? ⟨gb114, 0, none⟩ = some (.int .i64 a1_0) ∧ w'.cell? ⟨gb114, 1, none⟩ = some (.int .i64 a1_1) ∧ w'.cell? ⟨gb114, 2, none⟩ = some (.int .i64 a1_2)) (ds := []) #[false, false, false, false, false, false, false, false, false, false, false, false, false, false, false, false, false] (by kernel_rfl) rfl rfl ⟨(blk_cell BK118.out 0).trans rfl, (blk_cell BK118.out 1).trans rfl, (blk_cell BK118.out 2).trans rfl, (blk_cell BK118.out 3).trans rfl, (blk_cell BK118.out 4).trans rfl, (blk_cell BK114.out 0).trans rfl, (blk_cell BK114.out 1).trans rfl, (blk_cell BK114.out 2).trans rfl⟩ (fun hHeld => ?_); refine with_tabW c_known.tab4 c_known.bits4 (fun HT_ HW_ => ?_)
 generalize w21.drew = w22 at BK114 BK115 BK118 HB hHeld ⊢
 refine pure_ (i := 1) (N := some 19) (v := ?_) (a' := ?_) #[false, true, false, false, false, false, false, false, false, false, false, false, false, false, false, false, false] rfl rfl (any_of HT_.out (by kernel_rfl)) (fun _ _ _ h => h) (Or.inl ⟨by rfl, ?_⟩) ?_ ?_
 rotate_left
 ·intro w'
  go_simp
  with_reducible rfl
 rotate_left
 ·simp only [Act.put, List.setIfInBounds_toArray, List.set_cons_zero, List.set_cons_succ, i64_w, i32_w]
  rfl
 refine pure_ (i := 3) (N := some 21) (v := ?_) (a' := ?_) #[false, true, false, true, false, false, false, false, false, false, false, false, false, false, false, false, false] rfl rfl (any_of HT_.out (by kernel_rfl)) (fun _ _ _ h => h) (Or.inl ⟨by rfl, ?_⟩) ?_ ?_
 rotate_left
 ·intro w'
  go_simp
  with_reducible rfl
 rotate_left
 ·simp only [Act.put, List.setIfInBounds_toArray, List.set_cons_zero, List.set_cons_succ, i64_w, i32_w]
  rfl
 refine take_ (i := 0) (N := some 18) (v := ?_) (a' := ?_) #[true, true, false, true, false, false, false, false, false, false, false, false, false, false, false, false, false] rfl rfl (take_ofW HT_.out HW_.out (by kernel_rfl)) (fun _ _ _ h => h) (Or.inl ⟨by rfl, ?_⟩) hHeld ?_ ?_
 rotate_left
 ·rintro w' ⟨s0, s1, s2, s3, s4, s5, s6, s7⟩
  go_simp
  with_reducible rfl
 rotate_left
 ·simp only [Act.put, List.setIfInBounds_toArray, List.set_cons_zero, List.set_cons_succ, i64_w, i32_w]
  rfl
 refine take_ (i := 2) (N := some 20) (v := ?_) (a' := ?_) #[true, true, true, true, false, false, false, false, false, false, false, false, false, false, false, false, false] rfl rfl (take_ofW HT_.out HW_.out (by kernel_rfl)) (fun _ _ _ h => h) (Or.inl ⟨by rfl, ?_⟩) hHeld ?_ ?_
 rotate_left
 ·rintro w' ⟨s0, s1, s2, s3, s4, s5, s6, s7⟩
  go_simp
  with_reducible rfl
 rotate_left
 ·simp only [Act.put, List.setIfInBounds_toArray, List.set_cons_zero, List.set_cons_succ, i64_w, i32_w]
  rfl
 refine take_ (i := 4) (N := some 22) (v := ?_) (a' := ?_) #[true, true, true, true, true, false, false, false, false, false, false, false, false, false, false, false, false] rfl rfl (take_ofW HT_.out HW_.out (by kernel_rfl)) (fun _ _ _ h => h) (Or.inl ⟨by rfl, ?_⟩) hHeld ?_ ?_
 rotate_left
 ·rintro w' ⟨s0, s1, s2, s3, s4, s5, s6, s7⟩
  go_simp
  with_reducible rfl
 rotate_left
 ·simp only [Act.put, List.setIfInBounds_toArray, List.set_cons_zero, List.set_cons_succ, i64_w, i32_w]
  rfl
 refine one_ (i := 5) (N := some 23) #[true, true, true, true, true, true, false, false, false, false, false, false, false, false, false, false, false] rfl rfl (one_of HT_.out (by kernel_rfl)) (by decide) (fun K hK => ?_)
 refine goes_ Tryd.func48 (by kernel_rfl) rfl #[.int .i64 ((rd_T72 l0 a1_0).f1), .int .i64 a1_1, .int .i64 0] (by rfl) rfl rfl ls ?_
 with_reducible refine (c_operand.calls k ((rd_T72 l0 a1_0).f1) a1_1 0 true _ A7.out).mono ?_
 rintro e w' ⟨rfl, ⟨nd, rfl⟩⟩
 refine ⟨_, rfl, ?_⟩
 refine hK.out _ _ ⟨(blk_cell BK118.out 0).trans rfl, (blk_cell BK118.out 1).trans rfl, (blk_cell BK118.out 2).trans rfl, (blk_cell BK118.out 3).trans rfl, (blk_cell BK118.out 4).trans rfl, (blk_cell BK114.out 0).trans rfl, (blk_cell BK114.out 1).trans rfl, (blk_cell BK114.out 2).trans rfl⟩ (fun hHeld => ?_)
 clear hK K
 refine norm_ (a' := ?_) ?_ ?_
 rotate_left
 ·show Act.put _ (some 23) _ = _
  simp only [Act.put, List.setIfInBounds_toArray, List.set_cons_zero, List.set_cons_succ, i64_w, i32_w]
  rfl
 refine pure_ (i := 6) (N := some 24) (v := ?_) (a' := ?_) #[true, true, true, true, true, true, true, false, false, false, false, false, false, false, false, false, false] rfl rfl (any_of HT_.out (by kernel_rfl)) (fun _ _ _ h => h) (Or.inl ⟨by rfl, ?_⟩) ?_ ?_
 rotate_left
 ·intro w'
  go_simp
  with_reducible rfl
 rotate_left
 ·simp only [Act.put, List.setIfInBounds_toArray, List.set_cons_zero, List.set_cons_succ, i64_w, i32_w]
  rfl
 refine pure_ (i := 7) (N := some 25) (v := ?_) (a' := ?_) #[true, true, true, true, true, true, true, true, false, false, false, false, false, false, false, false, false] rfl rfl (any_of HT_.out (by kernel_rfl)) (fun _ _ _ h => h) (Or.inl ⟨by rfl, ?_⟩) ?_ ?_
 rotate_left
 ·intro w'
  go_simp
  with_reducible rfl
 rotate_left
 ·simp only [Act.put, List.setIfInBounds_toArray, List.set_cons_zero, List.set_cons_succ, i64_w, i32_w]
  rfl
 refine pure_ (i := 9) (N := some 27) (v := ?_) (a' := ?_) #[true, true, true, true, true, true, true, true, false, true, false, false, false, false, false, false, false] rfl rfl (any_of HT_.out (by kernel_rfl)) (fun _ _ _ h => h) (Or.inl ⟨by rfl, ?_⟩) ?_ ?_
 rotate_left
 ·intro w'
  go_simp
  with_reducible rfl
 rotate_left
 ·simp only [Act.put, List.setIfInBounds_toArray, List.set_cons_zero, List.set_cons_succ, i64_w, i32_w]
  rfl
 refine pure_ (i := 11) (N := some 29) (v := ?_) (a' := ?_) #[true, true, true, true, true, true, true, true, false, true, false, true, false, false, false, false, false] rfl rfl (any_of HT_.out (by kernel_rfl)) (fun _ _ _ h => h) (Or.inl ⟨by rfl, ?_⟩) ?_ ?_
 rotate_left
 ·intro w'
  go_simp
  with_reducible rfl
 rotate_left
 ·simp only [Act.put, List.setIfInBounds_toArray, List.set_cons_zero, List.set_cons_succ, i64_w, i32_w]
  rfl
 refine take_ (i := 8) (N := some 26) (v := ?_) (a' := ?_) #[true, true, true, true, true, true, true, true, true, true, false, true, false, false, false, false, false] rfl rfl (take_ofW HT_.out HW_.out (by kernel_rfl)) (fun _ _ _ h => h) (Or.inl ⟨by rfl, ?_⟩) hHeld ?_ ?_
 rotate_left
 ·rintro w' ⟨s0, s1, s2, s3, s4, s5, s6, s7⟩
  go_simp
  with_reducible rfl
 rotate_left
 ·simp only [Act.put, List.setIfInBounds_toArray, List.set_cons_zero, List.set_cons_succ, i64_w, i32_w]
  rfl
 refine take_ (i := 10) (N := some 28) (v := ?_) (a' := ?_) #[true, true, true, true, true, true, true, true, true, true, true, true, false, false, false, false, false] rfl rfl (take_ofW HT_.out HW_.out (by kernel_rfl)) (fun _ _ _ h => h) (Or.inl ⟨by rfl, ?_⟩) hHeld ?_ ?_
 rotate_left
 ·rintro w' ⟨s0, s1, s2, s3, s4, s5, s6, s7⟩
  go_simp
  with_reducible rfl
 rotate_left
 ·simp only [Act.put, List.setIfInBounds_toArray, List.set_cons_zero, List.set_cons_succ, i64_w, i32_w]
  rfl
 refine take_ (i := 12) (N := some 30) (v := ?_) (a' := ?_) #[true, true, true, true, true, true, true, true, true, true, true, true, true, false, false, false, false] rfl rfl (take_ofW HT_.out HW_.out (by kernel_rfl)) (fun _ _ _ h => h) (Or.inl ⟨by rfl, ?_⟩) hHeld ?_ ?_
 rotate_left
 ·rintro w' ⟨s0, s1, s2, s3, s4, s5, s6, s7⟩
  go_simp
  with_reducible rfl
 rotate_left
 ·simp only [Act.put, List.setIfInBounds_toArray, List.set_cons_zero, List.set_cons_succ, i64_w, i32_w]
  rfl
 refine one_ (i := 13) (N := some 31) #[true, true, true, true, true, true, true, true, true, true, true, true, true, true, false, false, false] rfl rfl (one_of HT_.out (by kernel_rfl)) (by decide) (fun K hK => ?_)
 refine goes_ Tryd.func48 (by kernel_rfl) rfl #[.int .i64 ((rd_T72 l0 a1_0).f2), .int .i64 a1_2, .int .i64 a1_1] (by rfl) rfl rfl ls ?_
 with_reducible refine (c_operand.calls k ((rd_T72 l0 a1_0).f2) a1_2 a1_1 t120 _ A9.out).mono ?_
 rintro e w' ⟨rfl, ⟨nd, rfl⟩⟩
 refine ⟨_, rfl, ?_⟩
 refine hK.out _ _ ⟨(blk_cell BK118.out 0).trans rfl, (blk_cell BK118.out 1).trans rfl, (blk_cell BK118.out 2).trans rfl, (blk_cell BK118.out 3).trans rfl, (blk_cell BK118.out 4).trans rfl, (blk_cell BK114.out 0).trans rfl, (blk_cell BK114.out 1).trans rfl, (blk_cell BK114.out 2).trans rfl⟩ (fun hHeld => ?_)
 clear hK K
 refine norm_ (a' := ?_) ?_ ?_
 rotate_left
 ·show Act.put _ (some 31) _ = _
  simp only [Act.put, List.setIfInBounds_toArray, List.set_cons_zero, List.set_cons_succ, i64_w, i32_w]
  rfl
 refine pure_ (i := 14) (N := some 32) (v := ?_) (a' := ?_) #[true, true, true, true, true, true, true, true, true, true, true, true, true, true, true, false, false] rfl rfl (any_of HT_.out (by kernel_rfl)) (fun _ _ _ h => h) (Or.inl ⟨by rfl, ?_⟩) ?_ ?_
 rotate_left
 ·intro w'
  go_simp
  with_reducible rfl
 rotate_left
 ·simp only [Act.put, List.setIfInBounds_toArray, List.set_cons_zero, List.set_cons_succ, i64_w, i32_w]
  rfl
 refine one_ (i := 15) (N := none) #[true, true, true, true, true, true, true, true, true, true, true, true, true, true, true, true, false] rfl rfl (one_of HT_.out (by kernel_rfl)) (by decide) (fun K hK => ?_)
 have hs23 : w22.cell? ⟨gb115, 0, none⟩ = some (.string (⟨#[]⟩ : ByteArray)) := (blk_cell BK115.out 0).trans rfl
 have hfs23 := blk_frozen BK115.out 0
 have hns23_0 := NB114_115.out
 have hns23_2 := NB118_115.out
 have hms23_0 := NB115_114.out
 have hms23_2 := NB115_118.out
 have hs24 : w22.cell? ⟨gb115, 1, none⟩ = some (.int .i64 0) := (blk_cell BK115.out 1).trans rfl
 have hfs24 := blk_frozen BK115.out 1
 have hns24_0 := NB114_115.out
 have hns24_2 := NB118_115.out
 have hms24_0 := NB115_114.out
 have hms24_2 := NB115_118.out
 have hs25 : w22.cell? ⟨gb115, 2, none⟩ = some (.int .i64 0) := (blk_cell BK115.out 2).trans rfl
 have hfs25 := blk_frozen BK115.out 2
 have hns25_0 := NB114_115.out
 have hns25_2 := NB118_115.out
 have hms25_0 := NB115_114.out
 have hms25_2 := NB115_118.out
 have hs26 : w22.cell? ⟨gb115, 3, none⟩ = some (.int .i64 0) := (blk_cell BK115.out 3).trans rfl
 have hfs26 := blk_frozen BK115.out 3
 have hns26_0 := NB114_115.out
 have hns26_2 := NB118_115.out
 have hms26_0 := NB115_114.out
 have hms26_2 := NB115_118.out
 have hs27 : w22.cell? ⟨gb115, 4, none⟩ = some (.int .i64 0) := (blk_cell BK115.out 4).trans rfl
 have hfs27 := blk_frozen BK115.out 4
 have hns27_0 := NB114_115.out
 have hns27_2 := NB118_115.out
 have hms27_0 := NB115_114.out
 have hms27_2 := NB115_118.out
 refine skip_ (w1 := ?_) (by rfl) rfl ?_ ?_
 rotate_left
 ·go_simp
  rfl
 refine hK.out _ _ ⟨((cell_far (p := ⟨gb115, _, none⟩) NB118_115.out _).trans (((cell_far (p := ⟨gb115, _, none⟩) NB118_115.out _).trans (((cell_far (p := ⟨gb115, _, none⟩) NB118_115.out _).trans (((cell_far (p := ⟨gb115, _, none⟩) NB118_115.out _).trans (((cell_far (p := ⟨gb115, _, none⟩) NB118_115.out _).trans (hHeld.1)))))))))), ((cell_far (p := ⟨gb115, _, none⟩) NB118_115.out _).trans (((cell_far (p := ⟨gb115, _, none⟩) NB118_115.out _).trans (((cell_far (p := ⟨gb115, _, none⟩) NB118_115.out _).trans (((cell_far (p := ⟨gb115, _, none⟩) NB118_115.out _).trans (((cell_far (p := ⟨gb115, _, none⟩) NB118_115.out _).trans (hHeld.2.1)))))))))), ((cell_far (p := ⟨gb115, _, none⟩) NB118_115.out _).trans (((cell_far (p := ⟨gb115, _, none⟩) NB118_115.out _).trans (((cell_far (p := ⟨gb115, _, none⟩) NB118_115.out _).trans (((cell_far (p := ⟨gb115, _, none⟩) NB118_115.out _).trans (((cell_far (p := ⟨gb115, _, none⟩) NB118_115.out _).trans (hHeld.2.2.1)))))))))), ((cell_far (p := ⟨gb115, _, none⟩) NB118_115.out _).trans (((cell_far (p := ⟨gb115, _, none⟩) NB118_115.out _).trans (((cell_far (p := ⟨gb115, _, none⟩) NB118_115.out _).trans (((cell_far (p := ⟨gb115, _, none⟩) NB118_115.out _).trans (((cell_far (p := ⟨gb115, _, none⟩) NB118_115.out _).trans (hHeld.2.2.2.1)))))))))), ((cell_far (p := ⟨gb115, _, none⟩) NB118_115.out _).trans (((cell_far (p := ⟨gb115, _, none⟩) NB118_115.out _).trans (((cell_far (p := ⟨gb115, _, none⟩) NB118_115.out _).trans (((cell_far (p := ⟨gb115, _, none⟩) NB118_115.out _).trans (((cell_far (p := ⟨gb115, _, none⟩) NB118_115.out _).trans (hHeld.2.2.2.2.1)))))))))), ((cell_far (p := ⟨gb115, _, none⟩) NB114_115.out _).trans (((cell_far (p := ⟨gb115, _, none⟩) NB114_115.out _).trans (((cell_far (p := ⟨gb115, _, none⟩) NB114_115.out _).trans (((cell_far (p := ⟨gb115, _, none⟩) NB114_115.out _).trans (((cell_far (p := ⟨gb115, _, none⟩) NB114_115.out _).trans (hHeld.2.2.2.2.2.1)))))))))), ((cell_far (p := ⟨gb115, _, none⟩) NB114_115.out _).trans (((cell_far (p := ⟨gb115, _, none⟩) NB114_115.out _).trans (((cell_far (p := ⟨gb115, _, none⟩) NB114_115.out _).trans (((cell_far (p := ⟨gb115, _, none⟩) NB114_115.out _).trans (((cell_far (p := ⟨gb115, _, none⟩) NB114_115.out _).trans (hHeld.2.2.2.2.2.2.1)))))))))), ((cell_far (p := ⟨gb115, _, none⟩) NB114_115.out _).trans (((cell_far (p := ⟨gb115, _, none⟩) NB114_115.out _).trans (((cell_far (p := ⟨gb115, _, none⟩) NB114_115.out _).trans (((cell_far (p := ⟨gb115, _, none⟩) NB114_115.out _).trans (((cell_far (p := ⟨gb115, _, none⟩) NB114_115.out _).trans (hHeld.2.2.2.2.2.2.2))))))))))⟩ (fun hHeld => ?_)
 clear hK K
 refine pure_ (i := 16) (N := some 5) (v := ?_) (a' := ?_) #[true, true, true, true, true, true, true, true, true, true, true, true, true, true, true, true, true] rfl rfl (any_of HT_.out (by kernel_rfl)) (fun _ _ _ h => h) (Or.inl ⟨by rfl, ?_⟩) ?_ ?_
 rotate_left
 ·intro w'
  go_simp
  with_reducible rfl
 rotate_left
 ·simp only [Act.put, List.setIfInBounds_toArray, List.set_cons_zero, List.set_cons_succ, i64_w, i32_w]
  rfl
 refine done_ (done_of HT_.out (by kernel_rfl)) ?_
 try go_wp2
 refine bodyPost_ret (results_ct rfl _ _ gb115 72 #[.string ((rd_T72 l0 a1_0).f0), .int .i64 ((rd_T72 l0 a1_0).f1), .int .i64 ((rd_T72 l0 a1_0).f2), .int .i64 ((rd_T72 l0 a1_0).f3), .int .i64 ((rd_T72 l0 a1_0).f4)] (0, 0) _ rfl (by refine bu ?_; refine blk_put (cs := #[.string ((rd_T72 l0 a1_0).f0), .int .i64 ((rd_T72 l0 a1_0).f1), .int .i64 ((rd_T72 l0 a1_0).f2), .int .i64 ((rd_T72 l0 a1_0).f3), .int .i64 0]) ?_ 4 _ rfl; refine bu ?_; refine blk_put (cs := #[.string ((rd_T72 l0 a1_0).f0), .int .i64 ((rd_T72 l0 a1_0).f1), .int .i64 ((rd_T72 l0 a1_0).f2), .int .i64 0, .int .i64 0]) ?_ 3 _ rfl; refine bu ?_; refine blk_put (cs := #[.string ((rd_T72 l0 a1_0).f0), .int .i64 ((rd_T72 l0 a1_0).f1), .int .i64 0, .int .i64 0, .int .i64 0]) ?_ 2 _ rfl; refine bu ?_; refine blk_put (cs := #[.string ((rd_T72 l0 a1_0).f0), .int .i64 0, .int .i64 0, .int .i64 0, .int .i64 0]) ?_ 1 _ rfl; refine bu ?_; refine blk_put (cs := #[.string (⟨#[]⟩ : ByteArray), .int .i64 0, .int .i64 0, .int .i64 0, .int .i64 0]) ?_ 0 _ rfl; refine bu ?_; exact BK115.out) Tryd.underlying72 rfl (by kernel_rfl)) rfl ?_
 exact ⟨er, bs⟩
end Go.Proofs.YtdkejcadoepnnaaDoor.ECc
