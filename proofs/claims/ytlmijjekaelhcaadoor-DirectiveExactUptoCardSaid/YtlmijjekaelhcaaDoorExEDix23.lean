/-
 A text of this session's own.
-/
import Derived.Test.YtlmijjekaelhcaaDoorExA0
import Derived.Test.YtlmijjekaelhcaaDoorExEDpx0
namespace Go.Proofs.YtlmijjekaelhcaaDoor.EDi
open Go.RowKit Go.Proofs.YtlmijjekaelhcaaDoorW.PrintWords Go.Proofs.YtlmijjekaelhcaaDoorW.PrintLast Go.Proofs.YtlmijjekaelhcaaDoorW.PrintMore
attribute [local go_sem] max2_int min2_int max_two min_two max_three min_three max_four min_four
set_option linter.unusedVariables false
mutual
def d_Wants.l0 : Nat → Int → List (S25) → Int → Int → Option (Int)
 | 0, _, _, _, _ => none
 | k + 1, x3, x6, x7, x8 => if x8 < x7 then (if 0 ≤ x8 then (if x8 < (x6.length : Int) then (if ((rd_T25 x6 x8).f1) = 0 then (d_Wants.j1 k x3 x6 x7 x8 true ((rd_T25 x6 x8).f0) ((rd_T25 x6 x8).f1) ((rd_T25 x6 x8).f2) ((rd_T25 x6 x8).f3) ((rd_T25 x6 x8).f4) ((rd_T25 x6 x8).f5) ((rd_T25 x6 x8).f6)) else (d_Wants.j1 k x3 x6 x7 x8 (((rd_T25 x6 x8).f1) == 37) ((rd_T25 x6 x8).f0) ((rd_T25 x6 x8).f1) ((rd_T25 x6 x8).f2) ((rd_T25 x6 x8).f3) ((rd_T25 x6 x8).f4) ((rd_T25 x6 x8).f5) ((rd_T25 x6 x8).f6))) else (none)) else (none)) else (some x3)
def d_Wants.j1 : Nat → Int → List (S25) → Int → Int → Bool → ByteArray → Int → Int → Int → Int → Int → Int → Option (Int)
 | 0, _, _, _, _, _, _, _, _, _, _, _, _ => none
 | k + 1, x3, x6, x7, x8, x19, x383000, x383001, x383002, x383003, x383004, x383005, x383006 => if x19 = true then (d_Wants.l0 k x3 x6 x7 (wrap64 (x8 + 1))) else (if x383003 = 2 then (if x383005 = 2 then (d_Wants.l0 k (wrap64 ((wrap64 ((wrap64 (x3 + 1)) + 1)) + 1)) x6 x7 (wrap64 (x8 + 1))) else (d_Wants.l0 k (wrap64 ((wrap64 (x3 + 1)) + 1)) x6 x7 (wrap64 (x8 + 1)))) else (if x383005 = 2 then (d_Wants.l0 k (wrap64 ((wrap64 (x3 + 1)) + 1)) x6 x7 (wrap64 (x8 + 1))) else (d_Wants.l0 k (wrap64 (x3 + 1)) x6 x7 (wrap64 (x8 + 1)))))
end
def d_Wants.f (k : Nat) (l0 : List (S25)) : Option (Int) := d_Wants.l0 k 0 l0 (l0.length : Int) 0
theorem d_Wants.mono_l : ∀ k, (∀ y0 y1 y2 y3, LeO (d_Wants.l0 k y0 y1 y2 y3) (d_Wants.l0 (k + 1) y0 y1 y2 y3)) ∧ (∀ y0 y1 y2 y3 y4 y5 y6 y7 y8 y9 y10 y11, LeO (d_Wants.j1 k y0 y1 y2 y3 y4 y5 y6 y7 y8 y9 y10 y11) (d_Wants.j1 (k + 1) y0 y1 y2 y3 y4 y5 y6 y7 y8 y9 y10 y11))
 | 0 => ⟨fun _ _ _ _ r h => by simp [d_Wants.l0] at h, fun _ _ _ _ _ _ _ _ _ _ _ _ r h => by simp [d_Wants.j1] at h⟩
 | k + 1 => by
  obtain ⟨ih0, ih1⟩ := d_Wants.mono_l k
  refine ⟨?_, ?_⟩ <;> intros
  all_goals first | unfold d_Wants.l0 | unfold d_Wants.j1
  all_goals repeat' first
  | (with_reducible exact ih0 _ _ _ _)
  | (with_reducible exact ih1 _ _ _ _ _ _ _ _ _ _ _ _)
  | (with_reducible exact LeO.refl _)
  | (with_reducible exact LeO.none _)
  | (with_reducible refine LeO.ite ?_ ?_)
  | (with_reducible refine LeO.bind ?_ (fun _ => ?_))
  | exact ih0 _ _ _ _
  | exact ih1 _ _ _ _ _ _ _ _ _ _ _ _
  | exact LeO.none _
  | refine LeO.ite ?_ ?_
  | refine LeO.bind ?_ (fun _ => ?_)
theorem d_Wants.mono : ∀ a0 k, LeO (d_Wants.f k a0) (d_Wants.f (k + 1) a0) := by
 intro a0 k
 obtain ⟨ih0, ih1⟩ := d_Wants.mono_l k
 unfold d_Wants.f
 repeat' first
   | (with_reducible exact ih0 _ _ _ _)
   | (with_reducible exact ih1 _ _ _ _ _ _ _ _ _ _ _ _)
   | (with_reducible exact LeO.refl _)
   | (with_reducible exact LeO.none _)
   | (with_reducible refine LeO.ite ?_ ?_)
   | (with_reducible refine LeO.bind ?_ (fun _ => ?_))
   | exact ih0 _ _ _ _
   | exact ih1 _ _ _ _ _ _ _ _ _ _ _ _
   | exact LeO.none _
   | refine LeO.ite ?_ ?_
   | refine LeO.bind ?_ (fun _ => ?_)
set_option maxHeartbeats 8000000 in
set_option maxRecDepth 100000 in
theorem d_Wants.calls (k : Nat) (A0 : Option Addr) (c0 : Nat) (l0 : List (S25)) (r : Int) (w : World) (hr0 : Kd.C k25 w A0 l0.length l0) (hc0 : l0.length ≤ c0) (h : d_Wants.f k l0 = some r) :
  Calls Tryd.prog 15 #[.slice A0 l0.length c0] w fun e w' => e = .returned (.int .i64 r) ∧ Below w.heap.size w w' := by
 have hu25 := Tryd.underlying25
 have HR0 := am hr0
 have HC0 := am hc0
 clear hr0 hc0
 have HB := am (Below.refl w.heap.size w)
 have H : (d_Wants.l0 k 0 l0 (l0.length : Int) 0) = some r := h
 clear h
 have H' := am H
 clear H
 go_enter Tryd.func15, Tryd.ntmps15
 go_wp2
 go_loopg [3, 8] k (fun kq v3 v8 w' => ∃ (x3_1 : Int) (x8_1 : Int), v3 = .int .i64 x3_1 ∧ v8 = .int .i64 x8_1 ∧ Aside0 (d_Wants.l0 kq x3_1 l0 (l0.length : Int) x8_1 = some r) ∧ Aside0 (kq ≤ k) ∧ Aside0 (Below w.heap.size w w'))
 case atStart => exact ⟨(0), (0), tv, tv, H', ⟨Nat.le_refl _⟩, ⟨bl⟩⟩
 case round =>
  clear H'
  try clear c1
  obtain ⟨x3_1, x8_1, rfl, rfl, HA, HK1, HB⟩ := hrel
  cases gk with
  | zero => exact absurd HA.out (by simp [d_Wants.l0])
  | succ k1 =>
   have H := HA.out
   clear HA
   simp only [d_Wants.l0] at H
   by_cases c2 : x8_1 < (l0.length : Int)
   rotate_left
   ·rw [if_neg c2] at H
    have c2b0 := decide_eq_false c2
    clear c2
    obtain rfl := Option.some.inj H
    go_wp2
    go_ret
    exact ⟨er, bl⟩
   rw [if_pos c2] at H
   have c2b0 := decide_eq_true c2
   clear c2
   by_cases c3 : 0 ≤ x8_1
   rotate_left
   ·rw [if_neg c3] at H
    exact absurd H (by simp)
   rw [if_pos c3] at H
   have c3b0 := decide_eq_true c3
   clear c3
   by_cases c4 : x8_1 < (l0.length : Int)
   rotate_left
   ·rw [if_neg c4] at H
    exact absurd H (by simp)
   rw [if_pos c4] at H
   have c4b0 := decide_eq_true c4
   clear c4
   have HC5 := am H
   clear H
   have p381 : 0 ≤ (x8_1 : Int) := of_decide_eq_true od
   have q381 : x8_1 < (l0.length : Int) := of_decide_eq_true od
   obtain ⟨ad381, e381, hx381_0, hx381_1, hx381_2, hx381_3, hx381_4, hx381_5, hx381_6⟩ := at_T25 HR0.out x8_1 p381 q381
   cases e381
   replace hx381_0 := (HB.out.cell (World.block_lt_of_cell? w _ hx381_0)).trans hx381_0
   replace hx381_1 := (HB.out.cell (World.block_lt_of_cell? w _ hx381_1)).trans hx381_1
   replace hx381_2 := (HB.out.cell (World.block_lt_of_cell? w _ hx381_2)).trans hx381_2
   replace hx381_3 := (HB.out.cell (World.block_lt_of_cell? w _ hx381_3)).trans hx381_3
   replace hx381_4 := (HB.out.cell (World.block_lt_of_cell? w _ hx381_4)).trans hx381_4
   replace hx381_5 := (HB.out.cell (World.block_lt_of_cell? w _ hx381_5)).trans hx381_5
   replace hx381_6 := (HB.out.cell (World.block_lt_of_cell? w _ hx381_6)).trans hx381_6
   replace p381 := eq_true p381
   replace q381 := eq_true q381
   go_upto_region 5 with (first | ((with_reducible refine gate_dst (N := 5) rfl ?_); refine box_event ?hg (N := 5) ?hd (cs := #[.string (⟨#[]⟩ : ByteArray), .int .u8 0, .int .i64 0, .int .i64 0, .int .i64 0, .int .i64 0, .int .i64 0]) (t := 25) ?hr ?_; (case hd => rfl); (case hg => rfl); (case hr => first | (go_simp; done) | (go_simp; rfl)); intro gb382 hg w6 hbox hb; have n0_ := am (below_step bl hb); have n1_ := am (hbox); have n2_ := am ((by rw [hg]; exact (below_size bl) : w.heap.size ≤ gb382)); have n3_ := n2_; clear HB; have HB := n0_; have BK382 := n1_; have GW382 := n2_; have GE382 := n3_; clear n0_ n1_ n2_ n3_; clear hb hbox hg; obtain ⟨⟨hcz7_0, hcz7_1, hcz7_2, hcz7_3, hcz7_4, hcz7_5, hcz7_6⟩, hfz7_0, hfz7_1, hfz7_2, hfz7_3, hfz7_4, hfz7_5, hfz7_6⟩ := blkAll7 BK382))
   (try simp only [Act.put, List.setIfInBounds_toArray, List.set_cons_zero, List.set_cons_succ])
   go_cut [19] (fun v19 wc => ∃ (kq : Nat) (x19_4 : Bool), v19 = .bool x19_4 ∧ Aside0 (d_Wants.j1 kq x3_1 l0 (l0.length : Int) x8_1 x19_4 ((rd_T25 l0 x8_1).f0) ((rd_T25 l0 x8_1).f1) ((rd_T25 l0 x8_1).f2) ((rd_T25 l0 x8_1).f3) ((rd_T25 l0 x8_1).f4) ((rd_T25 l0 x8_1).f5) ((rd_T25 l0 x8_1).f6) = some r) ∧ Aside0 (kq ≤ k1) ∧ Aside0 (wc.heap[gb382]? = some (.cells #[.string ((rd_T25 l0 x8_1).f0), .int .u8 ((rd_T25 l0 x8_1).f1), .int .i64 ((rd_T25 l0 x8_1).f2), .int .i64 ((rd_T25 l0 x8_1).f3), .int .i64 ((rd_T25 l0 x8_1).f4), .int .i64 ((rd_T25 l0 x8_1).f5), .int .i64 ((rd_T25 l0 x8_1).f6)] 25 (0, 0))) ∧ Aside0 (Below w.heap.size w wc))
   case first =>
    have H := HC5.out
    clear HC5
    by_cases c8 : ((rd_T25 l0 x8_1).f1) = 0
    ·rw [if_pos c8] at H
     have c8b0 : (((rd_T25 l0 x8_1).f1) == 0) = true := beq_iff_eq.mpr c8
     have c8b1 : (((rd_T25 l0 x8_1).f1) != 0) = false := bne_eq_false_iff_eq.mpr c8
     clear c8
     (first | rw [c8b0] | (simp only [i64_w, i32_w]; rw [c8b0]) | skip)
     have H' := am H
     clear H
     obtain ⟨⟨hcz9_0, hcz9_1, hcz9_2, hcz9_3, hcz9_4, hcz9_5, hcz9_6⟩, hfz9_0, hfz9_1, hfz9_2, hfz9_3, hfz9_4, hfz9_5, hfz9_6⟩ := blkAll7 BK382
     go_wp2
     go_meet
     case rel => exact ⟨_, (true), tv, H', ⟨by have := HK1.out; first | omega | exact Nat.le_refl _⟩, ⟨by refine bu ?_; refine blk_put (cs := #[.string ((rd_T25 l0 x8_1).f0), .int .u8 ((rd_T25 l0 x8_1).f1), .int .i64 ((rd_T25 l0 x8_1).f2), .int .i64 ((rd_T25 l0 x8_1).f3), .int .i64 ((rd_T25 l0 x8_1).f4), .int .i64 ((rd_T25 l0 x8_1).f5), .int .i64 0]) ?_ 6 _ rfl; refine bu ?_; refine blk_put (cs := #[.string ((rd_T25 l0 x8_1).f0), .int .u8 ((rd_T25 l0 x8_1).f1), .int .i64 ((rd_T25 l0 x8_1).f2), .int .i64 ((rd_T25 l0 x8_1).f3), .int .i64 ((rd_T25 l0 x8_1).f4), .int .i64 0, .int .i64 0]) ?_ 5 _ rfl; refine bu ?_; refine blk_put (cs := #[.string ((rd_T25 l0 x8_1).f0), .int .u8 ((rd_T25 l0 x8_1).f1), .int .i64 ((rd_T25 l0 x8_1).f2), .int .i64 ((rd_T25 l0 x8_1).f3), .int .i64 0, .int .i64 0, .int .i64 0]) ?_ 4 _ rfl; refine bu ?_; refine blk_put (cs := #[.string ((rd_T25 l0 x8_1).f0), .int .u8 ((rd_T25 l0 x8_1).f1), .int .i64 ((rd_T25 l0 x8_1).f2), .int .i64 0, .int .i64 0, .int .i64 0, .int .i64 0]) ?_ 3 _ rfl; refine bu ?_; refine blk_put (cs := #[.string ((rd_T25 l0 x8_1).f0), .int .u8 ((rd_T25 l0 x8_1).f1), .int .i64 0, .int .i64 0, .int .i64 0, .int .i64 0, .int .i64 0]) ?_ 2 _ rfl; refine bu ?_; refine blk_put (cs := #[.string ((rd_T25 l0 x8_1).f0), .int .u8 0, .int .i64 0, .int .i64 0, .int .i64 0, .int .i64 0, .int .i64 0]) ?_ 1 _ rfl; refine bu ?_; refine blk_put (cs := #[.string (⟨#[]⟩ : ByteArray), .int .u8 0, .int .i64 0, .int .i64 0, .int .i64 0, .int .i64 0, .int .i64 0]) ?_ 0 _ rfl; refine bu ?_; exact BK382.out⟩, ⟨bs⟩⟩
    rw [if_neg c8] at H
    have c8b0 : (((rd_T25 l0 x8_1).f1) == 0) = false := beq_eq_false_iff_ne.mpr c8
    have c8b1 : (((rd_T25 l0 x8_1).f1) != 0) = true := bne_iff_ne.mpr c8
    (first | rw [c8b0] | (simp only [i64_w, i32_w]; rw [c8b0]) | skip)
    have H' := am H
    clear H
    obtain ⟨⟨hcz10_0, hcz10_1, hcz10_2, hcz10_3, hcz10_4, hcz10_5, hcz10_6⟩, hfz10_0, hfz10_1, hfz10_2, hfz10_3, hfz10_4, hfz10_5, hfz10_6⟩ := blkAll7 BK382
    go_wp2
    go_meet
    case rel => exact ⟨_, ((((rd_T25 l0 x8_1).f1) == 37)), tv, H', ⟨by have := HK1.out; first | omega | exact Nat.le_refl _⟩, ⟨by refine bu ?_; refine blk_put (cs := #[.string ((rd_T25 l0 x8_1).f0), .int .u8 ((rd_T25 l0 x8_1).f1), .int .i64 ((rd_T25 l0 x8_1).f2), .int .i64 ((rd_T25 l0 x8_1).f3), .int .i64 ((rd_T25 l0 x8_1).f4), .int .i64 ((rd_T25 l0 x8_1).f5), .int .i64 0]) ?_ 6 _ rfl; refine bu ?_; refine blk_put (cs := #[.string ((rd_T25 l0 x8_1).f0), .int .u8 ((rd_T25 l0 x8_1).f1), .int .i64 ((rd_T25 l0 x8_1).f2), .int .i64 ((rd_T25 l0 x8_1).f3), .int .i64 ((rd_T25 l0 x8_1).f4), .int .i64 0, .int .i64 0]) ?_ 5 _ rfl; refine bu ?_; refine blk_put (cs := #[.string ((rd_T25 l0 x8_1).f0), .int .u8 ((rd_T25 l0 x8_1).f1), .int .i64 ((rd_T25 l0 x8_1).f2), .int .i64 ((rd_T25 l0 x8_1).f3), .int .i64 0, .int .i64 0, .int .i64 0]) ?_ 4 _ rfl; refine bu ?_; refine blk_put (cs := #[.string ((rd_T25 l0 x8_1).f0), .int .u8 ((rd_T25 l0 x8_1).f1), .int .i64 ((rd_T25 l0 x8_1).f2), .int .i64 0, .int .i64 0, .int .i64 0, .int .i64 0]) ?_ 3 _ rfl; refine bu ?_; refine blk_put (cs := #[.string ((rd_T25 l0 x8_1).f0), .int .u8 ((rd_T25 l0 x8_1).f1), .int .i64 0, .int .i64 0, .int .i64 0, .int .i64 0, .int .i64 0]) ?_ 2 _ rfl; refine bu ?_; refine blk_put (cs := #[.string ((rd_T25 l0 x8_1).f0), .int .u8 0, .int .i64 0, .int .i64 0, .int .i64 0, .int .i64 0, .int .i64 0]) ?_ 1 _ rfl; refine bu ?_; refine blk_put (cs := #[.string (⟨#[]⟩ : ByteArray), .int .u8 0, .int .i64 0, .int .i64 0, .int .i64 0, .int .i64 0, .int .i64 0]) ?_ 0 _ rfl; refine bu ?_; exact BK382.out⟩, ⟨bs⟩⟩
   case rest =>
    clear HC5
    try clear c1
    try clear c2
    try clear c2b0
    try clear p2
    try clear c3
    try clear c3b0
    try clear p3
    try clear q3
    try clear hx3
    try clear c4
    try clear c4b0
    try clear c8
    try clear c8b0
    try clear c8b1
    try clear hcz10_0 hcz10_1 hcz10_2 hcz10_3 hcz10_4 hcz10_5 hcz10_6
    try clear hcz7_0 hcz7_1 hcz7_2 hcz7_3 hcz7_4 hcz7_5 hcz7_6
    try clear hcz9_0 hcz9_1 hcz9_2 hcz9_3 hcz9_4 hcz9_5 hcz9_6
    try clear hfz10_0 hfz10_1 hfz10_2 hfz10_3 hfz10_4 hfz10_5 hfz10_6
    try clear hfz7_0 hfz7_1 hfz7_2 hfz7_3 hfz7_4 hfz7_5 hfz7_6
    try clear hfz9_0 hfz9_1 hfz9_2 hfz9_3 hfz9_4 hfz9_5 hfz9_6
    try clear hx381_0
    try clear hx381_1
    try clear hx381_2
    try clear hx381_3
    try clear hx381_4
    try clear hx381_5
    try clear hx381_6
    try clear p381
    try clear q381
    obtain ⟨kq, x19_4, rfl, HA, HJ4, BK382, HB⟩ := hcut
    cases kq with
    | zero => exact absurd HA.out (by simp [d_Wants.j1])
    | succ kj4 =>
     have H := HA.out
     clear HA
     simp only [d_Wants.j1] at H
     by_cases c11 : x19_4 = true
     ·subst c11
      have H1 : (d_Wants.l0 kj4 x3_1 l0 (l0.length : Int) (wrap64 (x8_1 + 1))) = some r := by rw [if_pos rfl] at H; exact H
      clear H
      have H := H1
      clear H1
      have H' := am H
      clear H
      go_wp2
      go_roundg kj4
      case measure => have := HK1.out; have := HJ4.out; omega
      case rel => exact ⟨(x3_1), (wrap64 (x8_1 + 1)), tv, tv, H', ⟨by have := HK1.out; have := HJ4.out; omega⟩, ⟨bs⟩⟩
     replace c11 := Bool.eq_false_iff.mpr c11
     subst c11
     have H1 : (if ((rd_T25 l0 x8_1).f3) = 2 then (if ((rd_T25 l0 x8_1).f5) = 2 then (d_Wants.l0 kj4 (wrap64 ((wrap64 ((wrap64 (x3_1 + 1)) + 1)) + 1)) l0 (l0.length : Int) (wrap64 (x8_1 + 1))) else (d_Wants.l0 kj4 (wrap64 ((wrap64 (x3_1 + 1)) + 1)) l0 (l0.length : Int) (wrap64 (x8_1 + 1)))) else (if ((rd_T25 l0 x8_1).f5) = 2 then (d_Wants.l0 kj4 (wrap64 ((wrap64 (x3_1 + 1)) + 1)) l0 (l0.length : Int) (wrap64 (x8_1 + 1))) else (d_Wants.l0 kj4 (wrap64 (x3_1 + 1)) l0 (l0.length : Int) (wrap64 (x8_1 + 1))))) = some r := by rw [if_neg (show ¬ (false = true) by decide)] at H; exact H
     clear H
     have H := H1
     clear H1
     by_cases c12 : ((rd_T25 l0 x8_1).f3) = 2
     rotate_left
     ·rw [if_neg c12] at H
      have c12b0 : (((rd_T25 l0 x8_1).f3) == 2) = false := beq_eq_false_iff_ne.mpr c12
      have c12b1 : (((rd_T25 l0 x8_1).f3) != 2) = true := bne_iff_ne.mpr c12
      by_cases c16 : ((rd_T25 l0 x8_1).f5) = 2
      rotate_left
      ·rw [if_neg c16] at H
       have c16b0 : (((rd_T25 l0 x8_1).f5) == 2) = false := beq_eq_false_iff_ne.mpr c16
       have c16b1 : (((rd_T25 l0 x8_1).f5) != 2) = true := bne_iff_ne.mpr c16
       have H' := am H
       clear H
       obtain ⟨⟨hcz18_0, hcz18_1, hcz18_2, hcz18_3, hcz18_4, hcz18_5, hcz18_6⟩, hfz18_0, hfz18_1, hfz18_2, hfz18_3, hfz18_4, hfz18_5, hfz18_6⟩ := blkAll7 BK382
       go_wp2
       go_roundg kj4
       case measure => have := HK1.out; have := HJ4.out; omega
       case rel => exact ⟨(wrap64 (x3_1 + 1)), (wrap64 (x8_1 + 1)), tv, tv, H', ⟨by have := HK1.out; have := HJ4.out; omega⟩, ⟨bs⟩⟩
      rw [if_pos c16] at H
      have c16b0 : (((rd_T25 l0 x8_1).f5) == 2) = true := beq_iff_eq.mpr c16
      have c16b1 : (((rd_T25 l0 x8_1).f5) != 2) = false := bne_eq_false_iff_eq.mpr c16
      clear c16
      have H' := am H
      clear H
      obtain ⟨⟨hcz17_0, hcz17_1, hcz17_2, hcz17_3, hcz17_4, hcz17_5, hcz17_6⟩, hfz17_0, hfz17_1, hfz17_2, hfz17_3, hfz17_4, hfz17_5, hfz17_6⟩ := blkAll7 BK382
      go_wp2
      go_roundg kj4
      case measure => have := HK1.out; have := HJ4.out; omega
      case rel => exact ⟨(wrap64 ((wrap64 (x3_1 + 1)) + 1)), (wrap64 (x8_1 + 1)), tv, tv, H', ⟨by have := HK1.out; have := HJ4.out; omega⟩, ⟨bs⟩⟩
     rw [if_pos c12] at H
     have c12b0 : (((rd_T25 l0 x8_1).f3) == 2) = true := beq_iff_eq.mpr c12
     have c12b1 : (((rd_T25 l0 x8_1).f3) != 2) = false := bne_eq_false_iff_eq.mpr c12
     clear c12
     by_cases c13 : ((rd_T25 l0 x8_1).f5) = 2
     rotate_left
     ·rw [if_neg c13] at H
      have c13b0 : (((rd_T25 l0 x8_1).f5) == 2) = false := beq_eq_false_iff_ne.mpr c13
      have c13b1 : (((rd_T25 l0 x8_1).f5) != 2) = true := bne_iff_ne.mpr c13
      have H' := am H
      clear H
      obtain ⟨⟨hcz15_0, hcz15_1, hcz15_2, hcz15_3, hcz15_4, hcz15_5, hcz15_6⟩, hfz15_0, hfz15_1, hfz15_2, hfz15_3, hfz15_4, hfz15_5, hfz15_6⟩ := blkAll7 BK382
      go_wp2
      go_roundg kj4
      case measure => have := HK1.out; have := HJ4.out; omega
      case rel => exact ⟨(wrap64 ((wrap64 (x3_1 + 1)) + 1)), (wrap64 (x8_1 + 1)), tv, tv, H', ⟨by have := HK1.out; have := HJ4.out; omega⟩, ⟨bs⟩⟩
     rw [if_pos c13] at H
     have c13b0 : (((rd_T25 l0 x8_1).f5) == 2) = true := beq_iff_eq.mpr c13
     have c13b1 : (((rd_T25 l0 x8_1).f5) != 2) = false := bne_eq_false_iff_eq.mpr c13
     clear c13
     have H' := am H
     clear H
     obtain ⟨⟨hcz14_0, hcz14_1, hcz14_2, hcz14_3, hcz14_4, hcz14_5, hcz14_6⟩, hfz14_0, hfz14_1, hfz14_2, hfz14_3, hfz14_4, hfz14_5, hfz14_6⟩ := blkAll7 BK382
     go_wp2
     go_roundg kj4
     case measure => have := HK1.out; have := HJ4.out; omega
     case rel => exact ⟨(wrap64 ((wrap64 ((wrap64 (x3_1 + 1)) + 1)) + 1)), (wrap64 (x8_1 + 1)), tv, tv, H', ⟨by have := HK1.out; have := HJ4.out; omega⟩, ⟨bs⟩⟩
end Go.Proofs.YtlmijjekaelhcaaDoor.EDi
