/-
  Several texts of this session's own in one: EDix7 EDix12.
-/
import Derived.Test.YtlmijjekaelhcaaDoorExA0
import Derived.Test.YtlmijjekaelhcaaDoorExEDpx0
import Derived.Test.YtlmijjekaelhcaaDoorExEDix6
import Derived.Test.YtlmijjekaelhcaaDoorExX
import Derived.Test.YtlmijjekaelhcaaDoorExXIt
import Derived.Test.YtlmijjekaelhcaaDoorExEDix5
import Derived.Test.YtlmijjekaelhcaaDoorExXBld
section
namespace Go.Proofs.YtlmijjekaelhcaaDoor.EDi
open Go.RowKit Go.Proofs.YtlmijjekaelhcaaDoorW.PrintWords Go.Proofs.YtlmijjekaelhcaaDoorW.PrintLast Go.Proofs.YtlmijjekaelhcaaDoorW.PrintMore
attribute [local go_sem] max2_int min2_int max_two min_two max_three min_three max_four min_four
set_option linter.unusedVariables false
set_option linter.unusedSimpArgs false
open Go.Proofs.YtlmijjekaelhcaaDoor.X
def d_text.l0 : Nat → ByteArray → Int → ByteArray → Int → Int → Int → Int → Int → Int → Option (ByteArray)
 | 0, _, _, _, _, _, _, _, _, _ => none
 | k + 1, x3, x13, x110000, x110001, x110002, x110003, x110004, x110005, x110006 => if x13 < 5 then (if 0 ≤ x13 then (if (Go.bits .and .i64 (shr .i64 x110002 x13) 1) = 1 then (if x13 ≤ (wrap64 (x13 + 1)) then (if (wrap64 (x13 + 1)) ≤ 5 then (if x3.size + ((⟨#[45, 43, 32, 35, 48]⟩ : ByteArray).extract (x13 : Int).toNat ((wrap64 (x13 + 1)) : Int).toNat).size ≤ 9223372036854775807 then (d_text.l0 k (x3 ++ ((⟨#[45, 43, 32, 35, 48]⟩ : ByteArray).extract (x13 : Int).toNat ((wrap64 (x13 + 1)) : Int).toNat)) (wrap64 (x13 + 1)) x110000 x110001 x110002 x110003 x110004 x110005 x110006) else (none)) else (none)) else (none)) else (d_text.l0 k x3 (wrap64 (x13 + 1)) x110000 x110001 x110002 x110003 x110004 x110005 x110006)) else (none)) else ((d_shown.f x110003 x110004).bind fun t110 => (if x3.size + t110.size ≤ 9223372036854775807 then (if x110005 = 0 then ((some (([x110001] : List Int) : List Int)).bind fun y111 => (if (x3 ++ t110).size + (strOfNums y111).size ≤ 9223372036854775807 then (some ((x3 ++ t110) ++ (strOfNums y111))) else (none))) else ((d_shown.f x110005 x110006).bind fun t114 => (if 1 + t114.size ≤ 9223372036854775807 then (if (x3 ++ t110).size + ((⟨#[46]⟩ : ByteArray) ++ t114).size ≤ 9223372036854775807 then ((some (([x110001] : List Int) : List Int)).bind fun y115 => (if ((x3 ++ t110) ++ ((⟨#[46]⟩ : ByteArray) ++ t114)).size + (strOfNums y115).size ≤ 9223372036854775807 then (some (((x3 ++ t110) ++ ((⟨#[46]⟩ : ByteArray) ++ t114)) ++ (strOfNums y115))) else (none))) else (none)) else (none)))) else (none)))
def d_text.f (k : Nat) (a0_0 : ByteArray) (a0_1 : Int) (a0_2 : Int) (a0_3 : Int) (a0_4 : Int) (a0_5 : Int) (a0_6 : Int) : Option (ByteArray) := if a0_1 = 0 then (some a0_0) else (if a0_1 = 37 then (some (⟨#[37, 37]⟩ : ByteArray)) else (d_text.l0 k (⟨#[37]⟩ : ByteArray) 0 a0_0 a0_1 a0_2 a0_3 a0_4 a0_5 a0_6))
theorem d_text.mono_l : ∀ k, (∀ y0 y1 y2 y3 y4 y5 y6 y7 y8, LeO (d_text.l0 k y0 y1 y2 y3 y4 y5 y6 y7 y8) (d_text.l0 (k + 1) y0 y1 y2 y3 y4 y5 y6 y7 y8))
 | 0 => fun _ _ _ _ _ _ _ _ _ r h => by simp [d_text.l0] at h
 | k + 1 => by
  have ih0 := d_text.mono_l k
  ·intro y0 y1 y2 y3 y4 y5 y6 y7 y8
   unfold d_text.l0
   repeat' first
   | (with_reducible exact ih0 _ _ _ _ _ _ _ _ _)
   | (with_reducible exact LeO.refl _)
   | (with_reducible exact LeO.none _)
   | (with_reducible refine LeO.ite ?_ ?_)
   | (with_reducible refine LeO.bind ?_ (fun _ => ?_))
   | exact ih0 _ _ _ _ _ _ _ _ _
   | exact LeO.none _
   | refine LeO.ite ?_ ?_
   | refine LeO.bind ?_ (fun _ => ?_)
theorem d_text.mono : ∀ a0 a1 a2 a3 a4 a5 a6 k, LeO (d_text.f k a0 a1 a2 a3 a4 a5 a6) (d_text.f (k + 1) a0 a1 a2 a3 a4 a5 a6) := by
 intro a0 a1 a2 a3 a4 a5 a6 k
 have ih0 := d_text.mono_l k
 unfold d_text.f
 repeat' first
   | (with_reducible exact ih0 _ _ _ _ _ _ _ _ _)
   | (with_reducible exact LeO.refl _)
   | (with_reducible exact LeO.none _)
   | (with_reducible refine LeO.ite ?_ ?_)
   | (with_reducible refine LeO.bind ?_ (fun _ => ?_))
   | exact ih0 _ _ _ _ _ _ _ _ _
   | exact LeO.none _
   | refine LeO.ite ?_ ?_
   | refine LeO.bind ?_ (fun _ => ?_)
set_option maxHeartbeats 8000000 in
set_option maxRecDepth 100000 in
theorem d_text.calls (k : Nat) (a0_0 : ByteArray) (a0_1 : Int) (a0_2 : Int) (a0_3 : Int) (a0_4 : Int) (a0_5 : Int) (a0_6 : Int) (r : ByteArray) (w : World) (hG : GW w) (h : d_text.f k a0_0 a0_1 a0_2 a0_3 a0_4 a0_5 a0_6 = some r) :
  Calls Tryd.prog 26 #[.agg #[.string a0_0, .int .u8 a0_1, .int .i64 a0_2, .int .i64 a0_3, .int .i64 a0_4, .int .i64 a0_5, .int .i64 a0_6]] w fun e w' => e = .returned (.string r) ∧ Below w.heap.size w w' := by
 have hu25 := Tryd.underlying25
 have HB := am (Below.refl w.heap.size w)
 have HG := am hG
 clear hG
 have H : (if a0_1 = 0 then (some a0_0) else (if a0_1 = 37 then (some (⟨#[37, 37]⟩ : ByteArray)) else (d_text.l0 k (⟨#[37]⟩ : ByteArray) 0 a0_0 a0_1 a0_2 a0_3 a0_4 a0_5 a0_6))) = some r := h
 clear h
 by_cases c2 : a0_1 = 0
 ·rw [if_pos c2] at H
  have c2b0 : (a0_1 == 0) = true := beq_iff_eq.mpr c2
  have c2b1 : (a0_1 != 0) = false := bne_eq_false_iff_eq.mpr c2
  clear c2
  obtain rfl := Option.some.inj H
  go_enter Tryd.func26, Tryd.ntmps26
  go_wp2_with (first | ((with_reducible refine gate_dst (N := 1) rfl ?_); refine box_event ?hg (N := 1) ?hd (cs := #[.string a0_0, .int .u8 a0_1, .int .i64 a0_2, .int .i64 a0_3, .int .i64 a0_4, .int .i64 a0_5, .int .i64 a0_6]) (t := 25) ?hr ?_; (case hd => rfl); (case hg => rfl); (case hr => first | (go_simp; done) | (go_simp; rfl)); intro gb109 hg w3 hbox hb; have n0_ := am (below_step bl hb); have n1_ := am (hbox); have n2_ := am ((by rw [hg]; exact (below_size bl) : w.heap.size ≤ gb109)); have n3_ := n2_; clear HB; have HB := n0_; have BK109 := n1_; have GW109 := n2_; have GE109 := n3_; clear n0_ n1_ n2_ n3_; clear hb hbox hg; obtain ⟨⟨hcz4_0, hcz4_1, hcz4_2, hcz4_3, hcz4_4, hcz4_5, hcz4_6⟩, hfz4_0, hfz4_1, hfz4_2, hfz4_3, hfz4_4, hfz4_5, hfz4_6⟩ := blkAll7 BK109))
  go_ret
  exact ⟨er, bs⟩
 rw [if_neg c2] at H
 have c2b0 : (a0_1 == 0) = false := beq_eq_false_iff_ne.mpr c2
 have c2b1 : (a0_1 != 0) = true := bne_iff_ne.mpr c2
 by_cases c5 : a0_1 = 37
 ·rw [if_pos c5] at H
  have c5b0 : (a0_1 == 37) = true := beq_iff_eq.mpr c5
  have c5b1 : (a0_1 != 37) = false := bne_eq_false_iff_eq.mpr c5
  clear c5
  obtain rfl := Option.some.inj H
  go_enter Tryd.func26, Tryd.ntmps26
  go_wp2_with (first | ((with_reducible refine gate_dst (N := 1) rfl ?_); refine box_event ?hg (N := 1) ?hd (cs := #[.string a0_0, .int .u8 a0_1, .int .i64 a0_2, .int .i64 a0_3, .int .i64 a0_4, .int .i64 a0_5, .int .i64 a0_6]) (t := 25) ?hr ?_; (case hd => rfl); (case hg => rfl); (case hr => first | (go_simp; done) | (go_simp; rfl)); intro gb109 hg w6 hbox hb; have n0_ := am (below_step bl hb); have n1_ := am (hbox); have n2_ := am ((by rw [hg]; exact (below_size bl) : w.heap.size ≤ gb109)); have n3_ := n2_; clear HB; have HB := n0_; have BK109 := n1_; have GW109 := n2_; have GE109 := n3_; clear n0_ n1_ n2_ n3_; clear hb hbox hg; obtain ⟨⟨hcz7_0, hcz7_1, hcz7_2, hcz7_3, hcz7_4, hcz7_5, hcz7_6⟩, hfz7_0, hfz7_1, hfz7_2, hfz7_3, hfz7_4, hfz7_5, hfz7_6⟩ := blkAll7 BK109))
  go_ret
  exact ⟨er, bs⟩
 rw [if_neg c5] at H
 have c5b0 : (a0_1 == 37) = false := beq_eq_false_iff_ne.mpr c5
 have c5b1 : (a0_1 != 37) = true := bne_iff_ne.mpr c5
 have H' := am H
 clear H
 go_enter Tryd.func26, Tryd.ntmps26
 go_wp2_with (first | ((with_reducible refine gate_dst (N := 13) rfl ?_); refine It.new rfl (N := 13) rfl rfl Tryd.underlying9 rfl ?_; intro git wit hit hb hgi; have n0_ := am hit; have n1_ := am (blk_below_ BK109.out hb); have n2_ := am (below_step bl hb); have n3_ := am (show w.heap.size ≤ git from by rw [hgi]; exact below_size bl); clear BK109 HB; have HIT := n0_; have BK109 := n1_; have HB := n2_; have HGI := n3_; clear n0_ n1_ n2_ n3_ hit hb hgi) | ((with_reducible refine gate_dst (N := 1) rfl ?_); refine box_event ?hg (N := 1) ?hd (cs := #[.string a0_0, .int .u8 a0_1, .int .i64 a0_2, .int .i64 a0_3, .int .i64 a0_4, .int .i64 a0_5, .int .i64 a0_6]) (t := 25) ?hr ?_; (case hd => rfl); (case hg => rfl); (case hr => first | (go_simp; done) | (go_simp; rfl)); intro gb109 hg w8 hbox hb; have n0_ := am (below_step bl hb); have n1_ := am (hbox); have n2_ := am ((by rw [hg]; exact (below_size bl) : w.heap.size ≤ gb109)); have n3_ := n2_; clear HB; have HB := n0_; have BK109 := n1_; have GW109 := n2_; have GE109 := n3_; clear n0_ n1_ n2_ n3_; clear hb hbox hg; obtain ⟨⟨hcz9_0, hcz9_1, hcz9_2, hcz9_3, hcz9_4, hcz9_5, hcz9_6⟩, hfz9_0, hfz9_1, hfz9_2, hfz9_3, hfz9_4, hfz9_5, hfz9_6⟩ := blkAll7 BK109))
 simp only [Act.put, List.setIfInBounds_toArray, List.set_cons_zero, List.set_cons_succ, i64_w, i32_w]
 go_loopg [3] k (fun kq v3 w' => ∃ (x3_1 : ByteArray) (x13_1 : Int), v3 = .string x3_1 ∧ Aside0 (d_text.l0 kq x3_1 x13_1 a0_0 a0_1 a0_2 a0_3 a0_4 a0_5 a0_6 = some r) ∧ Aside0 (kq ≤ k) ∧ Aside0 (w'.heap[gb109]? = some (.cells #[.string a0_0, .int .u8 a0_1, .int .i64 a0_2, .int .i64 a0_3, .int .i64 a0_4, .int .i64 a0_5, .int .i64 a0_6] 25 (0, 0))) ∧ Aside0 (It w' git x13_1) ∧ Aside0 (Below w.heap.size w w'))
 case atStart => exact ⟨((⟨#[37]⟩ : ByteArray)), (0), tv, H', ⟨Nat.le_refl _⟩, ⟨by refine bu ?_; exact BK109.out⟩, ⟨HIT.out⟩, ⟨bs⟩⟩
 case round =>
  clear H'
  try clear c2
  try clear c2b0
  try clear c2b1
  try clear p2
  try clear c5
  try clear c5b0
  try clear c5b1
  try clear hcz4_0 hcz4_1 hcz4_2 hcz4_3 hcz4_4 hcz4_5 hcz4_6
  try clear hcz7_0 hcz7_1 hcz7_2 hcz7_3 hcz7_4 hcz7_5 hcz7_6
  try clear hcz9_0 hcz9_1 hcz9_2 hcz9_3 hcz9_4 hcz9_5 hcz9_6
  try clear hfz4_0 hfz4_1 hfz4_2 hfz4_3 hfz4_4 hfz4_5 hfz4_6
  try clear hfz7_0 hfz7_1 hfz7_2 hfz7_3 hfz7_4 hfz7_5 hfz7_6
  try clear hfz9_0 hfz9_1 hfz9_2 hfz9_3 hfz9_4 hfz9_5 hfz9_6
  obtain ⟨x3_1, x13_1, rfl, HA, HK1, BK109, HIT, HB⟩ := hrel
  cases gk with
  | zero => exact absurd HA.out (by simp [d_text.l0])
  | succ k1 =>
   have H := HA.out
   clear HA
   simp only [d_text.l0] at H
   by_cases c10 : x13_1 < 5
   ·rw [if_pos c10] at H
    have c10b0 := decide_eq_true c10
    clear c10
    by_cases c11 : 0 ≤ x13_1
    rotate_left
    ·rw [if_neg c11] at H
     exact absurd H (by simp)
    rw [if_pos c11] at H
    have c11b0 := eq_true c11
    have c11b1 := decide_eq_true c11
    clear c11
    obtain ⟨ji12, hji12⟩ : ∃ j_ : Int, (shr .i64 a0_2 x13_1) = j_ := ⟨_, rfl⟩
    replace H : (if (Go.bits .and .i64 (ji12) 1) = 1 then (if x13_1 ≤ (wrap64 (x13_1 + 1)) then (if (wrap64 (x13_1 + 1)) ≤ 5 then (if x3_1.size + ((⟨#[45, 43, 32, 35, 48]⟩ : ByteArray).extract (x13_1 : Int).toNat ((wrap64 (x13_1 + 1)) : Int).toNat).size ≤ 9223372036854775807 then (d_text.l0 k1 (x3_1 ++ ((⟨#[45, 43, 32, 35, 48]⟩ : ByteArray).extract (x13_1 : Int).toNat ((wrap64 (x13_1 + 1)) : Int).toNat)) (wrap64 (x13_1 + 1)) a0_0 a0_1 a0_2 a0_3 a0_4 a0_5 a0_6) else (none)) else (none)) else (none)) else (d_text.l0 k1 x3_1 (wrap64 (x13_1 + 1)) a0_0 a0_1 a0_2 a0_3 a0_4 a0_5 a0_6)) = some r := by first | (rw [hji12] at H; exact H) | (simp only [hji12] at H ⊢; exact H)
    have hji12_ : (a0_2 / 2 ^ min x13_1.toNat 64) = ji12 := hji12
    have hji12z : x13_1 ≤ 64 → (a0_2 / 2 ^ x13_1.toNat) = ji12 := shr_small hji12
    by_cases c13 : (Go.bits .and .i64 (ji12) 1) = 1
    rotate_left
    ·rw [if_neg c13] at H
     have c13b0 : ((Go.bits .and .i64 (ji12) 1) == 1) = false := beq_eq_false_iff_ne.mpr c13
     have c13b1 : ((Go.bits .and .i64 (ji12) 1) != 1) = true := bne_iff_ne.mpr c13
     have H' := am H
     clear H
     obtain ⟨⟨hcz19_0, hcz19_1, hcz19_2, hcz19_3, hcz19_4, hcz19_5, hcz19_6⟩, hfz19_0, hfz19_1, hfz19_2, hfz19_3, hfz19_4, hfz19_5, hfz19_6⟩ := blkAll7 BK109
     clear hcz19_0 hcz19_1 hcz19_2 hcz19_3 hcz19_4 hcz19_5 hcz19_6 hfz19_0 hfz19_1 hfz19_2 hfz19_3 hfz19_4 hfz19_5 hfz19_6
     go_wp2_with (first | ((with_reducible refine gate_dst (N := 14) rfl ?_); refine It.next HIT.out (of_decide_eq_true c10b0) rfl (N := 14) rfl rfl rfl ?_; intro cit witn hit hoth hb; have n0_ := am hit; have n1_ := am (It.moved HIT.out BK109.out hoth); have n2_ := am (It.step HB.out HGI.out hb); clear HIT BK109 HB; have HIT := n0_; have BK109 := n1_; have HB := n2_; clear n0_ n1_ n2_ hit hoth hb; have hcy_0 : witn.cell? ⟨gb109, 0, none⟩ = some (.string a0_0) := (blk_cell BK109.out 0).trans rfl; have hfy_0 := blk_frozen BK109.out 0; have hcy_1 : witn.cell? ⟨gb109, 1, none⟩ = some (.int .u8 a0_1) := (blk_cell BK109.out 1).trans rfl; have hfy_1 := blk_frozen BK109.out 1; have hcy_2 : witn.cell? ⟨gb109, 2, none⟩ = some (.int .i64 a0_2) := (blk_cell BK109.out 2).trans rfl; have hfy_2 := blk_frozen BK109.out 2; have hcy_3 : witn.cell? ⟨gb109, 3, none⟩ = some (.int .i64 a0_3) := (blk_cell BK109.out 3).trans rfl; have hfy_3 := blk_frozen BK109.out 3; have hcy_4 : witn.cell? ⟨gb109, 4, none⟩ = some (.int .i64 a0_4) := (blk_cell BK109.out 4).trans rfl; have hfy_4 := blk_frozen BK109.out 4; have hcy_5 : witn.cell? ⟨gb109, 5, none⟩ = some (.int .i64 a0_5) := (blk_cell BK109.out 5).trans rfl; have hfy_5 := blk_frozen BK109.out 5; have hcy_6 : witn.cell? ⟨gb109, 6, none⟩ = some (.int .i64 a0_6) := (blk_cell BK109.out 6).trans rfl; have hfy_6 := blk_frozen BK109.out 6))
     go_roundg k1
     case measure => have := HK1.out; omega
     case rel => exact ⟨(x3_1), (wrap64 (x13_1 + 1)), tv, H', ⟨by have := HK1.out; omega⟩, ⟨by refine bu ?_; exact BK109.out⟩, ⟨HIT.out⟩, ⟨bs⟩⟩
    rw [if_pos c13] at H
    have c13b0 : ((Go.bits .and .i64 (ji12) 1) == 1) = true := beq_iff_eq.mpr c13
    have c13b1 : ((Go.bits .and .i64 (ji12) 1) != 1) = false := bne_eq_false_iff_eq.mpr c13
    clear c13
    have c14b0 := eq_true (of_decide_eq_true od : 0 ≤ x13_1)
    by_cases c15 : x13_1 ≤ (wrap64 (x13_1 + 1))
    rotate_left
    ·rw [if_neg c15] at H
     exact absurd H (by simp)
    rw [if_pos c15] at H
    have c15b0 := eq_true c15
    have c15b1 := decide_eq_true c15
    by_cases c16 : (wrap64 (x13_1 + 1)) ≤ 5
    rotate_left
    ·rw [if_neg c16] at H
     exact absurd H (by simp)
    rw [if_pos c16] at H
    have c16b0 := eq_true c16
    have c16b1 := decide_eq_true c16
    by_cases c17 : x3_1.size + ((⟨#[45, 43, 32, 35, 48]⟩ : ByteArray).extract (x13_1 : Int).toNat ((wrap64 (x13_1 + 1)) : Int).toNat).size ≤ 9223372036854775807
    rotate_left
    ·rw [if_neg c17] at H
     exact absurd H (by simp)
    rw [if_pos c17] at H
    have c17b0 := eq_true c17
    have c17b1 := decide_eq_true c17
    try have c17b2 : (9223372036854775807 < x3_1.size + ((⟨#[45, 43, 32, 35, 48]⟩ : ByteArray).extract (x13_1 : Int).toNat ((wrap64 (x13_1 + 1)) : Int).toNat).size) = False := eq_false (Nat.not_lt.2 c17)
    have H' := am H
    clear H
    obtain ⟨⟨hcz18_0, hcz18_1, hcz18_2, hcz18_3, hcz18_4, hcz18_5, hcz18_6⟩, hfz18_0, hfz18_1, hfz18_2, hfz18_3, hfz18_4, hfz18_5, hfz18_6⟩ := blkAll7 BK109
    clear hcz18_0 hcz18_1 hcz18_2 hcz18_3 hcz18_4 hcz18_5 hcz18_6 hfz18_0 hfz18_1 hfz18_2 hfz18_3 hfz18_4 hfz18_5 hfz18_6
    go_wp2_with (first | ((with_reducible refine gate_dst (N := 14) rfl ?_); refine It.next HIT.out (of_decide_eq_true c10b0) rfl (N := 14) rfl rfl rfl ?_; intro cit witn hit hoth hb; have n0_ := am hit; have n1_ := am (It.moved HIT.out BK109.out hoth); have n2_ := am (It.step HB.out HGI.out hb); clear HIT BK109 HB; have HIT := n0_; have BK109 := n1_; have HB := n2_; clear n0_ n1_ n2_ hit hoth hb; have hcy_0 : witn.cell? ⟨gb109, 0, none⟩ = some (.string a0_0) := (blk_cell BK109.out 0).trans rfl; have hfy_0 := blk_frozen BK109.out 0; have hcy_1 : witn.cell? ⟨gb109, 1, none⟩ = some (.int .u8 a0_1) := (blk_cell BK109.out 1).trans rfl; have hfy_1 := blk_frozen BK109.out 1; have hcy_2 : witn.cell? ⟨gb109, 2, none⟩ = some (.int .i64 a0_2) := (blk_cell BK109.out 2).trans rfl; have hfy_2 := blk_frozen BK109.out 2; have hcy_3 : witn.cell? ⟨gb109, 3, none⟩ = some (.int .i64 a0_3) := (blk_cell BK109.out 3).trans rfl; have hfy_3 := blk_frozen BK109.out 3; have hcy_4 : witn.cell? ⟨gb109, 4, none⟩ = some (.int .i64 a0_4) := (blk_cell BK109.out 4).trans rfl; have hfy_4 := blk_frozen BK109.out 4; have hcy_5 : witn.cell? ⟨gb109, 5, none⟩ = some (.int .i64 a0_5) := (blk_cell BK109.out 5).trans rfl; have hfy_5 := blk_frozen BK109.out 5; have hcy_6 : witn.cell? ⟨gb109, 6, none⟩ = some (.int .i64 a0_6) := (blk_cell BK109.out 6).trans rfl; have hfy_6 := blk_frozen BK109.out 6))
    go_roundg k1
    case measure => have := HK1.out; omega
    case rel => exact ⟨(x3_1 ++ ((⟨#[45, 43, 32, 35, 48]⟩ : ByteArray).extract (x13_1 : Int).toNat ((wrap64 (x13_1 + 1)) : Int).toNat)), (wrap64 (x13_1 + 1)), tv, H', ⟨by have := HK1.out; omega⟩, ⟨by refine bu ?_; exact BK109.out⟩, ⟨HIT.out⟩, ⟨bs⟩⟩
   rw [if_neg c10] at H
   have c10b0 := decide_eq_false c10
   clear c10
   replace H := Option.bind_eq_some_iff.mp H
   obtain ⟨t110, A200, H⟩ := H
   replace H : (if x3_1.size + t110.size ≤ 9223372036854775807 then (if a0_5 = 0 then ((some (([a0_1] : List Int) : List Int)).bind fun y111 => (if (x3_1 ++ t110).size + (strOfNums y111).size ≤ 9223372036854775807 then (some ((x3_1 ++ t110) ++ (strOfNums y111))) else (none))) else ((d_shown.f a0_5 a0_6).bind fun t114 => (if 1 + t114.size ≤ 9223372036854775807 then (if (x3_1 ++ t110).size + ((⟨#[46]⟩ : ByteArray) ++ t114).size ≤ 9223372036854775807 then ((some (([a0_1] : List Int) : List Int)).bind fun y115 => (if ((x3_1 ++ t110) ++ ((⟨#[46]⟩ : ByteArray) ++ t114)).size + (strOfNums y115).size ≤ 9223372036854775807 then (some (((x3_1 ++ t110) ++ ((⟨#[46]⟩ : ByteArray) ++ t114)) ++ (strOfNums y115))) else (none))) else (none)) else (none)))) else (none)) = some r := H
   have A20 := am A200
   clear A200
   by_cases c21 : x3_1.size + t110.size ≤ 9223372036854775807
   rotate_left
   ·rw [if_neg c21] at H
    exact absurd H (by simp)
   rw [if_pos c21] at H
   have c21b0 := eq_true c21
   have c21b1 := decide_eq_true c21
   try have c21b2 : (9223372036854775807 < x3_1.size + t110.size) = False := eq_false (Nat.not_lt.2 c21)
   by_cases c22 : a0_5 = 0
   ·rw [if_pos c22] at H
    have c22b0 : (a0_5 == 0) = true := beq_iff_eq.mpr c22
    have c22b1 : (a0_5 != 0) = false := bne_eq_false_iff_eq.mpr c22
    clear c22
    obtain ⟨y111, hy111⟩ : ∃ y_ : List Int, y_ = (([a0_1] : List Int)) := ⟨_, rfl⟩
    replace H : (if (x3_1 ++ t110).size + (strOfNums y111).size ≤ 9223372036854775807 then (some ((x3_1 ++ t110) ++ (strOfNums y111))) else (none)) = some r := by first | (rw [hy111]; with_reducible exact H) | (have H2_ := (Option.bind_some _ _).symm.trans H; rw [hy111]; with_reducible exact H2_) | (have H2_ := (Option.bind_some _ _).symm.trans H; with_reducible exact H2_) | with_reducible exact H | (rw [hy111]; exact H) | exact H
    have Ny111 := am hy111
    clear hy111
    by_cases c23 : (x3_1 ++ t110).size + (strOfNums y111).size ≤ 9223372036854775807
    rotate_left
    ·rw [if_neg c23] at H
     exact absurd H (by simp)
    rw [if_pos c23] at H
    have c23b0 := eq_true c23
    have c23b1 := decide_eq_true c23
    try have c23b2 : (9223372036854775807 < (x3_1 ++ t110).size + (strOfNums y111).size) = False := eq_false (Nat.not_lt.2 c23)
    (try (have c23b3 : (9223372036854775807 < x3_1.size + t110.size + (strOfNums y111).size) = False := by have h_ := c23b2; simp only [ByteArray.size_append] at h_; exact h_))
    obtain rfl := Option.some.inj H
    obtain ⟨⟨hcz24_0, hcz24_1, hcz24_2, hcz24_3, hcz24_4, hcz24_5, hcz24_6⟩, hfz24_0, hfz24_1, hfz24_2, hfz24_3, hfz24_4, hfz24_5, hfz24_6⟩ := blkAll7 BK109
    go_wp2_with (first | ((with_reducible refine gate_dst (N := 14) rfl ?_); refine It.done HIT.out (of_decide_eq_false c10b0) rfl (N := 14) rfl rfl rfl ?_) | ((with_reducible refine gate_callee (f := 42) rfl ?_); refine goesL_ (some 34) rfl rfl Tryd.func42 (by kernel_rfl) rfl #[.int .i64 a0_3, .int .i64 a0_4] rfl ls ?_; (with_reducible refine (d_shown.calls a0_3 a0_4 t110 _ ?side1 A20.out).mono ?_); (case side1 => exact GW.below HG.out bs); rintro e w25 ⟨rfl, hb⟩; refine ⟨_, rfl, ?_⟩; have n0_ := am (blk_below (bu BK109.out) hb); have n1_ := am (below_step bs hb); clear BK109; clear HB; have BK109 := n0_; have HB := n1_; clear n0_ n1_; (try clear hb); (try clear hb2); (try clear hk); (try clear hi); obtain ⟨⟨hcz26_0, hcz26_1, hcz26_2, hcz26_3, hcz26_4, hcz26_5, hcz26_6⟩, hfz26_0, hfz26_1, hfz26_2, hfz26_3, hfz26_4, hfz26_5, hfz26_6⟩ := blkAll7 BK109) | ((with_reducible refine gate_dst (N := 50) rfl ?_); refine Kd.R_lit (Kd.int .u8) _ 5 ?hg (N := 50) ?hd (xs := ([a0_1] : List Int)) (inner := [.int .u8 a0_1]) (ok := fun _ => True) (okp := fun _ => True) ?hr ?hp (fun _ hk => hk) trivial (Below.refl _ _) (Nat.le_refl _) (by simp) ?_; (case hd => rfl); (case hg => rfl); (case hr => first | (go_simp; done) | (go_simp; rfl)); (case hp => exact (Reps.one (show Kd.M (Kd.int .u8) _ _ _ a0_1 [.int .u8 a0_1] from rfl) (Reps.none _ _))); intro v112 w27 ho28 hb hg_ hnew_; clear hg_ hnew_; (first | rw [← Ny111.out] at ho28 | (simp only [Int.reduceToNat] at ho28; rw [← Ny111.out] at ho28)); have n0_ := am (Kd.R_lower ho28 (below_size bs)); have n1_ := am (blk_below (bu BK109.out) hb); have n2_ := am (below_step bs hb); clear BK109; clear HB; have HO113 := n0_; have BK109 := n1_; have HB := n2_; clear n0_ n1_ n2_; clear hb ho28; have hcv29 := own_string (P := Tryd.prog) Tryd.underlying60 Tryd.underlying5 Tryd.underlying9 (Kd.own_of_R HO113.out)))
    go_ret
    exact ⟨er, bs⟩
   rw [if_neg c22] at H
   have c22b0 : (a0_5 == 0) = false := beq_eq_false_iff_ne.mpr c22
   have c22b1 : (a0_5 != 0) = true := bne_iff_ne.mpr c22
   replace H := Option.bind_eq_some_iff.mp H
   obtain ⟨t114, A300, H⟩ := H
   replace H : (if 1 + t114.size ≤ 9223372036854775807 then (if (x3_1 ++ t110).size + ((⟨#[46]⟩ : ByteArray) ++ t114).size ≤ 9223372036854775807 then ((some (([a0_1] : List Int) : List Int)).bind fun y115 => (if ((x3_1 ++ t110) ++ ((⟨#[46]⟩ : ByteArray) ++ t114)).size + (strOfNums y115).size ≤ 9223372036854775807 then (some (((x3_1 ++ t110) ++ ((⟨#[46]⟩ : ByteArray) ++ t114)) ++ (strOfNums y115))) else (none))) else (none)) else (none)) = some r := H
   have A30 := am A300
   clear A300
   by_cases c31 : 1 + t114.size ≤ 9223372036854775807
   rotate_left
   ·rw [if_neg c31] at H
    exact absurd H (by simp)
   rw [if_pos c31] at H
   have c31b0 := eq_true c31
   have c31b1 := decide_eq_true c31
   try have c31b2 : (9223372036854775807 < 1 + t114.size) = False := eq_false (Nat.not_lt.2 c31)
   by_cases c32 : (x3_1 ++ t110).size + ((⟨#[46]⟩ : ByteArray) ++ t114).size ≤ 9223372036854775807
   rotate_left
   ·rw [if_neg c32] at H
    exact absurd H (by simp)
   rw [if_pos c32] at H
   have c32b0 := eq_true c32
   have c32b1 := decide_eq_true c32
   try have c32b2 : (9223372036854775807 < (x3_1 ++ t110).size + ((⟨#[46]⟩ : ByteArray) ++ t114).size) = False := eq_false (Nat.not_lt.2 c32)
   (try (have c32b3 : (9223372036854775807 < x3_1.size + t110.size + (1 + t114.size)) = False := by have h_ := c32b2; simp only [ByteArray.size_append] at h_; exact h_))
   obtain ⟨y115, hy115⟩ : ∃ y_ : List Int, y_ = (([a0_1] : List Int)) := ⟨_, rfl⟩
   replace H : (if ((x3_1 ++ t110) ++ ((⟨#[46]⟩ : ByteArray) ++ t114)).size + (strOfNums y115).size ≤ 9223372036854775807 then (some (((x3_1 ++ t110) ++ ((⟨#[46]⟩ : ByteArray) ++ t114)) ++ (strOfNums y115))) else (none)) = some r := by first | (rw [hy115]; with_reducible exact H) | (have H2_ := (Option.bind_some _ _).symm.trans H; rw [hy115]; with_reducible exact H2_) | (have H2_ := (Option.bind_some _ _).symm.trans H; with_reducible exact H2_) | with_reducible exact H | (rw [hy115]; exact H) | exact H
   have Ny115 := am hy115
   clear hy115
   by_cases c33 : ((x3_1 ++ t110) ++ ((⟨#[46]⟩ : ByteArray) ++ t114)).size + (strOfNums y115).size ≤ 9223372036854775807
   rotate_left
   ·rw [if_neg c33] at H
    exact absurd H (by simp)
   rw [if_pos c33] at H
   have c33b0 := eq_true c33
   have c33b1 := decide_eq_true c33
   try have c33b2 : (9223372036854775807 < ((x3_1 ++ t110) ++ ((⟨#[46]⟩ : ByteArray) ++ t114)).size + (strOfNums y115).size) = False := eq_false (Nat.not_lt.2 c33)
   (try (have c33b3 : (9223372036854775807 < x3_1.size + t110.size + (1 + t114.size) + (strOfNums y115).size) = False := by have h_ := c33b2; simp only [ByteArray.size_append] at h_; exact h_))
   obtain rfl := Option.some.inj H
   obtain ⟨⟨hcz34_0, hcz34_1, hcz34_2, hcz34_3, hcz34_4, hcz34_5, hcz34_6⟩, hfz34_0, hfz34_1, hfz34_2, hfz34_3, hfz34_4, hfz34_5, hfz34_6⟩ := blkAll7 BK109
   go_wp2_with (first | ((with_reducible refine gate_dst (N := 14) rfl ?_); refine It.done HIT.out (of_decide_eq_false c10b0) rfl (N := 14) rfl rfl rfl ?_) | ((with_reducible refine gate_callee (f := 42) rfl ?_); refine goesL_ (some 34) rfl rfl Tryd.func42 (by kernel_rfl) rfl #[.int .i64 a0_3, .int .i64 a0_4] rfl ls ?_; (with_reducible refine (d_shown.calls a0_3 a0_4 t110 _ ?side1 A20.out).mono ?_); (case side1 => exact GW.below HG.out bs); rintro e w35 ⟨rfl, hb⟩; refine ⟨_, rfl, ?_⟩; have n0_ := am (blk_below (bu BK109.out) hb); have n1_ := am (below_step bs hb); clear BK109; clear HB; have BK109 := n0_; have HB := n1_; clear n0_ n1_; (try clear hb); (try clear hb2); (try clear hk); (try clear hi); obtain ⟨⟨hcz36_0, hcz36_1, hcz36_2, hcz36_3, hcz36_4, hcz36_5, hcz36_6⟩, hfz36_0, hfz36_1, hfz36_2, hfz36_3, hfz36_4, hfz36_5, hfz36_6⟩ := blkAll7 BK109) | ((with_reducible refine gate_callee (f := 42) rfl ?_); refine goesL_ (some 44) rfl rfl Tryd.func42 (by kernel_rfl) rfl #[.int .i64 a0_5, .int .i64 a0_6] rfl ls ?_; (with_reducible refine (d_shown.calls a0_5 a0_6 t114 _ ?side1 A30.out).mono ?_); (case side1 => exact GW.below HG.out bs); rintro e w37 ⟨rfl, hb⟩; refine ⟨_, rfl, ?_⟩; have n0_ := am (blk_below (bu BK109.out) hb); have n1_ := am (below_step bs hb); clear BK109; clear HB; have BK109 := n0_; have HB := n1_; clear n0_ n1_; (try clear hb); (try clear hb2); (try clear hk); (try clear hi); obtain ⟨⟨hcz38_0, hcz38_1, hcz38_2, hcz38_3, hcz38_4, hcz38_5, hcz38_6⟩, hfz38_0, hfz38_1, hfz38_2, hfz38_3, hfz38_4, hfz38_5, hfz38_6⟩ := blkAll7 BK109) | ((with_reducible refine gate_dst (N := 50) rfl ?_); refine Kd.R_lit (Kd.int .u8) _ 5 ?hg (N := 50) ?hd (xs := ([a0_1] : List Int)) (inner := [.int .u8 a0_1]) (ok := fun _ => True) (okp := fun _ => True) ?hr ?hp (fun _ hk => hk) trivial (Below.refl _ _) (Nat.le_refl _) (by simp) ?_; (case hd => rfl); (case hg => rfl); (case hr => first | (go_simp; done) | (go_simp; rfl)); (case hp => exact (Reps.one (show Kd.M (Kd.int .u8) _ _ _ a0_1 [.int .u8 a0_1] from rfl) (Reps.none _ _))); intro v116 w39 ho40 hb hg_ hnew_; clear hg_ hnew_; (first | rw [← Ny115.out] at ho40 | (simp only [Int.reduceToNat] at ho40; rw [← Ny115.out] at ho40)); have n0_ := am (Kd.R_lower ho40 (below_size bs)); have n1_ := am (blk_below (bu BK109.out) hb); have n2_ := am (below_step bs hb); clear BK109; clear HB; have HO117 := n0_; have BK109 := n1_; have HB := n2_; clear n0_ n1_ n2_; clear hb ho40; have hcv41 := own_string (P := Tryd.prog) Tryd.underlying60 Tryd.underlying5 Tryd.underlying9 (Kd.own_of_R HO117.out)))
   go_ret
   exact ⟨er, bs⟩
end Go.Proofs.YtlmijjekaelhcaaDoor.EDi
end
section
namespace Go.Proofs.YtlmijjekaelhcaaDoor.EDi
open Go.RowKit Go.Proofs.YtlmijjekaelhcaaDoorW.PrintWords Go.Proofs.YtlmijjekaelhcaaDoorW.PrintLast Go.Proofs.YtlmijjekaelhcaaDoorW.PrintMore
attribute [local go_sem] max2_int min2_int max_two min_two max_three min_three max_four min_four
set_option linter.unusedVariables false
set_option linter.unusedSimpArgs false
open Go.Proofs.YtlmijjekaelhcaaDoor.X
mutual
def d_Print.l0 : Nat → List (S25) → Int → List (S25) → Int → Int → Option (ByteArray × Int)
 | 0, _, _, _, _, _ => none
 | k + 1, x0, x4, x10, x11, x12 => if x12 < x11 then (if 0 ≤ x12 then (if x12 < (x10.length : Int) then ((d_Check.f k ((rd_T25 x10 x12).f0) ((rd_T25 x10 x12).f1) ((rd_T25 x10 x12).f2) ((rd_T25 x10 x12).f3) ((rd_T25 x10 x12).f4) ((rd_T25 x10 x12).f5) ((rd_T25 x10 x12).f6)).bind fun t120 => (if t120 = 0 then ((d_text.f k ((rd_T25 x10 x12).f0) ((rd_T25 x10 x12).f1) ((rd_T25 x10 x12).f2) ((rd_T25 x10 x12).f3) ((rd_T25 x10 x12).f4) ((rd_T25 x10 x12).f5) ((rd_T25 x10 x12).f6)).bind fun t121 => (d_Print.l0 k x0 (wrap64 (x4 + (t121.size : Int))) x10 x11 (wrap64 (x12 + 1)))) else (some ((⟨#[]⟩ : ByteArray), 132)))) else (none)) else (none)) else (if x4 > 16777216 then (some ((⟨#[]⟩ : ByteArray), 3)) else (d_Print.l1 k (⟨#[]⟩ : ByteArray) x0 (x0.length : Int) 0))
def d_Print.l1 : Nat → ByteArray → List (S25) → Int → Int → Option (ByteArray × Int)
 | 0, _, _, _, _ => none
 | k + 1, x7, x27, x28, x29 => if x29 < x28 then (if 0 ≤ x29 then (if x29 < (x27.length : Int) then ((d_text.f k ((rd_T25 x27 x29).f0) ((rd_T25 x27 x29).f1) ((rd_T25 x27 x29).f2) ((rd_T25 x27 x29).f3) ((rd_T25 x27 x29).f4) ((rd_T25 x27 x29).f5) ((rd_T25 x27 x29).f6)).bind fun t124 => (if x7.size + t124.size ≤ 140737488355328 then (d_Print.l1 k (x7 ++ t124) x27 x28 (wrap64 (x29 + 1))) else (none))) else (none)) else (none)) else (some (x7, 0))
end
def d_Print.f (k : Nat) (l0 : List (S25)) : Option (ByteArray × Int) := d_Print.l0 k l0 0 l0 (l0.length : Int) 0
theorem d_Print.mono_l : ∀ k, (∀ y0 y1 y2 y3 y4, LeO (d_Print.l0 k y0 y1 y2 y3 y4) (d_Print.l0 (k + 1) y0 y1 y2 y3 y4)) ∧ (∀ y0 y1 y2 y3, LeO (d_Print.l1 k y0 y1 y2 y3) (d_Print.l1 (k + 1) y0 y1 y2 y3))
 | 0 => ⟨fun _ _ _ _ _ r h => by simp [d_Print.l0] at h, fun _ _ _ _ r h => by simp [d_Print.l1] at h⟩
 | k + 1 => by
  obtain ⟨ih0, ih1⟩ := d_Print.mono_l k
  refine ⟨?_, ?_⟩ <;> intros
  all_goals first | unfold d_Print.l0 | unfold d_Print.l1
  all_goals repeat' first
  | (with_reducible exact ih0 _ _ _ _ _)
  | (with_reducible exact ih1 _ _ _ _)
  | (with_reducible exact d_Check.mono _ _ _ _ _ _ _ _)
  | (with_reducible exact d_text.mono _ _ _ _ _ _ _ _)
  | (with_reducible exact LeO.refl _)
  | (with_reducible exact LeO.none _)
  | (with_reducible refine LeO.ite ?_ ?_)
  | (with_reducible refine LeO.bind ?_ (fun _ => ?_))
  | exact ih0 _ _ _ _ _
  | exact ih1 _ _ _ _
  | exact d_Check.mono _ _ _ _ _ _ _ _
  | exact d_text.mono _ _ _ _ _ _ _ _
  | exact LeO.none _
  | refine LeO.ite ?_ ?_
  | refine LeO.bind ?_ (fun _ => ?_)
theorem d_Print.mono : ∀ a0 k, LeO (d_Print.f k a0) (d_Print.f (k + 1) a0) := by
 intro a0 k
 obtain ⟨ih0, ih1⟩ := d_Print.mono_l k
 unfold d_Print.f
 repeat' first
   | (with_reducible exact ih0 _ _ _ _ _)
   | (with_reducible exact ih1 _ _ _ _)
   | (with_reducible exact d_Check.mono _ _ _ _ _ _ _ _)
   | (with_reducible exact d_text.mono _ _ _ _ _ _ _ _)
   | (with_reducible exact LeO.refl _)
   | (with_reducible exact LeO.none _)
   | (with_reducible refine LeO.ite ?_ ?_)
   | (with_reducible refine LeO.bind ?_ (fun _ => ?_))
   | exact ih0 _ _ _ _ _
   | exact ih1 _ _ _ _
   | exact d_Check.mono _ _ _ _ _ _ _ _
   | exact d_text.mono _ _ _ _ _ _ _ _
   | exact LeO.none _
   | refine LeO.ite ?_ ?_
   | refine LeO.bind ?_ (fun _ => ?_)
theorem below_trans_ {B : Nat} {u v x : World} (h : Below B u v) (k : Below B v x) : Below B u x := h.trans k
set_option maxHeartbeats 8000000 in
set_option maxRecDepth 100000 in
theorem d_Print.calls (k : Nat) (A0 : Option Addr) (c0 : Nat) (l0 : List (S25)) (r1 : ByteArray) (r2 : Int) (w : World) (hr0 : Kd.C k25 w A0 l0.length l0) (hc0 : l0.length ≤ c0) (hG : GW w) (h : d_Print.f k l0 = some (r1, r2)) :
  Calls Tryd.prog 12 #[.slice A0 l0.length c0] w fun e w' => e = .returned (.tuple #[.string r1, .int .i64 r2]) ∧ Below w.heap.size w w' := by
 have hu25 := Tryd.underlying25
 have HR0 := am hr0
 have HC0 := am hc0
 clear hr0 hc0
 have HB := am (Below.refl w.heap.size w)
 have HG := am hG
 clear hG
 have H : (d_Print.l0 k l0 0 l0 (l0.length : Int) 0) = some (r1, r2) := h
 clear h
 have H' := am H
 clear H
 go_enter Tryd.func12, Tryd.ntmps12
 go_wp2
 go_loopg [4, 12] k (fun kq v4 v12 w' => ∃ (x4_1 : Int) (x12_1 : Int), v4 = .int .i64 x4_1 ∧ v12 = .int .i64 x12_1 ∧ Aside0 (d_Print.l0 kq l0 x4_1 l0 (l0.length : Int) x12_1 = some (r1, r2)) ∧ Aside0 (kq ≤ k) ∧ Aside0 (Below w.heap.size w w'))
 case atStart => exact ⟨(0), (0), tv, tv, H', ⟨Nat.le_refl _⟩, ⟨bl⟩⟩
 case round =>
  clear H'
  try clear c1
  obtain ⟨x4_1, x12_1, rfl, rfl, HA, HK1, HB⟩ := hrel
  cases gk with
  | zero => exact absurd HA.out (by simp [d_Print.l0])
  | succ k1 =>
   have H := HA.out
   clear HA
   simp only [d_Print.l0] at H
   by_cases c2 : x12_1 < (l0.length : Int)
   rotate_left
   ·rw [if_neg c2] at H
    have c2b0 := decide_eq_false c2
    clear c2
    by_cases c16 : x4_1 > 16777216
    ·rw [if_pos c16] at H
     have c16b0 : decide (16777216 < x4_1) = true := decide_eq_true c16
     clear c16
     simp only [Option.some.injEq, Prod.mk.injEq] at H
     obtain ⟨rfl, rfl⟩ := H
     go_wp2
     go_ret2
     exact ⟨er, bl⟩
    rw [if_neg c16] at H
    have c16b0 : decide (16777216 < x4_1) = false := decide_eq_false c16
    clear c16
    have H' := am H
    clear H
    go_wp2_with (first | ((with_reducible refine gate_dst (N := 7) rfl ?_); refine BF.new w.heap.size rfl (N := 7) rfl rfl bl (below_size bl) ?_; intro gbb wb hbf hb; clear HB; have HB := am hb; have HF := am hbf; clear hb hbf))
    go_loopg [29] k1 (fun kq v29 w' => ∃ (x7_2 : ByteArray) (x29_2 : Int), v29 = .int .i64 x29_2 ∧ Aside0 (d_Print.l1 kq x7_2 l0 (l0.length : Int) x29_2 = some (r1, r2)) ∧ Aside0 (kq ≤ k1) ∧ Aside0 (BF w' w.heap.size gbb x7_2) ∧ Aside0 (Below w.heap.size w w'))
    case atStart => exact ⟨((⟨#[]⟩ : ByteArray)), (0), tv, H', ⟨Nat.le_refl _⟩, ⟨by (with_reducible repeat (first | apply BF.alloc | apply BF.drewN | apply BF.drew)); exact HF.out⟩, ⟨bl⟩⟩
    case round =>
     clear H'
     try clear c1
     try clear p1
     try clear q1
     try clear hx1
     try clear c2
     try clear c2b0
     try clear p2
     try clear c3
     try clear c3b0
     try clear c4
     try clear c4b0
     try clear c6
     try clear c6b0
     try clear c6b1
     try clear p6
     try clear c11
     try clear p11
     try clear q11
     try clear hx11
     try clear c12
     try clear c16
     try clear c16b0
     try clear hcz11_0 hcz11_1 hcz11_2 hcz11_3 hcz11_4 hcz11_5 hcz11_6
     try clear hcz14_0 hcz14_1 hcz14_2 hcz14_3 hcz14_4 hcz14_5 hcz14_6
     try clear hcz9_0 hcz9_1 hcz9_2 hcz9_3 hcz9_4 hcz9_5 hcz9_6
     try clear hfz11_0 hfz11_1 hfz11_2 hfz11_3 hfz11_4 hfz11_5 hfz11_6
     try clear hfz14_0 hfz14_1 hfz14_2 hfz14_3 hfz14_4 hfz14_5 hfz14_6
     try clear hfz9_0 hfz9_1 hfz9_2 hfz9_3 hfz9_4 hfz9_5 hfz9_6
     try clear hx118_0
     try clear hx118_1
     try clear hx118_2
     try clear hx118_3
     try clear hx118_4
     try clear hx118_5
     try clear hx118_6
     try clear p118
     try clear q118
     obtain ⟨x7_2, x29_2, rfl, HA, HK2, HF, HB⟩ := hrel
     cases gk with
     | zero => exact absurd HA.out (by simp [d_Print.l1])
     | succ k2 =>
      have H := HA.out
      clear HA
      simp only [d_Print.l1] at H
      by_cases c17 : x29_2 < (l0.length : Int)
      rotate_left
      ·rw [if_neg c17] at H
       have c17b0 := decide_eq_false c17
       clear c17
       simp only [Option.some.injEq, Prod.mk.injEq] at H
       obtain ⟨rfl, rfl⟩ := H
       go_wp2_with (first | ((with_reducible refine gate_callee (f := 28) rfl ?_); refine goesL_ (some 37) rfl rfl Tryd.func28 (by kernel_rfl) rfl #[.pointer (some ⟨gbb, 0, none⟩)] rfl ls ?_; refine (BF.text (by (with_reducible repeat (first | apply BF.alloc | apply BF.drewN | apply BF.drew)); exact HF.out) (below_size bl)).mono ?_; rintro e wv37 ⟨rfl, hb⟩; refine ⟨_, rfl, ?_⟩; have n0_ := am (below_trans_ bl hb); clear HB HF; have HB := n0_; clear n0_ hb))
       go_ret2
       exact ⟨er, bl⟩
      rw [if_pos c17] at H
      have c17b0 := decide_eq_true c17
      clear c17
      by_cases c18 : 0 ≤ x29_2
      rotate_left
      ·rw [if_neg c18] at H
       exact absurd H (by simp)
      rw [if_pos c18] at H
      have c18b0 := decide_eq_true c18
      clear c18
      by_cases c19 : x29_2 < (l0.length : Int)
      rotate_left
      ·rw [if_neg c19] at H
       exact absurd H (by simp)
      rw [if_pos c19] at H
      have c19b0 := decide_eq_true c19
      clear c19
      replace H := Option.bind_eq_some_iff.mp H
      obtain ⟨t124, A200, H⟩ := H
      replace H : (if x7_2.size + t124.size ≤ 140737488355328 then (d_Print.l1 k2 (x7_2 ++ t124) l0 (l0.length : Int) (wrap64 (x29_2 + 1))) else (none)) = some (r1, r2) := H
      have A20 := am A200
      clear A200
      by_cases c21 : x7_2.size + t124.size ≤ 140737488355328
      rotate_left
      ·rw [if_neg c21] at H
       exact absurd H (by simp)
      rw [if_pos c21] at H
      have c21b0 := eq_true c21
      have c21b1 := decide_eq_true c21
      try have c21b2 : (140737488355328 < x7_2.size + t124.size) = False := eq_false (Nat.not_lt.2 c21)
      have H' := am H
      clear H
      have p122 : 0 ≤ (x29_2 : Int) := of_decide_eq_true od
      have q122 : x29_2 < (l0.length : Int) := of_decide_eq_true od
      obtain ⟨ad122, e122, hx122_0, hx122_1, hx122_2, hx122_3, hx122_4, hx122_5, hx122_6⟩ := at_T25 HR0.out x29_2 p122 q122
      cases e122
      replace hx122_0 := (HB.out.cell (World.block_lt_of_cell? w _ hx122_0)).trans hx122_0
      replace hx122_1 := (HB.out.cell (World.block_lt_of_cell? w _ hx122_1)).trans hx122_1
      replace hx122_2 := (HB.out.cell (World.block_lt_of_cell? w _ hx122_2)).trans hx122_2
      replace hx122_3 := (HB.out.cell (World.block_lt_of_cell? w _ hx122_3)).trans hx122_3
      replace hx122_4 := (HB.out.cell (World.block_lt_of_cell? w _ hx122_4)).trans hx122_4
      replace hx122_5 := (HB.out.cell (World.block_lt_of_cell? w _ hx122_5)).trans hx122_5
      replace hx122_6 := (HB.out.cell (World.block_lt_of_cell? w _ hx122_6)).trans hx122_6
      replace p122 := eq_true p122
      replace q122 := eq_true q122
      go_wp2_with (first | ((with_reducible refine gate_dst (N := 9) rfl ?_); refine box_event ?hg (N := 9) ?hd (cs := #[.string (⟨#[]⟩ : ByteArray), .int .u8 0, .int .i64 0, .int .i64 0, .int .i64 0, .int .i64 0, .int .i64 0]) (t := 25) ?hr ?_; (case hd => rfl); (case hg => rfl); (case hr => first | (go_simp; done) | (go_simp; rfl)); intro gb123 hg w22 hbox hb; have n0_ := am (below_step bl hb); have n1_ := am (hbox); have n2_ := am ((by rw [hg]; exact (below_size bl) : w.heap.size ≤ gb123)); have n3_ := n2_; clear HB; have HB := n0_; have BK123 := n1_; have GW123 := n2_; have GE123 := n3_; clear n0_ n1_ n2_ n3_; have HW := am hb; have GE2 := am (Nat.le_of_eq hg.symm); clear hb hbox hg; obtain ⟨⟨hcz23_0, hcz23_1, hcz23_2, hcz23_3, hcz23_4, hcz23_5, hcz23_6⟩, hfz23_0, hfz23_1, hfz23_2, hfz23_3, hfz23_4, hfz23_5, hfz23_6⟩ := blkAll7 BK123) | ((with_reducible refine gate_callee (f := 26) rfl ?_); refine goesL_ (some 34) rfl rfl Tryd.func26 (by kernel_rfl) rfl #[.agg #[.string ((rd_T25 l0 x29_2).f0), .int .u8 ((rd_T25 l0 x29_2).f1), .int .i64 ((rd_T25 l0 x29_2).f2), .int .i64 ((rd_T25 l0 x29_2).f3), .int .i64 ((rd_T25 l0 x29_2).f4), .int .i64 ((rd_T25 l0 x29_2).f5), .int .i64 ((rd_T25 l0 x29_2).f6)]] rfl ls ?_; (with_reducible refine (d_text.calls k2 ((rd_T25 l0 x29_2).f0) ((rd_T25 l0 x29_2).f1) ((rd_T25 l0 x29_2).f2) ((rd_T25 l0 x29_2).f3) ((rd_T25 l0 x29_2).f4) ((rd_T25 l0 x29_2).f5) ((rd_T25 l0 x29_2).f6) t124 _ ?side1 A20.out).mono ?_); (case side1 => exact GW.below HG.out (by repeat (first | (with_reducible first | exact HB.out | apply below_alloc | apply pw_below_drewN | apply below_drew1 | refine below_set ?_ GE123.out) | exact HB.out))); rintro e w24 ⟨rfl, hb⟩; refine ⟨_, rfl, ?_⟩; have n5_ := am (BF.below HF.out (below_step (by repeat (first | (with_reducible first | exact HW.out | apply below_alloc | apply pw_below_drewN | apply below_drew1 | refine below_set ?_ GE2.out) | exact HW.out)) hb)); clear HF HW; have HF := n5_; clear n5_; have n0_ := am (blk_below (g := gb123) (o := .cells #[.string ((rd_T25 l0 x29_2).f0), .int .u8 ((rd_T25 l0 x29_2).f1), .int .i64 ((rd_T25 l0 x29_2).f2), .int .i64 ((rd_T25 l0 x29_2).f3), .int .i64 ((rd_T25 l0 x29_2).f4), .int .i64 ((rd_T25 l0 x29_2).f5), .int .i64 ((rd_T25 l0 x29_2).f6)] 25 (0, 0)) (by refine bu ?_; refine blk_put (cs := #[.string ((rd_T25 l0 x29_2).f0), .int .u8 ((rd_T25 l0 x29_2).f1), .int .i64 ((rd_T25 l0 x29_2).f2), .int .i64 ((rd_T25 l0 x29_2).f3), .int .i64 ((rd_T25 l0 x29_2).f4), .int .i64 ((rd_T25 l0 x29_2).f5), .int .i64 0]) ?_ 6 _ rfl; refine bu ?_; refine blk_put (cs := #[.string ((rd_T25 l0 x29_2).f0), .int .u8 ((rd_T25 l0 x29_2).f1), .int .i64 ((rd_T25 l0 x29_2).f2), .int .i64 ((rd_T25 l0 x29_2).f3), .int .i64 ((rd_T25 l0 x29_2).f4), .int .i64 0, .int .i64 0]) ?_ 5 _ rfl; refine bu ?_; refine blk_put (cs := #[.string ((rd_T25 l0 x29_2).f0), .int .u8 ((rd_T25 l0 x29_2).f1), .int .i64 ((rd_T25 l0 x29_2).f2), .int .i64 ((rd_T25 l0 x29_2).f3), .int .i64 0, .int .i64 0, .int .i64 0]) ?_ 4 _ rfl; refine bu ?_; refine blk_put (cs := #[.string ((rd_T25 l0 x29_2).f0), .int .u8 ((rd_T25 l0 x29_2).f1), .int .i64 ((rd_T25 l0 x29_2).f2), .int .i64 0, .int .i64 0, .int .i64 0, .int .i64 0]) ?_ 3 _ rfl; refine bu ?_; refine blk_put (cs := #[.string ((rd_T25 l0 x29_2).f0), .int .u8 ((rd_T25 l0 x29_2).f1), .int .i64 0, .int .i64 0, .int .i64 0, .int .i64 0, .int .i64 0]) ?_ 2 _ rfl; refine bu ?_; refine blk_put (cs := #[.string ((rd_T25 l0 x29_2).f0), .int .u8 0, .int .i64 0, .int .i64 0, .int .i64 0, .int .i64 0, .int .i64 0]) ?_ 1 _ rfl; refine bu ?_; refine blk_put (cs := #[.string (⟨#[]⟩ : ByteArray), .int .u8 0, .int .i64 0, .int .i64 0, .int .i64 0, .int .i64 0, .int .i64 0]) ?_ 0 _ rfl; refine bu ?_; exact BK123.out) hb); have n1_ := am (below_step (by repeat (first | (with_reducible first | exact HB.out | apply below_alloc | apply pw_below_drewN | apply below_drew1 | refine below_set ?_ GE123.out) | exact HB.out)) hb); clear BK123; clear HB; have BK123 := n0_; have HB := n1_; clear n0_ n1_; (try clear hb); (try clear hb2); (try clear hk); (try clear hi)) | ((with_reducible refine gate_callee (f := 27) rfl ?_); refine goesL_ (some 35) rfl rfl Tryd.func27 (by kernel_rfl) rfl #[.pointer (some ⟨gbb, 0, none⟩), .string t124] rfl ls ?_; refine (BF.write (by (with_reducible repeat (first | apply BF.alloc | apply BF.drewN | apply BF.drew)); exact HF.out) t124 (of_decide_eq_true od) (below_size (by repeat (first | (with_reducible first | exact HB.out | apply below_alloc | apply pw_below_drewN | apply below_drew1 | refine below_set ?_ GE123.out) | exact HB.out)))).mono ?_; rintro e wv35 ⟨rfl, hbf, hb⟩; refine ⟨_, rfl, ?_⟩; have n0_ := am (below_trans_ (by repeat (first | (with_reducible first | exact HB.out | apply below_alloc | apply pw_below_drewN | apply below_drew1 | refine below_set ?_ GE123.out) | exact HB.out)) hb); clear HB HF; have HB := n0_; have HF := am hbf; clear n0_ hb hbf))
      go_roundg k2
      case measure => have := HK1.out; have := HK2.out; omega
      case rel => exact ⟨(x7_2 ++ t124), (wrap64 (x29_2 + 1)), tv, H', ⟨by have := HK1.out; have := HK2.out; omega⟩, ⟨by (with_reducible repeat (first | apply BF.alloc | apply BF.drewN | apply BF.drew)); exact HF.out⟩, ⟨by repeat (first | (with_reducible first | exact HB.out | apply below_alloc | apply pw_below_drewN | apply below_drew1 | refine below_set ?_ GE123.out) | exact HB.out)⟩⟩
   rw [if_pos c2] at H
   have c2b0 := decide_eq_true c2
   clear c2
   by_cases c3 : 0 ≤ x12_1
   rotate_left
   ·rw [if_neg c3] at H
    exact absurd H (by simp)
   rw [if_pos c3] at H
   have c3b0 := decide_eq_true c3
   clear c3
   by_cases c4 : x12_1 < (l0.length : Int)
   rotate_left
   ·rw [if_neg c4] at H
    exact absurd H (by simp)
   rw [if_pos c4] at H
   have c4b0 := decide_eq_true c4
   clear c4
   replace H := Option.bind_eq_some_iff.mp H
   obtain ⟨t120, A50, H⟩ := H
   replace H : (if t120 = 0 then ((d_text.f k1 ((rd_T25 l0 x12_1).f0) ((rd_T25 l0 x12_1).f1) ((rd_T25 l0 x12_1).f2) ((rd_T25 l0 x12_1).f3) ((rd_T25 l0 x12_1).f4) ((rd_T25 l0 x12_1).f5) ((rd_T25 l0 x12_1).f6)).bind fun t121 => (d_Print.l0 k1 l0 (wrap64 (x4_1 + (t121.size : Int))) l0 (l0.length : Int) (wrap64 (x12_1 + 1)))) else (some ((⟨#[]⟩ : ByteArray), 132))) = some (r1, r2) := H
   have A5 := am A50
   clear A50
   by_cases c6 : t120 = 0
   rotate_left
   ·rw [if_neg c6] at H
    have c6b0 : (t120 == 0) = false := beq_eq_false_iff_ne.mpr c6
    have c6b1 : (t120 != 0) = true := bne_iff_ne.mpr c6
    simp only [Option.some.injEq, Prod.mk.injEq] at H
    obtain ⟨rfl, rfl⟩ := H
    have p118 : 0 ≤ (x12_1 : Int) := of_decide_eq_true od
    have q118 : x12_1 < (l0.length : Int) := of_decide_eq_true od
    obtain ⟨ad118, e118, hx118_0, hx118_1, hx118_2, hx118_3, hx118_4, hx118_5, hx118_6⟩ := at_T25 HR0.out x12_1 p118 q118
    cases e118
    replace hx118_0 := (HB.out.cell (World.block_lt_of_cell? w _ hx118_0)).trans hx118_0
    replace hx118_1 := (HB.out.cell (World.block_lt_of_cell? w _ hx118_1)).trans hx118_1
    replace hx118_2 := (HB.out.cell (World.block_lt_of_cell? w _ hx118_2)).trans hx118_2
    replace hx118_3 := (HB.out.cell (World.block_lt_of_cell? w _ hx118_3)).trans hx118_3
    replace hx118_4 := (HB.out.cell (World.block_lt_of_cell? w _ hx118_4)).trans hx118_4
    replace hx118_5 := (HB.out.cell (World.block_lt_of_cell? w _ hx118_5)).trans hx118_5
    replace hx118_6 := (HB.out.cell (World.block_lt_of_cell? w _ hx118_6)).trans hx118_6
    replace p118 := eq_true p118
    replace q118 := eq_true q118
    go_wp2_with (first | ((with_reducible refine gate_dst (N := 6) rfl ?_); refine box_event ?hg (N := 6) ?hd (cs := #[.string (⟨#[]⟩ : ByteArray), .int .u8 0, .int .i64 0, .int .i64 0, .int .i64 0, .int .i64 0, .int .i64 0]) (t := 25) ?hr ?_; (case hd => rfl); (case hg => rfl); (case hr => first | (go_simp; done) | (go_simp; rfl)); intro gb119 hg w13 hbox hb; have n0_ := am (below_step bl hb); have n1_ := am (hbox); have n2_ := am ((by rw [hg]; exact (below_size bl) : w.heap.size ≤ gb119)); have n3_ := n2_; clear HB; have HB := n0_; have BK119 := n1_; have GW119 := n2_; have GE119 := n3_; clear n0_ n1_ n2_ n3_; clear hb hbox hg; obtain ⟨⟨hcz14_0, hcz14_1, hcz14_2, hcz14_3, hcz14_4, hcz14_5, hcz14_6⟩, hfz14_0, hfz14_1, hfz14_2, hfz14_3, hfz14_4, hfz14_5, hfz14_6⟩ := blkAll7 BK119) | ((with_reducible refine gate_callee (f := 11) rfl ?_); refine goesL_ (some 17) rfl rfl Tryd.func11 (by kernel_rfl) rfl #[.agg #[.string ((rd_T25 l0 x12_1).f0), .int .u8 ((rd_T25 l0 x12_1).f1), .int .i64 ((rd_T25 l0 x12_1).f2), .int .i64 ((rd_T25 l0 x12_1).f3), .int .i64 ((rd_T25 l0 x12_1).f4), .int .i64 ((rd_T25 l0 x12_1).f5), .int .i64 ((rd_T25 l0 x12_1).f6)]] rfl ls ?_; (with_reducible refine (d_Check.calls k1 ((rd_T25 l0 x12_1).f0) ((rd_T25 l0 x12_1).f1) ((rd_T25 l0 x12_1).f2) ((rd_T25 l0 x12_1).f3) ((rd_T25 l0 x12_1).f4) ((rd_T25 l0 x12_1).f5) ((rd_T25 l0 x12_1).f6) t120 _ A5.out).mono ?_); rintro e w15 ⟨rfl, hb⟩; refine ⟨_, rfl, ?_⟩; have n0_ := am (blk_below (g := gb119) (o := .cells #[.string ((rd_T25 l0 x12_1).f0), .int .u8 ((rd_T25 l0 x12_1).f1), .int .i64 ((rd_T25 l0 x12_1).f2), .int .i64 ((rd_T25 l0 x12_1).f3), .int .i64 ((rd_T25 l0 x12_1).f4), .int .i64 ((rd_T25 l0 x12_1).f5), .int .i64 ((rd_T25 l0 x12_1).f6)] 25 (0, 0)) (by refine bu ?_; refine blk_put (cs := #[.string ((rd_T25 l0 x12_1).f0), .int .u8 ((rd_T25 l0 x12_1).f1), .int .i64 ((rd_T25 l0 x12_1).f2), .int .i64 ((rd_T25 l0 x12_1).f3), .int .i64 ((rd_T25 l0 x12_1).f4), .int .i64 ((rd_T25 l0 x12_1).f5), .int .i64 0]) ?_ 6 _ rfl; refine bu ?_; refine blk_put (cs := #[.string ((rd_T25 l0 x12_1).f0), .int .u8 ((rd_T25 l0 x12_1).f1), .int .i64 ((rd_T25 l0 x12_1).f2), .int .i64 ((rd_T25 l0 x12_1).f3), .int .i64 ((rd_T25 l0 x12_1).f4), .int .i64 0, .int .i64 0]) ?_ 5 _ rfl; refine bu ?_; refine blk_put (cs := #[.string ((rd_T25 l0 x12_1).f0), .int .u8 ((rd_T25 l0 x12_1).f1), .int .i64 ((rd_T25 l0 x12_1).f2), .int .i64 ((rd_T25 l0 x12_1).f3), .int .i64 0, .int .i64 0, .int .i64 0]) ?_ 4 _ rfl; refine bu ?_; refine blk_put (cs := #[.string ((rd_T25 l0 x12_1).f0), .int .u8 ((rd_T25 l0 x12_1).f1), .int .i64 ((rd_T25 l0 x12_1).f2), .int .i64 0, .int .i64 0, .int .i64 0, .int .i64 0]) ?_ 3 _ rfl; refine bu ?_; refine blk_put (cs := #[.string ((rd_T25 l0 x12_1).f0), .int .u8 ((rd_T25 l0 x12_1).f1), .int .i64 0, .int .i64 0, .int .i64 0, .int .i64 0, .int .i64 0]) ?_ 2 _ rfl; refine bu ?_; refine blk_put (cs := #[.string ((rd_T25 l0 x12_1).f0), .int .u8 0, .int .i64 0, .int .i64 0, .int .i64 0, .int .i64 0, .int .i64 0]) ?_ 1 _ rfl; refine bu ?_; refine blk_put (cs := #[.string (⟨#[]⟩ : ByteArray), .int .u8 0, .int .i64 0, .int .i64 0, .int .i64 0, .int .i64 0, .int .i64 0]) ?_ 0 _ rfl; refine bu ?_; exact BK119.out) hb); have n1_ := am (below_step (by repeat (first | (with_reducible first | exact HB.out | apply below_alloc | apply pw_below_drewN | apply below_drew1 | refine below_set ?_ GE119.out) | exact HB.out)) hb); clear BK119; clear HB; have BK119 := n0_; have HB := n1_; clear n0_ n1_; (try clear hb); (try clear hb2); (try clear hk); (try clear hi)))
    go_ret2
    exact ⟨er, by repeat (first | (with_reducible first | exact HB.out | apply below_alloc | apply pw_below_drewN | apply below_drew1 | refine below_set ?_ GE119.out) | exact HB.out)⟩
   rw [if_pos c6] at H
   have c6b0 : (t120 == 0) = true := beq_iff_eq.mpr c6
   have c6b1 : (t120 != 0) = false := bne_eq_false_iff_eq.mpr c6
   clear c6
   replace H := Option.bind_eq_some_iff.mp H
   obtain ⟨t121, A70, H⟩ := H
   replace H : (d_Print.l0 k1 l0 (wrap64 (x4_1 + (t121.size : Int))) l0 (l0.length : Int) (wrap64 (x12_1 + 1))) = some (r1, r2) := H
   have A7 := am A70
   clear A70
   have H' := am H
   clear H
   have p118 : 0 ≤ (x12_1 : Int) := of_decide_eq_true od
   have q118 : x12_1 < (l0.length : Int) := of_decide_eq_true od
   obtain ⟨ad118, e118, hx118_0, hx118_1, hx118_2, hx118_3, hx118_4, hx118_5, hx118_6⟩ := at_T25 HR0.out x12_1 p118 q118
   cases e118
   replace hx118_0 := (HB.out.cell (World.block_lt_of_cell? w _ hx118_0)).trans hx118_0
   replace hx118_1 := (HB.out.cell (World.block_lt_of_cell? w _ hx118_1)).trans hx118_1
   replace hx118_2 := (HB.out.cell (World.block_lt_of_cell? w _ hx118_2)).trans hx118_2
   replace hx118_3 := (HB.out.cell (World.block_lt_of_cell? w _ hx118_3)).trans hx118_3
   replace hx118_4 := (HB.out.cell (World.block_lt_of_cell? w _ hx118_4)).trans hx118_4
   replace hx118_5 := (HB.out.cell (World.block_lt_of_cell? w _ hx118_5)).trans hx118_5
   replace hx118_6 := (HB.out.cell (World.block_lt_of_cell? w _ hx118_6)).trans hx118_6
   replace p118 := eq_true p118
   replace q118 := eq_true q118
   go_wp2_with (first | ((with_reducible refine gate_dst (N := 6) rfl ?_); refine box_event ?hg (N := 6) ?hd (cs := #[.string (⟨#[]⟩ : ByteArray), .int .u8 0, .int .i64 0, .int .i64 0, .int .i64 0, .int .i64 0, .int .i64 0]) (t := 25) ?hr ?_; (case hd => rfl); (case hg => rfl); (case hr => first | (go_simp; done) | (go_simp; rfl)); intro gb119 hg w8 hbox hb; have n0_ := am (below_step bl hb); have n1_ := am (hbox); have n2_ := am ((by rw [hg]; exact (below_size bl) : w.heap.size ≤ gb119)); have n3_ := n2_; clear HB; have HB := n0_; have BK119 := n1_; have GW119 := n2_; have GE119 := n3_; clear n0_ n1_ n2_ n3_; clear hb hbox hg; obtain ⟨⟨hcz9_0, hcz9_1, hcz9_2, hcz9_3, hcz9_4, hcz9_5, hcz9_6⟩, hfz9_0, hfz9_1, hfz9_2, hfz9_3, hfz9_4, hfz9_5, hfz9_6⟩ := blkAll7 BK119) | ((with_reducible refine gate_callee (f := 11) rfl ?_); refine goesL_ (some 17) rfl rfl Tryd.func11 (by kernel_rfl) rfl #[.agg #[.string ((rd_T25 l0 x12_1).f0), .int .u8 ((rd_T25 l0 x12_1).f1), .int .i64 ((rd_T25 l0 x12_1).f2), .int .i64 ((rd_T25 l0 x12_1).f3), .int .i64 ((rd_T25 l0 x12_1).f4), .int .i64 ((rd_T25 l0 x12_1).f5), .int .i64 ((rd_T25 l0 x12_1).f6)]] rfl ls ?_; (with_reducible refine (d_Check.calls k1 ((rd_T25 l0 x12_1).f0) ((rd_T25 l0 x12_1).f1) ((rd_T25 l0 x12_1).f2) ((rd_T25 l0 x12_1).f3) ((rd_T25 l0 x12_1).f4) ((rd_T25 l0 x12_1).f5) ((rd_T25 l0 x12_1).f6) t120 _ A5.out).mono ?_); rintro e w10 ⟨rfl, hb⟩; refine ⟨_, rfl, ?_⟩; have n0_ := am (blk_below (g := gb119) (o := .cells #[.string ((rd_T25 l0 x12_1).f0), .int .u8 ((rd_T25 l0 x12_1).f1), .int .i64 ((rd_T25 l0 x12_1).f2), .int .i64 ((rd_T25 l0 x12_1).f3), .int .i64 ((rd_T25 l0 x12_1).f4), .int .i64 ((rd_T25 l0 x12_1).f5), .int .i64 ((rd_T25 l0 x12_1).f6)] 25 (0, 0)) (by refine bu ?_; refine blk_put (cs := #[.string ((rd_T25 l0 x12_1).f0), .int .u8 ((rd_T25 l0 x12_1).f1), .int .i64 ((rd_T25 l0 x12_1).f2), .int .i64 ((rd_T25 l0 x12_1).f3), .int .i64 ((rd_T25 l0 x12_1).f4), .int .i64 ((rd_T25 l0 x12_1).f5), .int .i64 0]) ?_ 6 _ rfl; refine bu ?_; refine blk_put (cs := #[.string ((rd_T25 l0 x12_1).f0), .int .u8 ((rd_T25 l0 x12_1).f1), .int .i64 ((rd_T25 l0 x12_1).f2), .int .i64 ((rd_T25 l0 x12_1).f3), .int .i64 ((rd_T25 l0 x12_1).f4), .int .i64 0, .int .i64 0]) ?_ 5 _ rfl; refine bu ?_; refine blk_put (cs := #[.string ((rd_T25 l0 x12_1).f0), .int .u8 ((rd_T25 l0 x12_1).f1), .int .i64 ((rd_T25 l0 x12_1).f2), .int .i64 ((rd_T25 l0 x12_1).f3), .int .i64 0, .int .i64 0, .int .i64 0]) ?_ 4 _ rfl; refine bu ?_; refine blk_put (cs := #[.string ((rd_T25 l0 x12_1).f0), .int .u8 ((rd_T25 l0 x12_1).f1), .int .i64 ((rd_T25 l0 x12_1).f2), .int .i64 0, .int .i64 0, .int .i64 0, .int .i64 0]) ?_ 3 _ rfl; refine bu ?_; refine blk_put (cs := #[.string ((rd_T25 l0 x12_1).f0), .int .u8 ((rd_T25 l0 x12_1).f1), .int .i64 0, .int .i64 0, .int .i64 0, .int .i64 0, .int .i64 0]) ?_ 2 _ rfl; refine bu ?_; refine blk_put (cs := #[.string ((rd_T25 l0 x12_1).f0), .int .u8 0, .int .i64 0, .int .i64 0, .int .i64 0, .int .i64 0, .int .i64 0]) ?_ 1 _ rfl; refine bu ?_; refine blk_put (cs := #[.string (⟨#[]⟩ : ByteArray), .int .u8 0, .int .i64 0, .int .i64 0, .int .i64 0, .int .i64 0, .int .i64 0]) ?_ 0 _ rfl; refine bu ?_; exact BK119.out) hb); have n1_ := am (below_step (by repeat (first | (with_reducible first | exact HB.out | apply below_alloc | apply pw_below_drewN | apply below_drew1 | refine below_set ?_ GE119.out) | exact HB.out)) hb); clear BK119; clear HB; have BK119 := n0_; have HB := n1_; clear n0_ n1_; (try clear hb); (try clear hb2); (try clear hk); (try clear hi); obtain ⟨⟨hcz11_0, hcz11_1, hcz11_2, hcz11_3, hcz11_4, hcz11_5, hcz11_6⟩, hfz11_0, hfz11_1, hfz11_2, hfz11_3, hfz11_4, hfz11_5, hfz11_6⟩ := blkAll7 BK119) | ((with_reducible refine gate_callee (f := 26) rfl ?_); refine goesL_ (some 21) rfl rfl Tryd.func26 (by kernel_rfl) rfl #[.agg #[.string ((rd_T25 l0 x12_1).f0), .int .u8 ((rd_T25 l0 x12_1).f1), .int .i64 ((rd_T25 l0 x12_1).f2), .int .i64 ((rd_T25 l0 x12_1).f3), .int .i64 ((rd_T25 l0 x12_1).f4), .int .i64 ((rd_T25 l0 x12_1).f5), .int .i64 ((rd_T25 l0 x12_1).f6)]] rfl ls ?_; (with_reducible refine (d_text.calls k1 ((rd_T25 l0 x12_1).f0) ((rd_T25 l0 x12_1).f1) ((rd_T25 l0 x12_1).f2) ((rd_T25 l0 x12_1).f3) ((rd_T25 l0 x12_1).f4) ((rd_T25 l0 x12_1).f5) ((rd_T25 l0 x12_1).f6) t121 _ ?side1 A7.out).mono ?_); (case side1 => exact GW.below HG.out (by repeat (first | (with_reducible first | exact HB.out | apply below_alloc | apply pw_below_drewN | apply below_drew1 | refine below_set ?_ GE119.out) | exact HB.out))); rintro e w12 ⟨rfl, hb⟩; refine ⟨_, rfl, ?_⟩; have n0_ := am (blk_below (bu BK119.out) hb); have n1_ := am (below_step (by repeat (first | (with_reducible first | exact HB.out | apply below_alloc | apply pw_below_drewN | apply below_drew1 | refine below_set ?_ GE119.out) | exact HB.out)) hb); clear BK119; clear HB; have BK119 := n0_; have HB := n1_; clear n0_ n1_; (try clear hb); (try clear hb2); (try clear hk); (try clear hi)))
   go_roundg k1
   case measure => have := HK1.out; omega
   case rel => exact ⟨(wrap64 (x4_1 + (t121.size : Int))), (wrap64 (x12_1 + 1)), tv, tv, H', ⟨by have := HK1.out; omega⟩, ⟨by repeat (first | (with_reducible first | exact HB.out | apply below_alloc | apply pw_below_drewN | apply below_drew1 | refine below_set ?_ GE119.out) | exact HB.out)⟩⟩
end Go.Proofs.YtlmijjekaelhcaaDoor.EDi
end
