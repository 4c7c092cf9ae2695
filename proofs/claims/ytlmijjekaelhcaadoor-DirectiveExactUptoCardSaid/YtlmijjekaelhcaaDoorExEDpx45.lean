/-
 A text of this session's own.
-/
import Derived.Test.YtlmijjekaelhcaaDoorExA0
import Derived.Test.YtlmijjekaelhcaaDoorExEDpx0
import Derived.Test.YtlmijjekaelhcaaDoorExEDpx39
import Derived.Test.YtlmijjekaelhcaaDoorExEDpx44
namespace Go.Proofs.YtlmijjekaelhcaaDoor.EDi
open Go.RowKit Go.Proofs.YtlmijjekaelhcaaDoorW.PrintWords Go.Proofs.YtlmijjekaelhcaaDoorW.PrintLast Go.Proofs.YtlmijjekaelhcaaDoorW.PrintMore
attribute [local go_sem] max2_int min2_int max_two min_two max_three min_three max_four min_four
set_option linter.unusedVariables false
mutual
def q_printed.l0 : Nat → ByteArray → Int → ByteArray → Int → Int → Int → Int → Int → Int → Option (ByteArray)
 | 0, _, _, _, _, _, _, _, _, _ => none
 | k + 1, x3, x4, x617000, x617001, x617002, x617003, x617004, x617005, x617006 => if x4 < 5 then (if 0 ≤ x4 then ((q_bit.f k (bt (⟨#[45, 43, 32, 35, 48]⟩ : ByteArray) x4)).bind fun t617 => (if t617 = 0 then (none) else (if (Int.tmod (wrap64 (Int.tdiv x617002 t617)) 2) = 1 then (if x4 ≤ (wrap64 (x4 + 1)) then (if (wrap64 (x4 + 1)) ≤ 5 then (if x3.size + ((⟨#[45, 43, 32, 35, 48]⟩ : ByteArray).extract (x4 : Int).toNat ((wrap64 (x4 + 1)) : Int).toNat).size ≤ 9223372036854775807 then (q_printed.l0 k (x3 ++ ((⟨#[45, 43, 32, 35, 48]⟩ : ByteArray).extract (x4 : Int).toNat ((wrap64 (x4 + 1)) : Int).toNat)) (wrap64 (x4 + 1)) x617000 x617001 x617002 x617003 x617004 x617005 x617006) else (none)) else (none)) else (none)) else (q_printed.l0 k x3 (wrap64 (x4 + 1)) x617000 x617001 x617002 x617003 x617004 x617005 x617006)))) else (none)) else (if x617003 = 1 then ((q_decimal.f k x617004).bind fun t618 => (if x3.size + t618.size ≤ 9223372036854775807 then (q_printed.j1 k (x3 ++ t618) x617000 x617001 x617002 x617003 x617004 x617005 x617006) else (none))) else (q_printed.j1 k x3 x617000 x617001 x617002 x617003 x617004 x617005 x617006))
def q_printed.j1 : Nat → ByteArray → ByteArray → Int → Int → Int → Int → Int → Int → Option (ByteArray)
 | 0, _, _, _, _, _, _, _, _ => none
 | k + 1, x3, x617000, x617001, x617002, x617003, x617004, x617005, x617006 => if x617003 = 2 then (if x3.size + 1 ≤ 9223372036854775807 then (q_printed.j2 k (x3 ++ (⟨#[42]⟩ : ByteArray)) x617000 x617001 x617002 x617003 x617004 x617005 x617006) else (none)) else (q_printed.j2 k x3 x617000 x617001 x617002 x617003 x617004 x617005 x617006)
def q_printed.j2 : Nat → ByteArray → ByteArray → Int → Int → Int → Int → Int → Int → Option (ByteArray)
 | 0, _, _, _, _, _, _, _, _ => none
 | k + 1, x3, x617000, x617001, x617002, x617003, x617004, x617005, x617006 => if x617005 = 1 then ((q_decimal.f k x617006).bind fun t619 => (if 1 + t619.size ≤ 9223372036854775807 then (if x3.size + ((⟨#[46]⟩ : ByteArray) ++ t619).size ≤ 9223372036854775807 then (if x617005 = 2 then (if (x3 ++ ((⟨#[46]⟩ : ByteArray) ++ t619)).size + 2 ≤ 9223372036854775807 then ((some (([x617001] : List Int) : List Int)).bind fun y620 => (if ((x3 ++ ((⟨#[46]⟩ : ByteArray) ++ t619)) ++ (⟨#[46, 42]⟩ : ByteArray)).size + (strOfNums y620).size ≤ 9223372036854775807 then (some (((x3 ++ ((⟨#[46]⟩ : ByteArray) ++ t619)) ++ (⟨#[46, 42]⟩ : ByteArray)) ++ (strOfNums y620))) else (none))) else (none)) else ((some (([x617001] : List Int) : List Int)).bind fun y623 => (if (x3 ++ ((⟨#[46]⟩ : ByteArray) ++ t619)).size + (strOfNums y623).size ≤ 9223372036854775807 then (some ((x3 ++ ((⟨#[46]⟩ : ByteArray) ++ t619)) ++ (strOfNums y623))) else (none)))) else (none)) else (none))) else (if x617005 = 2 then (if x3.size + 2 ≤ 9223372036854775807 then ((some (([x617001] : List Int) : List Int)).bind fun y626 => (if (x3 ++ (⟨#[46, 42]⟩ : ByteArray)).size + (strOfNums y626).size ≤ 9223372036854775807 then (some ((x3 ++ (⟨#[46, 42]⟩ : ByteArray)) ++ (strOfNums y626))) else (none))) else (none)) else ((some (([x617001] : List Int) : List Int)).bind fun y629 => (if x3.size + (strOfNums y629).size ≤ 9223372036854775807 then (some (x3 ++ (strOfNums y629))) else (none))))
end
def q_printed.f (k : Nat) (a0_0 : ByteArray) (a0_1 : Int) (a0_2 : Int) (a0_3 : Int) (a0_4 : Int) (a0_5 : Int) (a0_6 : Int) : Option (ByteArray) := if a0_1 = 0 then (some a0_0) else (if a0_1 = 37 then (some (⟨#[37, 37]⟩ : ByteArray)) else (q_printed.l0 k (⟨#[37]⟩ : ByteArray) 0 a0_0 a0_1 a0_2 a0_3 a0_4 a0_5 a0_6))
theorem q_printed.mono_l : ∀ k, (∀ y0 y1 y2 y3 y4 y5 y6 y7 y8, LeO (q_printed.l0 k y0 y1 y2 y3 y4 y5 y6 y7 y8) (q_printed.l0 (k + 1) y0 y1 y2 y3 y4 y5 y6 y7 y8)) ∧ (∀ y0 y1 y2 y3 y4 y5 y6 y7, LeO (q_printed.j1 k y0 y1 y2 y3 y4 y5 y6 y7) (q_printed.j1 (k + 1) y0 y1 y2 y3 y4 y5 y6 y7)) ∧ (∀ y0 y1 y2 y3 y4 y5 y6 y7, LeO (q_printed.j2 k y0 y1 y2 y3 y4 y5 y6 y7) (q_printed.j2 (k + 1) y0 y1 y2 y3 y4 y5 y6 y7))
 | 0 => ⟨fun _ _ _ _ _ _ _ _ _ r h => by simp [q_printed.l0] at h, fun _ _ _ _ _ _ _ _ r h => by simp [q_printed.j1] at h, fun _ _ _ _ _ _ _ _ r h => by simp [q_printed.j2] at h⟩
 | k + 1 => by
  obtain ⟨ih0, ih1, ih2⟩ := q_printed.mono_l k
  refine ⟨?_, ?_, ?_⟩ <;> intros
  all_goals first | unfold q_printed.l0 | unfold q_printed.j1 | unfold q_printed.j2
  all_goals repeat' first
  | (with_reducible exact ih0 _ _ _ _ _ _ _ _ _)
  | (with_reducible exact ih1 _ _ _ _ _ _ _ _)
  | (with_reducible exact ih2 _ _ _ _ _ _ _ _)
  | (with_reducible exact q_bit.mono _ _)
  | (with_reducible exact q_decimal.mono _ _)
  | (with_reducible exact LeO.refl _)
  | (with_reducible exact LeO.none _)
  | (with_reducible refine LeO.ite ?_ ?_)
  | (with_reducible refine LeO.bind ?_ (fun _ => ?_))
  | exact ih0 _ _ _ _ _ _ _ _ _
  | exact ih1 _ _ _ _ _ _ _ _
  | exact ih2 _ _ _ _ _ _ _ _
  | exact q_bit.mono _ _
  | exact q_decimal.mono _ _
  | exact LeO.none _
  | refine LeO.ite ?_ ?_
  | refine LeO.bind ?_ (fun _ => ?_)
theorem q_printed.mono : ∀ a0 a1 a2 a3 a4 a5 a6 k, LeO (q_printed.f k a0 a1 a2 a3 a4 a5 a6) (q_printed.f (k + 1) a0 a1 a2 a3 a4 a5 a6) := by
 intro a0 a1 a2 a3 a4 a5 a6 k
 obtain ⟨ih0, ih1, ih2⟩ := q_printed.mono_l k
 unfold q_printed.f
 repeat' first
   | (with_reducible exact ih0 _ _ _ _ _ _ _ _ _)
   | (with_reducible exact ih1 _ _ _ _ _ _ _ _)
   | (with_reducible exact ih2 _ _ _ _ _ _ _ _)
   | (with_reducible exact q_bit.mono _ _)
   | (with_reducible exact q_decimal.mono _ _)
   | (with_reducible exact LeO.refl _)
   | (with_reducible exact LeO.none _)
   | (with_reducible refine LeO.ite ?_ ?_)
   | (with_reducible refine LeO.bind ?_ (fun _ => ?_))
   | exact ih0 _ _ _ _ _ _ _ _ _
   | exact ih1 _ _ _ _ _ _ _ _
   | exact ih2 _ _ _ _ _ _ _ _
   | exact q_bit.mono _ _
   | exact q_decimal.mono _ _
   | exact LeO.none _
   | refine LeO.ite ?_ ?_
   | refine LeO.bind ?_ (fun _ => ?_)
set_option maxHeartbeats 8000000 in
set_option maxRecDepth 100000 in
theorem q_printed.calls (k : Nat) (a0_0 : ByteArray) (a0_1 : Int) (a0_2 : Int) (a0_3 : Int) (a0_4 : Int) (a0_5 : Int) (a0_6 : Int) (r : ByteArray) (w : World) (h : q_printed.f k a0_0 a0_1 a0_2 a0_3 a0_4 a0_5 a0_6 = some r) :
  Calls Tryd.prog 50 #[.agg #[.string a0_0, .int .u8 a0_1, .int .i64 a0_2, .int .i64 a0_3, .int .i64 a0_4, .int .i64 a0_5, .int .i64 a0_6]] w fun e w' => e = .returned (.string r) ∧ Below w.heap.size w w' := by
 have hu25 := Tryd.underlying25
 have HB := am (Below.refl w.heap.size w)
 have H : (if a0_1 = 0 then (some a0_0) else (if a0_1 = 37 then (some (⟨#[37, 37]⟩ : ByteArray)) else (q_printed.l0 k (⟨#[37]⟩ : ByteArray) 0 a0_0 a0_1 a0_2 a0_3 a0_4 a0_5 a0_6))) = some r := h
 clear h
 by_cases c2 : a0_1 = 0
 ·rw [if_pos c2] at H
  have c2b0 : (a0_1 == 0) = true := beq_iff_eq.mpr c2
  have c2b1 : (a0_1 != 0) = false := bne_eq_false_iff_eq.mpr c2
  clear c2
  obtain rfl := Option.some.inj H
  go_enter Tryd.func50, Tryd.ntmps50
  go_wp2
  repeat (go_quiet (first | ((with_reducible refine gate_dst (N := 1) rfl ?_); refine box_event ?hg (N := 1) ?hd (cs := #[.string a0_0, .int .u8 a0_1, .int .i64 a0_2, .int .i64 a0_3, .int .i64 a0_4, .int .i64 a0_5, .int .i64 a0_6]) (t := 25) ?hr ?_; (case hd => rfl); (case hg => rfl); (case hr => first | (go_simp; done) | (go_simp; rfl)); intro gb616 hg w3 hbox hb; have n0_ := am (below_step bl hb); have n1_ := am (hbox); have n2_ := am ((by rw [hg]; exact (below_size bl) : w.heap.size ≤ gb616)); have n3_ := n2_; clear HB; have HB := n0_; have BK616 := n1_; have GW616 := n2_; have GE616 := n3_; clear n0_ n1_ n2_ n3_; clear hb hbox hg; obtain ⟨⟨hcz4_0, hcz4_1, hcz4_2, hcz4_3, hcz4_4, hcz4_5, hcz4_6⟩, hfz4_0, hfz4_1, hfz4_2, hfz4_3, hfz4_4, hfz4_5, hfz4_6⟩ := blkAll7 BK616)); try go_wp2)
  go_ret
  exact ⟨er, bs⟩
 rw [if_neg c2] at H
 have c2b0 : (a0_1 == 0) = false := beq_eq_false_iff_ne.mpr c2
 have c2b1 : (a0_1 != 0) = true := bne_iff_ne.mpr c2
 by_cases c5 : a0_1 = 37
 ·rw [if_pos c5] at H
  have c5b0 : (a0_1 == 37) = true := beq_iff_eq.mpr c5
  have c5b1 : (a0_1 != 37) = false := bne_eq_false_iff_eq.mpr c5
  clear c5
  obtain rfl := Option.some.inj H
  go_enter Tryd.func50, Tryd.ntmps50
  go_wp2
  repeat (go_quiet (first | ((with_reducible refine gate_dst (N := 1) rfl ?_); refine box_event ?hg (N := 1) ?hd (cs := #[.string a0_0, .int .u8 a0_1, .int .i64 a0_2, .int .i64 a0_3, .int .i64 a0_4, .int .i64 a0_5, .int .i64 a0_6]) (t := 25) ?hr ?_; (case hd => rfl); (case hg => rfl); (case hr => first | (go_simp; done) | (go_simp; rfl)); intro gb616 hg w6 hbox hb; have n0_ := am (below_step bl hb); have n1_ := am (hbox); have n2_ := am ((by rw [hg]; exact (below_size bl) : w.heap.size ≤ gb616)); have n3_ := n2_; clear HB; have HB := n0_; have BK616 := n1_; have GW616 := n2_; have GE616 := n3_; clear n0_ n1_ n2_ n3_; clear hb hbox hg; obtain ⟨⟨hcz7_0, hcz7_1, hcz7_2, hcz7_3, hcz7_4, hcz7_5, hcz7_6⟩, hfz7_0, hfz7_1, hfz7_2, hfz7_3, hfz7_4, hfz7_5, hfz7_6⟩ := blkAll7 BK616)); try go_wp2)
  go_ret
  exact ⟨er, bs⟩
 rw [if_neg c5] at H
 have c5b0 : (a0_1 == 37) = false := beq_eq_false_iff_ne.mpr c5
 have c5b1 : (a0_1 != 37) = true := bne_iff_ne.mpr c5
 have H' := am H
 clear H
 go_enter Tryd.func50, Tryd.ntmps50
 go_wp2_with (first | ((with_reducible refine gate_dst (N := 1) rfl ?_); refine box_event ?hg (N := 1) ?hd (cs := #[.string a0_0, .int .u8 a0_1, .int .i64 a0_2, .int .i64 a0_3, .int .i64 a0_4, .int .i64 a0_5, .int .i64 a0_6]) (t := 25) ?hr ?_; (case hd => rfl); (case hg => rfl); (case hr => first | (go_simp; done) | (go_simp; rfl)); intro gb616 hg w8 hbox hb; have n0_ := am (below_step bl hb); have n1_ := am (hbox); have n2_ := am ((by rw [hg]; exact (below_size bl) : w.heap.size ≤ gb616)); have n3_ := n2_; clear HB; have HB := n0_; have BK616 := n1_; have GW616 := n2_; have GE616 := n3_; clear n0_ n1_ n2_ n3_; clear hb hbox hg; obtain ⟨⟨hcz9_0, hcz9_1, hcz9_2, hcz9_3, hcz9_4, hcz9_5, hcz9_6⟩, hfz9_0, hfz9_1, hfz9_2, hfz9_3, hfz9_4, hfz9_5, hfz9_6⟩ := blkAll7 BK616))
 repeat (go_quiet (first | ((with_reducible refine gate_dst (N := 1) rfl ?_); refine box_event ?hg (N := 1) ?hd (cs := #[.string a0_0, .int .u8 a0_1, .int .i64 a0_2, .int .i64 a0_3, .int .i64 a0_4, .int .i64 a0_5, .int .i64 a0_6]) (t := 25) ?hr ?_; (case hd => rfl); (case hg => rfl); (case hr => first | (go_simp; done) | (go_simp; rfl)); intro gb616 hg w8 hbox hb; have n0_ := am (below_step bl hb); have n1_ := am (hbox); have n2_ := am ((by rw [hg]; exact (below_size bl) : w.heap.size ≤ gb616)); have n3_ := n2_; clear HB; have HB := n0_; have BK616 := n1_; have GW616 := n2_; have GE616 := n3_; clear n0_ n1_ n2_ n3_; clear hb hbox hg; obtain ⟨⟨hcz9_0, hcz9_1, hcz9_2, hcz9_3, hcz9_4, hcz9_5, hcz9_6⟩, hfz9_0, hfz9_1, hfz9_2, hfz9_3, hfz9_4, hfz9_5, hfz9_6⟩ := blkAll7 BK616)); try go_wp2)
 go_loopg [3, 4] k (fun kq v3 v4 w' => ∃ (x3_1 : ByteArray) (x4_1 : Int), v3 = .string x3_1 ∧ v4 = .int .i64 x4_1 ∧ Aside0 (q_printed.l0 kq x3_1 x4_1 a0_0 a0_1 a0_2 a0_3 a0_4 a0_5 a0_6 = some r) ∧ Aside0 (kq ≤ k) ∧ Aside0 (w'.heap[gb616]? = some (.cells #[.string a0_0, .int .u8 a0_1, .int .i64 a0_2, .int .i64 a0_3, .int .i64 a0_4, .int .i64 a0_5, .int .i64 a0_6] 25 (0, 0))) ∧ Aside0 (Below w.heap.size w w'))
 case atStart => exact ⟨((⟨#[37]⟩ : ByteArray)), (0), tv, tv, H', ⟨Nat.le_refl _⟩, ⟨by refine bu ?_; exact BK616.out⟩, ⟨bs⟩⟩
 case round =>
  clear H'
  try clear c2
  try clear c2b0
  try clear c2b1
  try clear p2
  try clear c5
  try clear c5b0
  try clear c5b1
  try clear hcz4_0 hcz4_1 hcz4_2 hcz4_3 hcz4_4 hcz4_5 hcz4_6
  try clear hcz7_0 hcz7_1 hcz7_2 hcz7_3 hcz7_4 hcz7_5 hcz7_6
  try clear hcz9_0 hcz9_1 hcz9_2 hcz9_3 hcz9_4 hcz9_5 hcz9_6
  try clear hfz4_0 hfz4_1 hfz4_2 hfz4_3 hfz4_4 hfz4_5 hfz4_6
  try clear hfz7_0 hfz7_1 hfz7_2 hfz7_3 hfz7_4 hfz7_5 hfz7_6
  try clear hfz9_0 hfz9_1 hfz9_2 hfz9_3 hfz9_4 hfz9_5 hfz9_6
  obtain ⟨x3_1, x4_1, rfl, rfl, HA, HK1, BK616, HB⟩ := hrel
  cases gk with
  | zero => exact absurd HA.out (by simp [q_printed.l0])
  | succ k1 =>
   have H := HA.out
   clear HA
   simp only [q_printed.l0] at H
   by_cases c10 : x4_1 < 5
   ·rw [if_pos c10] at H
    have c10b0 := decide_eq_true c10
    clear c10
    by_cases c11 : 0 ≤ x4_1
    rotate_left
    ·rw [if_neg c11] at H
     exact absurd H (by simp)
    rw [if_pos c11] at H
    have c11b0 := decide_eq_true c11
    clear c11
    replace H := Option.bind_eq_some_iff.mp H
    obtain ⟨t617, A130, H⟩ := H
    replace H : (if t617 = 0 then (none) else (if (Int.tmod (wrap64 (Int.tdiv a0_2 t617)) 2) = 1 then (if x4_1 ≤ (wrap64 (x4_1 + 1)) then (if (wrap64 (x4_1 + 1)) ≤ 5 then (if x3_1.size + ((⟨#[45, 43, 32, 35, 48]⟩ : ByteArray).extract (x4_1 : Int).toNat ((wrap64 (x4_1 + 1)) : Int).toNat).size ≤ 9223372036854775807 then (q_printed.l0 k1 (x3_1 ++ ((⟨#[45, 43, 32, 35, 48]⟩ : ByteArray).extract (x4_1 : Int).toNat ((wrap64 (x4_1 + 1)) : Int).toNat)) (wrap64 (x4_1 + 1)) a0_0 a0_1 a0_2 a0_3 a0_4 a0_5 a0_6) else (none)) else (none)) else (none)) else (q_printed.l0 k1 x3_1 (wrap64 (x4_1 + 1)) a0_0 a0_1 a0_2 a0_3 a0_4 a0_5 a0_6))) = some r := H
    have A13 := am A130
    clear A130
    by_cases c14 : t617 = 0
    ·rw [if_pos c14] at H
     exact absurd H (by simp)
    rw [if_neg c14] at H
    have c14b0 : (t617 == 0) = false := beq_eq_false_iff_ne.mpr c14
    have c14b1 : (t617 != 0) = true := bne_iff_ne.mpr c14
    by_cases c15 : (Int.tmod (wrap64 (Int.tdiv a0_2 t617)) 2) = 1
    rotate_left
    ·rw [if_neg c15] at H
     have c15b0 : ((Int.tmod (wrap64 (Int.tdiv a0_2 t617)) 2) == 1) = false := beq_eq_false_iff_ne.mpr c15
     have c15b1 : ((Int.tmod (wrap64 (Int.tdiv a0_2 t617)) 2) != 1) = true := bne_iff_ne.mpr c15
     have H' := am H
     clear H
     obtain ⟨⟨hcz21_0, hcz21_1, hcz21_2, hcz21_3, hcz21_4, hcz21_5, hcz21_6⟩, hfz21_0, hfz21_1, hfz21_2, hfz21_3, hfz21_4, hfz21_5, hfz21_6⟩ := blkAll7 BK616
     have p12 : 0 ≤ (x4_1 : Int) := of_decide_eq_true od
     have q12 : x4_1 < (5 : Int) := of_decide_eq_true od
     have hx12 := bt_at (⟨#[45, 43, 32, 35, 48]⟩ : ByteArray) x4_1
     replace p12 := eq_true p12
     replace q12 := eq_true q12
     go_wp2
     repeat (go_quiet (first | (go_at_call 37; (with_reducible refine (q_bit.calls k1 (bt (⟨#[45, 43, 32, 35, 48]⟩ : ByteArray) x4_1) t617 _ A13.out).mono ?_); rintro e w' ⟨rfl, ⟨nd, rfl⟩⟩; (try first | exact ⟨rfl, _, World.drewN_drewN _ _ _⟩ | exact ⟨rfl, _, Eq.trans (World.drewN_drewN _ _ _) (congrArg (World.drewN _) (Nat.add_assoc _ _ _))⟩))); try go_wp2)
     go_roundg k1
     case measure => have := HK1.out; omega
     case rel => exact ⟨(x3_1), (wrap64 (x4_1 + 1)), tv, tv, H', ⟨by have := HK1.out; omega⟩, ⟨by refine bu ?_; exact BK616.out⟩, ⟨bs⟩⟩
    rw [if_pos c15] at H
    have c15b0 : ((Int.tmod (wrap64 (Int.tdiv a0_2 t617)) 2) == 1) = true := beq_iff_eq.mpr c15
    have c15b1 : ((Int.tmod (wrap64 (Int.tdiv a0_2 t617)) 2) != 1) = false := bne_eq_false_iff_eq.mpr c15
    clear c15
    have c16b0 := eq_true (of_decide_eq_true od : 0 ≤ x4_1)
    by_cases c17 : x4_1 ≤ (wrap64 (x4_1 + 1))
    rotate_left
    ·rw [if_neg c17] at H
     exact absurd H (by simp)
    rw [if_pos c17] at H
    have c17b0 := eq_true c17
    have c17b1 := decide_eq_true c17
    by_cases c18 : (wrap64 (x4_1 + 1)) ≤ 5
    rotate_left
    ·rw [if_neg c18] at H
     exact absurd H (by simp)
    rw [if_pos c18] at H
    have c18b0 := eq_true c18
    have c18b1 := decide_eq_true c18
    by_cases c19 : x3_1.size + ((⟨#[45, 43, 32, 35, 48]⟩ : ByteArray).extract (x4_1 : Int).toNat ((wrap64 (x4_1 + 1)) : Int).toNat).size ≤ 9223372036854775807
    rotate_left
    ·rw [if_neg c19] at H
     exact absurd H (by simp)
    rw [if_pos c19] at H
    have c19b0 := eq_true c19
    have c19b1 := decide_eq_true c19
    try have c19b2 : (9223372036854775807 < x3_1.size + ((⟨#[45, 43, 32, 35, 48]⟩ : ByteArray).extract (x4_1 : Int).toNat ((wrap64 (x4_1 + 1)) : Int).toNat).size) = False := eq_false (Nat.not_lt.2 c19)
    have H' := am H
    clear H
    obtain ⟨⟨hcz20_0, hcz20_1, hcz20_2, hcz20_3, hcz20_4, hcz20_5, hcz20_6⟩, hfz20_0, hfz20_1, hfz20_2, hfz20_3, hfz20_4, hfz20_5, hfz20_6⟩ := blkAll7 BK616
    have p12 : 0 ≤ (x4_1 : Int) := of_decide_eq_true od
    have q12 : x4_1 < (5 : Int) := of_decide_eq_true od
    have hx12 := bt_at (⟨#[45, 43, 32, 35, 48]⟩ : ByteArray) x4_1
    replace p12 := eq_true p12
    replace q12 := eq_true q12
    go_wp2
    repeat (go_quiet (first | (go_at_call 37; (with_reducible refine (q_bit.calls k1 (bt (⟨#[45, 43, 32, 35, 48]⟩ : ByteArray) x4_1) t617 _ A13.out).mono ?_); rintro e w' ⟨rfl, ⟨nd, rfl⟩⟩; (try first | exact ⟨rfl, _, World.drewN_drewN _ _ _⟩ | exact ⟨rfl, _, Eq.trans (World.drewN_drewN _ _ _) (congrArg (World.drewN _) (Nat.add_assoc _ _ _))⟩))); try go_wp2)
    go_roundg k1
    case measure => have := HK1.out; omega
    case rel => exact ⟨(x3_1 ++ ((⟨#[45, 43, 32, 35, 48]⟩ : ByteArray).extract (x4_1 : Int).toNat ((wrap64 (x4_1 + 1)) : Int).toNat)), (wrap64 (x4_1 + 1)), tv, tv, H', ⟨by have := HK1.out; omega⟩, ⟨by refine bu ?_; exact BK616.out⟩, ⟨bs⟩⟩
   rw [if_neg c10] at H
   have c10b0 := decide_eq_false c10
   clear c10
   have HC22 := am H
   clear H
   obtain ⟨⟨hcz23_0, hcz23_1, hcz23_2, hcz23_3, hcz23_4, hcz23_5, hcz23_6⟩, hfz23_0, hfz23_1, hfz23_2, hfz23_3, hfz23_4, hfz23_5, hfz23_6⟩ := blkAll7 BK616
   go_upto_if 33 with (fail)
   repeat (go_quiet (fail); go_upto_if 33 with (fail))
   go_cut [3] (fun v3 wc => ∃ (kq : Nat) (x3_21 : ByteArray), v3 = .string x3_21 ∧ Aside0 (q_printed.j1 kq x3_21 a0_0 a0_1 a0_2 a0_3 a0_4 a0_5 a0_6 = some r) ∧ Aside0 (kq ≤ k1) ∧ Aside0 (wc.heap[gb616]? = some (.cells #[.string a0_0, .int .u8 a0_1, .int .i64 a0_2, .int .i64 a0_3, .int .i64 a0_4, .int .i64 a0_5, .int .i64 a0_6] 25 (0, 0))) ∧ Aside0 (Below w.heap.size w wc))
   case first =>
    have H := HC22.out
    clear HC22
    by_cases c24 : a0_3 = 1
    rotate_left
    ·rw [if_neg c24] at H
     have c24b0 : (a0_3 == 1) = false := beq_eq_false_iff_ne.mpr c24
     have c24b1 : (a0_3 != 1) = true := bne_iff_ne.mpr c24
     (first | rw [c24b0] | (simp only [i64_w, i32_w]; rw [c24b0]) | skip)
     have H' := am H
     clear H
     go_wp2
     repeat (go_quiet (fail); try go_wp2)
     go_meet
     case rel => exact ⟨_, (x3_1), tv, H', ⟨by have := HK1.out; first | omega | exact Nat.le_refl _⟩, ⟨by refine bu ?_; exact BK616.out⟩, ⟨bs⟩⟩
    rw [if_pos c24] at H
    have c24b0 : (a0_3 == 1) = true := beq_iff_eq.mpr c24
    have c24b1 : (a0_3 != 1) = false := bne_eq_false_iff_eq.mpr c24
    clear c24
    (first | rw [c24b0] | (simp only [i64_w, i32_w]; rw [c24b0]) | skip)
    replace H := Option.bind_eq_some_iff.mp H
    obtain ⟨t618, A250, H⟩ := H
    replace H : (if x3_1.size + t618.size ≤ 9223372036854775807 then (q_printed.j1 k1 (x3_1 ++ t618) a0_0 a0_1 a0_2 a0_3 a0_4 a0_5 a0_6) else (none)) = some r := H
    have A25 := am A250
    clear A250
    by_cases c26 : x3_1.size + t618.size ≤ 9223372036854775807
    rotate_left
    ·rw [if_neg c26] at H
     exact absurd H (by simp)
    rw [if_pos c26] at H
    have c26b0 := eq_true c26
    have c26b1 := decide_eq_true c26
    try have c26b2 : (9223372036854775807 < x3_1.size + t618.size) = False := eq_false (Nat.not_lt.2 c26)
    have H' := am H
    clear H
    obtain ⟨⟨hcz27_0, hcz27_1, hcz27_2, hcz27_3, hcz27_4, hcz27_5, hcz27_6⟩, hfz27_0, hfz27_1, hfz27_2, hfz27_3, hfz27_4, hfz27_5, hfz27_6⟩ := blkAll7 BK616
    go_wp2_with (first | (go_at_call 60; (with_reducible refine (q_decimal.calls k1 a0_4 t618 _ A25.out).mono ?_); rintro e w28 ⟨rfl, hb⟩; have n0_ := am (blk_below (bu BK616.out) hb); have n1_ := am (below_step bs hb); clear BK616; clear HB; have BK616 := n0_; have HB := n1_; clear n0_ n1_; (try clear hb); (try clear hb2); (try clear hk); (try clear hi)))
    repeat (go_quiet (first | (go_at_call 60; (with_reducible refine (q_decimal.calls k1 a0_4 t618 _ A25.out).mono ?_); rintro e w28 ⟨rfl, hb⟩; have n0_ := am (blk_below (bu BK616.out) hb); have n1_ := am (below_step bs hb); clear BK616; clear HB; have BK616 := n0_; have HB := n1_; clear n0_ n1_; (try clear hb); (try clear hb2); (try clear hk); (try clear hi))); try go_wp2)
    go_meet
    case rel => exact ⟨_, (x3_1 ++ t618), tv, H', ⟨by have := HK1.out; first | omega | exact Nat.le_refl _⟩, ⟨by refine bu ?_; exact BK616.out⟩, ⟨bs⟩⟩
   case rest =>
    clear HC22
    try clear c1
    try clear p1
    try clear q1
    try clear hx1
    try clear c2
    try clear c2b0
    try clear c2b1
    try clear p2
    try clear c5
    try clear c5b0
    try clear c5b1
    try clear p6
    try clear c10
    try clear c10b0
    try clear c11
    try clear c11b0
    try clear p12
    try clear q12
    try clear hx12
    try clear c14
    try clear c14b0
    try clear c14b1
    try clear c15
    try clear c15b0
    try clear c15b1
    try clear c16
    try clear c16b0
    try clear c17
    try clear c17b0
    try clear c17b1
    try clear c18
    try clear c18b0
    try clear c18b1
    try clear c19
    try clear c19b0
    try clear c19b1
    try clear c19b2
    try clear c24
    try clear c24b0
    try clear c24b1
    try clear c26
    try clear c26b0
    try clear c26b1
    try clear c26b2
    try clear hcz20_0 hcz20_1 hcz20_2 hcz20_3 hcz20_4 hcz20_5 hcz20_6
    try clear hcz21_0 hcz21_1 hcz21_2 hcz21_3 hcz21_4 hcz21_5 hcz21_6
    try clear hcz23_0 hcz23_1 hcz23_2 hcz23_3 hcz23_4 hcz23_5 hcz23_6
    try clear hcz27_0 hcz27_1 hcz27_2 hcz27_3 hcz27_4 hcz27_5 hcz27_6
    try clear hcz4_0 hcz4_1 hcz4_2 hcz4_3 hcz4_4 hcz4_5 hcz4_6
    try clear hcz7_0 hcz7_1 hcz7_2 hcz7_3 hcz7_4 hcz7_5 hcz7_6
    try clear hcz9_0 hcz9_1 hcz9_2 hcz9_3 hcz9_4 hcz9_5 hcz9_6
    try clear hfz20_0 hfz20_1 hfz20_2 hfz20_3 hfz20_4 hfz20_5 hfz20_6
    try clear hfz21_0 hfz21_1 hfz21_2 hfz21_3 hfz21_4 hfz21_5 hfz21_6
    try clear hfz23_0 hfz23_1 hfz23_2 hfz23_3 hfz23_4 hfz23_5 hfz23_6
    try clear hfz27_0 hfz27_1 hfz27_2 hfz27_3 hfz27_4 hfz27_5 hfz27_6
    try clear hfz4_0 hfz4_1 hfz4_2 hfz4_3 hfz4_4 hfz4_5 hfz4_6
    try clear hfz7_0 hfz7_1 hfz7_2 hfz7_3 hfz7_4 hfz7_5 hfz7_6
    try clear hfz9_0 hfz9_1 hfz9_2 hfz9_3 hfz9_4 hfz9_5 hfz9_6
    try clear p12
    try clear p2
    try clear q12
    obtain ⟨kq, x3_21, rfl, HA, HJ21, BK616, HB⟩ := hcut
    cases kq with
    | zero => exact absurd HA.out (by simp [q_printed.j1])
    | succ kj21 =>
     have H := HA.out
     clear HA
     simp only [q_printed.j1] at H
     have HC29 := am H
     clear H
     obtain ⟨⟨hcz30_0, hcz30_1, hcz30_2, hcz30_3, hcz30_4, hcz30_5, hcz30_6⟩, hfz30_0, hfz30_1, hfz30_2, hfz30_3, hfz30_4, hfz30_5, hfz30_6⟩ := blkAll7 BK616
     go_upto_if 41 with (fail)
     repeat (go_quiet (fail); go_upto_if 41 with (fail))
     go_cut [3] (fun v3 wc => ∃ (kq : Nat) (x3_28 : ByteArray), v3 = .string x3_28 ∧ Aside0 (q_printed.j2 kq x3_28 a0_0 a0_1 a0_2 a0_3 a0_4 a0_5 a0_6 = some r) ∧ Aside0 (kq ≤ kj21) ∧ Aside0 (wc.heap[gb616]? = some (.cells #[.string a0_0, .int .u8 a0_1, .int .i64 a0_2, .int .i64 a0_3, .int .i64 a0_4, .int .i64 a0_5, .int .i64 a0_6] 25 (0, 0))) ∧ Aside0 (Below w.heap.size w wc))
     case first =>
      have H := HC29.out
      clear HC29
      by_cases c31 : a0_3 = 2
      rotate_left
      ·rw [if_neg c31] at H
       have c31b0 : (a0_3 == 2) = false := beq_eq_false_iff_ne.mpr c31
       have c31b1 : (a0_3 != 2) = true := bne_iff_ne.mpr c31
       (first | rw [c31b0] | (simp only [i64_w, i32_w]; rw [c31b0]) | skip)
       have H' := am H
       clear H
       go_wp2
       repeat (go_quiet (fail); try go_wp2)
       go_meet
       case rel => exact ⟨_, (x3_21), tv, H', ⟨by have := HK1.out; have := HJ21.out; first | omega | exact Nat.le_refl _⟩, ⟨by refine bu ?_; exact BK616.out⟩, ⟨bs⟩⟩
      rw [if_pos c31] at H
      have c31b0 : (a0_3 == 2) = true := beq_iff_eq.mpr c31
      have c31b1 : (a0_3 != 2) = false := bne_eq_false_iff_eq.mpr c31
      clear c31
      (first | rw [c31b0] | (simp only [i64_w, i32_w]; rw [c31b0]) | skip)
      by_cases c32 : x3_21.size + 1 ≤ 9223372036854775807
      rotate_left
      ·rw [if_neg c32] at H
       exact absurd H (by simp)
      rw [if_pos c32] at H
      have c32b0 := eq_true c32
      have c32b1 := decide_eq_true c32
      try have c32b2 : (9223372036854775807 < x3_21.size + 1) = False := eq_false (Nat.not_lt.2 c32)
      have H' := am H
      clear H
      go_wp2
      repeat (go_quiet (fail); try go_wp2)
      go_meet
      case rel => exact ⟨_, (x3_21 ++ (⟨#[42]⟩ : ByteArray)), tv, H', ⟨by have := HK1.out; have := HJ21.out; first | omega | exact Nat.le_refl _⟩, ⟨by refine bu ?_; exact BK616.out⟩, ⟨bs⟩⟩
     case rest =>
      clear HC29
      try clear c1
      try clear p1
      try clear q1
      try clear hx1
      try clear c2
      try clear c2b0
      try clear c2b1
      try clear p2
      try clear c3
      try clear c5
      try clear c5b0
      try clear c5b1
      try clear p6
      try clear c10
      try clear c10b0
      try clear c11
      try clear c11b0
      try clear p12
      try clear q12
      try clear hx12
      try clear c14
      try clear c14b0
      try clear c14b1
      try clear c15
      try clear c15b0
      try clear c15b1
      try clear c16
      try clear c16b0
      try clear c17
      try clear c17b0
      try clear c17b1
      try clear c18
      try clear c18b0
      try clear c18b1
      try clear c19
      try clear c19b0
      try clear c19b1
      try clear c19b2
      try clear c24
      try clear c24b0
      try clear c24b1
      try clear c26
      try clear c26b0
      try clear c26b1
      try clear c26b2
      try clear c31
      try clear c31b0
      try clear c31b1
      try clear c32
      try clear c32b0
      try clear c32b1
      try clear c32b2
      try clear hcz20_0 hcz20_1 hcz20_2 hcz20_3 hcz20_4 hcz20_5 hcz20_6
      try clear hcz21_0 hcz21_1 hcz21_2 hcz21_3 hcz21_4 hcz21_5 hcz21_6
      try clear hcz23_0 hcz23_1 hcz23_2 hcz23_3 hcz23_4 hcz23_5 hcz23_6
      try clear hcz27_0 hcz27_1 hcz27_2 hcz27_3 hcz27_4 hcz27_5 hcz27_6
      try clear hcz30_0 hcz30_1 hcz30_2 hcz30_3 hcz30_4 hcz30_5 hcz30_6
      try clear hcz4_0 hcz4_1 hcz4_2 hcz4_3 hcz4_4 hcz4_5 hcz4_6
      try clear hcz7_0 hcz7_1 hcz7_2 hcz7_3 hcz7_4 hcz7_5 hcz7_6
      try clear hcz9_0 hcz9_1 hcz9_2 hcz9_3 hcz9_4 hcz9_5 hcz9_6
      try clear hfz20_0 hfz20_1 hfz20_2 hfz20_3 hfz20_4 hfz20_5 hfz20_6
      try clear hfz21_0 hfz21_1 hfz21_2 hfz21_3 hfz21_4 hfz21_5 hfz21_6
      try clear hfz23_0 hfz23_1 hfz23_2 hfz23_3 hfz23_4 hfz23_5 hfz23_6
      try clear hfz27_0 hfz27_1 hfz27_2 hfz27_3 hfz27_4 hfz27_5 hfz27_6
      try clear hfz30_0 hfz30_1 hfz30_2 hfz30_3 hfz30_4 hfz30_5 hfz30_6
      try clear hfz4_0 hfz4_1 hfz4_2 hfz4_3 hfz4_4 hfz4_5 hfz4_6
      try clear hfz7_0 hfz7_1 hfz7_2 hfz7_3 hfz7_4 hfz7_5 hfz7_6
      try clear hfz9_0 hfz9_1 hfz9_2 hfz9_3 hfz9_4 hfz9_5 hfz9_6
      try clear p1
      try clear p12
      try clear p2
      try clear p6
      try clear q1
      try clear q12
      obtain ⟨kq, x3_28, rfl, HA, HJ28, BK616, HB⟩ := hcut
      cases kq with
      | zero => exact absurd HA.out (by simp [q_printed.j2])
      | succ kj28 =>
       have H := HA.out
       clear HA
       simp only [q_printed.j2] at H
       by_cases c33 : a0_5 = 1
       rotate_left
       ·rw [if_neg c33] at H
        have c33b0 : (a0_5 == 1) = false := beq_eq_false_iff_ne.mpr c33
        have c33b1 : (a0_5 != 1) = true := bne_iff_ne.mpr c33
        by_cases c53 : a0_5 = 2
        rotate_left
        ·rw [if_neg c53] at H
         have c53b0 : (a0_5 == 2) = false := beq_eq_false_iff_ne.mpr c53
         have c53b1 : (a0_5 != 2) = true := bne_iff_ne.mpr c53
         obtain ⟨y629, hy629⟩ : ∃ y_ : List Int, y_ = (([a0_1] : List Int)) := ⟨_, rfl⟩
         replace H : (if x3_28.size + (strOfNums y629).size ≤ 9223372036854775807 then (some (x3_28 ++ (strOfNums y629))) else (none)) = some r := by first | (rw [hy629]; with_reducible exact H) | (have H2_ := (Option.bind_some _ _).symm.trans H; rw [hy629]; with_reducible exact H2_) | (have H2_ := (Option.bind_some _ _).symm.trans H; with_reducible exact H2_) | with_reducible exact H | (rw [hy629]; exact H) | exact H
         have Ny629 := am hy629
         clear hy629
         by_cases c60 : x3_28.size + (strOfNums y629).size ≤ 9223372036854775807
         rotate_left
         ·rw [if_neg c60] at H
          exact absurd H (by simp)
         rw [if_pos c60] at H
         have c60b0 := eq_true c60
         have c60b1 := decide_eq_true c60
         try have c60b2 : (9223372036854775807 < x3_28.size + (strOfNums y629).size) = False := eq_false (Nat.not_lt.2 c60)
         obtain rfl := Option.some.inj H
         obtain ⟨⟨hcz61_0, hcz61_1, hcz61_2, hcz61_3, hcz61_4, hcz61_5, hcz61_6⟩, hfz61_0, hfz61_1, hfz61_2, hfz61_3, hfz61_4, hfz61_5, hfz61_6⟩ := blkAll7 BK616
         go_wp2_with (first | ((with_reducible refine gate_dst (N := 61) rfl ?_); refine Kd.R_lit (Kd.int .u8) _ 5 ?hg (N := 61) ?hd (xs := ([a0_1] : List Int)) (inner := [.int .u8 a0_1]) (ok := fun _ => True) (okp := fun _ => True) ?hr ?hp (fun _ hk => hk) trivial (Below.refl _ _) (Nat.le_refl _) (by simp) ?_; (case hd => rfl); (case hg => rfl); (case hr => first | (go_simp; done) | (go_simp; rfl)); (case hp => exact (Reps.one (show Kd.M (Kd.int .u8) _ _ _ a0_1 [.int .u8 a0_1] from rfl) (Reps.none _ _))); intro v630 w62 ho63 hb hg_ hnew_; clear hg_ hnew_; (first | rw [← Ny629.out] at ho63 | (simp only [Int.reduceToNat] at ho63; rw [← Ny629.out] at ho63)); have n0_ := am (Kd.R_lower ho63 (below_size bs)); have n1_ := am (blk_below (bu BK616.out) hb); have n2_ := am (below_step bs hb); clear BK616; clear HB; have HO631 := n0_; have BK616 := n1_; have HB := n2_; clear n0_ n1_ n2_; clear hb ho63; have hcv64 := own_string (P := Tryd.prog) Tryd.underlying60 Tryd.underlying5 Tryd.underlying9 (Kd.own_of_R HO631.out)))
         repeat (go_quiet (first | ((with_reducible refine gate_dst (N := 61) rfl ?_); refine Kd.R_lit (Kd.int .u8) _ 5 ?hg (N := 61) ?hd (xs := ([a0_1] : List Int)) (inner := [.int .u8 a0_1]) (ok := fun _ => True) (okp := fun _ => True) ?hr ?hp (fun _ hk => hk) trivial (Below.refl _ _) (Nat.le_refl _) (by simp) ?_; (case hd => rfl); (case hg => rfl); (case hr => first | (go_simp; done) | (go_simp; rfl)); (case hp => exact (Reps.one (show Kd.M (Kd.int .u8) _ _ _ a0_1 [.int .u8 a0_1] from rfl) (Reps.none _ _))); intro v630 w62 ho63 hb hg_ hnew_; clear hg_ hnew_; (first | rw [← Ny629.out] at ho63 | (simp only [Int.reduceToNat] at ho63; rw [← Ny629.out] at ho63)); have n0_ := am (Kd.R_lower ho63 (below_size bs)); have n1_ := am (blk_below (bu BK616.out) hb); have n2_ := am (below_step bs hb); clear BK616; clear HB; have HO631 := n0_; have BK616 := n1_; have HB := n2_; clear n0_ n1_ n2_; clear hb ho63; have hcv64 := own_string (P := Tryd.prog) Tryd.underlying60 Tryd.underlying5 Tryd.underlying9 (Kd.own_of_R HO631.out))); try go_wp2)
         go_ret
         exact ⟨er, bs⟩
        rw [if_pos c53] at H
        have c53b0 : (a0_5 == 2) = true := beq_iff_eq.mpr c53
        have c53b1 : (a0_5 != 2) = false := bne_eq_false_iff_eq.mpr c53
        clear c53
        by_cases c54 : x3_28.size + 2 ≤ 9223372036854775807
        rotate_left
        ·rw [if_neg c54] at H
         exact absurd H (by simp)
        rw [if_pos c54] at H
        have c54b0 := eq_true c54
        have c54b1 := decide_eq_true c54
        try have c54b2 : (9223372036854775807 < x3_28.size + 2) = False := eq_false (Nat.not_lt.2 c54)
        obtain ⟨y626, hy626⟩ : ∃ y_ : List Int, y_ = (([a0_1] : List Int)) := ⟨_, rfl⟩
        replace H : (if (x3_28 ++ (⟨#[46, 42]⟩ : ByteArray)).size + (strOfNums y626).size ≤ 9223372036854775807 then (some ((x3_28 ++ (⟨#[46, 42]⟩ : ByteArray)) ++ (strOfNums y626))) else (none)) = some r := by first | (rw [hy626]; with_reducible exact H) | (have H2_ := (Option.bind_some _ _).symm.trans H; rw [hy626]; with_reducible exact H2_) | (have H2_ := (Option.bind_some _ _).symm.trans H; with_reducible exact H2_) | with_reducible exact H | (rw [hy626]; exact H) | exact H
        have Ny626 := am hy626
        clear hy626
        by_cases c55 : (x3_28 ++ (⟨#[46, 42]⟩ : ByteArray)).size + (strOfNums y626).size ≤ 9223372036854775807
        rotate_left
        ·rw [if_neg c55] at H
         exact absurd H (by simp)
        rw [if_pos c55] at H
        have c55b0 := eq_true c55
        have c55b1 := decide_eq_true c55
        try have c55b2 : (9223372036854775807 < (x3_28 ++ (⟨#[46, 42]⟩ : ByteArray)).size + (strOfNums y626).size) = False := eq_false (Nat.not_lt.2 c55)
        (try (have c55b3 : (9223372036854775807 < x3_28.size + 2 + (strOfNums y626).size) = False := by have h_ := c55b2; simp only [ByteArray.size_append] at h_; exact h_))
        obtain rfl := Option.some.inj H
        obtain ⟨⟨hcz56_0, hcz56_1, hcz56_2, hcz56_3, hcz56_4, hcz56_5, hcz56_6⟩, hfz56_0, hfz56_1, hfz56_2, hfz56_3, hfz56_4, hfz56_5, hfz56_6⟩ := blkAll7 BK616
        go_wp2_with (first | ((with_reducible refine gate_dst (N := 61) rfl ?_); refine Kd.R_lit (Kd.int .u8) _ 5 ?hg (N := 61) ?hd (xs := ([a0_1] : List Int)) (inner := [.int .u8 a0_1]) (ok := fun _ => True) (okp := fun _ => True) ?hr ?hp (fun _ hk => hk) trivial (Below.refl _ _) (Nat.le_refl _) (by simp) ?_; (case hd => rfl); (case hg => rfl); (case hr => first | (go_simp; done) | (go_simp; rfl)); (case hp => exact (Reps.one (show Kd.M (Kd.int .u8) _ _ _ a0_1 [.int .u8 a0_1] from rfl) (Reps.none _ _))); intro v627 w57 ho58 hb hg_ hnew_; clear hg_ hnew_; (first | rw [← Ny626.out] at ho58 | (simp only [Int.reduceToNat] at ho58; rw [← Ny626.out] at ho58)); have n0_ := am (Kd.R_lower ho58 (below_size bs)); have n1_ := am (blk_below (bu BK616.out) hb); have n2_ := am (below_step bs hb); clear BK616; clear HB; have HO628 := n0_; have BK616 := n1_; have HB := n2_; clear n0_ n1_ n2_; clear hb ho58; have hcv59 := own_string (P := Tryd.prog) Tryd.underlying60 Tryd.underlying5 Tryd.underlying9 (Kd.own_of_R HO628.out)))
        repeat (go_quiet (first | ((with_reducible refine gate_dst (N := 61) rfl ?_); refine Kd.R_lit (Kd.int .u8) _ 5 ?hg (N := 61) ?hd (xs := ([a0_1] : List Int)) (inner := [.int .u8 a0_1]) (ok := fun _ => True) (okp := fun _ => True) ?hr ?hp (fun _ hk => hk) trivial (Below.refl _ _) (Nat.le_refl _) (by simp) ?_; (case hd => rfl); (case hg => rfl); (case hr => first | (go_simp; done) | (go_simp; rfl)); (case hp => exact (Reps.one (show Kd.M (Kd.int .u8) _ _ _ a0_1 [.int .u8 a0_1] from rfl) (Reps.none _ _))); intro v627 w57 ho58 hb hg_ hnew_; clear hg_ hnew_; (first | rw [← Ny626.out] at ho58 | (simp only [Int.reduceToNat] at ho58; rw [← Ny626.out] at ho58)); have n0_ := am (Kd.R_lower ho58 (below_size bs)); have n1_ := am (blk_below (bu BK616.out) hb); have n2_ := am (below_step bs hb); clear BK616; clear HB; have HO628 := n0_; have BK616 := n1_; have HB := n2_; clear n0_ n1_ n2_; clear hb ho58; have hcv59 := own_string (P := Tryd.prog) Tryd.underlying60 Tryd.underlying5 Tryd.underlying9 (Kd.own_of_R HO628.out))); try go_wp2)
        go_ret
        exact ⟨er, bs⟩
       rw [if_pos c33] at H
       have c33b0 : (a0_5 == 1) = true := beq_iff_eq.mpr c33
       have c33b1 : (a0_5 != 1) = false := bne_eq_false_iff_eq.mpr c33
       clear c33
       replace H := Option.bind_eq_some_iff.mp H
       obtain ⟨t619, A340, H⟩ := H
       replace H : (if 1 + t619.size ≤ 9223372036854775807 then (if x3_28.size + ((⟨#[46]⟩ : ByteArray) ++ t619).size ≤ 9223372036854775807 then (if a0_5 = 2 then (if (x3_28 ++ ((⟨#[46]⟩ : ByteArray) ++ t619)).size + 2 ≤ 9223372036854775807 then ((some (([a0_1] : List Int) : List Int)).bind fun y620 => (if ((x3_28 ++ ((⟨#[46]⟩ : ByteArray) ++ t619)) ++ (⟨#[46, 42]⟩ : ByteArray)).size + (strOfNums y620).size ≤ 9223372036854775807 then (some (((x3_28 ++ ((⟨#[46]⟩ : ByteArray) ++ t619)) ++ (⟨#[46, 42]⟩ : ByteArray)) ++ (strOfNums y620))) else (none))) else (none)) else ((some (([a0_1] : List Int) : List Int)).bind fun y623 => (if (x3_28 ++ ((⟨#[46]⟩ : ByteArray) ++ t619)).size + (strOfNums y623).size ≤ 9223372036854775807 then (some ((x3_28 ++ ((⟨#[46]⟩ : ByteArray) ++ t619)) ++ (strOfNums y623))) else (none)))) else (none)) else (none)) = some r := H
       have A34 := am A340
       clear A340
       by_cases c35 : 1 + t619.size ≤ 9223372036854775807
       rotate_left
       ·rw [if_neg c35] at H
        exact absurd H (by simp)
       rw [if_pos c35] at H
       have c35b0 := eq_true c35
       have c35b1 := decide_eq_true c35
       try have c35b2 : (9223372036854775807 < 1 + t619.size) = False := eq_false (Nat.not_lt.2 c35)
       by_cases c36 : x3_28.size + ((⟨#[46]⟩ : ByteArray) ++ t619).size ≤ 9223372036854775807
       rotate_left
       ·rw [if_neg c36] at H
        exact absurd H (by simp)
       rw [if_pos c36] at H
       have c36b0 := eq_true c36
       have c36b1 := decide_eq_true c36
       try have c36b2 : (9223372036854775807 < x3_28.size + ((⟨#[46]⟩ : ByteArray) ++ t619).size) = False := eq_false (Nat.not_lt.2 c36)
       (try (have c36b3 : (9223372036854775807 < x3_28.size + (1 + t619.size)) = False := by have h_ := c36b2; simp only [ByteArray.size_append] at h_; exact h_))
       by_cases c37 : a0_5 = 2
       rotate_left
       ·rw [if_neg c37] at H
        have c37b0 : (a0_5 == 2) = false := beq_eq_false_iff_ne.mpr c37
        have c37b1 : (a0_5 != 2) = true := bne_iff_ne.mpr c37
        obtain ⟨y623, hy623⟩ : ∃ y_ : List Int, y_ = (([a0_1] : List Int)) := ⟨_, rfl⟩
        replace H : (if (x3_28 ++ ((⟨#[46]⟩ : ByteArray) ++ t619)).size + (strOfNums y623).size ≤ 9223372036854775807 then (some ((x3_28 ++ ((⟨#[46]⟩ : ByteArray) ++ t619)) ++ (strOfNums y623))) else (none)) = some r := by first | (rw [hy623]; with_reducible exact H) | (have H2_ := (Option.bind_some _ _).symm.trans H; rw [hy623]; with_reducible exact H2_) | (have H2_ := (Option.bind_some _ _).symm.trans H; with_reducible exact H2_) | with_reducible exact H | (rw [hy623]; exact H) | exact H
        have Ny623 := am hy623
        clear hy623
        by_cases c46 : (x3_28 ++ ((⟨#[46]⟩ : ByteArray) ++ t619)).size + (strOfNums y623).size ≤ 9223372036854775807
        rotate_left
        ·rw [if_neg c46] at H
         exact absurd H (by simp)
        rw [if_pos c46] at H
        have c46b0 := eq_true c46
        have c46b1 := decide_eq_true c46
        try have c46b2 : (9223372036854775807 < (x3_28 ++ ((⟨#[46]⟩ : ByteArray) ++ t619)).size + (strOfNums y623).size) = False := eq_false (Nat.not_lt.2 c46)
        (try (have c46b3 : (9223372036854775807 < x3_28.size + (1 + t619.size) + (strOfNums y623).size) = False := by have h_ := c46b2; simp only [ByteArray.size_append] at h_; exact h_))
        obtain rfl := Option.some.inj H
        obtain ⟨⟨hcz47_0, hcz47_1, hcz47_2, hcz47_3, hcz47_4, hcz47_5, hcz47_6⟩, hfz47_0, hfz47_1, hfz47_2, hfz47_3, hfz47_4, hfz47_5, hfz47_6⟩ := blkAll7 BK616
        go_wp2_with (first | (go_at_call 60; (with_reducible refine (q_decimal.calls kj28 a0_6 t619 _ A34.out).mono ?_); rintro e w48 ⟨rfl, hb⟩; have n0_ := am (blk_below (bu BK616.out) hb); have n1_ := am (below_step bs hb); clear BK616; clear HB; have BK616 := n0_; have HB := n1_; clear n0_ n1_; (try clear hb); (try clear hb2); (try clear hk); (try clear hi); obtain ⟨⟨hcz49_0, hcz49_1, hcz49_2, hcz49_3, hcz49_4, hcz49_5, hcz49_6⟩, hfz49_0, hfz49_1, hfz49_2, hfz49_3, hfz49_4, hfz49_5, hfz49_6⟩ := blkAll7 BK616) | ((with_reducible refine gate_dst (N := 61) rfl ?_); refine Kd.R_lit (Kd.int .u8) _ 5 ?hg (N := 61) ?hd (xs := ([a0_1] : List Int)) (inner := [.int .u8 a0_1]) (ok := fun _ => True) (okp := fun _ => True) ?hr ?hp (fun _ hk => hk) trivial (Below.refl _ _) (Nat.le_refl _) (by simp) ?_; (case hd => rfl); (case hg => rfl); (case hr => first | (go_simp; done) | (go_simp; rfl)); (case hp => exact (Reps.one (show Kd.M (Kd.int .u8) _ _ _ a0_1 [.int .u8 a0_1] from rfl) (Reps.none _ _))); intro v624 w50 ho51 hb hg_ hnew_; clear hg_ hnew_; (first | rw [← Ny623.out] at ho51 | (simp only [Int.reduceToNat] at ho51; rw [← Ny623.out] at ho51)); have n0_ := am (Kd.R_lower ho51 (below_size bs)); have n1_ := am (blk_below (bu BK616.out) hb); have n2_ := am (below_step bs hb); clear BK616; clear HB; have HO625 := n0_; have BK616 := n1_; have HB := n2_; clear n0_ n1_ n2_; clear hb ho51; have hcv52 := own_string (P := Tryd.prog) Tryd.underlying60 Tryd.underlying5 Tryd.underlying9 (Kd.own_of_R HO625.out)))
        repeat (go_quiet (first | (go_at_call 60; (with_reducible refine (q_decimal.calls kj28 a0_6 t619 _ A34.out).mono ?_); rintro e w48 ⟨rfl, hb⟩; have n0_ := am (blk_below (bu BK616.out) hb); have n1_ := am (below_step bs hb); clear BK616; clear HB; have BK616 := n0_; have HB := n1_; clear n0_ n1_; (try clear hb); (try clear hb2); (try clear hk); (try clear hi); obtain ⟨⟨hcz49_0, hcz49_1, hcz49_2, hcz49_3, hcz49_4, hcz49_5, hcz49_6⟩, hfz49_0, hfz49_1, hfz49_2, hfz49_3, hfz49_4, hfz49_5, hfz49_6⟩ := blkAll7 BK616) | ((with_reducible refine gate_dst (N := 61) rfl ?_); refine Kd.R_lit (Kd.int .u8) _ 5 ?hg (N := 61) ?hd (xs := ([a0_1] : List Int)) (inner := [.int .u8 a0_1]) (ok := fun _ => True) (okp := fun _ => True) ?hr ?hp (fun _ hk => hk) trivial (Below.refl _ _) (Nat.le_refl _) (by simp) ?_; (case hd => rfl); (case hg => rfl); (case hr => first | (go_simp; done) | (go_simp; rfl)); (case hp => exact (Reps.one (show Kd.M (Kd.int .u8) _ _ _ a0_1 [.int .u8 a0_1] from rfl) (Reps.none _ _))); intro v624 w50 ho51 hb hg_ hnew_; clear hg_ hnew_; (first | rw [← Ny623.out] at ho51 | (simp only [Int.reduceToNat] at ho51; rw [← Ny623.out] at ho51)); have n0_ := am (Kd.R_lower ho51 (below_size bs)); have n1_ := am (blk_below (bu BK616.out) hb); have n2_ := am (below_step bs hb); clear BK616; clear HB; have HO625 := n0_; have BK616 := n1_; have HB := n2_; clear n0_ n1_ n2_; clear hb ho51; have hcv52 := own_string (P := Tryd.prog) Tryd.underlying60 Tryd.underlying5 Tryd.underlying9 (Kd.own_of_R HO625.out))); try go_wp2)
        go_ret
        exact ⟨er, bs⟩
       rw [if_pos c37] at H
       have c37b0 : (a0_5 == 2) = true := beq_iff_eq.mpr c37
       have c37b1 : (a0_5 != 2) = false := bne_eq_false_iff_eq.mpr c37
       clear c37
       by_cases c38 : (x3_28 ++ ((⟨#[46]⟩ : ByteArray) ++ t619)).size + 2 ≤ 9223372036854775807
       rotate_left
       ·rw [if_neg c38] at H
        exact absurd H (by simp)
       rw [if_pos c38] at H
       have c38b0 := eq_true c38
       have c38b1 := decide_eq_true c38
       try have c38b2 : (9223372036854775807 < (x3_28 ++ ((⟨#[46]⟩ : ByteArray) ++ t619)).size + 2) = False := eq_false (Nat.not_lt.2 c38)
       (try (have c38b3 : (9223372036854775807 < x3_28.size + (1 + t619.size) + 2) = False := by have h_ := c38b2; simp only [ByteArray.size_append] at h_; exact h_))
       obtain ⟨y620, hy620⟩ : ∃ y_ : List Int, y_ = (([a0_1] : List Int)) := ⟨_, rfl⟩
       replace H : (if ((x3_28 ++ ((⟨#[46]⟩ : ByteArray) ++ t619)) ++ (⟨#[46, 42]⟩ : ByteArray)).size + (strOfNums y620).size ≤ 9223372036854775807 then (some (((x3_28 ++ ((⟨#[46]⟩ : ByteArray) ++ t619)) ++ (⟨#[46, 42]⟩ : ByteArray)) ++ (strOfNums y620))) else (none)) = some r := by first | (rw [hy620]; with_reducible exact H) | (have H2_ := (Option.bind_some _ _).symm.trans H; rw [hy620]; with_reducible exact H2_) | (have H2_ := (Option.bind_some _ _).symm.trans H; with_reducible exact H2_) | with_reducible exact H | (rw [hy620]; exact H) | exact H
       have Ny620 := am hy620
       clear hy620
       by_cases c39 : ((x3_28 ++ ((⟨#[46]⟩ : ByteArray) ++ t619)) ++ (⟨#[46, 42]⟩ : ByteArray)).size + (strOfNums y620).size ≤ 9223372036854775807
       rotate_left
       ·rw [if_neg c39] at H
        exact absurd H (by simp)
       rw [if_pos c39] at H
       have c39b0 := eq_true c39
       have c39b1 := decide_eq_true c39
       try have c39b2 : (9223372036854775807 < ((x3_28 ++ ((⟨#[46]⟩ : ByteArray) ++ t619)) ++ (⟨#[46, 42]⟩ : ByteArray)).size + (strOfNums y620).size) = False := eq_false (Nat.not_lt.2 c39)
       (try (have c39b3 : (9223372036854775807 < x3_28.size + (1 + t619.size) + 2 + (strOfNums y620).size) = False := by have h_ := c39b2; simp only [ByteArray.size_append] at h_; exact h_))
       obtain rfl := Option.some.inj H
       obtain ⟨⟨hcz40_0, hcz40_1, hcz40_2, hcz40_3, hcz40_4, hcz40_5, hcz40_6⟩, hfz40_0, hfz40_1, hfz40_2, hfz40_3, hfz40_4, hfz40_5, hfz40_6⟩ := blkAll7 BK616
       go_wp2_with (first | (go_at_call 60; (with_reducible refine (q_decimal.calls kj28 a0_6 t619 _ A34.out).mono ?_); rintro e w41 ⟨rfl, hb⟩; have n0_ := am (blk_below (bu BK616.out) hb); have n1_ := am (below_step bs hb); clear BK616; clear HB; have BK616 := n0_; have HB := n1_; clear n0_ n1_; (try clear hb); (try clear hb2); (try clear hk); (try clear hi); obtain ⟨⟨hcz42_0, hcz42_1, hcz42_2, hcz42_3, hcz42_4, hcz42_5, hcz42_6⟩, hfz42_0, hfz42_1, hfz42_2, hfz42_3, hfz42_4, hfz42_5, hfz42_6⟩ := blkAll7 BK616) | ((with_reducible refine gate_dst (N := 61) rfl ?_); refine Kd.R_lit (Kd.int .u8) _ 5 ?hg (N := 61) ?hd (xs := ([a0_1] : List Int)) (inner := [.int .u8 a0_1]) (ok := fun _ => True) (okp := fun _ => True) ?hr ?hp (fun _ hk => hk) trivial (Below.refl _ _) (Nat.le_refl _) (by simp) ?_; (case hd => rfl); (case hg => rfl); (case hr => first | (go_simp; done) | (go_simp; rfl)); (case hp => exact (Reps.one (show Kd.M (Kd.int .u8) _ _ _ a0_1 [.int .u8 a0_1] from rfl) (Reps.none _ _))); intro v621 w43 ho44 hb hg_ hnew_; clear hg_ hnew_; (first | rw [← Ny620.out] at ho44 | (simp only [Int.reduceToNat] at ho44; rw [← Ny620.out] at ho44)); have n0_ := am (Kd.R_lower ho44 (below_size bs)); have n1_ := am (blk_below (bu BK616.out) hb); have n2_ := am (below_step bs hb); clear BK616; clear HB; have HO622 := n0_; have BK616 := n1_; have HB := n2_; clear n0_ n1_ n2_; clear hb ho44; have hcv45 := own_string (P := Tryd.prog) Tryd.underlying60 Tryd.underlying5 Tryd.underlying9 (Kd.own_of_R HO622.out)))
       repeat (go_quiet (first | (go_at_call 60; (with_reducible refine (q_decimal.calls kj28 a0_6 t619 _ A34.out).mono ?_); rintro e w41 ⟨rfl, hb⟩; have n0_ := am (blk_below (bu BK616.out) hb); have n1_ := am (below_step bs hb); clear BK616; clear HB; have BK616 := n0_; have HB := n1_; clear n0_ n1_; (try clear hb); (try clear hb2); (try clear hk); (try clear hi); obtain ⟨⟨hcz42_0, hcz42_1, hcz42_2, hcz42_3, hcz42_4, hcz42_5, hcz42_6⟩, hfz42_0, hfz42_1, hfz42_2, hfz42_3, hfz42_4, hfz42_5, hfz42_6⟩ := blkAll7 BK616) | ((with_reducible refine gate_dst (N := 61) rfl ?_); refine Kd.R_lit (Kd.int .u8) _ 5 ?hg (N := 61) ?hd (xs := ([a0_1] : List Int)) (inner := [.int .u8 a0_1]) (ok := fun _ => True) (okp := fun _ => True) ?hr ?hp (fun _ hk => hk) trivial (Below.refl _ _) (Nat.le_refl _) (by simp) ?_; (case hd => rfl); (case hg => rfl); (case hr => first | (go_simp; done) | (go_simp; rfl)); (case hp => exact (Reps.one (show Kd.M (Kd.int .u8) _ _ _ a0_1 [.int .u8 a0_1] from rfl) (Reps.none _ _))); intro v621 w43 ho44 hb hg_ hnew_; clear hg_ hnew_; (first | rw [← Ny620.out] at ho44 | (simp only [Int.reduceToNat] at ho44; rw [← Ny620.out] at ho44)); have n0_ := am (Kd.R_lower ho44 (below_size bs)); have n1_ := am (blk_below (bu BK616.out) hb); have n2_ := am (below_step bs hb); clear BK616; clear HB; have HO622 := n0_; have BK616 := n1_; have HB := n2_; clear n0_ n1_ n2_; clear hb ho44; have hcv45 := own_string (P := Tryd.prog) Tryd.underlying60 Tryd.underlying5 Tryd.underlying9 (Kd.own_of_R HO622.out))); try go_wp2)
       go_ret
       exact ⟨er, bs⟩
end Go.Proofs.YtlmijjekaelhcaaDoor.EDi
