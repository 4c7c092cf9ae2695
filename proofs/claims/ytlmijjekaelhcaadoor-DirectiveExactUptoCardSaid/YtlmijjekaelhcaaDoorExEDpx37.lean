/-
 A text of this session's own.
-/
import Derived.Test.YtlmijjekaelhcaaDoorExA0
import Derived.Test.YtlmijjekaelhcaaDoorExEDpx0
import Derived.Test.YtlmijjekaelhcaaDoorExEDpx36
namespace Go.Proofs.YtlmijjekaelhcaaDoor.EDi
open Go.RowKit Go.Proofs.YtlmijjekaelhcaaDoorW.PrintWords Go.Proofs.YtlmijjekaelhcaaDoorW.PrintLast Go.Proofs.YtlmijjekaelhcaaDoorW.PrintMore
attribute [local go_sem] max2_int min2_int max_two min_two max_three min_three max_four min_four
set_option linter.unusedVariables false
mutual
def q_marked.j1 : Nat → ByteArray → Int → Int → Int → Int → Option (Int × Int × Int)
 | 0, _, _, _, _, _ => none
 | k + 1, x0, x6, x580000, x580001, x580002 => if x6 < (x0.size : Int) then (if 0 ≤ x6 then (q_marked.j2 k x0 x6 ((bt x0 x6) == 42) x6 x580001 x580002) else (none)) else (q_marked.j2 k x0 x6 false x6 x580001 x580002)
def q_marked.j2 : Nat → ByteArray → Int → Bool → Int → Int → Int → Option (Int × Int × Int)
 | 0, _, _, _, _, _, _ => none
 | k + 1, x0, x6, x33, x580000, x580001, x580002 => if x33 = true then (q_marked.j4 k x0 (wrap64 (x6 + 1)) x580000 x580001 x580002) else (q_marked.l1 k x0 x6 x580000 x580001 x580002)
def q_marked.j4 : Nat → ByteArray → Int → Int → Int → Int → Option (Int × Int × Int)
 | 0, _, _, _, _, _ => none
 | k + 1, x0, x6, x580000, x580001, x580002 => if x6 < (x0.size : Int) then (if 0 ≤ x6 then (q_marked.j5 k x0 x6 ((bt x0 x6) == 46) x580000 x6 x580002) else (none)) else (q_marked.j5 k x0 x6 false x580000 x6 x580002)
def q_marked.j5 : Nat → ByteArray → Int → Bool → Int → Int → Int → Option (Int × Int × Int)
 | 0, _, _, _, _, _, _ => none
 | k + 1, x0, x6, x59, x580000, x580001, x580002 => if x59 = true then (if (wrap64 (x6 + 1)) < (x0.size : Int) then (if 0 ≤ (wrap64 (x6 + 1)) then (q_marked.j6 k x0 (wrap64 (x6 + 1)) ((bt x0 (wrap64 (x6 + 1))) == 42) x580000 x580001 x580002) else (none)) else (q_marked.j6 k x0 (wrap64 (x6 + 1)) false x580000 x580001 x580002)) else (some (x580000, x580001, x6))
def q_marked.j6 : Nat → ByteArray → Int → Bool → Int → Int → Int → Option (Int × Int × Int)
 | 0, _, _, _, _, _, _ => none
 | k + 1, x0, x6, x71, x580000, x580001, x580002 => if x71 = true then (some (x580000, x580001, wrap64 (x6 + 1))) else (q_marked.l2 k x0 x6 x580000 x580001 x580002)
def q_marked.l2 : Nat → ByteArray → Int → Int → Int → Int → Option (Int × Int × Int)
 | 0, _, _, _, _, _ => none
 | k + 1, x0, x6, x580000, x580001, x580002 => if x6 < (x0.size : Int) then (if 0 ≤ x6 then ((q_digit.f (bt x0 x6)).bind fun t582 => (if t582 = true then (q_marked.l2 k x0 (wrap64 (x6 + 1)) x580000 x580001 x580002) else (some (x580000, x580001, x6)))) else (none)) else (some (x580000, x580001, x6))
def q_marked.l1 : Nat → ByteArray → Int → Int → Int → Int → Option (Int × Int × Int)
 | 0, _, _, _, _, _ => none
 | k + 1, x0, x6, x580000, x580001, x580002 => if x6 < (x0.size : Int) then (if 0 ≤ x6 then ((q_digit.f (bt x0 x6)).bind fun t581 => (if t581 = true then (q_marked.l1 k x0 (wrap64 (x6 + 1)) x580000 x580001 x580002) else (q_marked.j4 k x0 x6 x580000 x580001 x580002))) else (none)) else (q_marked.j4 k x0 x6 x580000 x580001 x580002)
def q_marked.l0 : Nat → ByteArray → Int → Int → Int → Int → Option (Int × Int × Int)
 | 0, _, _, _, _, _ => none
 | k + 1, x0, x6, x580000, x580001, x580002 => if x6 < (x0.size : Int) then (if 0 ≤ x6 then ((q_at.f k (⟨#[45, 43, 32, 35, 48]⟩ : ByteArray) (bt x0 x6)).bind fun t580 => (if t580 ≥ 0 then (q_marked.l0 k x0 (wrap64 (x6 + 1)) x580000 x580001 x580002) else (q_marked.j1 k x0 x6 x580000 x580001 x580002))) else (none)) else (q_marked.j1 k x0 x6 x580000 x580001 x580002)
end
def q_marked.f (k : Nat) (a0 : ByteArray) (a1 : Int) : Option (Int × Int × Int) := q_marked.l0 k a0 (wrap64 (a1 + 1)) 0 0 0
theorem q_marked.mono_l : ∀ k, (∀ y0 y1 y2 y3 y4, LeO (q_marked.j1 k y0 y1 y2 y3 y4) (q_marked.j1 (k + 1) y0 y1 y2 y3 y4)) ∧ (∀ y0 y1 y2 y3 y4 y5, LeO (q_marked.j2 k y0 y1 y2 y3 y4 y5) (q_marked.j2 (k + 1) y0 y1 y2 y3 y4 y5)) ∧ (∀ y0 y1 y2 y3 y4, LeO (q_marked.j4 k y0 y1 y2 y3 y4) (q_marked.j4 (k + 1) y0 y1 y2 y3 y4)) ∧ (∀ y0 y1 y2 y3 y4 y5, LeO (q_marked.j5 k y0 y1 y2 y3 y4 y5) (q_marked.j5 (k + 1) y0 y1 y2 y3 y4 y5)) ∧ (∀ y0 y1 y2 y3 y4 y5, LeO (q_marked.j6 k y0 y1 y2 y3 y4 y5) (q_marked.j6 (k + 1) y0 y1 y2 y3 y4 y5)) ∧ (∀ y0 y1 y2 y3 y4, LeO (q_marked.l2 k y0 y1 y2 y3 y4) (q_marked.l2 (k + 1) y0 y1 y2 y3 y4)) ∧ (∀ y0 y1 y2 y3 y4, LeO (q_marked.l1 k y0 y1 y2 y3 y4) (q_marked.l1 (k + 1) y0 y1 y2 y3 y4)) ∧ (∀ y0 y1 y2 y3 y4, LeO (q_marked.l0 k y0 y1 y2 y3 y4) (q_marked.l0 (k + 1) y0 y1 y2 y3 y4))
 | 0 => ⟨fun _ _ _ _ _ r h => by simp [q_marked.j1] at h, fun _ _ _ _ _ _ r h => by simp [q_marked.j2] at h, fun _ _ _ _ _ r h => by simp [q_marked.j4] at h, fun _ _ _ _ _ _ r h => by simp [q_marked.j5] at h, fun _ _ _ _ _ _ r h => by simp [q_marked.j6] at h, fun _ _ _ _ _ r h => by simp [q_marked.l2] at h, fun _ _ _ _ _ r h => by simp [q_marked.l1] at h, fun _ _ _ _ _ r h => by simp [q_marked.l0] at h⟩
 | k + 1 => by
  obtain ⟨ih0, ih1, ih2, ih3, ih4, ih5, ih6, ih7⟩ := q_marked.mono_l k
  refine ⟨?_, ?_, ?_, ?_, ?_, ?_, ?_, ?_⟩ <;> intros
  all_goals first | unfold q_marked.j1 | unfold q_marked.j2 | unfold q_marked.j4 | unfold q_marked.j5 | unfold q_marked.j6 | unfold q_marked.l2 | unfold q_marked.l1 | unfold q_marked.l0
  all_goals repeat' first
  | (with_reducible exact ih0 _ _ _ _ _)
  | (with_reducible exact ih1 _ _ _ _ _ _)
  | (with_reducible exact ih2 _ _ _ _ _)
  | (with_reducible exact ih3 _ _ _ _ _ _)
  | (with_reducible exact ih4 _ _ _ _ _ _)
  | (with_reducible exact ih5 _ _ _ _ _)
  | (with_reducible exact ih6 _ _ _ _ _)
  | (with_reducible exact ih7 _ _ _ _ _)
  | (with_reducible exact q_at.mono _ _ _)
  | (with_reducible exact LeO.refl _)
  | (with_reducible exact LeO.none _)
  | (with_reducible refine LeO.ite ?_ ?_)
  | (with_reducible refine LeO.bind ?_ (fun _ => ?_))
  | exact ih0 _ _ _ _ _
  | exact ih1 _ _ _ _ _ _
  | exact ih2 _ _ _ _ _
  | exact ih3 _ _ _ _ _ _
  | exact ih4 _ _ _ _ _ _
  | exact ih5 _ _ _ _ _
  | exact ih6 _ _ _ _ _
  | exact ih7 _ _ _ _ _
  | exact q_at.mono _ _ _
  | exact LeO.none _
  | refine LeO.ite ?_ ?_
  | refine LeO.bind ?_ (fun _ => ?_)
theorem q_marked.mono : ∀ a0 a1 k, LeO (q_marked.f k a0 a1) (q_marked.f (k + 1) a0 a1) := by
 intro a0 a1 k
 obtain ⟨ih0, ih1, ih2, ih3, ih4, ih5, ih6, ih7⟩ := q_marked.mono_l k
 unfold q_marked.f
 repeat' first
   | (with_reducible exact ih0 _ _ _ _ _)
   | (with_reducible exact ih1 _ _ _ _ _ _)
   | (with_reducible exact ih2 _ _ _ _ _)
   | (with_reducible exact ih3 _ _ _ _ _ _)
   | (with_reducible exact ih4 _ _ _ _ _ _)
   | (with_reducible exact ih5 _ _ _ _ _)
   | (with_reducible exact ih6 _ _ _ _ _)
   | (with_reducible exact ih7 _ _ _ _ _)
   | (with_reducible exact q_at.mono _ _ _)
   | (with_reducible exact LeO.refl _)
   | (with_reducible exact LeO.none _)
   | (with_reducible refine LeO.ite ?_ ?_)
   | (with_reducible refine LeO.bind ?_ (fun _ => ?_))
   | exact ih0 _ _ _ _ _
   | exact ih1 _ _ _ _ _ _
   | exact ih2 _ _ _ _ _
   | exact ih3 _ _ _ _ _ _
   | exact ih4 _ _ _ _ _ _
   | exact ih5 _ _ _ _ _
   | exact ih6 _ _ _ _ _
   | exact ih7 _ _ _ _ _
   | exact q_at.mono _ _ _
   | exact LeO.none _
   | refine LeO.ite ?_ ?_
   | refine LeO.bind ?_ (fun _ => ?_)
set_option maxHeartbeats 8000000 in
set_option maxRecDepth 100000 in
theorem q_marked.calls (k : Nat) (a0 : ByteArray) (a1 : Int) (r1 : Int) (r2 : Int) (r3 : Int) (w : World) (h : q_marked.f k a0 a1 = some (r1, r2, r3)) :
  Calls Tryd.prog 36 #[.string a0, .int .i64 a1] w fun e w' => e = .returned (.agg #[.int .i64 r1, .int .i64 r2, .int .i64 r3]) ∧ Below w.heap.size w w' := by
 have hu72 := Tryd.underlying72
 have HB := am (Below.refl w.heap.size w)
 have H : (q_marked.l0 k a0 (wrap64 (a1 + 1)) 0 0 0) = some (r1, r2, r3) := h
 clear h
 have HC3 := am H
 clear H
 go_enter Tryd.func36, Tryd.ntmps36
 go_upto_block 0 with (first | ((with_reducible refine gate_dst (N := 4) rfl ?_); refine box_event ?hg (N := 4) ?hd (cs := #[.int .i64 0, .int .i64 0, .int .i64 0]) (t := 72) ?hr ?_; (case hd => rfl); (case hg => rfl); (case hr => first | (go_simp; done) | (go_simp; rfl)); intro gb578 hg w4 hbox hb; have n0_ := am (below_step bl hb); have n1_ := am (hbox); have n2_ := am ((by rw [hg]; exact (below_size bl) : w.heap.size ≤ gb578)); have n3_ := n2_; clear HB; have HB := n0_; have BK578 := n1_; have GW578 := n2_; have GE578 := n3_; clear n0_ n1_ n2_ n3_; clear hb hbox hg) | ((with_reducible refine gate_dst (N := 5) rfl ?_); refine box_event ?hg (N := 5) ?hd (cs := #[.int .i64 0, .int .i64 0, .int .i64 0]) (t := 72) ?hr ?_; (case hd => rfl); (case hg => rfl); (case hr => first | (go_simp; done) | (go_simp; rfl)); intro gb579 hg w5 hbox hb; have n0_ := am (blk_below (bu BK578.out) hb); have n1_ := am (below_step bs hb); have n2_ := am (hbox); have n3_ := am ((by rw [hg]; exact (below_size bs) : w.heap.size ≤ gb579)); have n4_ := am ((by rw [hg]; exact (below_size bs) : w.heap.size ≤ gb579)); have n5_ := am ((by rw [hg]; exact Nat.ne_of_lt (blk_lt (bu BK578.out)) : gb578 ≠ gb579)); have n6_ := am ((by rw [hg]; exact Nat.ne_of_gt (blk_lt (bu BK578.out)) : gb579 ≠ gb578)); clear BK578; clear HB; have BK578 := n0_; have HB := n1_; have BK579 := n2_; have GW579 := n3_; have GE579 := n4_; have NB578_579 := n5_; have NB579_578 := n6_; clear n0_ n1_ n2_ n3_ n4_ n5_ n6_; clear hb hbox hg))
 (try simp only [Act.put, List.setIfInBounds_toArray, List.set_cons_zero, List.set_cons_succ])
 go_cut [6] (fun v6 wc => ∃ (kq : Nat) (x6_2 : Int), v6 = .int .i64 x6_2 ∧ Aside0 (q_marked.j1 kq a0 x6_2 0 0 0 = some (r1, r2, r3)) ∧ Aside0 (kq ≤ k) ∧ Aside0 (wc.heap[gb578]? = some (.cells #[.int .i64 0, .int .i64 0, .int .i64 0] 72 (0, 0))) ∧ Aside0 (wc.heap[gb579]? = some (.cells #[.int .i64 0, .int .i64 0, .int .i64 0] 72 (0, 0))) ∧ Aside0 (Below w.heap.size w wc))
 case first =>
  have H := HC3.out
  clear HC3
  have H' := am H
  clear H
  go_wp2
  go_loopg [6] k (fun kq v6 w' => ∃ (x6_1 : Int), v6 = .int .i64 x6_1 ∧ Aside0 (q_marked.l0 kq a0 x6_1 0 0 0 = some (r1, r2, r3)) ∧ Aside0 (kq ≤ k) ∧ Aside0 (w'.heap[gb578]? = some (.cells #[.int .i64 0, .int .i64 0, .int .i64 0] 72 (0, 0))) ∧ Aside0 (w'.heap[gb579]? = some (.cells #[.int .i64 0, .int .i64 0, .int .i64 0] 72 (0, 0))) ∧ Aside0 (Below w.heap.size w w'))
  case atStart => exact ⟨(wrap64 (a1 + 1)), tv, H', ⟨Nat.le_refl _⟩, ⟨by refine bu ?_; exact BK578.out⟩, ⟨by refine bu ?_; exact BK579.out⟩, ⟨bs⟩⟩
  case round =>
   clear H'
   try clear p2
   try clear c3
   obtain ⟨x6_1, rfl, HA, HK1, BK578, BK579, HB⟩ := hrel
   cases gk with
   | zero => exact absurd HA.out (by simp [q_marked.l0])
   | succ k1 =>
    have H := HA.out
    clear HA
    simp only [q_marked.l0] at H
    by_cases c6 : x6_1 < (a0.size : Int)
    rotate_left
    ·rw [if_neg c6] at H
     have c6b0 := decide_eq_false c6
     clear c6
     (first | rw [c6b0] | (simp only [i64_w, i32_w]; rw [c6b0]) | skip)
     have H' := am H
     clear H
     go_wp2
     go_meet
     case rel => exact ⟨_, (x6_1), tv, H', ⟨by have := HK1.out; first | omega | exact Nat.le_refl _⟩, ⟨by refine bu ?_; exact BK578.out⟩, ⟨by refine bu ?_; exact BK579.out⟩, ⟨bs⟩⟩
    rw [if_pos c6] at H
    have c6b0 := decide_eq_true c6
    clear c6
    (first | rw [c6b0] | (simp only [i64_w, i32_w]; rw [c6b0]) | skip)
    by_cases c7 : 0 ≤ x6_1
    rotate_left
    ·rw [if_neg c7] at H
     exact absurd H (by simp)
    rw [if_pos c7] at H
    have c7b0 := decide_eq_true c7
    clear c7
    replace H := Option.bind_eq_some_iff.mp H
    obtain ⟨t580, A90, H⟩ := H
    replace H : (if t580 ≥ 0 then (q_marked.l0 k1 a0 (wrap64 (x6_1 + 1)) 0 0 0) else (q_marked.j1 k1 a0 x6_1 0 0 0)) = some (r1, r2, r3) := H
    have A9 := am A90
    clear A90
    by_cases c10 : t580 ≥ 0
    rotate_left
    ·rw [if_neg c10] at H
     have c10b0 : decide (0 ≤ t580) = false := decide_eq_false c10
     clear c10
     have H' := am H
     clear H
     have p8 : 0 ≤ (x6_1 : Int) := of_decide_eq_true od
     have q8 : x6_1 < (a0.size : Int) := of_decide_eq_true od
     have hx8 := bt_at a0 x6_1
     replace p8 := eq_true p8
     replace q8 := eq_true q8
     go_wp2_with (first | (go_at_call 39; (with_reducible refine (q_at.calls k1 (⟨#[45, 43, 32, 35, 48]⟩ : ByteArray) (bt a0 x6_1) t580 _ A9.out).mono ?_); rintro e w' ⟨rfl, ⟨nd, rfl⟩⟩))
     go_meet
     case rel => exact ⟨_, (x6_1), tv, H', ⟨by have := HK1.out; first | omega | exact Nat.le_refl _⟩, ⟨by refine bu ?_; exact BK578.out⟩, ⟨by refine bu ?_; exact BK579.out⟩, ⟨bs⟩⟩
    rw [if_pos c10] at H
    have c10b0 : decide (0 ≤ t580) = true := decide_eq_true c10
    clear c10
    have H' := am H
    clear H
    have p8 : 0 ≤ (x6_1 : Int) := of_decide_eq_true od
    have q8 : x6_1 < (a0.size : Int) := of_decide_eq_true od
    have hx8 := bt_at a0 x6_1
    replace p8 := eq_true p8
    replace q8 := eq_true q8
    go_wp2_with (first | (go_at_call 39; (with_reducible refine (q_at.calls k1 (⟨#[45, 43, 32, 35, 48]⟩ : ByteArray) (bt a0 x6_1) t580 _ A9.out).mono ?_); rintro e w' ⟨rfl, ⟨nd, rfl⟩⟩))
    go_roundg k1
    case measure => have := HK1.out; omega
    case rel => exact ⟨(wrap64 (x6_1 + 1)), tv, H', ⟨by have := HK1.out; omega⟩, ⟨by refine bu ?_; exact BK578.out⟩, ⟨by refine bu ?_; exact BK579.out⟩, ⟨bs⟩⟩
 case rest =>
  clear HC3
  try clear c1
  try clear p2
  try clear c3
  try clear c6
  try clear c6b0
  try clear p6
  try clear c7
  try clear c7b0
  try clear p8
  try clear q8
  try clear hx8
  try clear c10
  try clear c10b0
  try clear p2
  try clear p8
  try clear q8
  obtain ⟨kq, x6_2, rfl, HA, HJ2, BK578, BK579, HB⟩ := hcut
  cases kq with
  | zero => exact absurd HA.out (by simp [q_marked.j1])
  | succ kj2 =>
   have H := HA.out
   clear HA
   simp only [q_marked.j1] at H
   have HC11 := am H
   clear H
   have hnb12 := NB579_578.out
   have hnc12 := NB578_579.out
   obtain ⟨⟨hcz13_0, hcz13_1, hcz13_2⟩, hfz13_0, hfz13_1, hfz13_2⟩ := blkAll3 BK579
   go_upto_region 6 with (fail)
   go_cut [33] (fun v33 wc => ∃ (kq : Nat) (x33_10 : Bool), v33 = .bool x33_10 ∧ Aside0 (q_marked.j2 kq a0 x6_2 x33_10 x6_2 0 0 = some (r1, r2, r3)) ∧ Aside0 (kq ≤ kj2) ∧ Aside0 (wc.heap[gb578]? = some (.cells #[.int .i64 0, .int .i64 0, .int .i64 0] 72 (0, 0))) ∧ Aside0 (wc.heap[gb579]? = some (.cells #[.int .i64 x6_2, .int .i64 0, .int .i64 0] 72 (0, 0))) ∧ Aside0 (Below w.heap.size w wc))
   case first =>
    have H := HC11.out
    clear HC11
    by_cases c14 : x6_2 < (a0.size : Int)
    rotate_left
    ·rw [if_neg c14] at H
     have c14b0 := decide_eq_false c14
     clear c14
     (first | rw [c14b0] | (simp only [i64_w, i32_w]; rw [c14b0]) | skip)
     have H' := am H
     clear H
     go_wp2
     go_meet
     case rel => exact ⟨_, (false), tv, H', ⟨by have := HJ2.out; first | omega | exact Nat.le_refl _⟩, ⟨by refine bu ?_; refine blk_far ?_ NB578_579.out _; refine bu ?_; exact BK578.out⟩, ⟨by refine bu ?_; refine blk_put (cs := #[.int .i64 0, .int .i64 0, .int .i64 0]) ?_ 0 _ rfl; refine bu ?_; exact BK579.out⟩, ⟨bs⟩⟩
    rw [if_pos c14] at H
    have c14b0 := decide_eq_true c14
    clear c14
    (first | rw [c14b0] | (simp only [i64_w, i32_w]; rw [c14b0]) | skip)
    by_cases c15 : 0 ≤ x6_2
    rotate_left
    ·rw [if_neg c15] at H
     exact absurd H (by simp)
    rw [if_pos c15] at H
    have c15b0 := decide_eq_true c15
    clear c15
    have H' := am H
    clear H
    have p16 : 0 ≤ (x6_2 : Int) := of_decide_eq_true od
    have q16 : x6_2 < (a0.size : Int) := of_decide_eq_true od
    have hx16 := bt_at a0 x6_2
    replace p16 := eq_true p16
    replace q16 := eq_true q16
    go_wp2
    go_meet
    case rel => exact ⟨_, (((bt a0 x6_2) == 42)), tv, H', ⟨by have := HJ2.out; first | omega | exact Nat.le_refl _⟩, ⟨by refine bu ?_; refine blk_far ?_ NB578_579.out _; refine bu ?_; exact BK578.out⟩, ⟨by refine bu ?_; refine blk_put (cs := #[.int .i64 0, .int .i64 0, .int .i64 0]) ?_ 0 _ rfl; refine bu ?_; exact BK579.out⟩, ⟨bs⟩⟩
   case rest =>
    clear HC11
    try clear c1
    try clear p1
    try clear q1
    try clear hx1
    try clear p2
    try clear c3
    try clear c6
    try clear c6b0
    try clear p6
    try clear c7
    try clear c7b0
    try clear p8
    try clear q8
    try clear hx8
    try clear c10
    try clear c10b0
    try clear c12
    try clear c14
    try clear c14b0
    try clear c15
    try clear c15b0
    try clear p16
    try clear q16
    try clear hx16
    try clear hcz13_0 hcz13_1 hcz13_2
    try clear hfz13_0 hfz13_1 hfz13_2
    try clear p16
    try clear p2
    try clear p6
    try clear p8
    try clear q16
    try clear q8
    obtain ⟨kq, x33_10, rfl, HA, HJ10, BK578, BK579, HB⟩ := hcut
    cases kq with
    | zero => exact absurd HA.out (by simp [q_marked.j2])
    | succ kj10 =>
     have H := HA.out
     clear HA
     simp only [q_marked.j2] at H
     have HC17 := am H
     clear H
     go_upto_if 33 with (fail)
     go_cut [6] (fun v6 wc => ∃ (kq : Nat) (x6_16 : Int), v6 = .int .i64 x6_16 ∧ Aside0 (q_marked.j4 kq a0 x6_16 x6_2 0 0 = some (r1, r2, r3)) ∧ Aside0 (kq ≤ kj10) ∧ Aside0 (wc.heap[gb578]? = some (.cells #[.int .i64 0, .int .i64 0, .int .i64 0] 72 (0, 0))) ∧ Aside0 (wc.heap[gb579]? = some (.cells #[.int .i64 x6_2, .int .i64 0, .int .i64 0] 72 (0, 0))) ∧ Aside0 (Below w.heap.size w wc))
     case first =>
      have H := HC17.out
      clear HC17
      by_cases c18 : x33_10 = true
      ·subst c18
       have H1 : (q_marked.j4 kj10 a0 (wrap64 (x6_2 + 1)) x6_2 0 0) = some (r1, r2, r3) := by rw [if_pos rfl] at H; exact H
       clear H
       have H := H1
       clear H1
       have H' := am H
       clear H
       go_wp2
       go_meet
       case rel => exact ⟨_, (wrap64 (x6_2 + 1)), tv, H', ⟨by have := HJ2.out; have := HJ10.out; first | omega | exact Nat.le_refl _⟩, ⟨by refine bu ?_; exact BK578.out⟩, ⟨by refine bu ?_; exact BK579.out⟩, ⟨bs⟩⟩
      replace c18 := Bool.eq_false_iff.mpr c18
      subst c18
      have H1 : (q_marked.l1 kj10 a0 x6_2 x6_2 0 0) = some (r1, r2, r3) := by rw [if_neg (show ¬ (false = true) by decide)] at H; exact H
      clear H
      have H := H1
      clear H1
      have H' := am H
      clear H
      go_wp2
      go_loopg [6] kj10 (fun kq v6 w' => ∃ (x6_3 : Int), v6 = .int .i64 x6_3 ∧ Aside0 (q_marked.l1 kq a0 x6_3 x6_2 0 0 = some (r1, r2, r3)) ∧ Aside0 (kq ≤ kj10) ∧ Aside0 (w'.heap[gb578]? = some (.cells #[.int .i64 0, .int .i64 0, .int .i64 0] 72 (0, 0))) ∧ Aside0 (w'.heap[gb579]? = some (.cells #[.int .i64 x6_2, .int .i64 0, .int .i64 0] 72 (0, 0))) ∧ Aside0 (Below w.heap.size w w'))
      case atStart => exact ⟨(x6_2), tv, H', ⟨Nat.le_refl _⟩, ⟨by refine bu ?_; exact BK578.out⟩, ⟨by refine bu ?_; exact BK579.out⟩, ⟨bs⟩⟩
      case round =>
       clear H'
       try clear c1
       try clear p1
       try clear q1
       try clear hx1
       try clear p2
       try clear c3
       try clear c6
       try clear c6b0
       try clear p6
       try clear c7
       try clear c7b0
       try clear p8
       try clear q8
       try clear hx8
       try clear c10
       try clear c10b0
       try clear c12
       try clear c14
       try clear c14b0
       try clear c15
       try clear c15b0
       try clear p16
       try clear q16
       try clear hx16
       try clear c18
       try clear hcz13_0 hcz13_1 hcz13_2
       try clear hfz13_0 hfz13_1 hfz13_2
       try clear p1
       try clear p16
       try clear p2
       try clear p6
       try clear p8
       try clear q1
       try clear q16
       try clear q8
       obtain ⟨x6_3, rfl, HA, HK3, BK578, BK579, HB⟩ := hrel
       cases gk with
       | zero => exact absurd HA.out (by simp [q_marked.l1])
       | succ k3 =>
        have H := HA.out
        clear HA
        simp only [q_marked.l1] at H
        by_cases c19 : x6_3 < (a0.size : Int)
        rotate_left
        ·rw [if_neg c19] at H
         have c19b0 := decide_eq_false c19
         clear c19
         (first | rw [c19b0] | (simp only [i64_w, i32_w]; rw [c19b0]) | skip)
         have H' := am H
         clear H
         go_wp2
         go_meet
         case rel => exact ⟨_, (x6_3), tv, H', ⟨by have := HJ2.out; have := HJ10.out; have := HK3.out; first | omega | exact Nat.le_refl _⟩, ⟨by refine bu ?_; exact BK578.out⟩, ⟨by refine bu ?_; exact BK579.out⟩, ⟨bs⟩⟩
        rw [if_pos c19] at H
        have c19b0 := decide_eq_true c19
        clear c19
        (first | rw [c19b0] | (simp only [i64_w, i32_w]; rw [c19b0]) | skip)
        by_cases c20 : 0 ≤ x6_3
        rotate_left
        ·rw [if_neg c20] at H
         exact absurd H (by simp)
        rw [if_pos c20] at H
        have c20b0 := decide_eq_true c20
        clear c20
        replace H := Option.bind_eq_some_iff.mp H
        obtain ⟨t581, A220, H⟩ := H
        replace H : (if t581 = true then (q_marked.l1 k3 a0 (wrap64 (x6_3 + 1)) x6_2 0 0) else (q_marked.j4 k3 a0 x6_3 x6_2 0 0)) = some (r1, r2, r3) := H
        have A22 := am A220
        clear A220
        by_cases c23 : t581 = true
        rotate_left
        ·replace c23 := Bool.eq_false_iff.mpr c23
         subst c23
         have H1 : (q_marked.j4 k3 a0 x6_3 x6_2 0 0) = some (r1, r2, r3) := by rw [if_neg (show ¬ (false = true) by decide)] at H; exact H
         clear H
         have H := H1
         clear H1
         have H' := am H
         clear H
         have p21 : 0 ≤ (x6_3 : Int) := of_decide_eq_true od
         have q21 : x6_3 < (a0.size : Int) := of_decide_eq_true od
         have hx21 := bt_at a0 x6_3
         replace p21 := eq_true p21
         replace q21 := eq_true q21
         go_wp2_with (first | (go_at_call 53; (with_reducible refine (q_digit.calls (bt a0 x6_3) false _ A22.out).mono ?_); rintro e w' ⟨rfl, ⟨nd, rfl⟩⟩))
         go_meet
         case rel => exact ⟨_, (x6_3), tv, H', ⟨by have := HJ2.out; have := HJ10.out; have := HK3.out; first | omega | exact Nat.le_refl _⟩, ⟨by refine bu ?_; exact BK578.out⟩, ⟨by refine bu ?_; exact BK579.out⟩, ⟨bs⟩⟩
        subst c23
        have H1 : (q_marked.l1 k3 a0 (wrap64 (x6_3 + 1)) x6_2 0 0) = some (r1, r2, r3) := by rw [if_pos rfl] at H; exact H
        clear H
        have H := H1
        clear H1
        have H' := am H
        clear H
        have p21 : 0 ≤ (x6_3 : Int) := of_decide_eq_true od
        have q21 : x6_3 < (a0.size : Int) := of_decide_eq_true od
        have hx21 := bt_at a0 x6_3
        replace p21 := eq_true p21
        replace q21 := eq_true q21
        go_wp2_with (first | (go_at_call 53; (with_reducible refine (q_digit.calls (bt a0 x6_3) true _ A22.out).mono ?_); rintro e w' ⟨rfl, ⟨nd, rfl⟩⟩))
        go_roundg k3
        case measure => have := HJ2.out; have := HJ10.out; have := HK3.out; omega
        case rel => exact ⟨(wrap64 (x6_3 + 1)), tv, H', ⟨by have := HJ2.out; have := HJ10.out; have := HK3.out; omega⟩, ⟨by refine bu ?_; exact BK578.out⟩, ⟨by refine bu ?_; exact BK579.out⟩, ⟨bs⟩⟩
     case rest =>
      clear HC17
      try clear c1
      try clear p1
      try clear q1
      try clear hx1
      try clear c2
      try clear p2
      try clear q2
      try clear hx2
      try clear c3
      try clear c6
      try clear c6b0
      try clear p6
      try clear c7
      try clear c7b0
      try clear p8
      try clear q8
      try clear hx8
      try clear c10
      try clear c10b0
      try clear c12
      try clear c14
      try clear c14b0
      try clear c15
      try clear c15b0
      try clear p16
      try clear q16
      try clear hx16
      try clear c18
      try clear c19
      try clear c19b0
      try clear c20
      try clear c20b0
      try clear p21
      try clear q21
      try clear hx21
      try clear c23
      try clear hcz13_0 hcz13_1 hcz13_2
      try clear hfz13_0 hfz13_1 hfz13_2
      try clear p1
      try clear p16
      try clear p2
      try clear p21
      try clear p6
      try clear p8
      try clear q1
      try clear q16
      try clear q21
      try clear q8
      obtain ⟨kq, x6_16, rfl, HA, HJ16, BK578, BK579, HB⟩ := hcut
      cases kq with
      | zero => exact absurd HA.out (by simp [q_marked.j4])
      | succ kj16 =>
       have H := HA.out
       clear HA
       simp only [q_marked.j4] at H
       have HC24 := am H
       clear H
       have hnb25 := NB579_578.out
       have hnc25 := NB578_579.out
       obtain ⟨⟨hcz26_0, hcz26_1, hcz26_2⟩, hfz26_0, hfz26_1, hfz26_2⟩ := blkAll3 BK579
       go_upto_region 11 with (fail)
       go_cut [59] (fun v59 wc => ∃ (kq : Nat) (x59_23 : Bool), v59 = .bool x59_23 ∧ Aside0 (q_marked.j5 kq a0 x6_16 x59_23 x6_2 x6_16 0 = some (r1, r2, r3)) ∧ Aside0 (kq ≤ kj16) ∧ Aside0 (wc.heap[gb578]? = some (.cells #[.int .i64 0, .int .i64 0, .int .i64 0] 72 (0, 0))) ∧ Aside0 (wc.heap[gb579]? = some (.cells #[.int .i64 x6_2, .int .i64 x6_16, .int .i64 0] 72 (0, 0))) ∧ Aside0 (Below w.heap.size w wc))
       case first =>
        have H := HC24.out
        clear HC24
        by_cases c27 : x6_16 < (a0.size : Int)
        rotate_left
        ·rw [if_neg c27] at H
         have c27b0 := decide_eq_false c27
         clear c27
         (first | rw [c27b0] | (simp only [i64_w, i32_w]; rw [c27b0]) | skip)
         have H' := am H
         clear H
         go_wp2
         go_meet
         case rel => exact ⟨_, (false), tv, H', ⟨by have := HJ2.out; have := HJ10.out; have := HJ16.out; first | omega | exact Nat.le_refl _⟩, ⟨by refine bu ?_; refine blk_far ?_ NB578_579.out _; refine bu ?_; exact BK578.out⟩, ⟨by refine bu ?_; refine blk_put (cs := #[.int .i64 x6_2, .int .i64 0, .int .i64 0]) ?_ 1 _ rfl; refine bu ?_; exact BK579.out⟩, ⟨bs⟩⟩
        rw [if_pos c27] at H
        have c27b0 := decide_eq_true c27
        clear c27
        (first | rw [c27b0] | (simp only [i64_w, i32_w]; rw [c27b0]) | skip)
        by_cases c28 : 0 ≤ x6_16
        rotate_left
        ·rw [if_neg c28] at H
         exact absurd H (by simp)
        rw [if_pos c28] at H
        have c28b0 := decide_eq_true c28
        clear c28
        have H' := am H
        clear H
        have p29 : 0 ≤ (x6_16 : Int) := of_decide_eq_true od
        have q29 : x6_16 < (a0.size : Int) := of_decide_eq_true od
        have hx29 := bt_at a0 x6_16
        replace p29 := eq_true p29
        replace q29 := eq_true q29
        go_wp2
        go_meet
        case rel => exact ⟨_, (((bt a0 x6_16) == 46)), tv, H', ⟨by have := HJ2.out; have := HJ10.out; have := HJ16.out; first | omega | exact Nat.le_refl _⟩, ⟨by refine bu ?_; refine blk_far ?_ NB578_579.out _; refine bu ?_; exact BK578.out⟩, ⟨by refine bu ?_; refine blk_put (cs := #[.int .i64 x6_2, .int .i64 0, .int .i64 0]) ?_ 1 _ rfl; refine bu ?_; exact BK579.out⟩, ⟨bs⟩⟩
       case rest =>
        clear HC24
        try clear c1
        try clear p1
        try clear q1
        try clear hx1
        try clear c2
        try clear p2
        try clear q2
        try clear hx2
        try clear c3
        try clear c6
        try clear c6b0
        try clear p6
        try clear c7
        try clear c7b0
        try clear p8
        try clear q8
        try clear hx8
        try clear c10
        try clear c10b0
        try clear c12
        try clear c14
        try clear c14b0
        try clear c15
        try clear c15b0
        try clear p16
        try clear q16
        try clear hx16
        try clear c18
        try clear c19
        try clear c19b0
        try clear c20
        try clear c20b0
        try clear p21
        try clear q21
        try clear hx21
        try clear c23
        try clear c25
        try clear c27
        try clear c27b0
        try clear c28
        try clear c28b0
        try clear p29
        try clear q29
        try clear hx29
        try clear hcz13_0 hcz13_1 hcz13_2
        try clear hcz26_0 hcz26_1 hcz26_2
        try clear hfz13_0 hfz13_1 hfz13_2
        try clear hfz26_0 hfz26_1 hfz26_2
        try clear p1
        try clear p16
        try clear p2
        try clear p21
        try clear p29
        try clear p6
        try clear p8
        try clear q1
        try clear q16
        try clear q2
        try clear q21
        try clear q29
        try clear q8
        obtain ⟨kq, x59_23, rfl, HA, HJ23, BK578, BK579, HB⟩ := hcut
        cases kq with
        | zero => exact absurd HA.out (by simp [q_marked.j5])
        | succ kj23 =>
         have H := HA.out
         clear HA
         simp only [q_marked.j5] at H
         by_cases c30 : x59_23 = true
         rotate_left
         ·replace c30 := Bool.eq_false_iff.mpr c30
          subst c30
          have H1 : (some (x6_2, x6_16, x6_16)) = some (r1, r2, r3) := by rw [if_neg (show ¬ (false = true) by decide)] at H; exact H
          clear H
          have H := H1
          clear H1
          simp only [Option.some.injEq, Prod.mk.injEq] at H
          obtain ⟨rfl, rfl, rfl⟩ := H
          have hnb51 := NB579_578.out
          have hnc51 := NB578_579.out
          obtain ⟨⟨hcz52_0, hcz52_1, hcz52_2⟩, hfz52_0, hfz52_1, hfz52_2⟩ := blkAll3 BK579
          obtain ⟨⟨hcz53_0, hcz53_1, hcz53_2⟩, hfz53_0, hfz53_1, hfz53_2⟩ := blkAll3 BK578
          go_wp2
          refine bodyPost_ret (results_cell_row rfl _ _ gb578 72 #[.int .i64 x6_2, .int .i64 x6_16, .int .i64 x6_16] (0, 0) _ rfl (by refine bu ?_; refine blk_put (cs := #[.int .i64 x6_2, .int .i64 x6_16, .int .i64 0]) ?_ 2 _ rfl; refine bu ?_; refine blk_put (cs := #[.int .i64 x6_2, .int .i64 0, .int .i64 0]) ?_ 1 _ rfl; refine bu ?_; refine blk_put (cs := #[.int .i64 0, .int .i64 0, .int .i64 0]) ?_ 0 _ rfl; refine bu ?_; refine blk_far ?_ NB578_579.out _; refine bu ?_; exact BK578.out) Tryd.underlying72 rfl (by kernel_rfl)) rfl ?_
          exact ⟨er, bs⟩
         subst c30
         have H1 : (if (wrap64 (x6_16 + 1)) < (a0.size : Int) then (if 0 ≤ (wrap64 (x6_16 + 1)) then (q_marked.j6 kj23 a0 (wrap64 (x6_16 + 1)) ((bt a0 (wrap64 (x6_16 + 1))) == 42) x6_2 x6_16 0) else (none)) else (q_marked.j6 kj23 a0 (wrap64 (x6_16 + 1)) false x6_2 x6_16 0)) = some (r1, r2, r3) := by rw [if_pos rfl] at H; exact H
         clear H
         have H := H1
         clear H1
         have HC31 := am H
         clear H
         go_upto_region 13 with (fail)
         go_cut [71] (fun v71 wc => ∃ (kq : Nat) (x71_30 : Bool), v71 = .bool x71_30 ∧ Aside0 (q_marked.j6 kq a0 (wrap64 (x6_16 + 1)) x71_30 x6_2 x6_16 0 = some (r1, r2, r3)) ∧ Aside0 (kq ≤ kj23) ∧ Aside0 (wc.heap[gb578]? = some (.cells #[.int .i64 0, .int .i64 0, .int .i64 0] 72 (0, 0))) ∧ Aside0 (wc.heap[gb579]? = some (.cells #[.int .i64 x6_2, .int .i64 x6_16, .int .i64 0] 72 (0, 0))) ∧ Aside0 (Below w.heap.size w wc))
         case first =>
          have H := HC31.out
          clear HC31
          by_cases c32 : (wrap64 (x6_16 + 1)) < (a0.size : Int)
          rotate_left
          ·rw [if_neg c32] at H
           have c32b0 := decide_eq_false c32
           clear c32
           (first | rw [c32b0] | (simp only [i64_w, i32_w]; rw [c32b0]) | skip)
           have H' := am H
           clear H
           go_wp2
           go_meet
           case rel => exact ⟨_, (false), tv, H', ⟨by have := HJ2.out; have := HJ10.out; have := HJ16.out; have := HJ23.out; first | omega | exact Nat.le_refl _⟩, ⟨by refine bu ?_; exact BK578.out⟩, ⟨by refine bu ?_; exact BK579.out⟩, ⟨bs⟩⟩
          rw [if_pos c32] at H
          have c32b0 := decide_eq_true c32
          clear c32
          (first | rw [c32b0] | (simp only [i64_w, i32_w]; rw [c32b0]) | skip)
          obtain ⟨ji33, hji33⟩ : ∃ j_ : Int, (wrap64 (x6_16 + 1)) = j_ := ⟨_, rfl⟩
          replace H : (if 0 ≤ (ji33) then (q_marked.j6 kj23 a0 ji33 ((bt a0 (ji33)) == 42) x6_2 x6_16 0) else (none)) = some (r1, r2, r3) := by first | (rw [hji33] at H; exact H) | (simp only [hji33] at H ⊢; exact H)
          (try rw [hji33] at c32b0)
          have hji33w : (IntKind.i64.wrap (x6_16 + 1)) = ji33 := (i64_w _).trans hji33
          by_cases c34 : 0 ≤ (ji33)
          rotate_left
          ·rw [if_neg c34] at H
           exact absurd H (by simp)
          rw [if_pos c34] at H
          have c34b0 := decide_eq_true c34
          clear c34
          have H' := am H
          clear H
          have p35 : 0 ≤ ((ji33) : Int) := of_decide_eq_true od
          have q35 : (ji33) < (a0.size : Int) := of_decide_eq_true od
          have hx35 := bt_at a0 (ji33)
          replace p35 := eq_true p35
          replace q35 := eq_true q35
          go_wp2
          go_meet
          case rel => exact ⟨kj23, (((bt a0 (ji33)) == 42)), (by first | rfl | (simp; done) | (simp only [← hji33] <;> (first | rfl | simp)) | (simp [*]; done)), (by first | exact H' | (rw [hji33]; exact H')), ⟨by have := HJ2.out; have := HJ10.out; have := HJ16.out; have := HJ23.out; first | omega | exact Nat.le_refl _⟩, ⟨by refine bu ?_; exact BK578.out⟩, ⟨by refine bu ?_; exact BK579.out⟩, ⟨bs⟩⟩
         case rest =>
          clear HC31
          try clear c1
          try clear p1
          try clear q1
          try clear hx1
          try clear c2
          try clear p2
          try clear q2
          try clear hx2
          try clear c3
          try clear p3
          try clear q3
          try clear hx3
          try clear c6
          try clear c6b0
          try clear p6
          try clear c7
          try clear c7b0
          try clear p8
          try clear q8
          try clear hx8
          try clear c10
          try clear c10b0
          try clear c12
          try clear c14
          try clear c14b0
          try clear c15
          try clear c15b0
          try clear p16
          try clear q16
          try clear hx16
          try clear c18
          try clear c19
          try clear c19b0
          try clear c20
          try clear c20b0
          try clear p21
          try clear q21
          try clear hx21
          try clear c23
          try clear c25
          try clear c27
          try clear c27b0
          try clear c28
          try clear c28b0
          try clear p29
          try clear q29
          try clear hx29
          try clear c30
          try clear c32
          try clear c32b0
          try clear c34
          try clear c34b0
          try clear p35
          try clear q35
          try clear hx35
          try clear hcz13_0 hcz13_1 hcz13_2
          try clear hcz26_0 hcz26_1 hcz26_2
          try clear hfz13_0 hfz13_1 hfz13_2
          try clear hfz26_0 hfz26_1 hfz26_2
          try clear p1
          try clear p16
          try clear p2
          try clear p21
          try clear p29
          try clear p35
          try clear p6
          try clear p8
          try clear q1
          try clear q16
          try clear q2
          try clear q21
          try clear q29
          try clear q35
          try clear q8
          obtain ⟨kq, x71_30, rfl, HA, HJ30, BK578, BK579, HB⟩ := hcut
          cases kq with
          | zero => exact absurd HA.out (by simp [q_marked.j6])
          | succ kj30 =>
           have H := HA.out
           clear HA
           simp only [q_marked.j6] at H
           by_cases c36 : x71_30 = true
           ·subst c36
            have H1 : (some (x6_2, x6_16, wrap64 ((wrap64 (x6_16 + 1)) + 1))) = some (r1, r2, r3) := by rw [if_pos rfl] at H; exact H
            clear H
            have H := H1
            clear H1
            simp only [Option.some.injEq, Prod.mk.injEq] at H
            obtain ⟨rfl, rfl, rfl⟩ := H
            have hnb37 := NB579_578.out
            have hnc37 := NB578_579.out
            obtain ⟨⟨hcz38_0, hcz38_1, hcz38_2⟩, hfz38_0, hfz38_1, hfz38_2⟩ := blkAll3 BK579
            obtain ⟨⟨hcz39_0, hcz39_1, hcz39_2⟩, hfz39_0, hfz39_1, hfz39_2⟩ := blkAll3 BK578
            go_wp2
            refine bodyPost_ret (results_cell_row rfl _ _ gb578 72 #[.int .i64 x6_2, .int .i64 x6_16, .int .i64 (wrap64 ((wrap64 (x6_16 + 1)) + 1))] (0, 0) _ rfl (by refine bu ?_; refine blk_put (cs := #[.int .i64 x6_2, .int .i64 x6_16, .int .i64 0]) ?_ 2 _ rfl; refine bu ?_; refine blk_put (cs := #[.int .i64 x6_2, .int .i64 0, .int .i64 0]) ?_ 1 _ rfl; refine bu ?_; refine blk_put (cs := #[.int .i64 0, .int .i64 0, .int .i64 0]) ?_ 0 _ rfl; refine bu ?_; refine blk_far ?_ NB578_579.out _; refine bu ?_; exact BK578.out) Tryd.underlying72 rfl (by kernel_rfl)) rfl ?_
            exact ⟨er, bs⟩
           replace c36 := Bool.eq_false_iff.mpr c36
           subst c36
           have H1 : (q_marked.l2 kj30 a0 (wrap64 (x6_16 + 1)) x6_2 x6_16 0) = some (r1, r2, r3) := by rw [if_neg (show ¬ (false = true) by decide)] at H; exact H
           clear H
           have H := H1
           clear H1
           have H' := am H
           clear H
           go_wp2
           go_loopg [6] kj30 (fun kq v6 w' => ∃ (x6_6 : Int), v6 = .int .i64 x6_6 ∧ Aside0 (q_marked.l2 kq a0 x6_6 x6_2 x6_16 0 = some (r1, r2, r3)) ∧ Aside0 (kq ≤ kj30) ∧ Aside0 (w'.heap[gb578]? = some (.cells #[.int .i64 0, .int .i64 0, .int .i64 0] 72 (0, 0))) ∧ Aside0 (w'.heap[gb579]? = some (.cells #[.int .i64 x6_2, .int .i64 x6_16, .int .i64 0] 72 (0, 0))) ∧ Aside0 (Below w.heap.size w w'))
           case atStart => exact ⟨((wrap64 (x6_16 + 1))), tv, H', ⟨Nat.le_refl _⟩, ⟨by refine bu ?_; exact BK578.out⟩, ⟨by refine bu ?_; exact BK579.out⟩, ⟨bs⟩⟩
           case round =>
            clear H'
            try clear c1
            try clear p1
            try clear q1
            try clear hx1
            try clear c2
            try clear p2
            try clear q2
            try clear hx2
            try clear c3
            try clear p3
            try clear q3
            try clear hx3
            try clear c6
            try clear c6b0
            try clear p6
            try clear c7
            try clear c7b0
            try clear p8
            try clear q8
            try clear hx8
            try clear c10
            try clear c10b0
            try clear c12
            try clear c14
            try clear c14b0
            try clear c15
            try clear c15b0
            try clear p16
            try clear q16
            try clear hx16
            try clear c18
            try clear c19
            try clear c19b0
            try clear c20
            try clear c20b0
            try clear p21
            try clear q21
            try clear hx21
            try clear c23
            try clear c25
            try clear c27
            try clear c27b0
            try clear c28
            try clear c28b0
            try clear p29
            try clear q29
            try clear hx29
            try clear c30
            try clear c32
            try clear c32b0
            try clear c34
            try clear c34b0
            try clear p35
            try clear q35
            try clear hx35
            try clear c36
            try clear c37
            try clear hcz13_0 hcz13_1 hcz13_2
            try clear hcz26_0 hcz26_1 hcz26_2
            try clear hcz38_0 hcz38_1 hcz38_2
            try clear hcz39_0 hcz39_1 hcz39_2
            try clear hfz13_0 hfz13_1 hfz13_2
            try clear hfz26_0 hfz26_1 hfz26_2
            try clear hfz38_0 hfz38_1 hfz38_2
            try clear hfz39_0 hfz39_1 hfz39_2
            try clear p1
            try clear p16
            try clear p2
            try clear p21
            try clear p29
            try clear p3
            try clear p35
            try clear p6
            try clear p8
            try clear q1
            try clear q16
            try clear q2
            try clear q21
            try clear q29
            try clear q3
            try clear q35
            try clear q8
            obtain ⟨x6_6, rfl, HA, HK6, BK578, BK579, HB⟩ := hrel
            cases gk with
            | zero => exact absurd HA.out (by simp [q_marked.l2])
            | succ k6 =>
             have H := HA.out
             clear HA
             simp only [q_marked.l2] at H
             by_cases c40 : x6_6 < (a0.size : Int)
             rotate_left
             ·rw [if_neg c40] at H
              have c40b0 := decide_eq_false c40
              clear c40
              simp only [Option.some.injEq, Prod.mk.injEq] at H
              obtain ⟨rfl, rfl, rfl⟩ := H
              have hnb48 := NB579_578.out
              have hnc48 := NB578_579.out
              obtain ⟨⟨hcz49_0, hcz49_1, hcz49_2⟩, hfz49_0, hfz49_1, hfz49_2⟩ := blkAll3 BK579
              obtain ⟨⟨hcz50_0, hcz50_1, hcz50_2⟩, hfz50_0, hfz50_1, hfz50_2⟩ := blkAll3 BK578
              go_wp2
              refine bodyPost_ret (results_cell_row rfl _ _ gb578 72 #[.int .i64 x6_2, .int .i64 x6_16, .int .i64 x6_6] (0, 0) _ rfl (by refine bu ?_; refine blk_put (cs := #[.int .i64 x6_2, .int .i64 x6_16, .int .i64 0]) ?_ 2 _ rfl; refine bu ?_; refine blk_put (cs := #[.int .i64 x6_2, .int .i64 0, .int .i64 0]) ?_ 1 _ rfl; refine bu ?_; refine blk_put (cs := #[.int .i64 0, .int .i64 0, .int .i64 0]) ?_ 0 _ rfl; refine bu ?_; refine blk_far ?_ NB578_579.out _; refine bu ?_; exact BK578.out) Tryd.underlying72 rfl (by kernel_rfl)) rfl ?_
              exact ⟨er, bs⟩
             rw [if_pos c40] at H
             have c40b0 := decide_eq_true c40
             clear c40
             by_cases c41 : 0 ≤ x6_6
             rotate_left
             ·rw [if_neg c41] at H
              exact absurd H (by simp)
             rw [if_pos c41] at H
             have c41b0 := decide_eq_true c41
             clear c41
             replace H := Option.bind_eq_some_iff.mp H
             obtain ⟨t582, A430, H⟩ := H
             replace H : (if t582 = true then (q_marked.l2 k6 a0 (wrap64 (x6_6 + 1)) x6_2 x6_16 0) else (some (x6_2, x6_16, x6_6))) = some (r1, r2, r3) := H
             have A43 := am A430
             clear A430
             by_cases c44 : t582 = true
             ·subst c44
              have H1 : (q_marked.l2 k6 a0 (wrap64 (x6_6 + 1)) x6_2 x6_16 0) = some (r1, r2, r3) := by rw [if_pos rfl] at H; exact H
              clear H
              have H := H1
              clear H1
              have H' := am H
              clear H
              have p42 : 0 ≤ (x6_6 : Int) := of_decide_eq_true od
              have q42 : x6_6 < (a0.size : Int) := of_decide_eq_true od
              have hx42 := bt_at a0 x6_6
              replace p42 := eq_true p42
              replace q42 := eq_true q42
              go_wp2_with (first | (go_at_call 53; (with_reducible refine (q_digit.calls (bt a0 x6_6) true _ A43.out).mono ?_); rintro e w' ⟨rfl, ⟨nd, rfl⟩⟩))
              go_roundg k6
              case measure => have := HJ2.out; have := HJ10.out; have := HJ16.out; have := HJ23.out; have := HJ30.out; have := HK6.out; omega
              case rel => exact ⟨(wrap64 (x6_6 + 1)), tv, H', ⟨by have := HJ2.out; have := HJ10.out; have := HJ16.out; have := HJ23.out; have := HJ30.out; have := HK6.out; omega⟩, ⟨by refine bu ?_; exact BK578.out⟩, ⟨by refine bu ?_; exact BK579.out⟩, ⟨bs⟩⟩
             replace c44 := Bool.eq_false_iff.mpr c44
             subst c44
             have H1 : (some (x6_2, x6_16, x6_6)) = some (r1, r2, r3) := by rw [if_neg (show ¬ (false = true) by decide)] at H; exact H
             clear H
             have H := H1
             clear H1
             simp only [Option.some.injEq, Prod.mk.injEq] at H
             obtain ⟨rfl, rfl, rfl⟩ := H
             have p42 : 0 ≤ (x6_6 : Int) := of_decide_eq_true od
             have q42 : x6_6 < (a0.size : Int) := of_decide_eq_true od
             have hx42 := bt_at a0 x6_6
             replace p42 := eq_true p42
             replace q42 := eq_true q42
             go_wp2_with (first | (go_at_call 53; (with_reducible refine (q_digit.calls (bt a0 x6_6) false _ A43.out).mono ?_); rintro e w' ⟨rfl, ⟨nd, rfl⟩⟩; (try (rw [drewN_self wr]; generalize hq_ : World.drewN wr _ = wr; have n0_ : Aside0 (wr.heap[gb578]? = some (.cells #[.int .i64 0, .int .i64 0, .int .i64 0] 72 (0, 0))) := ⟨by rw [← hq_]; exact (bu BK578.out)⟩; have n1_ : Aside0 (wr.heap[gb579]? = some (.cells #[.int .i64 x6_2, .int .i64 x6_16, .int .i64 0] 72 (0, 0))) := ⟨by rw [← hq_]; exact (bu BK579.out)⟩; have n2_ : Aside0 (Below w.heap.size w wr) := ⟨by rw [← hq_]; exact bs⟩; clear BK578 BK579 HB hq_; have BK578 := n0_; have BK579 := n1_; have HB := n2_; clear n0_ n1_ n2_)); have hnb45 := NB579_578.out; have hnc45 := NB578_579.out; obtain ⟨⟨hcz46_0, hcz46_1, hcz46_2⟩, hfz46_0, hfz46_1, hfz46_2⟩ := blkAll3 BK579; obtain ⟨⟨hcz47_0, hcz47_1, hcz47_2⟩, hfz47_0, hfz47_1, hfz47_2⟩ := blkAll3 BK578))
             refine bodyPost_ret (results_cell_row rfl _ _ gb578 72 #[.int .i64 x6_2, .int .i64 x6_16, .int .i64 x6_6] (0, 0) _ rfl (by refine bu ?_; refine blk_put (cs := #[.int .i64 x6_2, .int .i64 x6_16, .int .i64 0]) ?_ 2 _ rfl; refine bu ?_; refine blk_put (cs := #[.int .i64 x6_2, .int .i64 0, .int .i64 0]) ?_ 1 _ rfl; refine bu ?_; refine blk_put (cs := #[.int .i64 0, .int .i64 0, .int .i64 0]) ?_ 0 _ rfl; refine bu ?_; refine blk_far ?_ NB578_579.out _; refine bu ?_; exact BK578.out) Tryd.underlying72 rfl (by kernel_rfl)) rfl ?_
             exact ⟨er, bs⟩
end Go.Proofs.YtlmijjekaelhcaaDoor.EDi
