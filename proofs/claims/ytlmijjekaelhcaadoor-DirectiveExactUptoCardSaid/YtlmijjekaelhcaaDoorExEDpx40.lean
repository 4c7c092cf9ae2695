/-
 A text of this session's own.
-/
import Derived.Test.YtlmijjekaelhcaaDoorExA0
import Derived.Test.YtlmijjekaelhcaaDoorExEDpx0
import Derived.Test.YtlmijjekaelhcaaDoorExEDpx36
import Derived.Test.YtlmijjekaelhcaaDoorExEDpx37
import Derived.Test.YtlmijjekaelhcaaDoorExEDpx39
namespace Go.Proofs.YtlmijjekaelhcaaDoor.EDi
open Go.RowKit Go.Proofs.YtlmijjekaelhcaaDoorW.PrintWords Go.Proofs.YtlmijjekaelhcaaDoorW.PrintLast Go.Proofs.YtlmijjekaelhcaaDoorW.PrintMore
attribute [local go_sem] max2_int min2_int max_two min_two max_three min_three max_four min_four
set_option linter.unusedVariables false
set_option linter.unusedSimpArgs false
mutual
def q_Parse.l0 : Nat → ByteArray → List (S25) → Int → Option ((List (S25)) × Int × Int)
 | 0, _, _, _ => none
 | k + 1, x0, x5, x6 => if x6 < (x0.size : Int) then (q_Parse.l1 k x0 x5 x6 x6) else (some (x5, 0, 0))
def q_Parse.j2 : Nat → ByteArray → List (S25) → Int → Int → Option ((List (S25)) × Int × Int)
 | 0, _, _, _, _ => none
 | k + 1, x0, x5, x6, x7 => if x7 > x6 then (if 0 ≤ x6 then (if x6 ≤ x7 then (if x7 ≤ (x0.size : Int) then (if x5.length < 2199023255552 then (q_Parse.l0 k x0 (x5 ++ [(⟨x0.extract (x6 : Int).toNat (x7 : Int).toNat, 0, 0, 0, 0, 0, 0⟩ : S25)]) x7) else (none)) else (none)) else (none)) else (none)) else (if (wrap64 (x6 + 1)) < (x0.size : Int) then (if 0 ≤ (wrap64 (x6 + 1)) then (q_Parse.j3 k x0 x5 x6 ((bt x0 (wrap64 (x6 + 1))) == 37)) else (none)) else (q_Parse.j3 k x0 x5 x6 false))
def q_Parse.j3 : Nat → ByteArray → List (S25) → Int → Bool → Option ((List (S25)) × Int × Int)
 | 0, _, _, _, _ => none
 | k + 1, x0, x5, x6, x53 => if x53 = true then (if x5.length < 2199023255552 then (q_Parse.l0 k x0 (x5 ++ [(⟨(⟨#[]⟩ : ByteArray), 37, 0, 0, 0, 0, 0⟩ : S25)]) (wrap64 (x6 + 2))) else (none)) else ((q_marked.f k x0 x6).bind fun bt593 => (q_Parse.l2 k x0 x5 (wrap64 (x6 + 1)) bt593.1 bt593.2.1 bt593.2.2 (⟨#[]⟩ : ByteArray) 0 0 0 0 0 0))
def q_Parse.l2 : Nat → ByteArray → List (S25) → Int → Int → Int → Int → ByteArray → Int → Int → Int → Int → Int → Int → Option ((List (S25)) × Int × Int)
 | 0, _, _, _, _, _, _, _, _, _, _, _, _, _ => none
 | k + 1, x0, x5, x10, x597000, x597001, x597002, x598000, x598001, x598002, x598003, x598004, x598005, x598006 => if x10 < x597000 then (if 0 ≤ x10 then (if x10 < (x0.size : Int) then ((q_bit.f k (bt x0 x10)).bind fun t598 => (if t598 = 0 then (none) else (if (Int.tmod (wrap64 (Int.tdiv x598002 t598)) 2) = 0 then (q_Parse.l2 k x0 x5 (wrap64 (x10 + 1)) x597000 x597001 x597002 x598000 x598001 (wrap64 (x598002 + t598)) x598003 x598004 x598005 x598006) else (q_Parse.l2 k x0 x5 (wrap64 (x10 + 1)) x597000 x597001 x597002 x598000 x598001 x598002 x598003 x598004 x598005 x598006)))) else (none)) else (none)) else (if x597001 > x597000 then (if 0 ≤ x597000 then (if x597000 < (x0.size : Int) then (if (bt x0 x597000) = 42 then (q_Parse.j5 k x0 x5 x597000 x597001 x597002 x598000 x598001 x598002 2 x598004 x598005 x598006) else (if x597000 ≤ x597001 then (if x597001 ≤ (x0.size : Int) then ((q_number.f k (x0.extract (x597000 : Int).toNat (x597001 : Int).toNat)).bind fun t599 => (q_Parse.j5 k x0 x5 x597000 x597001 x597002 x598000 x598001 x598002 1 t599 x598005 x598006)) else (none)) else (none))) else (none)) else (none)) else (q_Parse.j5 k x0 x5 x597000 x597001 x597002 x598000 x598001 x598002 x598003 x598004 x598005 x598006))
def q_Parse.j5 : Nat → ByteArray → List (S25) → Int → Int → Int → ByteArray → Int → Int → Int → Int → Int → Int → Option ((List (S25)) × Int × Int)
 | 0, _, _, _, _, _, _, _, _, _, _, _, _ => none
 | k + 1, x0, x5, x597000, x597001, x597002, x598000, x598001, x598002, x598003, x598004, x598005, x598006 => if x598004 > 4096 then (some (([] : List (S25)), x597000, 6)) else (if x597002 > x597001 then (if x597002 = (wrap64 (x597001 + 1)) then (if 0 ≤ (wrap64 (x597001 + 1)) then (if (wrap64 (x597001 + 1)) ≤ x597002 then (if x597002 ≤ (x0.size : Int) then ((q_number.f k (x0.extract ((wrap64 (x597001 + 1)) : Int).toNat (x597002 : Int).toNat)).bind fun t600 => (q_Parse.j6 k x0 x5 x597000 x597001 x597002 x598000 x598001 x598002 x598003 x598004 1 t600)) else (none)) else (none)) else (none)) else (if 0 ≤ (wrap64 (x597001 + 1)) then (if (wrap64 (x597001 + 1)) < (x0.size : Int) then (if (bt x0 (wrap64 (x597001 + 1))) = 42 then (q_Parse.j6 k x0 x5 x597000 x597001 x597002 x598000 x598001 x598002 x598003 x598004 2 x598006) else (if (wrap64 (x597001 + 1)) ≤ x597002 then (if x597002 ≤ (x0.size : Int) then ((q_number.f k (x0.extract ((wrap64 (x597001 + 1)) : Int).toNat (x597002 : Int).toNat)).bind fun t601 => (q_Parse.j6 k x0 x5 x597000 x597001 x597002 x598000 x598001 x598002 x598003 x598004 1 t601)) else (none)) else (none))) else (none)) else (none))) else (q_Parse.j6 k x0 x5 x597000 x597001 x597002 x598000 x598001 x598002 x598003 x598004 x598005 x598006))
def q_Parse.j6 : Nat → ByteArray → List (S25) → Int → Int → Int → ByteArray → Int → Int → Int → Int → Int → Int → Option ((List (S25)) × Int × Int)
 | 0, _, _, _, _, _, _, _, _, _, _, _, _ => none
 | k + 1, x0, x5, x597000, x597001, x597002, x598000, x598001, x598002, x598003, x598004, x598005, x598006 => if x598006 > 4096 then (some (([] : List (S25)), wrap64 (x597001 + 1), 6)) else (if x597002 = (x0.size : Int) then (some (([] : List (S25)), (x0.size : Int), 131)) else (if 0 ≤ x597002 then (if x597002 < (x0.size : Int) then ((q_at.f k (⟨#[100, 105, 111, 117, 120, 88, 99, 115, 101, 69, 102, 70, 103, 71]⟩ : ByteArray) (bt x0 x597002)).bind fun t602 => (if t602 < 0 then (some (([] : List (S25)), x597002, 130)) else (if x5.length < 2199023255552 then (q_Parse.l0 k x0 (x5 ++ [(⟨x598000, bt x0 x597002, x598002, x598003, x598004, x598005, x598006⟩ : S25)]) (wrap64 (x597002 + 1))) else (none)))) else (none)) else (none)))
def q_Parse.l1 : Nat → ByteArray → List (S25) → Int → Int → Option ((List (S25)) × Int × Int)
 | 0, _, _, _, _ => none
 | k + 1, x0, x5, x6, x7 => if x7 < (x0.size : Int) then (if 0 ≤ x7 then (if (bt x0 x7) = 37 then (q_Parse.j2 k x0 x5 x6 x7) else (q_Parse.l1 k x0 x5 x6 (wrap64 (x7 + 1)))) else (none)) else (q_Parse.j2 k x0 x5 x6 x7)
end
def q_Parse.f (k : Nat) (a0 : ByteArray) : Option ((List (S25)) × Int × Int) := q_Parse.l0 k a0 (([] : List (S25))) 0
theorem q_Parse.mono_l : ∀ k, (∀ y0 y1 y2, LeO (q_Parse.l0 k y0 y1 y2) (q_Parse.l0 (k + 1) y0 y1 y2)) ∧ (∀ y0 y1 y2 y3, LeO (q_Parse.j2 k y0 y1 y2 y3) (q_Parse.j2 (k + 1) y0 y1 y2 y3)) ∧ (∀ y0 y1 y2 y3, LeO (q_Parse.j3 k y0 y1 y2 y3) (q_Parse.j3 (k + 1) y0 y1 y2 y3)) ∧ (∀ y0 y1 y2 y3 y4 y5 y6 y7 y8 y9 y10 y11 y12, LeO (q_Parse.l2 k y0 y1 y2 y3 y4 y5 y6 y7 y8 y9 y10 y11 y12) (q_Parse.l2 (k + 1) y0 y1 y2 y3 y4 y5 y6 y7 y8 y9 y10 y11 y12)) ∧ (∀ y0 y1 y2 y3 y4 y5 y6 y7 y8 y9 y10 y11, LeO (q_Parse.j5 k y0 y1 y2 y3 y4 y5 y6 y7 y8 y9 y10 y11) (q_Parse.j5 (k + 1) y0 y1 y2 y3 y4 y5 y6 y7 y8 y9 y10 y11)) ∧ (∀ y0 y1 y2 y3 y4 y5 y6 y7 y8 y9 y10 y11, LeO (q_Parse.j6 k y0 y1 y2 y3 y4 y5 y6 y7 y8 y9 y10 y11) (q_Parse.j6 (k + 1) y0 y1 y2 y3 y4 y5 y6 y7 y8 y9 y10 y11)) ∧ (∀ y0 y1 y2 y3, LeO (q_Parse.l1 k y0 y1 y2 y3) (q_Parse.l1 (k + 1) y0 y1 y2 y3))
 | 0 => ⟨fun _ _ _ r h => by simp [q_Parse.l0] at h, fun _ _ _ _ r h => by simp [q_Parse.j2] at h, fun _ _ _ _ r h => by simp [q_Parse.j3] at h, fun _ _ _ _ _ _ _ _ _ _ _ _ _ r h => by simp [q_Parse.l2] at h, fun _ _ _ _ _ _ _ _ _ _ _ _ r h => by simp [q_Parse.j5] at h, fun _ _ _ _ _ _ _ _ _ _ _ _ r h => by simp [q_Parse.j6] at h, fun _ _ _ _ r h => by simp [q_Parse.l1] at h⟩
 | k + 1 => by
  obtain ⟨ih0, ih1, ih2, ih3, ih4, ih5, ih6⟩ := q_Parse.mono_l k
  refine ⟨?_, ?_, ?_, ?_, ?_, ?_, ?_⟩ <;> intros
  all_goals first | unfold q_Parse.l0 | unfold q_Parse.j2 | unfold q_Parse.j3 | unfold q_Parse.l2 | unfold q_Parse.j5 | unfold q_Parse.j6 | unfold q_Parse.l1
  all_goals repeat' first
  | (with_reducible exact ih0 _ _ _)
  | (with_reducible exact ih1 _ _ _ _)
  | (with_reducible exact ih2 _ _ _ _)
  | (with_reducible exact ih3 _ _ _ _ _ _ _ _ _ _ _ _ _)
  | (with_reducible exact ih4 _ _ _ _ _ _ _ _ _ _ _ _)
  | (with_reducible exact ih5 _ _ _ _ _ _ _ _ _ _ _ _)
  | (with_reducible exact ih6 _ _ _ _)
  | (with_reducible exact q_at.mono _ _ _)
  | (with_reducible exact q_bit.mono _ _)
  | (with_reducible exact q_marked.mono _ _ _)
  | (with_reducible exact q_number.mono _ _)
  | (with_reducible exact LeO.refl _)
  | (with_reducible exact LeO.none _)
  | (with_reducible refine LeO.ite ?_ ?_)
  | (with_reducible refine LeO.bind ?_ (fun _ => ?_))
  | exact ih0 _ _ _
  | exact ih1 _ _ _ _
  | exact ih2 _ _ _ _
  | exact ih3 _ _ _ _ _ _ _ _ _ _ _ _ _
  | exact ih4 _ _ _ _ _ _ _ _ _ _ _ _
  | exact ih5 _ _ _ _ _ _ _ _ _ _ _ _
  | exact ih6 _ _ _ _
  | exact q_at.mono _ _ _
  | exact q_bit.mono _ _
  | exact q_marked.mono _ _ _
  | exact q_number.mono _ _
  | exact LeO.none _
  | refine LeO.ite ?_ ?_
  | refine LeO.bind ?_ (fun _ => ?_)
theorem q_Parse.mono : ∀ a0 k, LeO (q_Parse.f k a0) (q_Parse.f (k + 1) a0) := by
 intro a0 k
 obtain ⟨ih0, ih1, ih2, ih3, ih4, ih5, ih6⟩ := q_Parse.mono_l k
 unfold q_Parse.f
 repeat' first
   | (with_reducible exact ih0 _ _ _)
   | (with_reducible exact ih1 _ _ _ _)
   | (with_reducible exact ih2 _ _ _ _)
   | (with_reducible exact ih3 _ _ _ _ _ _ _ _ _ _ _ _ _)
   | (with_reducible exact ih4 _ _ _ _ _ _ _ _ _ _ _ _)
   | (with_reducible exact ih5 _ _ _ _ _ _ _ _ _ _ _ _)
   | (with_reducible exact ih6 _ _ _ _)
   | (with_reducible exact q_at.mono _ _ _)
   | (with_reducible exact q_bit.mono _ _)
   | (with_reducible exact q_marked.mono _ _ _)
   | (with_reducible exact q_number.mono _ _)
   | (with_reducible exact LeO.refl _)
   | (with_reducible exact LeO.none _)
   | (with_reducible refine LeO.ite ?_ ?_)
   | (with_reducible refine LeO.bind ?_ (fun _ => ?_))
   | exact ih0 _ _ _
   | exact ih1 _ _ _ _
   | exact ih2 _ _ _ _
   | exact ih3 _ _ _ _ _ _ _ _ _ _ _ _ _
   | exact ih4 _ _ _ _ _ _ _ _ _ _ _ _
   | exact ih5 _ _ _ _ _ _ _ _ _ _ _ _
   | exact ih6 _ _ _ _
   | exact q_at.mono _ _ _
   | exact q_bit.mono _ _
   | exact q_marked.mono _ _ _
   | exact q_number.mono _ _
   | exact LeO.none _
   | refine LeO.ite ?_ ?_
   | refine LeO.bind ?_ (fun _ => ?_)
set_option maxHeartbeats 8000000 in
set_option maxRecDepth 100000 in
theorem q_Parse.calls (k : Nat) (a0 : ByteArray) (r1 : List (S25)) (r2 : Int) (r3 : Int) (w : World) (h : q_Parse.f k a0 = some (r1, r2, r3)) :
  Calls Tryd.prog 20 #[.string a0] w fun e w' => ∃ v0_ : Value, e = .returned (.tuple #[v0_, .int .i64 r2, .int .i64 r3]) ∧ Kd.R k25 25 w' w.heap.size (fun _ => True) v0_ r1 ∧ Below w.heap.size w w' := by
 have hu25 := Tryd.underlying25
 have hu72 := Tryd.underlying72
 have HB := am (Below.refl w.heap.size w)
 have H : (q_Parse.l0 k a0 (([] : List (S25))) 0) = some (r1, r2, r3) := h
 clear h
 obtain ⟨y584, hy584⟩ : ∃ y_ : List (S25), y_ = (([] : List (S25))) := ⟨_, rfl⟩
 replace H : (q_Parse.l0 k a0 y584 0) = some (r1, r2, r3) := by first | (rw [hy584]; with_reducible exact H) | (have H2_ := (Option.bind_some _ _).symm.trans H; rw [hy584]; with_reducible exact H2_) | (have H2_ := (Option.bind_some _ _).symm.trans H; with_reducible exact H2_) | with_reducible exact H | (rw [hy584]; exact H) | exact H
 have Ny584 := am hy584
 clear hy584
 have H' := am H
 clear H
 go_enter Tryd.func20, Tryd.ntmps20
 go_wp2_with (first | ((with_reducible refine gate_dst (N := 12) rfl ?_); refine Kd.R_lit k25 _ 25 ?hg (N := 12) ?hd (xs := ([] : List (S25))) (inner := []) (ok := fun _ => True) (okp := fun _ => True) ?hr ?hp (fun _ hk => hk) trivial (Below.refl _ _) (Nat.le_refl _) (by simp) ?_; (case hd => rfl); (case hg => rfl); (case hr => first | (go_simp; done) | (go_simp; rfl)); (case hp => exact (Reps.none _ _)); intro v585 w2 ho3 hb hg_ hnew_; clear hg_ hnew_; (first | rw [← Ny584.out] at ho3 | (simp only [Int.reduceToNat] at ho3; rw [← Ny584.out] at ho3)); have n0_ := am (Kd.R_lower ho3 (below_size bl)); have n1_ := am (below_step bl hb); clear HB; have HO586 := n0_; have HB := n1_; clear n0_ n1_; clear hb ho3))
 repeat (go_quiet (first | ((with_reducible refine gate_dst (N := 12) rfl ?_); refine Kd.R_lit k25 _ 25 ?hg (N := 12) ?hd (xs := ([] : List (S25))) (inner := []) (ok := fun _ => True) (okp := fun _ => True) ?hr ?hp (fun _ hk => hk) trivial (Below.refl _ _) (Nat.le_refl _) (by simp) ?_; (case hd => rfl); (case hg => rfl); (case hr => first | (go_simp; done) | (go_simp; rfl)); (case hp => exact (Reps.none _ _)); intro v585 w2 ho3 hb hg_ hnew_; clear hg_ hnew_; (first | rw [← Ny584.out] at ho3 | (simp only [Int.reduceToNat] at ho3; rw [← Ny584.out] at ho3)); have n0_ := am (Kd.R_lower ho3 (below_size bl)); have n1_ := am (below_step bl hb); clear HB; have HO586 := n0_; have HB := n1_; clear n0_ n1_; clear hb ho3)); try go_wp2)
 go_loopg [5, 6] k (fun kq v5 v6 w' => ∃ (x5_1 : List (S25)) (x6_1 : Int), v6 = .int .i64 x6_1 ∧ Aside0 (q_Parse.l0 kq a0 x5_1 x6_1 = some (r1, r2, r3)) ∧ Aside0 (kq ≤ k) ∧ Aside0 (Kd.R k25 25 w' w.heap.size (fun _ => True) v5 x5_1) ∧ Aside0 (Below w.heap.size w w'))
 case atStart => exact ⟨(y584), (0), tv, H', ⟨Nat.le_refl _⟩, ⟨by (with_reducible repeat (first | apply Kd.R_alloc | apply Kd.R_drewN | apply Kd.R_drew)); exact HO586.out⟩, ⟨bl⟩⟩
 case round =>
  clear H'
  try clear c2
  try clear p2
  obtain ⟨x5_1, x6_1, rfl, HA, HK1, HO_5, HB⟩ := hrel
  cases gk with
  | zero => exact absurd HA.out (by simp [q_Parse.l0])
  | succ k1 =>
   have H := HA.out
   clear HA
   simp only [q_Parse.l0] at H
   by_cases c4 : x6_1 < (a0.size : Int)
   rotate_left
   ·rw [if_neg c4] at H
    have c4b0 := decide_eq_false c4
    clear c4
    simp only [Option.some.injEq, Prod.mk.injEq] at H
    obtain ⟨rfl, rfl, rfl⟩ := H
    go_wp2
    repeat (go_quiet (fail); try go_wp2)
    go_ret3
    exact ⟨_, er, by (with_reducible repeat (first | apply Kd.R_alloc | apply Kd.R_drewN | apply Kd.R_drew)); exact HO_5.out, bl⟩
   rw [if_pos c4] at H
   have c4b0 := decide_eq_true c4
   clear c4
   have HC5 := am H
   clear H
   go_upto_block 2 with (fail)
   repeat (go_quiet (fail); go_upto_block 2 with (fail))
   go_cut [7] (fun v7 wc => ∃ (kq : Nat) (x7_4 : Int), v7 = .int .i64 x7_4 ∧ Aside0 (q_Parse.j2 kq a0 x5_1 x6_1 x7_4 = some (r1, r2, r3)) ∧ Aside0 (kq ≤ k1) ∧ Aside0 (Kd.R k25 25 wc w.heap.size (fun _ => True) u5 x5_1) ∧ Aside0 (Below w.heap.size w wc))
   case first =>
    have H := HC5.out
    clear HC5
    have H' := am H
    clear H
    go_wp2
    repeat (go_quiet (fail); try go_wp2)
    go_loopg [7] k1 (fun kq v7 w' => ∃ (x7_2 : Int), v7 = .int .i64 x7_2 ∧ Aside0 (q_Parse.l1 kq a0 x5_1 x6_1 x7_2 = some (r1, r2, r3)) ∧ Aside0 (kq ≤ k1) ∧ Aside0 (Kd.R k25 25 w' w.heap.size (fun _ => True) u5 x5_1) ∧ Aside0 (Below w.heap.size w w'))
    case atStart => exact ⟨(x6_1), tv, H', ⟨Nat.le_refl _⟩, ⟨by (with_reducible repeat (first | apply Kd.R_alloc | apply Kd.R_drewN | apply Kd.R_drew)); exact HO_5.out⟩, ⟨bl⟩⟩
    case round =>
     clear H'
     try clear c2
     try clear p2
     try clear c4
     try clear c4b0
     try clear p2
     obtain ⟨x7_2, rfl, HA, HK2, HO_5, HB⟩ := hrel
     cases gk with
     | zero => exact absurd HA.out (by simp [q_Parse.l1])
     | succ k2 =>
      have H := HA.out
      clear HA
      simp only [q_Parse.l1] at H
      by_cases c6 : x7_2 < (a0.size : Int)
      rotate_left
      ·rw [if_neg c6] at H
       have c6b0 := decide_eq_false c6
       clear c6
       (first | rw [c6b0] | (simp only [i64_w, i32_w]; rw [c6b0]) | skip)
       have H' := am H
       clear H
       go_wp2
       repeat (go_quiet (fail); try go_wp2)
       go_meet
       case rel => exact ⟨_, (x7_2), tv, H', ⟨by have := HK1.out; have := HK2.out; first | omega | exact Nat.le_refl _⟩, ⟨by (with_reducible repeat (first | apply Kd.R_alloc | apply Kd.R_drewN | apply Kd.R_drew)); exact HO_5.out⟩, ⟨bl⟩⟩
      rw [if_pos c6] at H
      have c6b0 := decide_eq_true c6
      clear c6
      (first | rw [c6b0] | (simp only [i64_w, i32_w]; rw [c6b0]) | skip)
      by_cases c7 : 0 ≤ x7_2
      rotate_left
      ·rw [if_neg c7] at H
       exact absurd H (by simp)
      rw [if_pos c7] at H
      have c7b0 := decide_eq_true c7
      clear c7
      by_cases c9 : (bt a0 x7_2) = 37
      ·rw [if_pos c9] at H
       have c9b0 : ((bt a0 x7_2) == 37) = true := beq_iff_eq.mpr c9
       have c9b1 : ((bt a0 x7_2) != 37) = false := bne_eq_false_iff_eq.mpr c9
       clear c9
       have H' := am H
       clear H
       have p8 : 0 ≤ (x7_2 : Int) := of_decide_eq_true od
       have q8 : x7_2 < (a0.size : Int) := of_decide_eq_true od
       have hx8 := bt_at a0 x7_2
       replace p8 := eq_true p8
       replace q8 := eq_true q8
       go_wp2
       repeat (go_quiet (fail); try go_wp2)
       go_meet
       case rel => exact ⟨_, (x7_2), tv, H', ⟨by have := HK1.out; have := HK2.out; first | omega | exact Nat.le_refl _⟩, ⟨by (with_reducible repeat (first | apply Kd.R_alloc | apply Kd.R_drewN | apply Kd.R_drew)); exact HO_5.out⟩, ⟨bl⟩⟩
      rw [if_neg c9] at H
      have c9b0 : ((bt a0 x7_2) == 37) = false := beq_eq_false_iff_ne.mpr c9
      have c9b1 : ((bt a0 x7_2) != 37) = true := bne_iff_ne.mpr c9
      have H' := am H
      clear H
      have p8 : 0 ≤ (x7_2 : Int) := of_decide_eq_true od
      have q8 : x7_2 < (a0.size : Int) := of_decide_eq_true od
      have hx8 := bt_at a0 x7_2
      replace p8 := eq_true p8
      replace q8 := eq_true q8
      go_wp2
      repeat (go_quiet (fail); try go_wp2)
      go_roundg k2
      case measure => have := HK1.out; have := HK2.out; omega
      case rel => exact ⟨(wrap64 (x7_2 + 1)), tv, H', ⟨by have := HK1.out; have := HK2.out; omega⟩, ⟨by (with_reducible repeat (first | apply Kd.R_alloc | apply Kd.R_drewN | apply Kd.R_drew)); exact HO_5.out⟩, ⟨bl⟩⟩
   case rest =>
    clear HC5
    try clear c2
    try clear p2
    try clear c4
    try clear c4b0
    try clear c6
    try clear c6b0
    try clear p6
    try clear c7
    try clear c7b0
    try clear p8
    try clear q8
    try clear hx8
    try clear c9
    try clear c9b0
    try clear c9b1
    try clear p2
    try clear p8
    try clear q8
    obtain ⟨kq, x7_4, rfl, HA, HJ4, HO_5, HB⟩ := hcut
    cases kq with
    | zero => exact absurd HA.out (by simp [q_Parse.j2])
    | succ kj4 =>
     have H := HA.out
     clear HA
     simp only [q_Parse.j2] at H
     by_cases c10 : x7_4 > x6_1
     ·rw [if_pos c10] at H
      have c10b0 : decide (x6_1 < x7_4) = true := decide_eq_true c10
      clear c10
      by_cases c11 : 0 ≤ x6_1
      rotate_left
      ·rw [if_neg c11] at H
       exact absurd H (by simp)
      rw [if_pos c11] at H
      have c11b0 := eq_true c11
      have c11b1 := decide_eq_true c11
      clear c11
      by_cases c12 : x6_1 ≤ x7_4
      rotate_left
      ·rw [if_neg c12] at H
       exact absurd H (by simp)
      rw [if_pos c12] at H
      have c12b0 := eq_true c12
      have c12b1 := decide_eq_true c12
      clear c12
      by_cases c13 : x7_4 ≤ (a0.size : Int)
      rotate_left
      ·rw [if_neg c13] at H
       exact absurd H (by simp)
      rw [if_pos c13] at H
      have c13b0 := eq_true c13
      have c13b1 := decide_eq_true c13
      clear c13
      by_cases c14 : x5_1.length < 2199023255552
      rotate_left
      ·rw [if_neg c14] at H
       exact absurd H (by simp)
      rw [if_pos c14] at H
      have LMc14 := am c14
      clear c14
      obtain ⟨y587, hy587⟩ : ∃ y_ : List (S25), y_ = (x5_1 ++ [(⟨a0.extract (x6_1 : Int).toNat (x7_4 : Int).toNat, 0, 0, 0, 0, 0, 0⟩ : S25)]) := ⟨_, rfl⟩
      replace H : (q_Parse.l0 kj4 a0 y587 x7_4) = some (r1, r2, r3) := by first | (rw [hy587]; with_reducible exact H) | (have H2_ := (Option.bind_some _ _).symm.trans H; rw [hy587]; with_reducible exact H2_) | (have H2_ := (Option.bind_some _ _).symm.trans H; with_reducible exact H2_) | with_reducible exact H | (rw [hy587]; exact H) | exact H
      have Ny587 := am hy587
      clear hy587
      have H' := am H
      clear H
      go_wp2_with (first | ((with_reducible refine gate_builtin (b := .append) (xs := #[.tmp 33, .tmp 39]) rfl ?_); at_builtin; refine Kd.R_append k25 (w0 := w) w.heap.size rfl (.tmp 33) (.tmp 39) 22 25 (.agg #[(.string ⟨#[]⟩), (.int .u8 0), (.int .i64 0), (.int .i64 0), (.int .i64 0), (.int .i64 0), (.int .i64 0)]) 64 rfl Tryd.underlying22 info25 rfl (by decide) (by omega) u5 x5_1 (⟨a0.extract (x6_1 : Int).toNat (x7_4 : Int).toNat, 0, 0, 0, 0, 0, 0⟩ : S25) [.string (a0.extract (x6_1 : Int).toNat (x7_4 : Int).toNat), .int .u8 0, .int .i64 0, .int .i64 0, .int .i64 0, .int .i64 0, .int .i64 0] (fun _ => True) (fun _ => False) rfl rfl ?aP (fun _ hk => hk.elim) ?aF ?aO ?aB ?aS ?aL ?_; (case aP => exact k25_mkM _ _ _ (⟨a0.extract (x6_1 : Int).toNat (x7_4 : Int).toNat, 0, 0, 0, 0, 0, 0⟩ : S25)); (case aB => exact bl); (case aF => exact (fun _ _ => trivial)); (case aO => exact (by (with_reducible repeat (first | apply Kd.R_alloc | apply Kd.R_drewN | apply Kd.R_drew)); exact HO_5.out)); (case aS => exact (below_size bl)); (case aL => have := LMc14.out; omega); intro v588 w15 ho hb hg hat; rw [← Ny587.out] at ho; have n0_ := am (hb); have n1_ := am (ho); clear HB; clear HO_5; have HB := n0_; have HO589 := n1_; clear n0_ n1_; clear ho hb hg hat))
      repeat (go_quiet (first | ((with_reducible refine gate_builtin (b := .append) (xs := #[.tmp 33, .tmp 39]) rfl ?_); at_builtin; refine Kd.R_append k25 (w0 := w) w.heap.size rfl (.tmp 33) (.tmp 39) 22 25 (.agg #[(.string ⟨#[]⟩), (.int .u8 0), (.int .i64 0), (.int .i64 0), (.int .i64 0), (.int .i64 0), (.int .i64 0)]) 64 rfl Tryd.underlying22 info25 rfl (by decide) (by omega) u5 x5_1 (⟨a0.extract (x6_1 : Int).toNat (x7_4 : Int).toNat, 0, 0, 0, 0, 0, 0⟩ : S25) [.string (a0.extract (x6_1 : Int).toNat (x7_4 : Int).toNat), .int .u8 0, .int .i64 0, .int .i64 0, .int .i64 0, .int .i64 0, .int .i64 0] (fun _ => True) (fun _ => False) rfl rfl ?aP (fun _ hk => hk.elim) ?aF ?aO ?aB ?aS ?aL ?_; (case aP => exact k25_mkM _ _ _ (⟨a0.extract (x6_1 : Int).toNat (x7_4 : Int).toNat, 0, 0, 0, 0, 0, 0⟩ : S25)); (case aB => exact bl); (case aF => exact (fun _ _ => trivial)); (case aO => exact (by (with_reducible repeat (first | apply Kd.R_alloc | apply Kd.R_drewN | apply Kd.R_drew)); exact HO_5.out)); (case aS => exact (below_size bl)); (case aL => have := LMc14.out; omega); intro v588 w15 ho hb hg hat; rw [← Ny587.out] at ho; have n0_ := am (hb); have n1_ := am (ho); clear HB; clear HO_5; have HB := n0_; have HO589 := n1_; clear n0_ n1_; clear ho hb hg hat)); try go_wp2)
      go_roundg kj4
      case measure => have := HK1.out; have := HJ4.out; omega
      case rel => exact ⟨(y587), (x7_4), tv, H', ⟨by have := HK1.out; have := HJ4.out; omega⟩, ⟨by (with_reducible repeat (first | apply Kd.R_alloc | apply Kd.R_drewN | apply Kd.R_drew)); exact HO589.out⟩, ⟨bl⟩⟩
     rw [if_neg c10] at H
     have c10b0 : decide (x6_1 < x7_4) = false := decide_eq_false c10
     clear c10
     have HC16 := am H
     clear H
     go_upto_region 10 with (fail)
     repeat (go_quiet (fail); go_upto_region 10 with (fail))
     go_cut [53] (fun v53 wc => ∃ (kq : Nat) (x53_15 : Bool), v53 = .bool x53_15 ∧ Aside0 (q_Parse.j3 kq a0 x5_1 x6_1 x53_15 = some (r1, r2, r3)) ∧ Aside0 (kq ≤ kj4) ∧ Aside0 (Kd.R k25 25 wc w.heap.size (fun _ => True) u5 x5_1) ∧ Aside0 (Below w.heap.size w wc))
     case first =>
      have H := HC16.out
      clear HC16
      by_cases c17 : (wrap64 (x6_1 + 1)) < (a0.size : Int)
      rotate_left
      ·rw [if_neg c17] at H
       have c17b0 := decide_eq_false c17
       clear c17
       (first | rw [c17b0] | (simp only [i64_w, i32_w]; rw [c17b0]) | skip)
       have H' := am H
       clear H
       go_wp2
       repeat (go_quiet (fail); try go_wp2)
       go_meet
       case rel => exact ⟨_, (false), tv, H', ⟨by have := HK1.out; have := HJ4.out; first | omega | exact Nat.le_refl _⟩, ⟨by (with_reducible repeat (first | apply Kd.R_alloc | apply Kd.R_drewN | apply Kd.R_drew)); exact HO_5.out⟩, ⟨bl⟩⟩
      rw [if_pos c17] at H
      have c17b0 := decide_eq_true c17
      clear c17
      (first | rw [c17b0] | (simp only [i64_w, i32_w]; rw [c17b0]) | skip)
      obtain ⟨ji18, hji18⟩ : ∃ j_ : Int, (wrap64 (x6_1 + 1)) = j_ := ⟨_, rfl⟩
      replace H : (if 0 ≤ (ji18) then (q_Parse.j3 kj4 a0 x5_1 x6_1 ((bt a0 (ji18)) == 37)) else (none)) = some (r1, r2, r3) := by first | (rw [hji18] at H; exact H) | (simp only [hji18] at H ⊢; exact H)
      (try rw [hji18] at c17b0)
      have hji18w : (IntKind.i64.wrap (x6_1 + 1)) = ji18 := (i64_w _).trans hji18
      by_cases c19 : 0 ≤ (ji18)
      rotate_left
      ·rw [if_neg c19] at H
       exact absurd H (by simp)
      rw [if_pos c19] at H
      have c19b0 := decide_eq_true c19
      clear c19
      have H' := am H
      clear H
      have p20 : 0 ≤ ((ji18) : Int) := of_decide_eq_true od
      have q20 : (ji18) < (a0.size : Int) := of_decide_eq_true od
      have hx20 := bt_at a0 (ji18)
      replace p20 := eq_true p20
      replace q20 := eq_true q20
      go_wp2
      repeat (go_quiet (fail); try go_wp2)
      go_meet
      case rel => exact ⟨_, (((bt a0 (ji18)) == 37)), (by first | rfl | (simp; done) | (simp only [← hji18] <;> (first | rfl | simp)) | (simp [*]; done)), H', ⟨by have := HK1.out; have := HJ4.out; first | omega | exact Nat.le_refl _⟩, ⟨by (with_reducible repeat (first | apply Kd.R_alloc | apply Kd.R_drewN | apply Kd.R_drew)); exact HO_5.out⟩, ⟨bl⟩⟩
     case rest =>
      clear HC16
      try clear c1
      try clear c2
      try clear p2
      try clear q2
      try clear hx2
      try clear c4
      try clear c4b0
      try clear c6
      try clear c6b0
      try clear p6
      try clear c7
      try clear c7b0
      try clear p8
      try clear q8
      try clear hx8
      try clear c9
      try clear c9b0
      try clear c9b1
      try clear c10
      try clear c10b0
      try clear c11
      try clear c11b0
      try clear c11b1
      try clear c12
      try clear c12b0
      try clear c12b1
      try clear c13
      try clear c13b0
      try clear c13b1
      try clear c14
      try clear c17
      try clear c17b0
      try clear c19
      try clear c19b0
      try clear c20
      try clear p20
      try clear q20
      try clear hx20
      try clear p2
      try clear p20
      try clear p6
      try clear p8
      try clear q20
      try clear q8
      obtain ⟨kq, x53_15, rfl, HA, HJ15, HO_5, HB⟩ := hcut
      cases kq with
      | zero => exact absurd HA.out (by simp [q_Parse.j3])
      | succ kj15 =>
       have H := HA.out
       clear HA
       simp only [q_Parse.j3] at H
       by_cases c21 : x53_15 = true
       ·subst c21
        have H1 : (if x5_1.length < 2199023255552 then (q_Parse.l0 kj15 a0 (x5_1 ++ [(⟨(⟨#[]⟩ : ByteArray), 37, 0, 0, 0, 0, 0⟩ : S25)]) (wrap64 (x6_1 + 2))) else (none)) = some (r1, r2, r3) := by rw [if_pos rfl] at H; exact H
        clear H
        have H := H1
        clear H1
        by_cases c22 : x5_1.length < 2199023255552
        rotate_left
        ·rw [if_neg c22] at H
         exact absurd H (by simp)
        rw [if_pos c22] at H
        have LMc22 := am c22
        clear c22
        obtain ⟨y590, hy590⟩ : ∃ y_ : List (S25), y_ = (x5_1 ++ [(⟨(⟨#[]⟩ : ByteArray), 37, 0, 0, 0, 0, 0⟩ : S25)]) := ⟨_, rfl⟩
        replace H : (q_Parse.l0 kj15 a0 y590 (wrap64 (x6_1 + 2))) = some (r1, r2, r3) := by first | (rw [hy590]; with_reducible exact H) | (have H2_ := (Option.bind_some _ _).symm.trans H; rw [hy590]; with_reducible exact H2_) | (have H2_ := (Option.bind_some _ _).symm.trans H; with_reducible exact H2_) | with_reducible exact H | (rw [hy590]; exact H) | exact H
        have Ny590 := am hy590
        clear hy590
        have H' := am H
        clear H
        go_wp2_with (first | ((with_reducible refine gate_builtin (b := .append) (xs := #[.tmp 54, .tmp 56]) rfl ?_); at_builtin; refine Kd.R_append k25 (w0 := w) w.heap.size rfl (.tmp 54) (.tmp 56) 22 25 (.agg #[(.string ⟨#[]⟩), (.int .u8 0), (.int .i64 0), (.int .i64 0), (.int .i64 0), (.int .i64 0), (.int .i64 0)]) 64 rfl Tryd.underlying22 info25 rfl (by decide) (by omega) u5 x5_1 (⟨(⟨#[]⟩ : ByteArray), 37, 0, 0, 0, 0, 0⟩ : S25) [.string (⟨#[]⟩ : ByteArray), .int .u8 37, .int .i64 0, .int .i64 0, .int .i64 0, .int .i64 0, .int .i64 0] (fun _ => True) (fun _ => False) rfl rfl ?aP (fun _ hk => hk.elim) ?aF ?aO ?aB ?aS ?aL ?_; (case aP => exact k25_mkM _ _ _ (⟨(⟨#[]⟩ : ByteArray), 37, 0, 0, 0, 0, 0⟩ : S25)); (case aB => exact bl); (case aF => exact (fun _ _ => trivial)); (case aO => exact (by (with_reducible repeat (first | apply Kd.R_alloc | apply Kd.R_drewN | apply Kd.R_drew)); exact HO_5.out)); (case aS => exact (below_size bl)); (case aL => have := LMc22.out; omega); intro v591 w23 ho hb hg hat; rw [← Ny590.out] at ho; have n0_ := am (hb); have n1_ := am (ho); clear HB; clear HO_5; have HB := n0_; have HO592 := n1_; clear n0_ n1_; clear ho hb hg hat))
        repeat (go_quiet (first | ((with_reducible refine gate_builtin (b := .append) (xs := #[.tmp 54, .tmp 56]) rfl ?_); at_builtin; refine Kd.R_append k25 (w0 := w) w.heap.size rfl (.tmp 54) (.tmp 56) 22 25 (.agg #[(.string ⟨#[]⟩), (.int .u8 0), (.int .i64 0), (.int .i64 0), (.int .i64 0), (.int .i64 0), (.int .i64 0)]) 64 rfl Tryd.underlying22 info25 rfl (by decide) (by omega) u5 x5_1 (⟨(⟨#[]⟩ : ByteArray), 37, 0, 0, 0, 0, 0⟩ : S25) [.string (⟨#[]⟩ : ByteArray), .int .u8 37, .int .i64 0, .int .i64 0, .int .i64 0, .int .i64 0, .int .i64 0] (fun _ => True) (fun _ => False) rfl rfl ?aP (fun _ hk => hk.elim) ?aF ?aO ?aB ?aS ?aL ?_; (case aP => exact k25_mkM _ _ _ (⟨(⟨#[]⟩ : ByteArray), 37, 0, 0, 0, 0, 0⟩ : S25)); (case aB => exact bl); (case aF => exact (fun _ _ => trivial)); (case aO => exact (by (with_reducible repeat (first | apply Kd.R_alloc | apply Kd.R_drewN | apply Kd.R_drew)); exact HO_5.out)); (case aS => exact (below_size bl)); (case aL => have := LMc22.out; omega); intro v591 w23 ho hb hg hat; rw [← Ny590.out] at ho; have n0_ := am (hb); have n1_ := am (ho); clear HB; clear HO_5; have HB := n0_; have HO592 := n1_; clear n0_ n1_; clear ho hb hg hat)); try go_wp2)
        go_roundg kj15
        case measure => have := HK1.out; have := HJ4.out; have := HJ15.out; omega
        case rel => exact ⟨(y590), (wrap64 (x6_1 + 2)), tv, H', ⟨by have := HK1.out; have := HJ4.out; have := HJ15.out; omega⟩, ⟨by (with_reducible repeat (first | apply Kd.R_alloc | apply Kd.R_drewN | apply Kd.R_drew)); exact HO592.out⟩, ⟨bl⟩⟩
       replace c21 := Bool.eq_false_iff.mpr c21
       subst c21
       have H1 : ((q_marked.f kj15 a0 x6_1).bind fun bt593 => (q_Parse.l2 kj15 a0 x5_1 (wrap64 (x6_1 + 1)) bt593.1 bt593.2.1 bt593.2.2 (⟨#[]⟩ : ByteArray) 0 0 0 0 0 0)) = some (r1, r2, r3) := by rw [if_neg (show ¬ (false = true) by decide)] at H; exact H
       clear H
       have H := H1
       clear H1
       replace H := Option.bind_eq_some_iff.mp H
       obtain ⟨⟨t593, t594, t595⟩, A240, H⟩ := H
       replace H : (q_Parse.l2 kj15 a0 x5_1 (wrap64 (x6_1 + 1)) t593 t594 t595 (⟨#[]⟩ : ByteArray) 0 0 0 0 0 0) = some (r1, r2, r3) := H
       have A24 := am A240
       clear A240
       have H' := am H
       clear H
       go_wp2_with (first | (go_at_call 36; (with_reducible refine (q_marked.calls kj15 a0 x6_1 t593 t594 t595 _ A24.out).mono ?_); rintro e w25 ⟨rfl, hb⟩; have n0_ := am (Kd.R_below (by (with_reducible repeat (first | apply Kd.R_alloc | apply Kd.R_drewN | apply Kd.R_drew)); exact HO_5.out) hb); have n1_ := am (below_step bl hb); clear HO_5; clear HB; have HO_5 := n0_; have HB := n1_; clear n0_ n1_; (try clear hb); (try clear hb2); (try clear hk); (try clear hi)) | ((with_reducible refine gate_dst (N := 8) rfl ?_); refine box_event ?hg (N := 8) ?hd (cs := #[.int .i64 0, .int .i64 0, .int .i64 0]) (t := 72) ?hr ?_; (case hd => rfl); (case hg => rfl); (case hr => first | (go_simp; done) | (go_simp; rfl)); intro gb596 hg w26 hbox hb; have n0_ := am (Kd.R_below (by (with_reducible repeat (first | apply Kd.R_alloc | apply Kd.R_drewN | apply Kd.R_drew)); exact HO_5.out) hb); have n1_ := am (below_step bl hb); have n2_ := am (hbox); have n3_ := am ((by rw [hg]; exact (below_size bl) : w.heap.size ≤ gb596)); have n4_ := am ((by rw [hg]; exact (below_size bl) : w.heap.size ≤ gb596)); clear HO_5; clear HB; have HO_5 := n0_; have HB := n1_; have BK596 := n2_; have GW596 := n3_; have GE596 := n4_; clear n0_ n1_ n2_ n3_ n4_; clear hb hbox hg; obtain ⟨⟨hcz27_0, hcz27_1, hcz27_2⟩, hfz27_0, hfz27_1, hfz27_2⟩ := blkAll3 BK596) | ((with_reducible refine gate_dst (N := 9) rfl ?_); refine box_event ?hg (N := 9) ?hd (cs := #[.string (⟨#[]⟩ : ByteArray), .int .u8 0, .int .i64 0, .int .i64 0, .int .i64 0, .int .i64 0, .int .i64 0]) (t := 25) ?hr ?_; (case hd => rfl); (case hg => rfl); (case hr => first | (go_simp; done) | (go_simp; rfl)); intro gb597 hg w28 hbox hb; have n0_ := am (Kd.R_below (Kd.R_elderB (by (with_reducible repeat (first | apply Kd.R_alloc | apply Kd.R_drewN | apply Kd.R_drew)); exact (Kd.R_mono (Kd.R_far (p := ⟨gb596, 2, none⟩) (Kd.R_far (p := ⟨gb596, 1, none⟩) (Kd.R_far (p := ⟨gb596, 0, none⟩) (Kd.R_types HO_5.out BK596.out (by decide)) (fun _ hk => hk.2) (.int .i64 t593)) (fun _ hk => hk.2) (.int .i64 t594)) (fun _ hk => hk.2) (.int .i64 t595)) (fun _ h_ => h_.1))) gb597 (Nat.le_of_eq hg.symm)) hb); have n1_ := am (blk_below (g := gb596) (o := .cells #[.int .i64 t593, .int .i64 t594, .int .i64 t595] 72 (0, 0)) (by refine bu ?_; refine blk_put (cs := #[.int .i64 t593, .int .i64 t594, .int .i64 0]) ?_ 2 _ rfl; refine bu ?_; refine blk_put (cs := #[.int .i64 t593, .int .i64 0, .int .i64 0]) ?_ 1 _ rfl; refine bu ?_; refine blk_put (cs := #[.int .i64 0, .int .i64 0, .int .i64 0]) ?_ 0 _ rfl; refine bu ?_; exact BK596.out) hb); have n2_ := am (below_step bs hb); have n3_ := am (hbox); have n4_ := am ((by rw [hg]; exact (below_size bs) : w.heap.size ≤ gb597)); have n5_ := am ((by rw [hg]; exact (below_size bs) : w.heap.size ≤ gb597)); have n6_ := am ((by rw [hg]; exact Nat.ne_of_lt (blk_lt (g := gb596) (o := .cells #[.int .i64 t593, .int .i64 t594, .int .i64 t595] 72 (0, 0)) (by refine bu ?_; refine blk_put (cs := #[.int .i64 t593, .int .i64 t594, .int .i64 0]) ?_ 2 _ rfl; refine bu ?_; refine blk_put (cs := #[.int .i64 t593, .int .i64 0, .int .i64 0]) ?_ 1 _ rfl; refine bu ?_; refine blk_put (cs := #[.int .i64 0, .int .i64 0, .int .i64 0]) ?_ 0 _ rfl; refine bu ?_; exact BK596.out)) : gb596 ≠ gb597)); have n7_ := am ((by rw [hg]; exact Nat.ne_of_gt (blk_lt (g := gb596) (o := .cells #[.int .i64 t593, .int .i64 t594, .int .i64 t595] 72 (0, 0)) (by refine bu ?_; refine blk_put (cs := #[.int .i64 t593, .int .i64 t594, .int .i64 0]) ?_ 2 _ rfl; refine bu ?_; refine blk_put (cs := #[.int .i64 t593, .int .i64 0, .int .i64 0]) ?_ 1 _ rfl; refine bu ?_; refine blk_put (cs := #[.int .i64 0, .int .i64 0, .int .i64 0]) ?_ 0 _ rfl; refine bu ?_; exact BK596.out)) : gb597 ≠ gb596)); clear HO_5; clear BK596; clear HB; have HO_5 := n0_; have BK596 := n1_; have HB := n2_; have BK597 := n3_; have GW597 := n4_; have GE597 := n5_; have NB596_597 := n6_; have NB597_596 := n7_; clear n0_ n1_ n2_ n3_ n4_ n5_ n6_ n7_; clear hb hbox hg))
       repeat (go_quiet (first | (go_at_call 36; (with_reducible refine (q_marked.calls kj15 a0 x6_1 t593 t594 t595 _ A24.out).mono ?_); rintro e w25 ⟨rfl, hb⟩; have n0_ := am (Kd.R_below (by (with_reducible repeat (first | apply Kd.R_alloc | apply Kd.R_drewN | apply Kd.R_drew)); exact HO_5.out) hb); have n1_ := am (below_step bl hb); clear HO_5; clear HB; have HO_5 := n0_; have HB := n1_; clear n0_ n1_; (try clear hb); (try clear hb2); (try clear hk); (try clear hi)) | ((with_reducible refine gate_dst (N := 8) rfl ?_); refine box_event ?hg (N := 8) ?hd (cs := #[.int .i64 0, .int .i64 0, .int .i64 0]) (t := 72) ?hr ?_; (case hd => rfl); (case hg => rfl); (case hr => first | (go_simp; done) | (go_simp; rfl)); intro gb596 hg w26 hbox hb; have n0_ := am (Kd.R_below (by (with_reducible repeat (first | apply Kd.R_alloc | apply Kd.R_drewN | apply Kd.R_drew)); exact HO_5.out) hb); have n1_ := am (below_step bl hb); have n2_ := am (hbox); have n3_ := am ((by rw [hg]; exact (below_size bl) : w.heap.size ≤ gb596)); have n4_ := am ((by rw [hg]; exact (below_size bl) : w.heap.size ≤ gb596)); clear HO_5; clear HB; have HO_5 := n0_; have HB := n1_; have BK596 := n2_; have GW596 := n3_; have GE596 := n4_; clear n0_ n1_ n2_ n3_ n4_; clear hb hbox hg; obtain ⟨⟨hcz27_0, hcz27_1, hcz27_2⟩, hfz27_0, hfz27_1, hfz27_2⟩ := blkAll3 BK596) | ((with_reducible refine gate_dst (N := 9) rfl ?_); refine box_event ?hg (N := 9) ?hd (cs := #[.string (⟨#[]⟩ : ByteArray), .int .u8 0, .int .i64 0, .int .i64 0, .int .i64 0, .int .i64 0, .int .i64 0]) (t := 25) ?hr ?_; (case hd => rfl); (case hg => rfl); (case hr => first | (go_simp; done) | (go_simp; rfl)); intro gb597 hg w28 hbox hb; have n0_ := am (Kd.R_below (Kd.R_elderB (by (with_reducible repeat (first | apply Kd.R_alloc | apply Kd.R_drewN | apply Kd.R_drew)); exact (Kd.R_mono (Kd.R_far (p := ⟨gb596, 2, none⟩) (Kd.R_far (p := ⟨gb596, 1, none⟩) (Kd.R_far (p := ⟨gb596, 0, none⟩) (Kd.R_types HO_5.out BK596.out (by decide)) (fun _ hk => hk.2) (.int .i64 t593)) (fun _ hk => hk.2) (.int .i64 t594)) (fun _ hk => hk.2) (.int .i64 t595)) (fun _ h_ => h_.1))) gb597 (Nat.le_of_eq hg.symm)) hb); have n1_ := am (blk_below (g := gb596) (o := .cells #[.int .i64 t593, .int .i64 t594, .int .i64 t595] 72 (0, 0)) (by refine bu ?_; refine blk_put (cs := #[.int .i64 t593, .int .i64 t594, .int .i64 0]) ?_ 2 _ rfl; refine bu ?_; refine blk_put (cs := #[.int .i64 t593, .int .i64 0, .int .i64 0]) ?_ 1 _ rfl; refine bu ?_; refine blk_put (cs := #[.int .i64 0, .int .i64 0, .int .i64 0]) ?_ 0 _ rfl; refine bu ?_; exact BK596.out) hb); have n2_ := am (below_step bs hb); have n3_ := am (hbox); have n4_ := am ((by rw [hg]; exact (below_size bs) : w.heap.size ≤ gb597)); have n5_ := am ((by rw [hg]; exact (below_size bs) : w.heap.size ≤ gb597)); have n6_ := am ((by rw [hg]; exact Nat.ne_of_lt (blk_lt (g := gb596) (o := .cells #[.int .i64 t593, .int .i64 t594, .int .i64 t595] 72 (0, 0)) (by refine bu ?_; refine blk_put (cs := #[.int .i64 t593, .int .i64 t594, .int .i64 0]) ?_ 2 _ rfl; refine bu ?_; refine blk_put (cs := #[.int .i64 t593, .int .i64 0, .int .i64 0]) ?_ 1 _ rfl; refine bu ?_; refine blk_put (cs := #[.int .i64 0, .int .i64 0, .int .i64 0]) ?_ 0 _ rfl; refine bu ?_; exact BK596.out)) : gb596 ≠ gb597)); have n7_ := am ((by rw [hg]; exact Nat.ne_of_gt (blk_lt (g := gb596) (o := .cells #[.int .i64 t593, .int .i64 t594, .int .i64 t595] 72 (0, 0)) (by refine bu ?_; refine blk_put (cs := #[.int .i64 t593, .int .i64 t594, .int .i64 0]) ?_ 2 _ rfl; refine bu ?_; refine blk_put (cs := #[.int .i64 t593, .int .i64 0, .int .i64 0]) ?_ 1 _ rfl; refine bu ?_; refine blk_put (cs := #[.int .i64 0, .int .i64 0, .int .i64 0]) ?_ 0 _ rfl; refine bu ?_; exact BK596.out)) : gb597 ≠ gb596)); clear HO_5; clear BK596; clear HB; have HO_5 := n0_; have BK596 := n1_; have HB := n2_; have BK597 := n3_; have GW597 := n4_; have GE597 := n5_; have NB596_597 := n6_; have NB597_596 := n7_; clear n0_ n1_ n2_ n3_ n4_ n5_ n6_ n7_; clear hb hbox hg)); try go_wp2)
       go_loopg [10] kj15 (fun kq v10 w' => ∃ (x10_4 : Int) (x598002_4 : Int), v10 = .int .i64 x10_4 ∧ Aside0 (q_Parse.l2 kq a0 x5_1 x10_4 t593 t594 t595 (⟨#[]⟩ : ByteArray) 0 x598002_4 0 0 0 0 = some (r1, r2, r3)) ∧ Aside0 (kq ≤ kj15) ∧ Aside0 (Kd.R k25 25 w' w.heap.size (fun k_ => k_ ≠ gb597) u5 x5_1) ∧ Aside0 (w'.heap[gb596]? = some (.cells #[.int .i64 t593, .int .i64 t594, .int .i64 t595] 72 (0, 0))) ∧ Aside0 (w'.heap[gb597]? = some (.cells #[.string (⟨#[]⟩ : ByteArray), .int .u8 0, .int .i64 x598002_4, .int .i64 0, .int .i64 0, .int .i64 0, .int .i64 0] 25 (0, 0))) ∧ Aside0 (Below w.heap.size w w'))
       case atStart => exact ⟨(wrap64 (x6_1 + 1)), (0), tv, H', ⟨Nat.le_refl _⟩, ⟨by (with_reducible repeat (first | apply Kd.R_alloc | apply Kd.R_drewN | apply Kd.R_drew)); exact Kd.R_mono HO_5.out (fun _ hk => hk.2)⟩, ⟨by refine bu ?_; exact BK596.out⟩, ⟨by refine bu ?_; exact BK597.out⟩, ⟨bs⟩⟩
       case round =>
        clear H'
        try clear c1
        try clear c2
        try clear p2
        try clear q2
        try clear hx2
        try clear c4
        try clear c4b0
        try clear c6
        try clear c6b0
        try clear p6
        try clear c7
        try clear c7b0
        try clear p8
        try clear q8
        try clear hx8
        try clear c9
        try clear c9b0
        try clear c9b1
        try clear c10
        try clear c10b0
        try clear c11
        try clear c11b0
        try clear c11b1
        try clear c12
        try clear c12b0
        try clear c12b1
        try clear c13
        try clear c13b0
        try clear c13b1
        try clear c14
        try clear c17
        try clear c17b0
        try clear c19
        try clear c19b0
        try clear c20
        try clear p20
        try clear q20
        try clear hx20
        try clear c21
        try clear c22
        try clear hcz27_0 hcz27_1 hcz27_2
        try clear hfz27_0 hfz27_1 hfz27_2
        try clear p2
        try clear p20
        try clear p6
        try clear p8
        try clear q2
        try clear q20
        try clear q8
        obtain ⟨x10_4, x598002_4, rfl, HA, HK4, HO_5, BK596, BK597, HB⟩ := hrel
        cases gk with
        | zero => exact absurd HA.out (by simp [q_Parse.l2])
        | succ k4 =>
         have H := HA.out
         clear HA
         simp only [q_Parse.l2] at H
         by_cases c29 : x10_4 < t593
         ·rw [if_pos c29] at H
          have c29b0 := decide_eq_true c29
          clear c29
          by_cases c30 : 0 ≤ x10_4
          rotate_left
          ·rw [if_neg c30] at H
           exact absurd H (by simp)
          rw [if_pos c30] at H
          have c30b0 := decide_eq_true c30
          clear c30
          by_cases c31 : x10_4 < (a0.size : Int)
          rotate_left
          ·rw [if_neg c31] at H
           exact absurd H (by simp)
          rw [if_pos c31] at H
          have c31b0 := decide_eq_true c31
          clear c31
          replace H := Option.bind_eq_some_iff.mp H
          obtain ⟨t598, A330, H⟩ := H
          replace H : (if t598 = 0 then (none) else (if (Int.tmod (wrap64 (Int.tdiv x598002_4 t598)) 2) = 0 then (q_Parse.l2 k4 a0 x5_1 (wrap64 (x10_4 + 1)) t593 t594 t595 (⟨#[]⟩ : ByteArray) 0 (wrap64 (x598002_4 + t598)) 0 0 0 0) else (q_Parse.l2 k4 a0 x5_1 (wrap64 (x10_4 + 1)) t593 t594 t595 (⟨#[]⟩ : ByteArray) 0 x598002_4 0 0 0 0))) = some (r1, r2, r3) := H
          have A33 := am A330
          clear A330
          by_cases c34 : t598 = 0
          ·rw [if_pos c34] at H
           exact absurd H (by simp)
          rw [if_neg c34] at H
          have c34b0 : (t598 == 0) = false := beq_eq_false_iff_ne.mpr c34
          have c34b1 : (t598 != 0) = true := bne_iff_ne.mpr c34
          by_cases c35 : (Int.tmod (wrap64 (Int.tdiv x598002_4 t598)) 2) = 0
          rotate_left
          ·rw [if_neg c35] at H
           have c35b0 : ((Int.tmod (wrap64 (Int.tdiv x598002_4 t598)) 2) == 0) = false := beq_eq_false_iff_ne.mpr c35
           have c35b1 : ((Int.tmod (wrap64 (Int.tdiv x598002_4 t598)) 2) != 0) = true := bne_iff_ne.mpr c35
           have H' := am H
           clear H
           have hnb39 := NB596_597.out
           have hnc39 := NB597_596.out
           obtain ⟨⟨hcz40_0, hcz40_1, hcz40_2⟩, hfz40_0, hfz40_1, hfz40_2⟩ := blkAll3 BK596
           have p32 : 0 ≤ (x10_4 : Int) := of_decide_eq_true od
           have q32 : x10_4 < (a0.size : Int) := of_decide_eq_true od
           have hx32 := bt_at a0 x10_4
           replace p32 := eq_true p32
           replace q32 := eq_true q32
           go_wp2_with (first | (go_at_call 37; (with_reducible refine (q_bit.calls k4 (bt a0 x10_4) t598 _ A33.out).mono ?_); rintro e w' ⟨rfl, ⟨nd, rfl⟩⟩; (try first | exact ⟨rfl, _, World.drewN_drewN _ _ _⟩ | exact ⟨rfl, _, Eq.trans (World.drewN_drewN _ _ _) (congrArg (World.drewN _) (Nat.add_assoc _ _ _))⟩); obtain ⟨⟨hcz41_0, hcz41_1, hcz41_2, hcz41_3, hcz41_4, hcz41_5, hcz41_6⟩, hfz41_0, hfz41_1, hfz41_2, hfz41_3, hfz41_4, hfz41_5, hfz41_6⟩ := blkAll7 BK597))
           repeat (go_quiet (first | (go_at_call 37; (with_reducible refine (q_bit.calls k4 (bt a0 x10_4) t598 _ A33.out).mono ?_); rintro e w' ⟨rfl, ⟨nd, rfl⟩⟩; (try first | exact ⟨rfl, _, World.drewN_drewN _ _ _⟩ | exact ⟨rfl, _, Eq.trans (World.drewN_drewN _ _ _) (congrArg (World.drewN _) (Nat.add_assoc _ _ _))⟩); obtain ⟨⟨hcz41_0, hcz41_1, hcz41_2, hcz41_3, hcz41_4, hcz41_5, hcz41_6⟩, hfz41_0, hfz41_1, hfz41_2, hfz41_3, hfz41_4, hfz41_5, hfz41_6⟩ := blkAll7 BK597)); try go_wp2)
           go_roundg k4
           case measure => have := HK1.out; have := HJ4.out; have := HJ15.out; have := HK4.out; omega
           case rel => exact ⟨(wrap64 (x10_4 + 1)), (x598002_4), tv, H', ⟨by have := HK1.out; have := HJ4.out; have := HJ15.out; have := HK4.out; omega⟩, ⟨by (with_reducible repeat (first | apply Kd.R_alloc | apply Kd.R_drewN | apply Kd.R_drew)); exact HO_5.out⟩, ⟨by refine bu ?_; exact BK596.out⟩, ⟨by refine bu ?_; exact BK597.out⟩, ⟨bs⟩⟩
          rw [if_pos c35] at H
          have c35b0 : ((Int.tmod (wrap64 (Int.tdiv x598002_4 t598)) 2) == 0) = true := beq_iff_eq.mpr c35
          have c35b1 : ((Int.tmod (wrap64 (Int.tdiv x598002_4 t598)) 2) != 0) = false := bne_eq_false_iff_eq.mpr c35
          clear c35
          have H' := am H
          clear H
          have hnb36 := NB596_597.out
          have hnc36 := NB597_596.out
          obtain ⟨⟨hcz37_0, hcz37_1, hcz37_2⟩, hfz37_0, hfz37_1, hfz37_2⟩ := blkAll3 BK596
          have p32 : 0 ≤ (x10_4 : Int) := of_decide_eq_true od
          have q32 : x10_4 < (a0.size : Int) := of_decide_eq_true od
          have hx32 := bt_at a0 x10_4
          replace p32 := eq_true p32
          replace q32 := eq_true q32
          go_wp2_with (first | (go_at_call 37; (with_reducible refine (q_bit.calls k4 (bt a0 x10_4) t598 _ A33.out).mono ?_); rintro e w' ⟨rfl, ⟨nd, rfl⟩⟩; (try first | exact ⟨rfl, _, World.drewN_drewN _ _ _⟩ | exact ⟨rfl, _, Eq.trans (World.drewN_drewN _ _ _) (congrArg (World.drewN _) (Nat.add_assoc _ _ _))⟩); obtain ⟨⟨hcz38_0, hcz38_1, hcz38_2, hcz38_3, hcz38_4, hcz38_5, hcz38_6⟩, hfz38_0, hfz38_1, hfz38_2, hfz38_3, hfz38_4, hfz38_5, hfz38_6⟩ := blkAll7 BK597))
          repeat (go_quiet (first | (go_at_call 37; (with_reducible refine (q_bit.calls k4 (bt a0 x10_4) t598 _ A33.out).mono ?_); rintro e w' ⟨rfl, ⟨nd, rfl⟩⟩; (try first | exact ⟨rfl, _, World.drewN_drewN _ _ _⟩ | exact ⟨rfl, _, Eq.trans (World.drewN_drewN _ _ _) (congrArg (World.drewN _) (Nat.add_assoc _ _ _))⟩); obtain ⟨⟨hcz38_0, hcz38_1, hcz38_2, hcz38_3, hcz38_4, hcz38_5, hcz38_6⟩, hfz38_0, hfz38_1, hfz38_2, hfz38_3, hfz38_4, hfz38_5, hfz38_6⟩ := blkAll7 BK597)); try go_wp2)
          go_roundg k4
          case measure => have := HK1.out; have := HJ4.out; have := HJ15.out; have := HK4.out; omega
          case rel => exact ⟨(wrap64 (x10_4 + 1)), (wrap64 (x598002_4 + t598)), tv, H', ⟨by have := HK1.out; have := HJ4.out; have := HJ15.out; have := HK4.out; omega⟩, ⟨by (with_reducible repeat (first | apply Kd.R_alloc | apply Kd.R_drewN | apply Kd.R_drew)); exact Kd.R_mono (Kd.R_far (p := ⟨gb597, 2, none⟩) (Kd.R_mono HO_5.out (fun k_ hk => (⟨hk, hk⟩ : _ ∧ k_ ≠ gb597))) (fun _ hk => hk.2) (.int .i64 (wrap64 (x598002_4 + t598)))) (fun _ hk => hk.1)⟩, ⟨by refine bu ?_; refine blk_far ?_ NB596_597.out _; refine bu ?_; exact BK596.out⟩, ⟨by refine bu ?_; refine blk_put (cs := #[.string (⟨#[]⟩ : ByteArray), .int .u8 0, .int .i64 x598002_4, .int .i64 0, .int .i64 0, .int .i64 0, .int .i64 0]) ?_ 2 _ rfl; refine bu ?_; exact BK597.out⟩, ⟨bs⟩⟩
         rw [if_neg c29] at H
         have c29b0 := decide_eq_false c29
         clear c29
         have HC42 := am H
         clear H
         have hnb43 := NB596_597.out
         have hnc43 := NB597_596.out
         obtain ⟨⟨hcz44_0, hcz44_1, hcz44_2⟩, hfz44_0, hfz44_1, hfz44_2⟩ := blkAll3 BK596
         go_upto_if 90 with (fail)
         repeat (go_quiet (fail); go_upto_if 90 with (fail))
         go_cut [] (fun wc => ∃ (kq : Nat) (x598003_41 : Int) (x598004_41 : Int), Aside0 (q_Parse.j5 kq a0 x5_1 t593 t594 t595 (⟨#[]⟩ : ByteArray) 0 x598002_4 x598003_41 x598004_41 0 0 = some (r1, r2, r3)) ∧ Aside0 (kq ≤ k4) ∧ Aside0 (Kd.R k25 25 wc w.heap.size (fun k_ => k_ ≠ gb597) u5 x5_1) ∧ Aside0 (wc.heap[gb596]? = some (.cells #[.int .i64 t593, .int .i64 t594, .int .i64 t595] 72 (0, 0))) ∧ Aside0 (wc.heap[gb597]? = some (.cells #[.string (⟨#[]⟩ : ByteArray), .int .u8 0, .int .i64 x598002_4, .int .i64 x598003_41, .int .i64 x598004_41, .int .i64 0, .int .i64 0] 25 (0, 0))) ∧ Aside0 (Below w.heap.size w wc))
         case first =>
          have H := HC42.out
          clear HC42
          by_cases c45 : t594 > t593
          rotate_left
          ·rw [if_neg c45] at H
           have c45b0 : decide (t593 < t594) = false := decide_eq_false c45
           clear c45
           (first | rw [c45b0] | (simp only [i64_w, i32_w]; rw [c45b0]) | skip)
           have H' := am H
           clear H
           go_wp2
           repeat (go_quiet (fail); try go_wp2)
           go_meet
           case rel => exact ⟨_, (0), (0), H', ⟨by have := HK1.out; have := HJ4.out; have := HJ15.out; have := HK4.out; first | omega | exact Nat.le_refl _⟩, ⟨by (with_reducible repeat (first | apply Kd.R_alloc | apply Kd.R_drewN | apply Kd.R_drew)); exact HO_5.out⟩, ⟨by refine bu ?_; exact BK596.out⟩, ⟨by refine bu ?_; exact BK597.out⟩, ⟨bs⟩⟩
          rw [if_pos c45] at H
          have c45b0 : decide (t593 < t594) = true := decide_eq_true c45
          clear c45
          (first | rw [c45b0] | (simp only [i64_w, i32_w]; rw [c45b0]) | skip)
          by_cases c46 : 0 ≤ t593
          rotate_left
          ·rw [if_neg c46] at H
           exact absurd H (by simp)
          rw [if_pos c46] at H
          have c46b0 := decide_eq_true c46
          clear c46
          by_cases c47 : t593 < (a0.size : Int)
          rotate_left
          ·rw [if_neg c47] at H
           exact absurd H (by simp)
          rw [if_pos c47] at H
          have c47b0 := decide_eq_true c47
          clear c47
          by_cases c49 : (bt a0 t593) = 42
          ·rw [if_pos c49] at H
           have c49b0 : ((bt a0 t593) == 42) = true := beq_iff_eq.mpr c49
           have c49b1 : ((bt a0 t593) != 42) = false := bne_eq_false_iff_eq.mpr c49
           clear c49
           have H' := am H
           clear H
           have hnb50 := NB597_596.out
           have hnc50 := NB596_597.out
           obtain ⟨⟨hcz51_0, hcz51_1, hcz51_2, hcz51_3, hcz51_4, hcz51_5, hcz51_6⟩, hfz51_0, hfz51_1, hfz51_2, hfz51_3, hfz51_4, hfz51_5, hfz51_6⟩ := blkAll7 BK597
           obtain ⟨⟨hcz52_0, hcz52_1, hcz52_2⟩, hfz52_0, hfz52_1, hfz52_2⟩ := blkAll3 BK596
           have p48 : 0 ≤ (t593 : Int) := of_decide_eq_true od
           have q48 : t593 < (a0.size : Int) := of_decide_eq_true od
           have hx48 := bt_at a0 t593
           replace p48 := eq_true p48
           replace q48 := eq_true q48
           go_wp2
           repeat (go_quiet (fail); try go_wp2)
           go_meet
           case rel => exact ⟨_, (2), (0), H', ⟨by have := HK1.out; have := HJ4.out; have := HJ15.out; have := HK4.out; first | omega | exact Nat.le_refl _⟩, ⟨by (with_reducible repeat (first | apply Kd.R_alloc | apply Kd.R_drewN | apply Kd.R_drew)); exact Kd.R_mono (Kd.R_far (p := ⟨gb597, 3, none⟩) (Kd.R_mono HO_5.out (fun k_ hk => (⟨hk, hk⟩ : _ ∧ k_ ≠ gb597))) (fun _ hk => hk.2) (.int .i64 2)) (fun _ hk => hk.1)⟩, ⟨by refine bu ?_; refine blk_far ?_ NB596_597.out _; refine bu ?_; exact BK596.out⟩, ⟨by refine bu ?_; refine blk_put (cs := #[.string (⟨#[]⟩ : ByteArray), .int .u8 0, .int .i64 x598002_4, .int .i64 0, .int .i64 0, .int .i64 0, .int .i64 0]) ?_ 3 _ rfl; refine bu ?_; exact BK597.out⟩, ⟨bs⟩⟩
          rw [if_neg c49] at H
          have c49b0 : ((bt a0 t593) == 42) = false := beq_eq_false_iff_ne.mpr c49
          have c49b1 : ((bt a0 t593) != 42) = true := bne_iff_ne.mpr c49
          have c53b0 := eq_true (of_decide_eq_true od : 0 ≤ t593)
          by_cases c54 : t593 ≤ t594
          rotate_left
          ·rw [if_neg c54] at H
           exact absurd H (by simp)
          rw [if_pos c54] at H
          have c54b0 := eq_true c54
          have c54b1 := decide_eq_true c54
          clear c54
          by_cases c55 : t594 ≤ (a0.size : Int)
          rotate_left
          ·rw [if_neg c55] at H
           exact absurd H (by simp)
          rw [if_pos c55] at H
          have c55b0 := eq_true c55
          have c55b1 := decide_eq_true c55
          clear c55
          replace H := Option.bind_eq_some_iff.mp H
          obtain ⟨t599, A560, H⟩ := H
          replace H : (q_Parse.j5 k4 a0 x5_1 t593 t594 t595 (⟨#[]⟩ : ByteArray) 0 x598002_4 1 t599 0 0) = some (r1, r2, r3) := H
          have A56 := am A560
          clear A560
          have H' := am H
          clear H
          have hnb57 := NB597_596.out
          have hnc57 := NB596_597.out
          obtain ⟨⟨hcz58_0, hcz58_1, hcz58_2, hcz58_3, hcz58_4, hcz58_5, hcz58_6⟩, hfz58_0, hfz58_1, hfz58_2, hfz58_3, hfz58_4, hfz58_5, hfz58_6⟩ := blkAll7 BK597
          obtain ⟨⟨hcz59_0, hcz59_1, hcz59_2⟩, hfz59_0, hfz59_1, hfz59_2⟩ := blkAll3 BK596
          have p48 : 0 ≤ (t593 : Int) := of_decide_eq_true od
          have q48 : t593 < (a0.size : Int) := of_decide_eq_true od
          have hx48 := bt_at a0 t593
          replace p48 := eq_true p48
          replace q48 := eq_true q48
          go_wp2_with (first | (go_at_call 38; (with_reducible refine (q_number.calls k4 (a0.extract (t593 : Int).toNat (t594 : Int).toNat) t599 _ A56.out).mono ?_); rintro e w' ⟨rfl, ⟨nd, rfl⟩⟩; (try first | exact ⟨rfl, _, World.drewN_drewN _ _ _⟩ | exact ⟨rfl, _, Eq.trans (World.drewN_drewN _ _ _) (congrArg (World.drewN _) (Nat.add_assoc _ _ _))⟩)))
          repeat (go_quiet (first | (go_at_call 38; (with_reducible refine (q_number.calls k4 (a0.extract (t593 : Int).toNat (t594 : Int).toNat) t599 _ A56.out).mono ?_); rintro e w' ⟨rfl, ⟨nd, rfl⟩⟩; (try first | exact ⟨rfl, _, World.drewN_drewN _ _ _⟩ | exact ⟨rfl, _, Eq.trans (World.drewN_drewN _ _ _) (congrArg (World.drewN _) (Nat.add_assoc _ _ _))⟩))); try go_wp2)
          go_meet
          case rel => exact ⟨_, (1), (t599), H', ⟨by have := HK1.out; have := HJ4.out; have := HJ15.out; have := HK4.out; first | omega | exact Nat.le_refl _⟩, ⟨by (with_reducible repeat (first | apply Kd.R_alloc | apply Kd.R_drewN | apply Kd.R_drew)); exact Kd.R_mono (Kd.R_far (p := ⟨gb597, 4, none⟩) (Kd.R_far (p := ⟨gb597, 3, none⟩) (Kd.R_far (p := ⟨gb597, 3, none⟩) (Kd.R_mono HO_5.out (fun k_ hk => (⟨hk, hk⟩ : _ ∧ k_ ≠ gb597))) (fun _ hk => hk.2) (.int .i64 2)) (fun _ hk => hk.2) (.int .i64 1)) (fun _ hk => hk.2) (.int .i64 t599)) (fun _ hk => hk.1)⟩, ⟨by refine bu ?_; refine blk_far ?_ NB596_597.out _; refine bu ?_; refine blk_far ?_ NB596_597.out _; refine bu ?_; refine blk_far ?_ NB596_597.out _; refine bu ?_; exact BK596.out⟩, ⟨by refine bu ?_; refine blk_put (cs := #[.string (⟨#[]⟩ : ByteArray), .int .u8 0, .int .i64 x598002_4, .int .i64 1, .int .i64 0, .int .i64 0, .int .i64 0]) ?_ 4 _ rfl; refine bu ?_; refine blk_put (cs := #[.string (⟨#[]⟩ : ByteArray), .int .u8 0, .int .i64 x598002_4, .int .i64 2, .int .i64 0, .int .i64 0, .int .i64 0]) ?_ 3 _ rfl; refine bu ?_; refine blk_put (cs := #[.string (⟨#[]⟩ : ByteArray), .int .u8 0, .int .i64 x598002_4, .int .i64 0, .int .i64 0, .int .i64 0, .int .i64 0]) ?_ 3 _ rfl; refine bu ?_; exact BK597.out⟩, ⟨bs⟩⟩
         case rest =>
          clear HC42
          try clear c1
          try clear c2
          try clear p2
          try clear q2
          try clear hx2
          try clear c3
          try clear p3
          try clear q3
          try clear hx3
          try clear c4
          try clear c4b0
          try clear p4
          try clear q4
          try clear hx4
          try clear c5
          try clear c6
          try clear c6b0
          try clear p6
          try clear c7
          try clear c7b0
          try clear p8
          try clear q8
          try clear hx8
          try clear c9
          try clear c9b0
          try clear c9b1
          try clear c10
          try clear c10b0
          try clear c11
          try clear c11b0
          try clear c11b1
          try clear c12
          try clear c12b0
          try clear c12b1
          try clear c13
          try clear c13b0
          try clear c13b1
          try clear c14
          try clear c17
          try clear c17b0
          try clear c19
          try clear c19b0
          try clear c20
          try clear p20
          try clear q20
          try clear hx20
          try clear c21
          try clear c22
          try clear c29
          try clear c29b0
          try clear c30
          try clear c30b0
          try clear c31
          try clear c31b0
          try clear p32
          try clear q32
          try clear hx32
          try clear c34
          try clear c34b0
          try clear c34b1
          try clear c35
          try clear c35b0
          try clear c35b1
          try clear c36
          try clear c39
          try clear c43
          try clear c45
          try clear c45b0
          try clear c46
          try clear c46b0
          try clear c47
          try clear c47b0
          try clear p48
          try clear q48
          try clear hx48
          try clear c49
          try clear c49b0
          try clear c49b1
          try clear c50
          try clear c53
          try clear c53b0
          try clear c54
          try clear c54b0
          try clear c54b1
          try clear c55
          try clear c55b0
          try clear c55b1
          try clear c57
          try clear hcz27_0 hcz27_1 hcz27_2
          try clear hcz37_0 hcz37_1 hcz37_2
          try clear hcz38_0 hcz38_1 hcz38_2 hcz38_3 hcz38_4 hcz38_5 hcz38_6
          try clear hcz40_0 hcz40_1 hcz40_2
          try clear hcz41_0 hcz41_1 hcz41_2 hcz41_3 hcz41_4 hcz41_5 hcz41_6
          try clear hcz44_0 hcz44_1 hcz44_2
          try clear hcz51_0 hcz51_1 hcz51_2 hcz51_3 hcz51_4 hcz51_5 hcz51_6
          try clear hcz52_0 hcz52_1 hcz52_2
          try clear hcz58_0 hcz58_1 hcz58_2 hcz58_3 hcz58_4 hcz58_5 hcz58_6
          try clear hcz59_0 hcz59_1 hcz59_2
          try clear hfz27_0 hfz27_1 hfz27_2
          try clear hfz37_0 hfz37_1 hfz37_2
          try clear hfz38_0 hfz38_1 hfz38_2 hfz38_3 hfz38_4 hfz38_5 hfz38_6
          try clear hfz40_0 hfz40_1 hfz40_2
          try clear hfz41_0 hfz41_1 hfz41_2 hfz41_3 hfz41_4 hfz41_5 hfz41_6
          try clear hfz44_0 hfz44_1 hfz44_2
          try clear hfz51_0 hfz51_1 hfz51_2 hfz51_3 hfz51_4 hfz51_5 hfz51_6
          try clear hfz52_0 hfz52_1 hfz52_2
          try clear hfz58_0 hfz58_1 hfz58_2 hfz58_3 hfz58_4 hfz58_5 hfz58_6
          try clear hfz59_0 hfz59_1 hfz59_2
          try clear p2
          try clear p20
          try clear p32
          try clear p48
          try clear p6
          try clear p8
          try clear q2
          try clear q20
          try clear q32
          try clear q48
          try clear q8
          obtain ⟨kq, x598003_41, x598004_41, HA, HJ41, HO_5, BK596, BK597, HB⟩ := hcut
          cases kq with
          | zero => exact absurd HA.out (by simp [q_Parse.j5])
          | succ kj41 =>
           have H := HA.out
           clear HA
           simp only [q_Parse.j5] at H
           by_cases c60 : x598004_41 > 4096
           ·rw [if_pos c60] at H
            have c60b0 : decide (4096 < x598004_41) = true := decide_eq_true c60
            clear c60
            simp only [Option.some.injEq, Prod.mk.injEq] at H
            obtain ⟨rfl, rfl, rfl⟩ := H
            have hnb61 := NB597_596.out
            have hnc61 := NB596_597.out
            obtain ⟨⟨hcz62_0, hcz62_1, hcz62_2, hcz62_3, hcz62_4, hcz62_5, hcz62_6⟩, hfz62_0, hfz62_1, hfz62_2, hfz62_3, hfz62_4, hfz62_5, hfz62_6⟩ := blkAll7 BK597
            obtain ⟨⟨hcz63_0, hcz63_1, hcz63_2⟩, hfz63_0, hfz63_1, hfz63_2⟩ := blkAll3 BK596
            go_wp2
            repeat (go_quiet (fail); try go_wp2)
            go_ret3
            exact ⟨_, er, by first | exact Kd.R_nil _ _ _ _ _ | exact Kd.N_nil _ _ _ _ _ | exact Kd.V_nil _ _ _ _ _ | exact Kd.Q_nil _ _ _ _ _ | exact Kd.S_nil _ _ _ _ _, bs⟩
           rw [if_neg c60] at H
           have c60b0 : decide (4096 < x598004_41) = false := decide_eq_false c60
           clear c60
           have HC64 := am H
           clear H
           have hnb65 := NB597_596.out
           have hnc65 := NB596_597.out
           obtain ⟨⟨hcz66_0, hcz66_1, hcz66_2, hcz66_3, hcz66_4, hcz66_5, hcz66_6⟩, hfz66_0, hfz66_1, hfz66_2, hfz66_3, hfz66_4, hfz66_5, hfz66_6⟩ := blkAll7 BK597
           obtain ⟨⟨hcz67_0, hcz67_1, hcz67_2⟩, hfz67_0, hfz67_1, hfz67_2⟩ := blkAll3 BK596
           go_upto_if 115 with (fail)
           repeat (go_quiet (fail); go_upto_if 115 with (fail))
           go_cut [] (fun wc => ∃ (kq : Nat) (x598005_63 : Int) (x598006_63 : Int), Aside0 (q_Parse.j6 kq a0 x5_1 t593 t594 t595 (⟨#[]⟩ : ByteArray) 0 x598002_4 x598003_41 x598004_41 x598005_63 x598006_63 = some (r1, r2, r3)) ∧ Aside0 (kq ≤ kj41) ∧ Aside0 (Kd.R k25 25 wc w.heap.size (fun k_ => k_ ≠ gb597) u5 x5_1) ∧ Aside0 (wc.heap[gb596]? = some (.cells #[.int .i64 t593, .int .i64 t594, .int .i64 t595] 72 (0, 0))) ∧ Aside0 (wc.heap[gb597]? = some (.cells #[.string (⟨#[]⟩ : ByteArray), .int .u8 0, .int .i64 x598002_4, .int .i64 x598003_41, .int .i64 x598004_41, .int .i64 x598005_63, .int .i64 x598006_63] 25 (0, 0))) ∧ Aside0 (Below w.heap.size w wc))
           case first =>
            have H := HC64.out
            clear HC64
            by_cases c68 : t595 > t594
            rotate_left
            ·rw [if_neg c68] at H
             have c68b0 : decide (t594 < t595) = false := decide_eq_false c68
             clear c68
             (first | rw [c68b0] | (simp only [i64_w, i32_w]; rw [c68b0]) | skip)
             have H' := am H
             clear H
             go_wp2
             repeat (go_quiet (fail); try go_wp2)
             go_meet
             case rel => exact ⟨_, (0), (0), H', ⟨by have := HK1.out; have := HJ4.out; have := HJ15.out; have := HK4.out; have := HJ41.out; first | omega | exact Nat.le_refl _⟩, ⟨by (with_reducible repeat (first | apply Kd.R_alloc | apply Kd.R_drewN | apply Kd.R_drew)); exact HO_5.out⟩, ⟨by refine bu ?_; exact BK596.out⟩, ⟨by refine bu ?_; exact BK597.out⟩, ⟨bs⟩⟩
            rw [if_pos c68] at H
            have c68b0 : decide (t594 < t595) = true := decide_eq_true c68
            clear c68
            (first | rw [c68b0] | (simp only [i64_w, i32_w]; rw [c68b0]) | skip)
            by_cases c69 : t595 = (wrap64 (t594 + 1))
            ·rw [if_pos c69] at H
             have c69b0 : (t595 == (wrap64 (t594 + 1))) = true := beq_iff_eq.mpr c69
             have c69b1 : (t595 != (wrap64 (t594 + 1))) = false := bne_eq_false_iff_eq.mpr c69
             clear c69
             obtain ⟨ji70, hji70⟩ : ∃ j_ : Int, (wrap64 (t594 + 1)) = j_ := ⟨_, rfl⟩
             replace H : (if 0 ≤ (ji70) then (if (ji70) ≤ t595 then (if t595 ≤ (a0.size : Int) then ((q_number.f kj41 (a0.extract ((ji70) : Int).toNat (t595 : Int).toNat)).bind fun t600 => (q_Parse.j6 kj41 a0 x5_1 t593 t594 t595 (⟨#[]⟩ : ByteArray) 0 x598002_4 x598003_41 x598004_41 1 t600)) else (none)) else (none)) else (none)) = some (r1, r2, r3) := by first | (rw [hji70] at H; exact H) | (simp only [hji70] at H ⊢; exact H)
             (try rw [hji70] at c69b0)
             (try rw [hji70] at c69b1)
             have hji70w : (IntKind.i64.wrap (t594 + 1)) = ji70 := (i64_w _).trans hji70
             by_cases c71 : 0 ≤ (ji70)
             rotate_left
             ·rw [if_neg c71] at H
              exact absurd H (by simp)
             rw [if_pos c71] at H
             have c71b0 := eq_true c71
             have c71b1 := decide_eq_true c71
             clear c71
             by_cases c72 : (ji70) ≤ t595
             rotate_left
             ·rw [if_neg c72] at H
              exact absurd H (by simp)
             rw [if_pos c72] at H
             have c72b0 := eq_true c72
             have c72b1 := decide_eq_true c72
             clear c72
             by_cases c73 : t595 ≤ (a0.size : Int)
             rotate_left
             ·rw [if_neg c73] at H
              exact absurd H (by simp)
             rw [if_pos c73] at H
             have c73b0 := eq_true c73
             have c73b1 := decide_eq_true c73
             clear c73
             replace H := Option.bind_eq_some_iff.mp H
             obtain ⟨t600, A740, H⟩ := H
             replace H : (q_Parse.j6 kj41 a0 x5_1 t593 t594 t595 (⟨#[]⟩ : ByteArray) 0 x598002_4 x598003_41 x598004_41 1 t600) = some (r1, r2, r3) := H
             have A74 := am A740
             clear A740
             have H' := am H
             clear H
             have hnb75 := NB597_596.out
             have hnc75 := NB596_597.out
             obtain ⟨⟨hcz76_0, hcz76_1, hcz76_2, hcz76_3, hcz76_4, hcz76_5, hcz76_6⟩, hfz76_0, hfz76_1, hfz76_2, hfz76_3, hfz76_4, hfz76_5, hfz76_6⟩ := blkAll7 BK597
             obtain ⟨⟨hcz77_0, hcz77_1, hcz77_2⟩, hfz77_0, hfz77_1, hfz77_2⟩ := blkAll3 BK596
             go_wp2_with (first | (go_at_call 38; (with_reducible refine (q_number.calls kj41 (a0.extract ((ji70) : Int).toNat (t595 : Int).toNat) t600 _ A74.out).mono ?_); rintro e w' ⟨rfl, ⟨nd, rfl⟩⟩; (try first | exact ⟨rfl, _, World.drewN_drewN _ _ _⟩ | exact ⟨rfl, _, Eq.trans (World.drewN_drewN _ _ _) (congrArg (World.drewN _) (Nat.add_assoc _ _ _))⟩)))
             repeat (go_quiet (first | (go_at_call 38; (with_reducible refine (q_number.calls kj41 (a0.extract ((ji70) : Int).toNat (t595 : Int).toNat) t600 _ A74.out).mono ?_); rintro e w' ⟨rfl, ⟨nd, rfl⟩⟩; (try first | exact ⟨rfl, _, World.drewN_drewN _ _ _⟩ | exact ⟨rfl, _, Eq.trans (World.drewN_drewN _ _ _) (congrArg (World.drewN _) (Nat.add_assoc _ _ _))⟩))); try go_wp2)
             go_meet
             case rel => exact ⟨_, (1), (t600), H', ⟨by have := HK1.out; have := HJ4.out; have := HJ15.out; have := HK4.out; have := HJ41.out; first | omega | exact Nat.le_refl _⟩, ⟨by (with_reducible repeat (first | apply Kd.R_alloc | apply Kd.R_drewN | apply Kd.R_drew)); exact Kd.R_mono (Kd.R_far (p := ⟨gb597, 6, none⟩) (Kd.R_far (p := ⟨gb597, 5, none⟩) (Kd.R_far (p := ⟨gb597, 5, none⟩) (Kd.R_mono HO_5.out (fun k_ hk => (⟨hk, hk⟩ : _ ∧ k_ ≠ gb597))) (fun _ hk => hk.2) (.int .i64 2)) (fun _ hk => hk.2) (.int .i64 1)) (fun _ hk => hk.2) (.int .i64 t600)) (fun _ hk => hk.1)⟩, ⟨by refine bu ?_; refine blk_far ?_ NB596_597.out _; refine bu ?_; refine blk_far ?_ NB596_597.out _; refine bu ?_; refine blk_far ?_ NB596_597.out _; refine bu ?_; exact BK596.out⟩, ⟨by refine bu ?_; refine blk_put (cs := #[.string (⟨#[]⟩ : ByteArray), .int .u8 0, .int .i64 x598002_4, .int .i64 x598003_41, .int .i64 x598004_41, .int .i64 1, .int .i64 0]) ?_ 6 _ rfl; refine bu ?_; refine blk_put (cs := #[.string (⟨#[]⟩ : ByteArray), .int .u8 0, .int .i64 x598002_4, .int .i64 x598003_41, .int .i64 x598004_41, .int .i64 2, .int .i64 0]) ?_ 5 _ rfl; refine bu ?_; refine blk_put (cs := #[.string (⟨#[]⟩ : ByteArray), .int .u8 0, .int .i64 x598002_4, .int .i64 x598003_41, .int .i64 x598004_41, .int .i64 0, .int .i64 0]) ?_ 5 _ rfl; refine bu ?_; exact BK597.out⟩, ⟨bs⟩⟩
            rw [if_neg c69] at H
            have c69b0 : (t595 == (wrap64 (t594 + 1))) = false := beq_eq_false_iff_ne.mpr c69
            have c69b1 : (t595 != (wrap64 (t594 + 1))) = true := bne_iff_ne.mpr c69
            obtain ⟨ji78, hji78⟩ : ∃ j_ : Int, (wrap64 (t594 + 1)) = j_ := ⟨_, rfl⟩
            replace H : (if 0 ≤ (ji78) then (if (ji78) < (a0.size : Int) then (if (bt a0 (ji78)) = 42 then (q_Parse.j6 kj41 a0 x5_1 t593 t594 t595 (⟨#[]⟩ : ByteArray) 0 x598002_4 x598003_41 x598004_41 2 0) else (if (ji78) ≤ t595 then (if t595 ≤ (a0.size : Int) then ((q_number.f kj41 (a0.extract ((ji78) : Int).toNat (t595 : Int).toNat)).bind fun t601 => (q_Parse.j6 kj41 a0 x5_1 t593 t594 t595 (⟨#[]⟩ : ByteArray) 0 x598002_4 x598003_41 x598004_41 1 t601)) else (none)) else (none))) else (none)) else (none)) = some (r1, r2, r3) := by first | (rw [hji78] at H; exact H) | (simp only [hji78] at H ⊢; exact H)
            (try rw [hji78] at c69b0)
            (try rw [hji78] at c69b1)
            have hji78w : (IntKind.i64.wrap (t594 + 1)) = ji78 := (i64_w _).trans hji78
            by_cases c79 : 0 ≤ (ji78)
            rotate_left
            ·rw [if_neg c79] at H
             exact absurd H (by simp)
            rw [if_pos c79] at H
            have c79b0 := decide_eq_true c79
            clear c79
            by_cases c80 : (ji78) < (a0.size : Int)
            rotate_left
            ·rw [if_neg c80] at H
             exact absurd H (by simp)
            rw [if_pos c80] at H
            have c80b0 := decide_eq_true c80
            clear c80
            by_cases c82 : (bt a0 (ji78)) = 42
            ·rw [if_pos c82] at H
             have c82b0 : ((bt a0 (ji78)) == 42) = true := beq_iff_eq.mpr c82
             have c82b1 : ((bt a0 (ji78)) != 42) = false := bne_eq_false_iff_eq.mpr c82
             clear c82
             have H' := am H
             clear H
             have hnb83 := NB597_596.out
             have hnc83 := NB596_597.out
             obtain ⟨⟨hcz84_0, hcz84_1, hcz84_2, hcz84_3, hcz84_4, hcz84_5, hcz84_6⟩, hfz84_0, hfz84_1, hfz84_2, hfz84_3, hfz84_4, hfz84_5, hfz84_6⟩ := blkAll7 BK597
             obtain ⟨⟨hcz85_0, hcz85_1, hcz85_2⟩, hfz85_0, hfz85_1, hfz85_2⟩ := blkAll3 BK596
             have p81 : 0 ≤ ((ji78) : Int) := of_decide_eq_true od
             have q81 : (ji78) < (a0.size : Int) := of_decide_eq_true od
             have hx81 := bt_at a0 (ji78)
             replace p81 := eq_true p81
             replace q81 := eq_true q81
             go_wp2
             repeat (go_quiet (fail); try go_wp2)
             go_meet
             case rel => exact ⟨_, (2), (0), H', ⟨by have := HK1.out; have := HJ4.out; have := HJ15.out; have := HK4.out; have := HJ41.out; first | omega | exact Nat.le_refl _⟩, ⟨by (with_reducible repeat (first | apply Kd.R_alloc | apply Kd.R_drewN | apply Kd.R_drew)); exact Kd.R_mono (Kd.R_far (p := ⟨gb597, 5, none⟩) (Kd.R_mono HO_5.out (fun k_ hk => (⟨hk, hk⟩ : _ ∧ k_ ≠ gb597))) (fun _ hk => hk.2) (.int .i64 2)) (fun _ hk => hk.1)⟩, ⟨by refine bu ?_; refine blk_far ?_ NB596_597.out _; refine bu ?_; exact BK596.out⟩, ⟨by refine bu ?_; refine blk_put (cs := #[.string (⟨#[]⟩ : ByteArray), .int .u8 0, .int .i64 x598002_4, .int .i64 x598003_41, .int .i64 x598004_41, .int .i64 0, .int .i64 0]) ?_ 5 _ rfl; refine bu ?_; exact BK597.out⟩, ⟨bs⟩⟩
            rw [if_neg c82] at H
            have c82b0 : ((bt a0 (ji78)) == 42) = false := beq_eq_false_iff_ne.mpr c82
            have c82b1 : ((bt a0 (ji78)) != 42) = true := bne_iff_ne.mpr c82
            have c86b0 := eq_true (of_decide_eq_true od : 0 ≤ (ji78))
            by_cases c87 : (ji78) ≤ t595
            rotate_left
            ·rw [if_neg c87] at H
             exact absurd H (by simp)
            rw [if_pos c87] at H
            have c87b0 := eq_true c87
            have c87b1 := decide_eq_true c87
            clear c87
            by_cases c88 : t595 ≤ (a0.size : Int)
            rotate_left
            ·rw [if_neg c88] at H
             exact absurd H (by simp)
            rw [if_pos c88] at H
            have c88b0 := eq_true c88
            have c88b1 := decide_eq_true c88
            clear c88
            replace H := Option.bind_eq_some_iff.mp H
            obtain ⟨t601, A890, H⟩ := H
            replace H : (q_Parse.j6 kj41 a0 x5_1 t593 t594 t595 (⟨#[]⟩ : ByteArray) 0 x598002_4 x598003_41 x598004_41 1 t601) = some (r1, r2, r3) := H
            have A89 := am A890
            clear A890
            have H' := am H
            clear H
            have hnb90 := NB597_596.out
            have hnc90 := NB596_597.out
            obtain ⟨⟨hcz91_0, hcz91_1, hcz91_2, hcz91_3, hcz91_4, hcz91_5, hcz91_6⟩, hfz91_0, hfz91_1, hfz91_2, hfz91_3, hfz91_4, hfz91_5, hfz91_6⟩ := blkAll7 BK597
            obtain ⟨⟨hcz92_0, hcz92_1, hcz92_2⟩, hfz92_0, hfz92_1, hfz92_2⟩ := blkAll3 BK596
            have p81 : 0 ≤ ((ji78) : Int) := of_decide_eq_true od
            have q81 : (ji78) < (a0.size : Int) := of_decide_eq_true od
            have hx81 := bt_at a0 (ji78)
            replace p81 := eq_true p81
            replace q81 := eq_true q81
            go_wp2_with (first | (go_at_call 38; (with_reducible refine (q_number.calls kj41 (a0.extract ((ji78) : Int).toNat (t595 : Int).toNat) t601 _ A89.out).mono ?_); rintro e w' ⟨rfl, ⟨nd, rfl⟩⟩; (try first | exact ⟨rfl, _, World.drewN_drewN _ _ _⟩ | exact ⟨rfl, _, Eq.trans (World.drewN_drewN _ _ _) (congrArg (World.drewN _) (Nat.add_assoc _ _ _))⟩)))
            repeat (go_quiet (first | (go_at_call 38; (with_reducible refine (q_number.calls kj41 (a0.extract ((ji78) : Int).toNat (t595 : Int).toNat) t601 _ A89.out).mono ?_); rintro e w' ⟨rfl, ⟨nd, rfl⟩⟩; (try first | exact ⟨rfl, _, World.drewN_drewN _ _ _⟩ | exact ⟨rfl, _, Eq.trans (World.drewN_drewN _ _ _) (congrArg (World.drewN _) (Nat.add_assoc _ _ _))⟩))); try go_wp2)
            go_meet
            case rel => exact ⟨_, (1), (t601), H', ⟨by have := HK1.out; have := HJ4.out; have := HJ15.out; have := HK4.out; have := HJ41.out; first | omega | exact Nat.le_refl _⟩, ⟨by (with_reducible repeat (first | apply Kd.R_alloc | apply Kd.R_drewN | apply Kd.R_drew)); exact Kd.R_mono (Kd.R_far (p := ⟨gb597, 6, none⟩) (Kd.R_far (p := ⟨gb597, 5, none⟩) (Kd.R_far (p := ⟨gb597, 5, none⟩) (Kd.R_mono HO_5.out (fun k_ hk => (⟨hk, hk⟩ : _ ∧ k_ ≠ gb597))) (fun _ hk => hk.2) (.int .i64 2)) (fun _ hk => hk.2) (.int .i64 1)) (fun _ hk => hk.2) (.int .i64 t601)) (fun _ hk => hk.1)⟩, ⟨by refine bu ?_; refine blk_far ?_ NB596_597.out _; refine bu ?_; refine blk_far ?_ NB596_597.out _; refine bu ?_; refine blk_far ?_ NB596_597.out _; refine bu ?_; exact BK596.out⟩, ⟨by refine bu ?_; refine blk_put (cs := #[.string (⟨#[]⟩ : ByteArray), .int .u8 0, .int .i64 x598002_4, .int .i64 x598003_41, .int .i64 x598004_41, .int .i64 1, .int .i64 0]) ?_ 6 _ rfl; refine bu ?_; refine blk_put (cs := #[.string (⟨#[]⟩ : ByteArray), .int .u8 0, .int .i64 x598002_4, .int .i64 x598003_41, .int .i64 x598004_41, .int .i64 2, .int .i64 0]) ?_ 5 _ rfl; refine bu ?_; refine blk_put (cs := #[.string (⟨#[]⟩ : ByteArray), .int .u8 0, .int .i64 x598002_4, .int .i64 x598003_41, .int .i64 x598004_41, .int .i64 0, .int .i64 0]) ?_ 5 _ rfl; refine bu ?_; exact BK597.out⟩, ⟨bs⟩⟩
           case rest =>
            clear HC64
            try clear c1
            try clear c2
            try clear p2
            try clear q2
            try clear hx2
            try clear c3
            try clear p3
            try clear q3
            try clear hx3
            try clear c4
            try clear c4b0
            try clear p4
            try clear q4
            try clear hx4
            try clear c5
            try clear c6
            try clear c6b0
            try clear p6
            try clear c7
            try clear c7b0
            try clear c8
            try clear p8
            try clear q8
            try clear hx8
            try clear c9
            try clear c9b0
            try clear c9b1
            try clear c10
            try clear c10b0
            try clear c11
            try clear c11b0
            try clear c11b1
            try clear c12
            try clear c12b0
            try clear c12b1
            try clear c13
            try clear c13b0
            try clear c13b1
            try clear c14
            try clear c17
            try clear c17b0
            try clear c19
            try clear c19b0
            try clear c20
            try clear p20
            try clear q20
            try clear hx20
            try clear c21
            try clear c22
            try clear c29
            try clear c29b0
            try clear c30
            try clear c30b0
            try clear c31
            try clear c31b0
            try clear p32
            try clear q32
            try clear hx32
            try clear c34
            try clear c34b0
            try clear c34b1
            try clear c35
            try clear c35b0
            try clear c35b1
            try clear c36
            try clear c39
            try clear c43
            try clear c45
            try clear c45b0
            try clear c46
            try clear c46b0
            try clear c47
            try clear c47b0
            try clear p48
            try clear q48
            try clear hx48
            try clear c49
            try clear c49b0
            try clear c49b1
            try clear c50
            try clear c53
            try clear c53b0
            try clear c54
            try clear c54b0
            try clear c54b1
            try clear c55
            try clear c55b0
            try clear c55b1
            try clear c57
            try clear c60
            try clear c60b0
            try clear c61
            try clear p64
            try clear c65
            try clear c68
            try clear c68b0
            try clear c69
            try clear c69b0
            try clear c69b1
            try clear c71
            try clear c71b0
            try clear c71b1
            try clear c72
            try clear c72b0
            try clear c72b1
            try clear c73
            try clear c73b0
            try clear c73b1
            try clear c75
            try clear c79
            try clear c79b0
            try clear c80
            try clear c80b0
            try clear p81
            try clear q81
            try clear hx81
            try clear c82
            try clear c82b0
            try clear c82b1
            try clear c83
            try clear c86
            try clear c86b0
            try clear c87
            try clear c87b0
            try clear c87b1
            try clear c88
            try clear c88b0
            try clear c88b1
            try clear c90
            try clear hcz27_0 hcz27_1 hcz27_2
            try clear hcz37_0 hcz37_1 hcz37_2
            try clear hcz38_0 hcz38_1 hcz38_2 hcz38_3 hcz38_4 hcz38_5 hcz38_6
            try clear hcz40_0 hcz40_1 hcz40_2
            try clear hcz41_0 hcz41_1 hcz41_2 hcz41_3 hcz41_4 hcz41_5 hcz41_6
            try clear hcz44_0 hcz44_1 hcz44_2
            try clear hcz51_0 hcz51_1 hcz51_2 hcz51_3 hcz51_4 hcz51_5 hcz51_6
            try clear hcz52_0 hcz52_1 hcz52_2
            try clear hcz58_0 hcz58_1 hcz58_2 hcz58_3 hcz58_4 hcz58_5 hcz58_6
            try clear hcz59_0 hcz59_1 hcz59_2
            try clear hcz62_0 hcz62_1 hcz62_2 hcz62_3 hcz62_4 hcz62_5 hcz62_6
            try clear hcz63_0 hcz63_1 hcz63_2
            try clear hcz66_0 hcz66_1 hcz66_2 hcz66_3 hcz66_4 hcz66_5 hcz66_6
            try clear hcz67_0 hcz67_1 hcz67_2
            try clear hcz76_0 hcz76_1 hcz76_2 hcz76_3 hcz76_4 hcz76_5 hcz76_6
            try clear hcz77_0 hcz77_1 hcz77_2
            try clear hcz84_0 hcz84_1 hcz84_2 hcz84_3 hcz84_4 hcz84_5 hcz84_6
            try clear hcz85_0 hcz85_1 hcz85_2
            try clear hcz91_0 hcz91_1 hcz91_2 hcz91_3 hcz91_4 hcz91_5 hcz91_6
            try clear hcz92_0 hcz92_1 hcz92_2
            try clear hfz27_0 hfz27_1 hfz27_2
            try clear hfz37_0 hfz37_1 hfz37_2
            try clear hfz38_0 hfz38_1 hfz38_2 hfz38_3 hfz38_4 hfz38_5 hfz38_6
            try clear hfz40_0 hfz40_1 hfz40_2
            try clear hfz41_0 hfz41_1 hfz41_2 hfz41_3 hfz41_4 hfz41_5 hfz41_6
            try clear hfz44_0 hfz44_1 hfz44_2
            try clear hfz51_0 hfz51_1 hfz51_2 hfz51_3 hfz51_4 hfz51_5 hfz51_6
            try clear hfz52_0 hfz52_1 hfz52_2
            try clear hfz58_0 hfz58_1 hfz58_2 hfz58_3 hfz58_4 hfz58_5 hfz58_6
            try clear hfz59_0 hfz59_1 hfz59_2
            try clear hfz62_0 hfz62_1 hfz62_2 hfz62_3 hfz62_4 hfz62_5 hfz62_6
            try clear hfz63_0 hfz63_1 hfz63_2
            try clear hfz66_0 hfz66_1 hfz66_2 hfz66_3 hfz66_4 hfz66_5 hfz66_6
            try clear hfz67_0 hfz67_1 hfz67_2
            try clear hfz76_0 hfz76_1 hfz76_2 hfz76_3 hfz76_4 hfz76_5 hfz76_6
            try clear hfz77_0 hfz77_1 hfz77_2
            try clear hfz84_0 hfz84_1 hfz84_2 hfz84_3 hfz84_4 hfz84_5 hfz84_6
            try clear hfz85_0 hfz85_1 hfz85_2
            try clear hfz91_0 hfz91_1 hfz91_2 hfz91_3 hfz91_4 hfz91_5 hfz91_6
            try clear hfz92_0 hfz92_1 hfz92_2
            try clear p2
            try clear p20
            try clear p3
            try clear p32
            try clear p4
            try clear p48
            try clear p6
            try clear p8
            try clear p81
            try clear q2
            try clear q20
            try clear q3
            try clear q32
            try clear q4
            try clear q48
            try clear q8
            try clear q81
            obtain ⟨kq, x598005_63, x598006_63, HA, HJ63, HO_5, BK596, BK597, HB⟩ := hcut
            cases kq with
            | zero => exact absurd HA.out (by simp [q_Parse.j6])
            | succ kj63 =>
             have H := HA.out
             clear HA
             simp only [q_Parse.j6] at H
             by_cases c93 : x598006_63 > 4096
             ·rw [if_pos c93] at H
              have c93b0 : decide (4096 < x598006_63) = true := decide_eq_true c93
              clear c93
              simp only [Option.some.injEq, Prod.mk.injEq] at H
              obtain ⟨rfl, rfl, rfl⟩ := H
              have hnb94 := NB597_596.out
              have hnc94 := NB596_597.out
              obtain ⟨⟨hcz95_0, hcz95_1, hcz95_2, hcz95_3, hcz95_4, hcz95_5, hcz95_6⟩, hfz95_0, hfz95_1, hfz95_2, hfz95_3, hfz95_4, hfz95_5, hfz95_6⟩ := blkAll7 BK597
              obtain ⟨⟨hcz96_0, hcz96_1, hcz96_2⟩, hfz96_0, hfz96_1, hfz96_2⟩ := blkAll3 BK596
              go_wp2
              repeat (go_quiet (fail); try go_wp2)
              go_ret3
              exact ⟨_, er, by first | exact Kd.R_nil _ _ _ _ _ | exact Kd.N_nil _ _ _ _ _ | exact Kd.V_nil _ _ _ _ _ | exact Kd.Q_nil _ _ _ _ _ | exact Kd.S_nil _ _ _ _ _, bs⟩
             rw [if_neg c93] at H
             have c93b0 : decide (4096 < x598006_63) = false := decide_eq_false c93
             clear c93
             by_cases c97 : t595 = (a0.size : Int)
             ·rw [if_pos c97] at H
              have c97b0 : (t595 == (a0.size : Int)) = true := beq_iff_eq.mpr c97
              have c97b1 : (t595 != (a0.size : Int)) = false := bne_eq_false_iff_eq.mpr c97
              clear c97
              simp only [Option.some.injEq, Prod.mk.injEq] at H
              obtain ⟨rfl, rfl, rfl⟩ := H
              have hnb98 := NB597_596.out
              have hnc98 := NB596_597.out
              obtain ⟨⟨hcz99_0, hcz99_1, hcz99_2, hcz99_3, hcz99_4, hcz99_5, hcz99_6⟩, hfz99_0, hfz99_1, hfz99_2, hfz99_3, hfz99_4, hfz99_5, hfz99_6⟩ := blkAll7 BK597
              obtain ⟨⟨hcz100_0, hcz100_1, hcz100_2⟩, hfz100_0, hfz100_1, hfz100_2⟩ := blkAll3 BK596
              go_wp2
              repeat (go_quiet (fail); try go_wp2)
              go_ret3
              exact ⟨_, er, by first | exact Kd.R_nil _ _ _ _ _ | exact Kd.N_nil _ _ _ _ _ | exact Kd.V_nil _ _ _ _ _ | exact Kd.Q_nil _ _ _ _ _ | exact Kd.S_nil _ _ _ _ _, bs⟩
             rw [if_neg c97] at H
             have c97b0 : (t595 == (a0.size : Int)) = false := beq_eq_false_iff_ne.mpr c97
             have c97b1 : (t595 != (a0.size : Int)) = true := bne_iff_ne.mpr c97
             by_cases c101 : 0 ≤ t595
             rotate_left
             ·rw [if_neg c101] at H
              exact absurd H (by simp)
             rw [if_pos c101] at H
             have c101b0 := decide_eq_true c101
             clear c101
             by_cases c102 : t595 < (a0.size : Int)
             rotate_left
             ·rw [if_neg c102] at H
              exact absurd H (by simp)
             rw [if_pos c102] at H
             have c102b0 := decide_eq_true c102
             clear c102
             replace H := Option.bind_eq_some_iff.mp H
             obtain ⟨t602, A1040, H⟩ := H
             replace H : (if t602 < 0 then (some (([] : List (S25)), t595, 130)) else (if x5_1.length < 2199023255552 then (q_Parse.l0 kj63 a0 (x5_1 ++ [(⟨(⟨#[]⟩ : ByteArray), bt a0 t595, x598002_4, x598003_41, x598004_41, x598005_63, x598006_63⟩ : S25)]) (wrap64 (t595 + 1))) else (none))) = some (r1, r2, r3) := H
             have A104 := am A1040
             clear A1040
             by_cases c105 : t602 < 0
             ·rw [if_pos c105] at H
              have c105b0 := decide_eq_true c105
              clear c105
              simp only [Option.some.injEq, Prod.mk.injEq] at H
              obtain ⟨rfl, rfl, rfl⟩ := H
              have hnb106 := NB597_596.out
              have hnc106 := NB596_597.out
              obtain ⟨⟨hcz107_0, hcz107_1, hcz107_2, hcz107_3, hcz107_4, hcz107_5, hcz107_6⟩, hfz107_0, hfz107_1, hfz107_2, hfz107_3, hfz107_4, hfz107_5, hfz107_6⟩ := blkAll7 BK597
              obtain ⟨⟨hcz108_0, hcz108_1, hcz108_2⟩, hfz108_0, hfz108_1, hfz108_2⟩ := blkAll3 BK596
              have p103 : 0 ≤ (t595 : Int) := of_decide_eq_true od
              have q103 : t595 < (a0.size : Int) := of_decide_eq_true od
              have hx103 := bt_at a0 t595
              replace p103 := eq_true p103
              replace q103 := eq_true q103
              go_wp2_with (first | (go_at_call 39; (with_reducible refine (q_at.calls kj63 (⟨#[100, 105, 111, 117, 120, 88, 99, 115, 101, 69, 102, 70, 103, 71]⟩ : ByteArray) (bt a0 t595) t602 _ A104.out).mono ?_); rintro e w' ⟨rfl, ⟨nd, rfl⟩⟩; (try first | exact ⟨rfl, _, World.drewN_drewN _ _ _⟩ | exact ⟨rfl, _, Eq.trans (World.drewN_drewN _ _ _) (congrArg (World.drewN _) (Nat.add_assoc _ _ _))⟩)))
              repeat (go_quiet (first | (go_at_call 39; (with_reducible refine (q_at.calls kj63 (⟨#[100, 105, 111, 117, 120, 88, 99, 115, 101, 69, 102, 70, 103, 71]⟩ : ByteArray) (bt a0 t595) t602 _ A104.out).mono ?_); rintro e w' ⟨rfl, ⟨nd, rfl⟩⟩; (try first | exact ⟨rfl, _, World.drewN_drewN _ _ _⟩ | exact ⟨rfl, _, Eq.trans (World.drewN_drewN _ _ _) (congrArg (World.drewN _) (Nat.add_assoc _ _ _))⟩))); try go_wp2)
              go_ret3
              exact ⟨_, er, by first | exact Kd.R_nil _ _ _ _ _ | exact Kd.N_nil _ _ _ _ _ | exact Kd.V_nil _ _ _ _ _ | exact Kd.Q_nil _ _ _ _ _ | exact Kd.S_nil _ _ _ _ _, bs⟩
             rw [if_neg c105] at H
             have c105b0 := decide_eq_false c105
             clear c105
             by_cases c109 : x5_1.length < 2199023255552
             rotate_left
             ·rw [if_neg c109] at H
              exact absurd H (by simp)
             rw [if_pos c109] at H
             have LMc109 := am c109
             clear c109
             obtain ⟨y603, hy603⟩ : ∃ y_ : List (S25), y_ = (x5_1 ++ [(⟨(⟨#[]⟩ : ByteArray), bt a0 t595, x598002_4, x598003_41, x598004_41, x598005_63, x598006_63⟩ : S25)]) := ⟨_, rfl⟩
             replace H : (q_Parse.l0 kj63 a0 y603 (wrap64 (t595 + 1))) = some (r1, r2, r3) := by first | (rw [hy603]; with_reducible exact H) | (have H2_ := (Option.bind_some _ _).symm.trans H; rw [hy603]; with_reducible exact H2_) | (have H2_ := (Option.bind_some _ _).symm.trans H; with_reducible exact H2_) | with_reducible exact H | (rw [hy603]; exact H) | exact H
             have Ny603 := am hy603
             clear hy603
             have H' := am H
             clear H
             have hnb110 := NB597_596.out
             have hnc110 := NB596_597.out
             obtain ⟨⟨hcz111_0, hcz111_1, hcz111_2, hcz111_3, hcz111_4, hcz111_5, hcz111_6⟩, hfz111_0, hfz111_1, hfz111_2, hfz111_3, hfz111_4, hfz111_5, hfz111_6⟩ := blkAll7 BK597
             obtain ⟨⟨hcz112_0, hcz112_1, hcz112_2⟩, hfz112_0, hfz112_1, hfz112_2⟩ := blkAll3 BK596
             have p103 : 0 ≤ (t595 : Int) := of_decide_eq_true od
             have q103 : t595 < (a0.size : Int) := of_decide_eq_true od
             have hx103 := bt_at a0 t595
             replace p103 := eq_true p103
             replace q103 := eq_true q103
             go_wp2_with (first | (go_at_call 39; (with_reducible refine (q_at.calls kj63 (⟨#[100, 105, 111, 117, 120, 88, 99, 115, 101, 69, 102, 70, 103, 71]⟩ : ByteArray) (bt a0 t595) t602 _ A104.out).mono ?_); rintro e w' ⟨rfl, ⟨nd, rfl⟩⟩; (try first | exact ⟨rfl, _, World.drewN_drewN _ _ _⟩ | exact ⟨rfl, _, Eq.trans (World.drewN_drewN _ _ _) (congrArg (World.drewN _) (Nat.add_assoc _ _ _))⟩)) | ((with_reducible refine gate_builtin (b := .append) (xs := #[.tmp 165, .tmp 167]) rfl ?_); at_builtin; refine Kd.R_append k25 (w0 := w) w.heap.size rfl (.tmp 165) (.tmp 167) 22 25 (.agg #[(.string ⟨#[]⟩), (.int .u8 0), (.int .i64 0), (.int .i64 0), (.int .i64 0), (.int .i64 0), (.int .i64 0)]) 64 rfl Tryd.underlying22 info25 rfl (by decide) (by omega) u5 x5_1 (⟨(⟨#[]⟩ : ByteArray), bt a0 t595, x598002_4, x598003_41, x598004_41, x598005_63, x598006_63⟩ : S25) [.string (⟨#[]⟩ : ByteArray), .int .u8 (bt a0 t595), .int .i64 x598002_4, .int .i64 x598003_41, .int .i64 x598004_41, .int .i64 x598005_63, .int .i64 x598006_63] (fun k_ => k_ ≠ gb597) (fun _ => False) rfl (by first | (go_simp; done) | (go_simp; rfl)) ?aP (fun _ hk => hk.elim) ?aF ?aO ?aB ?aS ?aL ?_; (case aP => exact k25_mkM _ _ _ (⟨(⟨#[]⟩ : ByteArray), bt a0 t595, x598002_4, x598003_41, x598004_41, x598005_63, x598006_63⟩ : S25)); (case aB => exact bs); (case aF => exact (fun k_ hk => Kd.freshB (g := gb597) (o := .cells #[.string (⟨#[]⟩ : ByteArray), .int .u8 (bt a0 t595), .int .i64 x598002_4, .int .i64 x598003_41, .int .i64 x598004_41, .int .i64 x598005_63, .int .i64 x598006_63] 25 (0, 0)) (by refine bu ?_; refine blk_put (cs := #[.string (⟨#[]⟩ : ByteArray), .int .u8 0, .int .i64 x598002_4, .int .i64 x598003_41, .int .i64 x598004_41, .int .i64 x598005_63, .int .i64 x598006_63]) ?_ 1 _ rfl; refine bu ?_; exact BK597.out) k_ hk)); (case aO => exact (by (with_reducible repeat (first | apply Kd.R_alloc | apply Kd.R_drewN | apply Kd.R_drew)); exact Kd.R_mono (Kd.R_far (p := ⟨gb597, 1, none⟩) (Kd.R_mono HO_5.out (fun k_ hk => (⟨hk, hk⟩ : _ ∧ k_ ≠ gb597))) (fun _ hk => hk.2) (.int .u8 (bt a0 t595))) (fun _ hk => hk.1))); (case aS => exact (below_size bs)); (case aL => have := LMc109.out; omega); intro v604 w113 ho hb hg hat; rw [← Ny603.out] at ho; have n0_ := am (blk_grown (g := gb596) (o := .cells #[.int .i64 t593, .int .i64 t594, .int .i64 t595] 72 (0, 0)) (by refine bu ?_; refine blk_far ?_ NB596_597.out _; refine bu ?_; exact BK596.out) hg (Kd.R_ne HO_5.out BK596.out (by decide))); have n1_ := am (blk_grown (g := gb597) (o := .cells #[.string (⟨#[]⟩ : ByteArray), .int .u8 (bt a0 t595), .int .i64 x598002_4, .int .i64 x598003_41, .int .i64 x598004_41, .int .i64 x598005_63, .int .i64 x598006_63] 25 (0, 0)) (by refine bu ?_; refine blk_put (cs := #[.string (⟨#[]⟩ : ByteArray), .int .u8 0, .int .i64 x598002_4, .int .i64 x598003_41, .int .i64 x598004_41, .int .i64 x598005_63, .int .i64 x598006_63]) ?_ 1 _ rfl; refine bu ?_; exact BK597.out) hg (Kd.R_away HO_5.out (fun _ hk => hk))); have n2_ := am (hb); have n3_ := am (ho); clear BK596; clear BK597; clear HB; clear HO_5; have BK596 := n0_; have BK597 := n1_; have HB := n2_; have HO605 := n3_; clear n0_ n1_ n2_ n3_; clear ho hb hg hat; obtain ⟨⟨hcz114_0, hcz114_1, hcz114_2⟩, hfz114_0, hfz114_1, hfz114_2⟩ := blkAll3 BK596))
             repeat (go_quiet (first | (go_at_call 39; (with_reducible refine (q_at.calls kj63 (⟨#[100, 105, 111, 117, 120, 88, 99, 115, 101, 69, 102, 70, 103, 71]⟩ : ByteArray) (bt a0 t595) t602 _ A104.out).mono ?_); rintro e w' ⟨rfl, ⟨nd, rfl⟩⟩; (try first | exact ⟨rfl, _, World.drewN_drewN _ _ _⟩ | exact ⟨rfl, _, Eq.trans (World.drewN_drewN _ _ _) (congrArg (World.drewN _) (Nat.add_assoc _ _ _))⟩)) | ((with_reducible refine gate_builtin (b := .append) (xs := #[.tmp 165, .tmp 167]) rfl ?_); at_builtin; refine Kd.R_append k25 (w0 := w) w.heap.size rfl (.tmp 165) (.tmp 167) 22 25 (.agg #[(.string ⟨#[]⟩), (.int .u8 0), (.int .i64 0), (.int .i64 0), (.int .i64 0), (.int .i64 0), (.int .i64 0)]) 64 rfl Tryd.underlying22 info25 rfl (by decide) (by omega) u5 x5_1 (⟨(⟨#[]⟩ : ByteArray), bt a0 t595, x598002_4, x598003_41, x598004_41, x598005_63, x598006_63⟩ : S25) [.string (⟨#[]⟩ : ByteArray), .int .u8 (bt a0 t595), .int .i64 x598002_4, .int .i64 x598003_41, .int .i64 x598004_41, .int .i64 x598005_63, .int .i64 x598006_63] (fun k_ => k_ ≠ gb597) (fun _ => False) rfl (by first | (go_simp; done) | (go_simp; rfl)) ?aP (fun _ hk => hk.elim) ?aF ?aO ?aB ?aS ?aL ?_; (case aP => exact k25_mkM _ _ _ (⟨(⟨#[]⟩ : ByteArray), bt a0 t595, x598002_4, x598003_41, x598004_41, x598005_63, x598006_63⟩ : S25)); (case aB => exact bs); (case aF => exact (fun k_ hk => Kd.freshB (g := gb597) (o := .cells #[.string (⟨#[]⟩ : ByteArray), .int .u8 (bt a0 t595), .int .i64 x598002_4, .int .i64 x598003_41, .int .i64 x598004_41, .int .i64 x598005_63, .int .i64 x598006_63] 25 (0, 0)) (by refine bu ?_; refine blk_put (cs := #[.string (⟨#[]⟩ : ByteArray), .int .u8 0, .int .i64 x598002_4, .int .i64 x598003_41, .int .i64 x598004_41, .int .i64 x598005_63, .int .i64 x598006_63]) ?_ 1 _ rfl; refine bu ?_; exact BK597.out) k_ hk)); (case aO => exact (by (with_reducible repeat (first | apply Kd.R_alloc | apply Kd.R_drewN | apply Kd.R_drew)); exact Kd.R_mono (Kd.R_far (p := ⟨gb597, 1, none⟩) (Kd.R_mono HO_5.out (fun k_ hk => (⟨hk, hk⟩ : _ ∧ k_ ≠ gb597))) (fun _ hk => hk.2) (.int .u8 (bt a0 t595))) (fun _ hk => hk.1))); (case aS => exact (below_size bs)); (case aL => have := LMc109.out; omega); intro v604 w113 ho hb hg hat; rw [← Ny603.out] at ho; have n0_ := am (blk_grown (g := gb596) (o := .cells #[.int .i64 t593, .int .i64 t594, .int .i64 t595] 72 (0, 0)) (by refine bu ?_; refine blk_far ?_ NB596_597.out _; refine bu ?_; exact BK596.out) hg (Kd.R_ne HO_5.out BK596.out (by decide))); have n1_ := am (blk_grown (g := gb597) (o := .cells #[.string (⟨#[]⟩ : ByteArray), .int .u8 (bt a0 t595), .int .i64 x598002_4, .int .i64 x598003_41, .int .i64 x598004_41, .int .i64 x598005_63, .int .i64 x598006_63] 25 (0, 0)) (by refine bu ?_; refine blk_put (cs := #[.string (⟨#[]⟩ : ByteArray), .int .u8 0, .int .i64 x598002_4, .int .i64 x598003_41, .int .i64 x598004_41, .int .i64 x598005_63, .int .i64 x598006_63]) ?_ 1 _ rfl; refine bu ?_; exact BK597.out) hg (Kd.R_away HO_5.out (fun _ hk => hk))); have n2_ := am (hb); have n3_ := am (ho); clear BK596; clear BK597; clear HB; clear HO_5; have BK596 := n0_; have BK597 := n1_; have HB := n2_; have HO605 := n3_; clear n0_ n1_ n2_ n3_; clear ho hb hg hat; obtain ⟨⟨hcz114_0, hcz114_1, hcz114_2⟩, hfz114_0, hfz114_1, hfz114_2⟩ := blkAll3 BK596)); try go_wp2)
             go_roundg kj63
             case measure => have := HK1.out; have := HJ4.out; have := HJ15.out; have := HK4.out; have := HJ41.out; have := HJ63.out; omega
             case rel => exact ⟨(y603), (wrap64 (t595 + 1)), tv, H', ⟨by have := HK1.out; have := HJ4.out; have := HJ15.out; have := HK4.out; have := HJ41.out; have := HJ63.out; omega⟩, ⟨by (with_reducible repeat (first | apply Kd.R_alloc | apply Kd.R_drewN | apply Kd.R_drew)); exact Kd.R_mono HO605.out (fun _ hk => trivial)⟩, ⟨bs⟩⟩
end Go.Proofs.YtlmijjekaelhcaaDoor.EDi
