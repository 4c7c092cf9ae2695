/-
 A text of this session's own.
-/
import Derived.Test.YtdkejcadoepnnaaDoorBkA0
import Derived.Test.YtdkejcadoepnnaaDoorBkECcx0
import Derived.Test.YtdkejcadoepnnaaDoorBkXQuo
import Derived.Test.YtdkejcadoepnnaaDoorBkXBld
import Derived.Test.YtdkejcadoepnnaaDoorBkECrx4
import Derived.Test.YtdkejcadoepnnaaDoorBkX
set_option linter.unusedSimpArgs false
namespace Go.Proofs.YtdkejcadoepnnaaDoor.ECc
open Go.Proofs.YtdkejcadoepnnaaDoor.X
open Go.RowKit Go.Proofs.YtdkejcadoepnnaaDoorW.PrintWords Go.Proofs.YtdkejcadoepnnaaDoorW.PrintLast Go.Proofs.YtdkejcadoepnnaaDoorW.PrintMore
attribute [local go_sem] max2_int min2_int max_two min_two max_three min_three max_four min_four
set_option linter.unusedVariables false
open Go.Proofs.YtdkejcadoepnnaaDoor.X
mutual
def c_line.j0 : Nat → List Int → List (S41) → List Int → List ByteArray → Int → Int → Int → ByteArray → Int → Int → Int → Int → Option (List Int)
 | 0, _, _, _, _, _, _, _, _, _, _, _, _ => none
 | k + 1, x84, x102000, x102001, x102002, x104000, x104001, x104002, x106000, x106001, x106002, x106003, x106004 => if x106002 = 0 then (c_line.j1 k x84 x102000 x102001 x102002 x104000 x104001 x104002 x106000 x106001 x106002 x106003 x106004) else ((xItoa.f x104002).bind fun t114 => (if 1 + t114.size ≤ 9223372036854775807 then (if x84.length + ((⟨#[32]⟩ : ByteArray) ++ t114).size < 140737488355328 then (c_line.j1 k (x84 ++ bytesOf ((⟨#[32]⟩ : ByteArray) ++ t114)) x102000 x102001 x102002 x104000 x104001 x104002 x106000 x106001 x106002 x106003 x106004) else (none)) else (none)))
def c_line.j1 : Nat → List Int → List (S41) → List Int → List ByteArray → Int → Int → Int → ByteArray → Int → Int → Int → Int → Option (List Int)
 | 0, _, _, _, _, _, _, _, _, _, _, _, _ => none
 | k + 1, x84, x102000, x102001, x102002, x104000, x104001, x104002, x106000, x106001, x106002, x106003, x106004 => if x106001 = 1 then (if x84.length < 140737488355328 then (c_line.l0 k 60 (x84 ++ [32]) x102000 x102001 x102002 x104000 x104001 x104002) else (none)) else (if x106001 = 2 then (if x84.length < 140737488355328 then ((some (x84 ++ [32] : List Int)).bind fun y128 => (if 0 ≤ x104001 then (if x104001 < (x102002.length : Int) then ((xQuoted.f (rdOf ByteArray.empty x102002 x104001)).bind fun t132 => (if y128.length + t132.size < 140737488355328 then ((some (y128 ++ bytesOf t132 : List Int)).bind fun y133 => (if y133.length < 140737488355328 then (some (y133 ++ [10])) else (none))) else (none))) else (none)) else (none))) else (none)) else (if x84.length < 140737488355328 then (some (x84 ++ [10])) else (none)))
def c_line.l0 : Nat → Int → List Int → List (S41) → List Int → List ByteArray → Int → Int → Int → Option (List Int)
 | 0, _, _, _, _, _, _, _, _ => none
 | k + 1, x10, x84, x102000, x102001, x102002, x104000, x104001, x104002 => if x10 ≥ 0 then (if 0 ≤ x104001 then (if x104001 < (x102001.length : Int) then (if 0 ≤ x10 then (if 0 ≤ (Go.bits .and .u64 (shr .u64 (rd x102001 x104001) x10) 15) then (if (Go.bits .and .u64 (shr .u64 (rd x102001 x104001) x10) 15) < 16 then (if x84.length < 140737488355328 then (c_line.l0 k (wrap64 (x10 - 4)) (x84 ++ [bt (⟨#[48, 49, 50, 51, 52, 53, 54, 55, 56, 57, 97, 98, 99, 100, 101, 102]⟩ : ByteArray) (Go.bits .and .u64 (shr .u64 (rd x102001 x104001) x10) 15)]) x102000 x102001 x102002 x104000 x104001 x104002) else (none)) else (none)) else (none)) else (none)) else (none)) else (none)) else (if x84.length < 140737488355328 then (some (x84 ++ [10])) else (none))
end
def c_line.f (k : Nat) (a0 : List Int) (l1 : List (S72)) (l2_0 : List (S41)) (l2_1 : List Int) (l2_2 : List ByteArray) (a3 : Int) : Option (List Int) := if 0 ≤ a3 then (if a3 < (l2_0.length : Int) then (if 0 ≤ ((rd_T41 l2_0 a3).f0) then (if ((rd_T41 l2_0 a3).f0) < (l1.length : Int) then ((xItoa.f a3).bind fun t106 => (if t106.size + 2 ≤ 9223372036854775807 then (if (t106 ++ (⟨#[58, 32]⟩ : ByteArray)).size + ((rd_T72 l1 ((rd_T41 l2_0 a3).f0)).f0).size ≤ 9223372036854775807 then (if a0.length + ((t106 ++ (⟨#[58, 32]⟩ : ByteArray)) ++ ((rd_T72 l1 ((rd_T41 l2_0 a3).f0)).f0)).size < 140737488355328 then ((some (a0 ++ bytesOf ((t106 ++ (⟨#[58, 32]⟩ : ByteArray)) ++ ((rd_T72 l1 ((rd_T41 l2_0 a3).f0)).f0)) : List Int)).bind fun y107 => (if ((rd_T72 l1 ((rd_T41 l2_0 a3).f0)).f1) = 0 then (c_line.j0 k y107 l2_0 l2_1 l2_2 ((rd_T41 l2_0 a3).f0) ((rd_T41 l2_0 a3).f1) ((rd_T41 l2_0 a3).f2) ((rd_T72 l1 ((rd_T41 l2_0 a3).f0)).f0) ((rd_T72 l1 ((rd_T41 l2_0 a3).f0)).f1) ((rd_T72 l1 ((rd_T41 l2_0 a3).f0)).f2) ((rd_T72 l1 ((rd_T41 l2_0 a3).f0)).f3) ((rd_T72 l1 ((rd_T41 l2_0 a3).f0)).f4)) else ((xItoa.f ((rd_T41 l2_0 a3).f1)).bind fun t110 => (if 1 + t110.size ≤ 9223372036854775807 then (if y107.length + ((⟨#[32]⟩ : ByteArray) ++ t110).size < 140737488355328 then (c_line.j0 k (y107 ++ bytesOf ((⟨#[32]⟩ : ByteArray) ++ t110)) l2_0 l2_1 l2_2 ((rd_T41 l2_0 a3).f0) ((rd_T41 l2_0 a3).f1) ((rd_T41 l2_0 a3).f2) ((rd_T72 l1 ((rd_T41 l2_0 a3).f0)).f0) ((rd_T72 l1 ((rd_T41 l2_0 a3).f0)).f1) ((rd_T72 l1 ((rd_T41 l2_0 a3).f0)).f2) ((rd_T72 l1 ((rd_T41 l2_0 a3).f0)).f3) ((rd_T72 l1 ((rd_T41 l2_0 a3).f0)).f4)) else (none)) else (none))))) else (none)) else (none)) else (none))) else (none)) else (none)) else (none)) else (none)
def c_line.T2 : Bool × List (List Nat × List Nat) := (true, [([], []), ([], []), ([1], [1]), ([0], [0]), ([3, 2], [2, 3]), ([4], [4]), ([], []), ([6, 5, 0, 1, 2, 3, 4, 5, 6], [5, 6])])
def c_line.B2 : List Nat := [0, 0, 2, 1, 15, 31, 0, 127]
theorem c_line.tab2 : rtab .any (opsOf Tryd.f30 2) = c_line.T2 := by kernel_rfl
theorem c_line.bits2 : waitsOk c_line.T2.2 c_line.B2 = true := by kernel_rfl
set_option maxHeartbeats 8000000 in
set_option maxRecDepth 100000 in
theorem c_line.calls (k : Nat) (a0 : List Int) (adT_ : Addr) (gT : Nat) (A2_0 : Option Addr) (c2_0 : Nat) (l2_0 : List (S41)) (A2_1 : Option Addr) (c2_1 : Nat) (l2_1 : List Int) (A2_2 : Option Addr) (c2_2 : Nat) (l2_2 : List ByteArray) (a3 : Int) (r : List Int) (w0 : World) (gbb : Nat) (w : World) (hF0 : BR w w0.heap.size gbb a0) (hB0 : Below w0.heap.size w0 w) (hadT_ : adT_ = ⟨gT, 0, none⟩) (hT : w.heap[gT]? = some (.cells tabC 73 (0, 0))) (hr2_0 : Kd.C k41 w0 A2_0 l2_0.length l2_0) (hc2_0 : l2_0.length ≤ c2_0) (hr2_1 : Kd.C (Kd.int .u64) w0 A2_1 l2_1.length l2_1) (hc2_1 : l2_1.length ≤ c2_1) (hr2_2 : Kd.C Kd.string w0 A2_2 l2_2.length l2_2) (hc2_2 : l2_2.length ≤ c2_2) (hG : GW w0) (h : c_line.f k a0 tabL l2_0 l2_1 l2_2 a3 = some r) :
  Calls Tryd.prog 30 #[.pointer (some ⟨gbb, 0, none⟩), .pointer (some adT_), .agg #[.slice A2_0 l2_0.length c2_0, .slice A2_1 l2_1.length c2_1, .slice A2_2 l2_2.length c2_2], .int .i64 a3] w fun e w' => e = .returned (.tuple #[]) ∧ BR w' w0.heap.size gbb r ∧ LB w0 w gbb w' := by
 have hu26 := Tryd.underlying26
 have hu41 := Tryd.underlying41
 have hu72 := Tryd.underlying72
 have HR2_0 := am (Kd.C_below hr2_0 hB0)
 have HC2_0 := am hc2_0
 have HR2_1 := am (Kd.C_below hr2_1 hB0)
 have HC2_1 := am hc2_1
 have HR2_2 := am (Kd.C_below hr2_2 hB0)
 have HC2_2 := am hc2_2
 have HB := am (Below.refl w.heap.size w)
 have hadTA := am hadT_
 clear hadT_
 have HG := am (GW.below hG hB0)
 have H : (if 0 ≤ a3 then (if a3 < (l2_0.length : Int) then (if 0 ≤ ((rd_T41 l2_0 a3).f0) then (if ((rd_T41 l2_0 a3).f0) < (tabL.length : Int) then ((xItoa.f a3).bind fun t106 => (if t106.size + 2 ≤ 9223372036854775807 then (if (t106 ++ (⟨#[58, 32]⟩ : ByteArray)).size + ((rd_T72 tabL ((rd_T41 l2_0 a3).f0)).f0).size ≤ 9223372036854775807 then (if a0.length + ((t106 ++ (⟨#[58, 32]⟩ : ByteArray)) ++ ((rd_T72 tabL ((rd_T41 l2_0 a3).f0)).f0)).size < 140737488355328 then ((some (a0 ++ bytesOf ((t106 ++ (⟨#[58, 32]⟩ : ByteArray)) ++ ((rd_T72 tabL ((rd_T41 l2_0 a3).f0)).f0)) : List Int)).bind fun y107 => (if ((rd_T72 tabL ((rd_T41 l2_0 a3).f0)).f1) = 0 then (c_line.j0 k y107 l2_0 l2_1 l2_2 ((rd_T41 l2_0 a3).f0) ((rd_T41 l2_0 a3).f1) ((rd_T41 l2_0 a3).f2) ((rd_T72 tabL ((rd_T41 l2_0 a3).f0)).f0) ((rd_T72 tabL ((rd_T41 l2_0 a3).f0)).f1) ((rd_T72 tabL ((rd_T41 l2_0 a3).f0)).f2) ((rd_T72 tabL ((rd_T41 l2_0 a3).f0)).f3) ((rd_T72 tabL ((rd_T41 l2_0 a3).f0)).f4)) else ((xItoa.f ((rd_T41 l2_0 a3).f1)).bind fun t110 => (if 1 + t110.size ≤ 9223372036854775807 then (if y107.length + ((⟨#[32]⟩ : ByteArray) ++ t110).size < 140737488355328 then (c_line.j0 k (y107 ++ bytesOf ((⟨#[32]⟩ : ByteArray) ++ t110)) l2_0 l2_1 l2_2 ((rd_T41 l2_0 a3).f0) ((rd_T41 l2_0 a3).f1) ((rd_T41 l2_0 a3).f2) ((rd_T72 tabL ((rd_T41 l2_0 a3).f0)).f0) ((rd_T72 tabL ((rd_T41 l2_0 a3).f0)).f1) ((rd_T72 tabL ((rd_T41 l2_0 a3).f0)).f2) ((rd_T72 tabL ((rd_T41 l2_0 a3).f0)).f3) ((rd_T72 tabL ((rd_T41 l2_0 a3).f0)).f4)) else (none)) else (none))))) else (none)) else (none)) else (none))) else (none)) else (none)) else (none)) else (none)) = some r := h
 clear h
 by_cases c5 : 0 ≤ a3
 rotate_left
 ·rw [if_neg c5] at H
  exact absurd H (by simp)
 rw [if_pos c5] at H
 have c5b0 := decide_eq_true c5
 clear c5
 by_cases c6 : a3 < (l2_0.length : Int)
 rotate_left
 ·rw [if_neg c6] at H
  exact absurd H (by simp)
 rw [if_pos c6] at H
 have c6b0 := decide_eq_true c6
 clear c6
 by_cases c7 : 0 ≤ ((rd_T41 l2_0 a3).f0)
 rotate_left
 ·rw [if_neg c7] at H
  exact absurd H (by simp)
 rw [if_pos c7] at H
 have c7b0 := decide_eq_true c7
 clear c7
 by_cases c8 : ((rd_T41 l2_0 a3).f0) < (tabL.length : Int)
 rotate_left
 ·rw [if_neg c8] at H
  exact absurd H (by simp)
 rw [if_pos c8] at H
 have c8b0 := decide_eq_true c8
 clear c8
 replace H := Option.bind_eq_some_iff.mp H
 obtain ⟨t106, A90, H⟩ := H
 replace H : (if t106.size + 2 ≤ 9223372036854775807 then (if (t106 ++ (⟨#[58, 32]⟩ : ByteArray)).size + ((rd_T72 tabL ((rd_T41 l2_0 a3).f0)).f0).size ≤ 9223372036854775807 then (if a0.length + ((t106 ++ (⟨#[58, 32]⟩ : ByteArray)) ++ ((rd_T72 tabL ((rd_T41 l2_0 a3).f0)).f0)).size < 140737488355328 then ((some (a0 ++ bytesOf ((t106 ++ (⟨#[58, 32]⟩ : ByteArray)) ++ ((rd_T72 tabL ((rd_T41 l2_0 a3).f0)).f0)) : List Int)).bind fun y107 => (if ((rd_T72 tabL ((rd_T41 l2_0 a3).f0)).f1) = 0 then (c_line.j0 k y107 l2_0 l2_1 l2_2 ((rd_T41 l2_0 a3).f0) ((rd_T41 l2_0 a3).f1) ((rd_T41 l2_0 a3).f2) ((rd_T72 tabL ((rd_T41 l2_0 a3).f0)).f0) ((rd_T72 tabL ((rd_T41 l2_0 a3).f0)).f1) ((rd_T72 tabL ((rd_T41 l2_0 a3).f0)).f2) ((rd_T72 tabL ((rd_T41 l2_0 a3).f0)).f3) ((rd_T72 tabL ((rd_T41 l2_0 a3).f0)).f4)) else ((xItoa.f ((rd_T41 l2_0 a3).f1)).bind fun t110 => (if 1 + t110.size ≤ 9223372036854775807 then (if y107.length + ((⟨#[32]⟩ : ByteArray) ++ t110).size < 140737488355328 then (c_line.j0 k (y107 ++ bytesOf ((⟨#[32]⟩ : ByteArray) ++ t110)) l2_0 l2_1 l2_2 ((rd_T41 l2_0 a3).f0) ((rd_T41 l2_0 a3).f1) ((rd_T41 l2_0 a3).f2) ((rd_T72 tabL ((rd_T41 l2_0 a3).f0)).f0) ((rd_T72 tabL ((rd_T41 l2_0 a3).f0)).f1) ((rd_T72 tabL ((rd_T41 l2_0 a3).f0)).f2) ((rd_T72 tabL ((rd_T41 l2_0 a3).f0)).f3) ((rd_T72 tabL ((rd_T41 l2_0 a3).f0)).f4)) else (none)) else (none))))) else (none)) else (none)) else (none)) = some r := H
 have A9 := am A90
 clear A90
 by_cases c10 : t106.size + 2 ≤ 9223372036854775807
 rotate_left
 ·rw [if_neg c10] at H
  exact absurd H (by simp)
 rw [if_pos c10] at H
 have c10b0 := eq_true c10
 have c10b1 := decide_eq_true c10
 try have c10b2 : (9223372036854775807 < t106.size + 2) = False := eq_false (Nat.not_lt.2 c10)
 by_cases c11 : (t106 ++ (⟨#[58, 32]⟩ : ByteArray)).size + ((rd_T72 tabL ((rd_T41 l2_0 a3).f0)).f0).size ≤ 9223372036854775807
 rotate_left
 ·rw [if_neg c11] at H
  exact absurd H (by simp)
 rw [if_pos c11] at H
 have c11b0 := eq_true c11
 have c11b1 := decide_eq_true c11
 try have c11b2 : (9223372036854775807 < (t106 ++ (⟨#[58, 32]⟩ : ByteArray)).size + ((rd_T72 tabL ((rd_T41 l2_0 a3).f0)).f0).size) = False := eq_false (Nat.not_lt.2 c11)
 (try (have c11b3 : (9223372036854775807 < t106.size + 2 + ((rd_T72 tabL ((rd_T41 l2_0 a3).f0)).f0).size) = False := by have h_ := c11b2; simp only [ByteArray.size_append] at h_; exact h_))
 by_cases c12 : a0.length + ((t106 ++ (⟨#[58, 32]⟩ : ByteArray)) ++ ((rd_T72 tabL ((rd_T41 l2_0 a3).f0)).f0)).size < 140737488355328
 rotate_left
 ·rw [if_neg c12] at H
  exact absurd H (by simp)
 rw [if_pos c12] at H
 have LMc12 := am c12
 clear c12
 obtain ⟨y107, hy107⟩ : ∃ y_ : List Int, y_ = (a0 ++ bytesOf ((t106 ++ (⟨#[58, 32]⟩ : ByteArray)) ++ ((rd_T72 tabL ((rd_T41 l2_0 a3).f0)).f0))) := ⟨_, rfl⟩
 replace H : (if ((rd_T72 tabL ((rd_T41 l2_0 a3).f0)).f1) = 0 then (c_line.j0 k y107 l2_0 l2_1 l2_2 ((rd_T41 l2_0 a3).f0) ((rd_T41 l2_0 a3).f1) ((rd_T41 l2_0 a3).f2) ((rd_T72 tabL ((rd_T41 l2_0 a3).f0)).f0) ((rd_T72 tabL ((rd_T41 l2_0 a3).f0)).f1) ((rd_T72 tabL ((rd_T41 l2_0 a3).f0)).f2) ((rd_T72 tabL ((rd_T41 l2_0 a3).f0)).f3) ((rd_T72 tabL ((rd_T41 l2_0 a3).f0)).f4)) else ((xItoa.f ((rd_T41 l2_0 a3).f1)).bind fun t110 => (if 1 + t110.size ≤ 9223372036854775807 then (if y107.length + ((⟨#[32]⟩ : ByteArray) ++ t110).size < 140737488355328 then (c_line.j0 k (y107 ++ bytesOf ((⟨#[32]⟩ : ByteArray) ++ t110)) l2_0 l2_1 l2_2 ((rd_T41 l2_0 a3).f0) ((rd_T41 l2_0 a3).f1) ((rd_T41 l2_0 a3).f2) ((rd_T72 tabL ((rd_T41 l2_0 a3).f0)).f0) ((rd_T72 tabL ((rd_T41 l2_0 a3).f0)).f1) ((rd_T72 tabL ((rd_T41 l2_0 a3).f0)).f2) ((rd_T72 tabL ((rd_T41 l2_0 a3).f0)).f3) ((rd_T72 tabL ((rd_T41 l2_0 a3).f0)).f4)) else (none)) else (none)))) = some r := by first | (rw [hy107]; with_reducible exact H) | (have H2_ := (Option.bind_some _ _).symm.trans H; rw [hy107]; with_reducible exact H2_) | (have H2_ := (Option.bind_some _ _).symm.trans H; with_reducible exact H2_) | with_reducible exact H | (rw [hy107]; exact H) | exact H
 have Ny107 := am hy107
 clear hy107
 have HC13 := am H
 clear H
 go_enter Tryd.func30, Tryd.ntmps30
 try go_wp2_with (first | ((with_reducible refine gate_dst (N := 6) rfl ?_); refine box_event ?hg (N := 6) ?hd (cs := #[.slice A2_0 l2_0.length c2_0, .slice A2_1 l2_1.length c2_1, .slice A2_2 l2_2.length c2_2]) (t := 26) ?hr ?_; (case hd => rfl); (case hg => rfl); (case hr => first | (go_simp; done) | (go_simp; rfl)); intro gb101 hg w14 hbox hb; have n0_ := am (below_step bl hb); have n1_ := am (hbox); have n2_ := am ((by rw [hg]; exact (below_size bl) : w.heap.size ≤ gb101)); have n3_ := n2_; clear HB; have HB := n0_; have BK101 := n1_; have GW101 := n2_; have GE101 := n3_; clear n0_ n1_ n2_ n3_; clear hb hbox hg; obtain ⟨⟨hcz15_0, hcz15_1, hcz15_2⟩, hfz15_0, hfz15_1, hfz15_2⟩ := blkAll3 BK101; have p102 : 0 ≤ (a3 : Int) := of_decide_eq_true od; have q102 : a3 < (l2_0.length : Int) := of_decide_eq_true od; obtain ⟨ad102, e102, hx102_0, hx102_1, hx102_2⟩ := at_T41 HR2_0.out a3 p102 q102; cases e102; replace hx102_0 := (HB.out.cell (World.block_lt_of_cell? w _ hx102_0)).trans hx102_0; replace hx102_1 := (HB.out.cell (World.block_lt_of_cell? w _ hx102_1)).trans hx102_1; replace hx102_2 := (HB.out.cell (World.block_lt_of_cell? w _ hx102_2)).trans hx102_2; replace p102 := eq_true p102; replace q102 := eq_true q102) | ((with_reducible refine gate_dst (N := 8) rfl ?_); refine box_event ?hg (N := 8) ?hd (cs := #[.int .i64 0, .int .i64 0, .int .i64 0]) (t := 41) ?hr ?_; (case hd => rfl); (case hg => rfl); (case hr => first | (go_simp; done) | (go_simp; rfl)); intro gb103 hg w16 hbox hb; have n0_ := am (blk_below (bu BK101.out) hb); have n1_ := am (below_step bs hb); have n2_ := am (hbox); have n3_ := am ((by rw [hg]; exact (below_size bs) : w.heap.size ≤ gb103)); have n4_ := am ((by rw [hg]; exact (below_size bs) : w.heap.size ≤ gb103)); have n5_ := am ((by rw [hg]; exact Nat.ne_of_lt (blk_lt (bu BK101.out)) : gb101 ≠ gb103)); have n6_ := am ((by rw [hg]; exact Nat.ne_of_gt (blk_lt (bu BK101.out)) : gb103 ≠ gb101)); clear BK101; clear HB; have BK101 := n0_; have HB := n1_; have BK103 := n2_; have GW103 := n3_; have GE103 := n4_; have NB101_103 := n5_; have NB103_101 := n6_; clear n0_ n1_ n2_ n3_ n4_ n5_ n6_; clear hb hbox hg; have hnb17 := NB103_101.out; have hnc17 := NB101_103.out; obtain ⟨⟨hcz18_0, hcz18_1, hcz18_2⟩, hfz18_0, hfz18_1, hfz18_2⟩ := blkAll3 BK103))
 have n0_ : Aside0 ((((w16.setCell ⟨gb103, 0, none⟩ (.int .i64 ((rd_T41 l2_0 a3).f0))).setCell ⟨gb103, 1, none⟩ (.int .i64 ((rd_T41 l2_0 a3).f1))).setCell ⟨gb103, 2, none⟩ (.int .i64 ((rd_T41 l2_0 a3).f2))).heap[gb101]? = some (.cells #[.slice (some ad102) l2_0.length c2_0, .slice A2_1 l2_1.length c2_1, .slice A2_2 l2_2.length c2_2] 26 (0, 0))) := ⟨by refine bu ?_; refine blk_far ?_ NB101_103.out _; refine bu ?_; refine blk_far ?_ NB101_103.out _; refine bu ?_; refine blk_far ?_ NB101_103.out _; refine bu ?_; exact BK101.out⟩
 have n1_ : Aside0 ((((w16.setCell ⟨gb103, 0, none⟩ (.int .i64 ((rd_T41 l2_0 a3).f0))).setCell ⟨gb103, 1, none⟩ (.int .i64 ((rd_T41 l2_0 a3).f1))).setCell ⟨gb103, 2, none⟩ (.int .i64 ((rd_T41 l2_0 a3).f2))).heap[gb103]? = some (.cells #[.int .i64 ((rd_T41 l2_0 a3).f0), .int .i64 ((rd_T41 l2_0 a3).f1), .int .i64 ((rd_T41 l2_0 a3).f2)] 41 (0, 0))) := ⟨by refine bu ?_; refine blk_put (cs := #[.int .i64 ((rd_T41 l2_0 a3).f0), .int .i64 ((rd_T41 l2_0 a3).f1), .int .i64 0]) ?_ 2 _ rfl; refine bu ?_; refine blk_put (cs := #[.int .i64 ((rd_T41 l2_0 a3).f0), .int .i64 0, .int .i64 0]) ?_ 1 _ rfl; refine bu ?_; refine blk_put (cs := #[.int .i64 0, .int .i64 0, .int .i64 0]) ?_ 0 _ rfl; refine bu ?_; exact BK103.out⟩
 have n2_ : Aside0 (Below w.heap.size w (((w16.setCell ⟨gb103, 0, none⟩ (.int .i64 ((rd_T41 l2_0 a3).f0))).setCell ⟨gb103, 1, none⟩ (.int .i64 ((rd_T41 l2_0 a3).f1))).setCell ⟨gb103, 2, none⟩ (.int .i64 ((rd_T41 l2_0 a3).f2)))) := ⟨bs⟩
 (try clear BK101)
 (try clear BK103)
 (try clear HB)
 generalize (((w16.setCell ⟨gb103, 0, none⟩ (.int .i64 ((rd_T41 l2_0 a3).f0))).setCell ⟨gb103, 1, none⟩ (.int .i64 ((rd_T41 l2_0 a3).f1))).setCell ⟨gb103, 2, none⟩ (.int .i64 ((rd_T41 l2_0 a3).f2))) = w19 at n0_ n1_ n2_ ⊢
 have BK101 := n0_
 have BK103 := n1_
 have HB := n2_
 clear n0_ n1_ n2_
 have n0_ := am (blk_drew BK101.out)
 have n1_ := am (blk_drew BK103.out)
 have n2_ := am (below_drew1 HB.out)
 clear BK101
 clear BK103
 clear HB
 have BK101 := n0_
 have BK103 := n1_
 have HB := n2_
 clear n0_ n1_ n2_
 have p104 : 0 ≤ (((rd_T41 l2_0 a3).f0) : Int) := of_decide_eq_true od
 have q104 : ((rd_T41 l2_0 a3).f0) < (tabL.length : Int) := of_decide_eq_true od
 have q104n : (((rd_T41 l2_0 a3).f0) < 34) = True := eq_true (by have h_ := q104; rw [tabL_len] at h_; exact h_)
 obtain ⟨adq_, e104, hx104_0, hx104_1, hx104_2, hx104_3, hx104_4⟩ := at_T72 (tab_rowsA hadTA.out hT) ((rd_T41 l2_0 a3).f0) p104 q104
 have hw104_4 := hx104_4
 have hw104_3 := hx104_3
 have hw104_2 := hx104_2
 have hw104_1 := hx104_1
 have hw104_0 := hx104_0
 obtain rfl := Option.some.inj e104
 replace hx104_0 := (HB.out.cell (World.block_lt_of_cell? w _ hx104_0)).trans hx104_0
 replace hx104_1 := (HB.out.cell (World.block_lt_of_cell? w _ hx104_1)).trans hx104_1
 replace hx104_2 := (HB.out.cell (World.block_lt_of_cell? w _ hx104_2)).trans hx104_2
 replace hx104_3 := (HB.out.cell (World.block_lt_of_cell? w _ hx104_3)).trans hx104_3
 replace hx104_4 := (HB.out.cell (World.block_lt_of_cell? w _ hx104_4)).trans hx104_4
 replace p104 := eq_true p104
 replace q104 := eq_true q104
 refine start_ (n := 8) (S := fun w' => w'.cell? ⟨gb103, 0, none⟩ = some (.int .i64 ((rd_T41 l2_0 a3).f0)) ∧ w'.cell? ⟨gb103, 1, none⟩ = some (.int .i64 ((rd_T41 l2_0 a3).f1)) ∧ w'.cell? ⟨gb103, 2, none⟩ = some (.int .i64 ((rd_T41 l2_0 a3).f2)) ∧ w'.cell? (adT_.add ((((rd_T41 l2_0 a3).f0)).toNat * 5)) = some (.string ((rd_T72 tabL ((rd_T41 l2_0 a3).f0)).f0)) ∧ w'.cell? ⟨(adT_.add ((((rd_T41 l2_0 a3).f0)).toNat * 5)).block, (adT_.add ((((rd_T41 l2_0 a3).f0)).toNat * 5)).off + 1, none⟩ = some (.int .i64 ((rd_T72 tabL ((rd_T41 l2_0 a3).f0)).f1)) ∧ w'.cell? ⟨(adT_.add ((((rd_T41 l2_0 a3).f0)).toNat * 5)).block, (adT_.add ((((rd_T41 l2_0 a3).f0)).toNat * 5)).off + 2, none⟩ = some (.int .i64 ((rd_T72 tabL ((rd_T41 l2_0 a3).f0)).f2)) ∧ w'.cell? ⟨(adT_.add ((((rd_T41 l2_0 a3).f0)).toNat * 5)).block, (adT_.add ((((rd_T41 l2_0 a3).f0)).toNat * 5)).off + 3, none⟩ = some (.int .i64 ((rd_T72 tabL ((rd_T41 l2_0 a3).f0)).f3)) ∧ w'.cell? ⟨(adT_.add ((((rd_T41 l2_0 a3).f0)).toNat * 5)).block, (adT_.add ((((rd_T41 l2_0 a3).f0)).toNat * 5)).off + 4, none⟩ = some (.int .i64 ((rd_T72 tabL ((rd_T41 l2_0 a3).f0)).f4))) (ds := []) #[false, false, false, false, false, false, false, false] (by kernel_rfl) rfl rfl ⟨(blk_cell BK103.out 0).trans rfl, (blk_cell BK103.out 1).trans rfl, (blk_cell BK103.out 2).trans rfl, ((HB.out.cell (World.block_lt_of_cell? w _ hw104_0)).trans hw104_0), ((HB.out.cell (World.block_lt_of_cell? w _ hw104_1)).trans hw104_1), ((HB.out.cell (World.block_lt_of_cell? w _ hw104_2)).trans hw104_2), ((HB.out.cell (World.block_lt_of_cell? w _ hw104_3)).trans hw104_3), ((HB.out.cell (World.block_lt_of_cell? w _ hw104_4)).trans hw104_4)⟩ (fun hHeld => ?_); refine with_tabW c_line.tab2 c_line.bits2 (fun HT_ HW_ => ?_)
 generalize w19.drew = w20 at BK101 BK103 HB hx104_0 hx104_1 hx104_2 hx104_3 hx104_4 hHeld ⊢
 refine pure_ (i := 0) (N := some 16) (v := ?_) (a' := ?_) #[true, false, false, false, false, false, false, false] rfl rfl (any_of HT_.out (by kernel_rfl)) (fun _ _ _ h => h) (Or.inl ⟨by rfl, ?_⟩) ?_ ?_
 rotate_left
 ·intro w'
  go_simp
  with_reducible rfl
 rotate_left
 ·simp only [Act.put, List.setIfInBounds_toArray, List.set_cons_zero, List.set_cons_succ, i64_w, i32_w]
  rfl
 refine pure_ (i := 1) (N := some 17) (v := ?_) (a' := ?_) #[true, true, false, false, false, false, false, false] rfl rfl (any_of HT_.out (by kernel_rfl)) (fun _ _ _ h => h) (Or.inl ⟨by rfl, ?_⟩) ?_ ?_
 rotate_left
 ·intro w'
  go_simp
  with_reducible rfl
 rotate_left
 ·simp only [Act.put, List.setIfInBounds_toArray, List.set_cons_zero, List.set_cons_succ, i64_w, i32_w]
  rfl
 refine pure_ (i := 3) (N := some 19) (v := ?_) (a' := ?_) #[true, true, false, true, false, false, false, false] rfl rfl (any_of HT_.out (by kernel_rfl)) (fun _ _ _ h => h) (Or.inl ⟨by rfl, ?_⟩) ?_ ?_
 rotate_left
 ·intro w'
  go_simp
  with_reducible rfl
 rotate_left
 ·simp only [Act.put, List.setIfInBounds_toArray, List.set_cons_zero, List.set_cons_succ, i64_w, i32_w]
  rfl
 refine take_ (i := 2) (N := some 18) (v := ?_) (a' := ?_) #[true, true, true, true, false, false, false, false] rfl rfl (take_ofW HT_.out HW_.out (by kernel_rfl)) (fun _ _ _ h => h) (Or.inl ⟨by rfl, ?_⟩) hHeld ?_ ?_
 rotate_left
 ·rintro w' ⟨s0, s1, s2, s3, s4, s5, s6, s7⟩
  go_simp
  with_reducible rfl
 rotate_left
 ·simp only [Act.put, List.setIfInBounds_toArray, List.set_cons_zero, List.set_cons_succ, i64_w, i32_w]
  rfl
 refine pure_ (i := 4) (N := some 20) (v := ?_) (a' := ?_) #[true, true, true, true, true, false, false, false] rfl rfl (any_of HT_.out (by kernel_rfl)) (fun _ _ _ h => h) (Or.inl ⟨by rfl, ?_⟩) ?_ ?_
 rotate_left
 ·intro w'
  go_simp
  with_reducible rfl
 rotate_left
 ·simp only [Act.put, List.setIfInBounds_toArray, List.set_cons_zero, List.set_cons_succ, i64_w, i32_w]
  rfl
 refine take_ (i := 5) (N := some 21) (v := ?_) (a' := ?_) #[true, true, true, true, true, true, false, false] rfl rfl (take_ofW HT_.out HW_.out (by kernel_rfl)) (fun _ _ _ h => h) (Or.inl ⟨by rfl, ?_⟩) hHeld ?_ ?_
 rotate_left
 ·rintro w' ⟨s0, s1, s2, s3, s4, s5, s6, s7⟩
  go_simp
  with_reducible rfl
 rotate_left
 ·simp only [Act.put, List.setIfInBounds_toArray, List.set_cons_zero, List.set_cons_succ, i64_w, i32_w]
  rfl
 refine one_ (i := 6) (N := some 9) #[true, true, true, true, true, true, true, false] rfl rfl (one_of HT_.out (by kernel_rfl)) (by decide) (fun K hK => ?_)
 refine box_step ?hg (N := 9) ?hd (cs := #[.string (⟨#[]⟩ : ByteArray), .int .i64 0, .int .i64 0, .int .i64 0, .int .i64 0]) (t := 72) ?hr ?_; (case hd => rfl); (case hg => rfl); (case hr => first | (go_simp; done) | (go_simp; rfl))
 intro gb105 hg w21 hbox hb
 have n0_ := am (blk_below (bu BK101.out) hb)
 have n1_ := am (blk_below (bu BK103.out) hb)
 have n2_ := am (below_step bs hb)
 have n3_ := am (hbox)
 have n4_ := am ((by rw [hg]; exact (below_size bs) : w.heap.size ≤ gb105))
 have n5_ := am ((by rw [hg]; exact (below_size bs) : w.heap.size ≤ gb105))
 have n6_ := am ((by rw [hg]; exact Nat.ne_of_lt (blk_lt (bu BK101.out)) : gb101 ≠ gb105))
 have n7_ := am ((by rw [hg]; exact Nat.ne_of_gt (blk_lt (bu BK101.out)) : gb105 ≠ gb101))
 have n8_ := am ((by rw [hg]; exact Nat.ne_of_lt (blk_lt (bu BK103.out)) : gb103 ≠ gb105))
 have n9_ := am ((by rw [hg]; exact Nat.ne_of_gt (blk_lt (bu BK103.out)) : gb105 ≠ gb103))
 clear BK101
 clear BK103
 clear HB
 have BK101 := n0_
 have BK103 := n1_
 have HB := n2_
 have BK105 := n3_
 have GW105 := n4_
 have GE105 := n5_
 have NB101_105 := n6_
 have NB105_101 := n7_
 have NB103_105 := n8_
 have NB105_103 := n9_
 clear n0_ n1_ n2_ n3_ n4_ n5_ n6_ n7_ n8_ n9_
 clear hb hbox hg
 refine hK.out _ _ ⟨(blk_cell BK103.out 0).trans rfl, (blk_cell BK103.out 1).trans rfl, (blk_cell BK103.out 2).trans rfl, ((HB.out.cell (World.block_lt_of_cell? w _ hw104_0)).trans hw104_0), ((HB.out.cell (World.block_lt_of_cell? w _ hw104_1)).trans hw104_1), ((HB.out.cell (World.block_lt_of_cell? w _ hw104_2)).trans hw104_2), ((HB.out.cell (World.block_lt_of_cell? w _ hw104_3)).trans hw104_3), ((HB.out.cell (World.block_lt_of_cell? w _ hw104_4)).trans hw104_4)⟩ (fun hHeld => ?_)
 clear hK K
 refine norm_ (a' := ?_) ?_ ?_
 rotate_left
 ·show Act.put _ (some 9) _ = _
  simp only [Act.put, List.setIfInBounds_toArray, List.set_cons_zero, List.set_cons_succ, i64_w, i32_w]
  rfl
 refine one_ (i := 7) (N := none) #[true, true, true, true, true, true, true, true] rfl rfl (one_of HT_.out (by kernel_rfl)) (by decide) (fun K hK => ?_)
 have hs22 : w21.cell? ⟨gb105, 0, none⟩ = some (.string (⟨#[]⟩ : ByteArray)) := (blk_cell BK105.out 0).trans rfl
 have hfs22 := blk_frozen BK105.out 0
 have hns22_0 := NB101_105.out
 have hns22_1 := NB103_105.out
 have hms22_0 := NB105_101.out
 have hms22_1 := NB105_103.out
 have hs23 : w21.cell? ⟨gb105, 1, none⟩ = some (.int .i64 0) := (blk_cell BK105.out 1).trans rfl
 have hfs23 := blk_frozen BK105.out 1
 have hns23_0 := NB101_105.out
 have hns23_1 := NB103_105.out
 have hms23_0 := NB105_101.out
 have hms23_1 := NB105_103.out
 have hs24 : w21.cell? ⟨gb105, 2, none⟩ = some (.int .i64 0) := (blk_cell BK105.out 2).trans rfl
 have hfs24 := blk_frozen BK105.out 2
 have hns24_0 := NB101_105.out
 have hns24_1 := NB103_105.out
 have hms24_0 := NB105_101.out
 have hms24_1 := NB105_103.out
 have hs25 : w21.cell? ⟨gb105, 3, none⟩ = some (.int .i64 0) := (blk_cell BK105.out 3).trans rfl
 have hfs25 := blk_frozen BK105.out 3
 have hns25_0 := NB101_105.out
 have hns25_1 := NB103_105.out
 have hms25_0 := NB105_101.out
 have hms25_1 := NB105_103.out
 have hs26 : w21.cell? ⟨gb105, 4, none⟩ = some (.int .i64 0) := (blk_cell BK105.out 4).trans rfl
 have hfs26 := blk_frozen BK105.out 4
 have hns26_0 := NB101_105.out
 have hns26_1 := NB103_105.out
 have hms26_0 := NB105_101.out
 have hms26_1 := NB105_103.out
 refine skip_ (w1 := ?_) (by rfl) rfl ?_ ?_
 rotate_left
 ·go_simp
  rfl
 refine hK.out _ _ ⟨((cell_far (p := ⟨gb105, _, none⟩) NB103_105.out _).trans (((cell_far (p := ⟨gb105, _, none⟩) NB103_105.out _).trans (((cell_far (p := ⟨gb105, _, none⟩) NB103_105.out _).trans (((cell_far (p := ⟨gb105, _, none⟩) NB103_105.out _).trans (((cell_far (p := ⟨gb105, _, none⟩) NB103_105.out _).trans (hHeld.1)))))))))), ((cell_far (p := ⟨gb105, _, none⟩) NB103_105.out _).trans (((cell_far (p := ⟨gb105, _, none⟩) NB103_105.out _).trans (((cell_far (p := ⟨gb105, _, none⟩) NB103_105.out _).trans (((cell_far (p := ⟨gb105, _, none⟩) NB103_105.out _).trans (((cell_far (p := ⟨gb105, _, none⟩) NB103_105.out _).trans (hHeld.2.1)))))))))), ((cell_far (p := ⟨gb105, _, none⟩) NB103_105.out _).trans (((cell_far (p := ⟨gb105, _, none⟩) NB103_105.out _).trans (((cell_far (p := ⟨gb105, _, none⟩) NB103_105.out _).trans (((cell_far (p := ⟨gb105, _, none⟩) NB103_105.out _).trans (((cell_far (p := ⟨gb105, _, none⟩) NB103_105.out _).trans (hHeld.2.2.1)))))))))), ((cell_far (p := ⟨gb105, _, none⟩) (by first | exact Nat.ne_of_lt (Nat.lt_of_lt_of_le (by have := World.block_lt_of_cell? _ _ hw104_0; first | rwa [add_block] at this | exact this) GW105.out) | (rw [add_block]; exact Nat.ne_of_lt (Nat.lt_of_lt_of_le (by have := World.block_lt_of_cell? _ _ hw104_0; first | rwa [add_block] at this | exact this) GW105.out)) | (show (Addr.add _ _).block ≠ _; rw [add_block]; exact Nat.ne_of_lt (Nat.lt_of_lt_of_le (by have := World.block_lt_of_cell? _ _ hw104_0; first | rwa [add_block] at this | exact this) GW105.out)) | (dsimp only; exact Nat.ne_of_lt (Nat.lt_of_lt_of_le (by have := World.block_lt_of_cell? _ _ hw104_0; first | rwa [add_block] at this | exact this) GW105.out))) _).trans (((cell_far (p := ⟨gb105, _, none⟩) (by first | exact Nat.ne_of_lt (Nat.lt_of_lt_of_le (by have := World.block_lt_of_cell? _ _ hw104_0; first | rwa [add_block] at this | exact this) GW105.out) | (rw [add_block]; exact Nat.ne_of_lt (Nat.lt_of_lt_of_le (by have := World.block_lt_of_cell? _ _ hw104_0; first | rwa [add_block] at this | exact this) GW105.out)) | (show (Addr.add _ _).block ≠ _; rw [add_block]; exact Nat.ne_of_lt (Nat.lt_of_lt_of_le (by have := World.block_lt_of_cell? _ _ hw104_0; first | rwa [add_block] at this | exact this) GW105.out)) | (dsimp only; exact Nat.ne_of_lt (Nat.lt_of_lt_of_le (by have := World.block_lt_of_cell? _ _ hw104_0; first | rwa [add_block] at this | exact this) GW105.out))) _).trans (((cell_far (p := ⟨gb105, _, none⟩) (by first | exact Nat.ne_of_lt (Nat.lt_of_lt_of_le (by have := World.block_lt_of_cell? _ _ hw104_0; first | rwa [add_block] at this | exact this) GW105.out) | (rw [add_block]; exact Nat.ne_of_lt (Nat.lt_of_lt_of_le (by have := World.block_lt_of_cell? _ _ hw104_0; first | rwa [add_block] at this | exact this) GW105.out)) | (show (Addr.add _ _).block ≠ _; rw [add_block]; exact Nat.ne_of_lt (Nat.lt_of_lt_of_le (by have := World.block_lt_of_cell? _ _ hw104_0; first | rwa [add_block] at this | exact this) GW105.out)) | (dsimp only; exact Nat.ne_of_lt (Nat.lt_of_lt_of_le (by have := World.block_lt_of_cell? _ _ hw104_0; first | rwa [add_block] at this | exact this) GW105.out))) _).trans (((cell_far (p := ⟨gb105, _, none⟩) (by first | exact Nat.ne_of_lt (Nat.lt_of_lt_of_le (by have := World.block_lt_of_cell? _ _ hw104_0; first | rwa [add_block] at this | exact this) GW105.out) | (rw [add_block]; exact Nat.ne_of_lt (Nat.lt_of_lt_of_le (by have := World.block_lt_of_cell? _ _ hw104_0; first | rwa [add_block] at this | exact this) GW105.out)) | (show (Addr.add _ _).block ≠ _; rw [add_block]; exact Nat.ne_of_lt (Nat.lt_of_lt_of_le (by have := World.block_lt_of_cell? _ _ hw104_0; first | rwa [add_block] at this | exact this) GW105.out)) | (dsimp only; exact Nat.ne_of_lt (Nat.lt_of_lt_of_le (by have := World.block_lt_of_cell? _ _ hw104_0; first | rwa [add_block] at this | exact this) GW105.out))) _).trans (((cell_far (p := ⟨gb105, _, none⟩) (by first | exact Nat.ne_of_lt (Nat.lt_of_lt_of_le (by have := World.block_lt_of_cell? _ _ hw104_0; first | rwa [add_block] at this | exact this) GW105.out) | (rw [add_block]; exact Nat.ne_of_lt (Nat.lt_of_lt_of_le (by have := World.block_lt_of_cell? _ _ hw104_0; first | rwa [add_block] at this | exact this) GW105.out)) | (show (Addr.add _ _).block ≠ _; rw [add_block]; exact Nat.ne_of_lt (Nat.lt_of_lt_of_le (by have := World.block_lt_of_cell? _ _ hw104_0; first | rwa [add_block] at this | exact this) GW105.out)) | (dsimp only; exact Nat.ne_of_lt (Nat.lt_of_lt_of_le (by have := World.block_lt_of_cell? _ _ hw104_0; first | rwa [add_block] at this | exact this) GW105.out))) _).trans (hHeld.2.2.2.1)))))))))), ((cell_far (p := ⟨gb105, _, none⟩) (by first | exact Nat.ne_of_lt (Nat.lt_of_lt_of_le (by have := World.block_lt_of_cell? _ _ hw104_1; first | rwa [add_block] at this | exact this) GW105.out) | (rw [add_block]; exact Nat.ne_of_lt (Nat.lt_of_lt_of_le (by have := World.block_lt_of_cell? _ _ hw104_1; first | rwa [add_block] at this | exact this) GW105.out)) | (show (Addr.add _ _).block ≠ _; rw [add_block]; exact Nat.ne_of_lt (Nat.lt_of_lt_of_le (by have := World.block_lt_of_cell? _ _ hw104_1; first | rwa [add_block] at this | exact this) GW105.out)) | (dsimp only; exact Nat.ne_of_lt (Nat.lt_of_lt_of_le (by have := World.block_lt_of_cell? _ _ hw104_1; first | rwa [add_block] at this | exact this) GW105.out))) _).trans (((cell_far (p := ⟨gb105, _, none⟩) (by first | exact Nat.ne_of_lt (Nat.lt_of_lt_of_le (by have := World.block_lt_of_cell? _ _ hw104_1; first | rwa [add_block] at this | exact this) GW105.out) | (rw [add_block]; exact Nat.ne_of_lt (Nat.lt_of_lt_of_le (by have := World.block_lt_of_cell? _ _ hw104_1; first | rwa [add_block] at this | exact this) GW105.out)) | (show (Addr.add _ _).block ≠ _; rw [add_block]; exact Nat.ne_of_lt (Nat.lt_of_lt_of_le (by have := World.block_lt_of_cell? _ _ hw104_1; first | rwa [add_block] at this | exact this) GW105.out)) | (dsimp only; exact Nat.ne_of_lt (Nat.lt_of_lt_of_le (by have := World.block_lt_of_cell? _ _ hw104_1; first | rwa [add_block] at this | exact this) GW105.out))) _).trans (((cell_far (p := ⟨gb105, _, none⟩) (by first | exact Nat.ne_of_lt (Nat.lt_of_lt_of_le (by have := World.block_lt_of_cell? _ _ hw104_1; first | rwa [add_block] at this | exact this) GW105.out) | (rw [add_block]; exact Nat.ne_of_lt (Nat.lt_of_lt_of_le (by have := World.block_lt_of_cell? _ _ hw104_1; first | rwa [add_block] at this | exact this) GW105.out)) | (show (Addr.add _ _).block ≠ _; rw [add_block]; exact Nat.ne_of_lt (Nat.lt_of_lt_of_le (by have := World.block_lt_of_cell? _ _ hw104_1; first | rwa [add_block] at this | exact this) GW105.out)) | (dsimp only; exact Nat.ne_of_lt (Nat.lt_of_lt_of_le (by have := World.block_lt_of_cell? _ _ hw104_1; first | rwa [add_block] at this | exact this) GW105.out))) _).trans (((cell_far (p := ⟨gb105, _, none⟩) (by first | exact Nat.ne_of_lt (Nat.lt_of_lt_of_le (by have := World.block_lt_of_cell? _ _ hw104_1; first | rwa [add_block] at this | exact this) GW105.out) | (rw [add_block]; exact Nat.ne_of_lt (Nat.lt_of_lt_of_le (by have := World.block_lt_of_cell? _ _ hw104_1; first | rwa [add_block] at this | exact this) GW105.out)) | (show (Addr.add _ _).block ≠ _; rw [add_block]; exact Nat.ne_of_lt (Nat.lt_of_lt_of_le (by have := World.block_lt_of_cell? _ _ hw104_1; first | rwa [add_block] at this | exact this) GW105.out)) | (dsimp only; exact Nat.ne_of_lt (Nat.lt_of_lt_of_le (by have := World.block_lt_of_cell? _ _ hw104_1; first | rwa [add_block] at this | exact this) GW105.out))) _).trans (((cell_far (p := ⟨gb105, _, none⟩) (by first | exact Nat.ne_of_lt (Nat.lt_of_lt_of_le (by have := World.block_lt_of_cell? _ _ hw104_1; first | rwa [add_block] at this | exact this) GW105.out) | (rw [add_block]; exact Nat.ne_of_lt (Nat.lt_of_lt_of_le (by have := World.block_lt_of_cell? _ _ hw104_1; first | rwa [add_block] at this | exact this) GW105.out)) | (show (Addr.add _ _).block ≠ _; rw [add_block]; exact Nat.ne_of_lt (Nat.lt_of_lt_of_le (by have := World.block_lt_of_cell? _ _ hw104_1; first | rwa [add_block] at this | exact this) GW105.out)) | (dsimp only; exact Nat.ne_of_lt (Nat.lt_of_lt_of_le (by have := World.block_lt_of_cell? _ _ hw104_1; first | rwa [add_block] at this | exact this) GW105.out))) _).trans (hHeld.2.2.2.2.1)))))))))), ((cell_far (p := ⟨gb105, _, none⟩) (by first | exact Nat.ne_of_lt (Nat.lt_of_lt_of_le (by have := World.block_lt_of_cell? _ _ hw104_2; first | rwa [add_block] at this | exact this) GW105.out) | (rw [add_block]; exact Nat.ne_of_lt (Nat.lt_of_lt_of_le (by have := World.block_lt_of_cell? _ _ hw104_2; first | rwa [add_block] at this | exact this) GW105.out)) | (show (Addr.add _ _).block ≠ _; rw [add_block]; exact Nat.ne_of_lt (Nat.lt_of_lt_of_le (by have := World.block_lt_of_cell? _ _ hw104_2; first | rwa [add_block] at this | exact this) GW105.out)) | (dsimp only; exact Nat.ne_of_lt (Nat.lt_of_lt_of_le (by have := World.block_lt_of_cell? _ _ hw104_2; first | rwa [add_block] at this | exact this) GW105.out))) _).trans (((cell_far (p := ⟨gb105, _, none⟩) (by first | exact Nat.ne_of_lt (Nat.lt_of_lt_of_le (by have := World.block_lt_of_cell? _ _ hw104_2; first | rwa [add_block] at this | exact this) GW105.out) | (rw [add_block]; exact Nat.ne_of_lt (Nat.lt_of_lt_of_le (by have := World.block_lt_of_cell? _ _ hw104_2; first | rwa [add_block] at this | exact this) GW105.out)) | (show (Addr.add _ _).block ≠ _; rw [add_block]; exact Nat.ne_of_lt (Nat.lt_of_lt_of_le (by have := World.block_lt_of_cell? _ _ hw104_2; first | rwa [add_block] at this | exact this) GW105.out)) | (dsimp only; exact Nat.ne_of_lt (Nat.lt_of_lt_of_le (by have := World.block_lt_of_cell? _ _ hw104_2; first | rwa [add_block] at this | exact this) GW105.out))) _).trans (((cell_far (p := ⟨gb105, _, none⟩) (by first | exact Nat.ne_of_lt (Nat.lt_of_lt_of_le (by have := World.block_lt_of_cell? _ _ hw104_2; first | rwa [add_block] at this | exact this) GW105.out) | (rw [add_block]; exact Nat.ne_of_lt (Nat.lt_of_lt_of_le (by have := World.block_lt_of_cell? _ _ hw104_2; first | rwa [add_block] at this | exact this) GW105.out)) | (show (Addr.add _ _).block ≠ _; rw [add_block]; exact Nat.ne_of_lt (Nat.lt_of_lt_of_le (by have := World.block_lt_of_cell? _ _ hw104_2; first | rwa [add_block] at this | exact this) GW105.out)) | (dsimp only; exact Nat.ne_of_lt (Nat.lt_of_lt_of_le (by have := World.block_lt_of_cell? _ _ hw104_2; first | rwa [add_block] at this | exact this) GW105.out))) _).trans (((cell_far (p := ⟨gb105, _, none⟩) (by first | exact Nat.ne_of_lt (Nat.lt_of_lt_of_le (by have := World.block_lt_of_cell? _ _ hw104_2; first | rwa [add_block] at this | exact this) GW105.out) | (rw [add_block]; exact Nat.ne_of_lt (Nat.lt_of_lt_of_le (by have := World.block_lt_of_cell? _ _ hw104_2; first | rwa [add_block] at this | exact this) GW105.out)) | (show (Addr.add _ _).block ≠ _; rw [add_block]; exact Nat.ne_of_lt (Nat.lt_of_lt_of_le (by have := World.block_lt_of_cell? _ _ hw104_2; first | rwa [add_block] at this | exact this) GW105.out)) | (dsimp only; exact Nat.ne_of_lt (Nat.lt_of_lt_of_le (by have := World.block_lt_of_cell? _ _ hw104_2; first | rwa [add_block] at this | exact this) GW105.out))) _).trans (((cell_far (p := ⟨gb105, _, none⟩) (by first | exact Nat.ne_of_lt (Nat.lt_of_lt_of_le (by have := World.block_lt_of_cell? _ _ hw104_2; first | rwa [add_block] at this | exact this) GW105.out) | (rw [add_block]; exact Nat.ne_of_lt (Nat.lt_of_lt_of_le (by have := World.block_lt_of_cell? _ _ hw104_2; first | rwa [add_block] at this | exact this) GW105.out)) | (show (Addr.add _ _).block ≠ _; rw [add_block]; exact Nat.ne_of_lt (Nat.lt_of_lt_of_le (by have := World.block_lt_of_cell? _ _ hw104_2; first | rwa [add_block] at this | exact this) GW105.out)) | (dsimp only; exact Nat.ne_of_lt (Nat.lt_of_lt_of_le (by have := World.block_lt_of_cell? _ _ hw104_2; first | rwa [add_block] at this | exact this) GW105.out))) _).trans (hHeld.2.2.2.2.2.1)))))))))), ((cell_far (p := ⟨gb105, _, none⟩) (by first | exact Nat.ne_of_lt (Nat.lt_of_lt_of_le (by have := World.block_lt_of_cell? _ _ hw104_3; first | rwa [add_block] at this | exact this) GW105.out) | (rw [add_block]; exact Nat.ne_of_lt (Nat.lt_of_lt_of_le (by have := World.block_lt_of_cell? _ _ hw104_3; first | rwa [add_block] at this | exact this) GW105.out)) | (show (Addr.add _ _).block ≠ _; rw [add_block]; exact Nat.ne_of_lt (Nat.lt_of_lt_of_le (by have := World.block_lt_of_cell? _ _ hw104_3; first | rwa [add_block] at this | exact this) GW105.out)) | (dsimp only; exact Nat.ne_of_lt (Nat.lt_of_lt_of_le (by have := World.block_lt_of_cell? _ _ hw104_3; first | rwa [add_block] at this | exact this) GW105.out))) _).trans (((cell_far (p := ⟨gb105, _, none⟩) (by first | exact Nat.ne_of_lt (Nat.lt_of_lt_of_le (by have := World.block_lt_of_cell? _ _ hw104_3; first | rwa [add_block] at this | exact this) GW105.out) | (rw [add_block]; exact Nat.ne_of_lt (Nat.lt_of_lt_of_le (by have := World.block_lt_of_cell? _ _ hw104_3; first | rwa [add_block] at this | exact this) GW105.out)) | (show (Addr.add _ _).block ≠ _; rw [add_block]; exact Nat.ne_of_lt (Nat.lt_of_lt_of_le (by have := World.block_lt_of_cell? _ _ hw104_3; first | rwa [add_block] at this | exact this) GW105.out)) | (dsimp only; exact Nat.ne_of_lt (Nat.lt_of_lt_of_le (by have := World.block_lt_of_cell? _ _ hw104_3; first | rwa [add_block] at this | exact this) GW105.out))) _).trans (((cell_far (p := ⟨gb105, _, none⟩) (by first | exact Nat.ne_of_lt (Nat.lt_of_lt_of_le (by have := World.block_lt_of_cell? _ _ hw104_3; first | rwa [add_block] at this | exact this) GW105.out) | (rw [add_block]; exact Nat.ne_of_lt (Nat.lt_of_lt_of_le (by have := World.block_lt_of_cell? _ _ hw104_3; first | rwa [add_block] at this | exact this) GW105.out)) | (show (Addr.add _ _).block ≠ _; rw [add_block]; exact Nat.ne_of_lt (Nat.lt_of_lt_of_le (by have := World.block_lt_of_cell? _ _ hw104_3; first | rwa [add_block] at this | exact this) GW105.out)) | (dsimp only; exact Nat.ne_of_lt (Nat.lt_of_lt_of_le (by have := World.block_lt_of_cell? _ _ hw104_3; first | rwa [add_block] at this | exact this) GW105.out))) _).trans (((cell_far (p := ⟨gb105, _, none⟩) (by first | exact Nat.ne_of_lt (Nat.lt_of_lt_of_le (by have := World.block_lt_of_cell? _ _ hw104_3; first | rwa [add_block] at this | exact this) GW105.out) | (rw [add_block]; exact Nat.ne_of_lt (Nat.lt_of_lt_of_le (by have := World.block_lt_of_cell? _ _ hw104_3; first | rwa [add_block] at this | exact this) GW105.out)) | (show (Addr.add _ _).block ≠ _; rw [add_block]; exact Nat.ne_of_lt (Nat.lt_of_lt_of_le (by have := World.block_lt_of_cell? _ _ hw104_3; first | rwa [add_block] at this | exact this) GW105.out)) | (dsimp only; exact Nat.ne_of_lt (Nat.lt_of_lt_of_le (by have := World.block_lt_of_cell? _ _ hw104_3; first | rwa [add_block] at this | exact this) GW105.out))) _).trans (((cell_far (p := ⟨gb105, _, none⟩) (by first | exact Nat.ne_of_lt (Nat.lt_of_lt_of_le (by have := World.block_lt_of_cell? _ _ hw104_3; first | rwa [add_block] at this | exact this) GW105.out) | (rw [add_block]; exact Nat.ne_of_lt (Nat.lt_of_lt_of_le (by have := World.block_lt_of_cell? _ _ hw104_3; first | rwa [add_block] at this | exact this) GW105.out)) | (show (Addr.add _ _).block ≠ _; rw [add_block]; exact Nat.ne_of_lt (Nat.lt_of_lt_of_le (by have := World.block_lt_of_cell? _ _ hw104_3; first | rwa [add_block] at this | exact this) GW105.out)) | (dsimp only; exact Nat.ne_of_lt (Nat.lt_of_lt_of_le (by have := World.block_lt_of_cell? _ _ hw104_3; first | rwa [add_block] at this | exact this) GW105.out))) _).trans (hHeld.2.2.2.2.2.2.1)))))))))), ((cell_far (p := ⟨gb105, _, none⟩) (by first | exact Nat.ne_of_lt (Nat.lt_of_lt_of_le (by have := World.block_lt_of_cell? _ _ hw104_4; first | rwa [add_block] at this | exact this) GW105.out) | (rw [add_block]; exact Nat.ne_of_lt (Nat.lt_of_lt_of_le (by have := World.block_lt_of_cell? _ _ hw104_4; first | rwa [add_block] at this | exact this) GW105.out)) | (show (Addr.add _ _).block ≠ _; rw [add_block]; exact Nat.ne_of_lt (Nat.lt_of_lt_of_le (by have := World.block_lt_of_cell? _ _ hw104_4; first | rwa [add_block] at this | exact this) GW105.out)) | (dsimp only; exact Nat.ne_of_lt (Nat.lt_of_lt_of_le (by have := World.block_lt_of_cell? _ _ hw104_4; first | rwa [add_block] at this | exact this) GW105.out))) _).trans (((cell_far (p := ⟨gb105, _, none⟩) (by first | exact Nat.ne_of_lt (Nat.lt_of_lt_of_le (by have := World.block_lt_of_cell? _ _ hw104_4; first | rwa [add_block] at this | exact this) GW105.out) | (rw [add_block]; exact Nat.ne_of_lt (Nat.lt_of_lt_of_le (by have := World.block_lt_of_cell? _ _ hw104_4; first | rwa [add_block] at this | exact this) GW105.out)) | (show (Addr.add _ _).block ≠ _; rw [add_block]; exact Nat.ne_of_lt (Nat.lt_of_lt_of_le (by have := World.block_lt_of_cell? _ _ hw104_4; first | rwa [add_block] at this | exact this) GW105.out)) | (dsimp only; exact Nat.ne_of_lt (Nat.lt_of_lt_of_le (by have := World.block_lt_of_cell? _ _ hw104_4; first | rwa [add_block] at this | exact this) GW105.out))) _).trans (((cell_far (p := ⟨gb105, _, none⟩) (by first | exact Nat.ne_of_lt (Nat.lt_of_lt_of_le (by have := World.block_lt_of_cell? _ _ hw104_4; first | rwa [add_block] at this | exact this) GW105.out) | (rw [add_block]; exact Nat.ne_of_lt (Nat.lt_of_lt_of_le (by have := World.block_lt_of_cell? _ _ hw104_4; first | rwa [add_block] at this | exact this) GW105.out)) | (show (Addr.add _ _).block ≠ _; rw [add_block]; exact Nat.ne_of_lt (Nat.lt_of_lt_of_le (by have := World.block_lt_of_cell? _ _ hw104_4; first | rwa [add_block] at this | exact this) GW105.out)) | (dsimp only; exact Nat.ne_of_lt (Nat.lt_of_lt_of_le (by have := World.block_lt_of_cell? _ _ hw104_4; first | rwa [add_block] at this | exact this) GW105.out))) _).trans (((cell_far (p := ⟨gb105, _, none⟩) (by first | exact Nat.ne_of_lt (Nat.lt_of_lt_of_le (by have := World.block_lt_of_cell? _ _ hw104_4; first | rwa [add_block] at this | exact this) GW105.out) | (rw [add_block]; exact Nat.ne_of_lt (Nat.lt_of_lt_of_le (by have := World.block_lt_of_cell? _ _ hw104_4; first | rwa [add_block] at this | exact this) GW105.out)) | (show (Addr.add _ _).block ≠ _; rw [add_block]; exact Nat.ne_of_lt (Nat.lt_of_lt_of_le (by have := World.block_lt_of_cell? _ _ hw104_4; first | rwa [add_block] at this | exact this) GW105.out)) | (dsimp only; exact Nat.ne_of_lt (Nat.lt_of_lt_of_le (by have := World.block_lt_of_cell? _ _ hw104_4; first | rwa [add_block] at this | exact this) GW105.out))) _).trans (((cell_far (p := ⟨gb105, _, none⟩) (by first | exact Nat.ne_of_lt (Nat.lt_of_lt_of_le (by have := World.block_lt_of_cell? _ _ hw104_4; first | rwa [add_block] at this | exact this) GW105.out) | (rw [add_block]; exact Nat.ne_of_lt (Nat.lt_of_lt_of_le (by have := World.block_lt_of_cell? _ _ hw104_4; first | rwa [add_block] at this | exact this) GW105.out)) | (show (Addr.add _ _).block ≠ _; rw [add_block]; exact Nat.ne_of_lt (Nat.lt_of_lt_of_le (by have := World.block_lt_of_cell? _ _ hw104_4; first | rwa [add_block] at this | exact this) GW105.out)) | (dsimp only; exact Nat.ne_of_lt (Nat.lt_of_lt_of_le (by have := World.block_lt_of_cell? _ _ hw104_4; first | rwa [add_block] at this | exact this) GW105.out))) _).trans (hHeld.2.2.2.2.2.2.2))))))))))⟩ (fun hHeld => ?_)
 clear hK K
 refine done_ (done_of HT_.out (by kernel_rfl)) ?_
 try go_wp2
 have n0_ : Aside0 ((((((w21.setCell ⟨gb105, 0, none⟩ (.string ((rd_T72 tabL ((rd_T41 l2_0 a3).f0)).f0))).setCell ⟨gb105, 1, none⟩ (.int .i64 ((rd_T72 tabL ((rd_T41 l2_0 a3).f0)).f1))).setCell ⟨gb105, 2, none⟩ (.int .i64 ((rd_T72 tabL ((rd_T41 l2_0 a3).f0)).f2))).setCell ⟨gb105, 3, none⟩ (.int .i64 ((rd_T72 tabL ((rd_T41 l2_0 a3).f0)).f3))).setCell ⟨gb105, 4, none⟩ (.int .i64 ((rd_T72 tabL ((rd_T41 l2_0 a3).f0)).f4))).heap[gb101]? = some (.cells #[.slice (some ad102) l2_0.length c2_0, .slice A2_1 l2_1.length c2_1, .slice A2_2 l2_2.length c2_2] 26 (0, 0))) := ⟨by refine bu ?_; refine blk_far ?_ NB101_105.out _; refine bu ?_; refine blk_far ?_ NB101_105.out _; refine bu ?_; refine blk_far ?_ NB101_105.out _; refine bu ?_; refine blk_far ?_ NB101_105.out _; refine bu ?_; refine blk_far ?_ NB101_105.out _; refine bu ?_; exact BK101.out⟩
 have n1_ : Aside0 ((((((w21.setCell ⟨gb105, 0, none⟩ (.string ((rd_T72 tabL ((rd_T41 l2_0 a3).f0)).f0))).setCell ⟨gb105, 1, none⟩ (.int .i64 ((rd_T72 tabL ((rd_T41 l2_0 a3).f0)).f1))).setCell ⟨gb105, 2, none⟩ (.int .i64 ((rd_T72 tabL ((rd_T41 l2_0 a3).f0)).f2))).setCell ⟨gb105, 3, none⟩ (.int .i64 ((rd_T72 tabL ((rd_T41 l2_0 a3).f0)).f3))).setCell ⟨gb105, 4, none⟩ (.int .i64 ((rd_T72 tabL ((rd_T41 l2_0 a3).f0)).f4))).heap[gb103]? = some (.cells #[.int .i64 ((rd_T41 l2_0 a3).f0), .int .i64 ((rd_T41 l2_0 a3).f1), .int .i64 ((rd_T41 l2_0 a3).f2)] 41 (0, 0))) := ⟨by refine bu ?_; refine blk_far ?_ NB103_105.out _; refine bu ?_; refine blk_far ?_ NB103_105.out _; refine bu ?_; refine blk_far ?_ NB103_105.out _; refine bu ?_; refine blk_far ?_ NB103_105.out _; refine bu ?_; refine blk_far ?_ NB103_105.out _; refine bu ?_; exact BK103.out⟩
 have n2_ : Aside0 ((((((w21.setCell ⟨gb105, 0, none⟩ (.string ((rd_T72 tabL ((rd_T41 l2_0 a3).f0)).f0))).setCell ⟨gb105, 1, none⟩ (.int .i64 ((rd_T72 tabL ((rd_T41 l2_0 a3).f0)).f1))).setCell ⟨gb105, 2, none⟩ (.int .i64 ((rd_T72 tabL ((rd_T41 l2_0 a3).f0)).f2))).setCell ⟨gb105, 3, none⟩ (.int .i64 ((rd_T72 tabL ((rd_T41 l2_0 a3).f0)).f3))).setCell ⟨gb105, 4, none⟩ (.int .i64 ((rd_T72 tabL ((rd_T41 l2_0 a3).f0)).f4))).heap[gb105]? = some (.cells #[.string ((rd_T72 tabL ((rd_T41 l2_0 a3).f0)).f0), .int .i64 ((rd_T72 tabL ((rd_T41 l2_0 a3).f0)).f1), .int .i64 ((rd_T72 tabL ((rd_T41 l2_0 a3).f0)).f2), .int .i64 ((rd_T72 tabL ((rd_T41 l2_0 a3).f0)).f3), .int .i64 ((rd_T72 tabL ((rd_T41 l2_0 a3).f0)).f4)] 72 (0, 0))) := ⟨by refine bu ?_; refine blk_put (cs := #[.string ((rd_T72 tabL ((rd_T41 l2_0 a3).f0)).f0), .int .i64 ((rd_T72 tabL ((rd_T41 l2_0 a3).f0)).f1), .int .i64 ((rd_T72 tabL ((rd_T41 l2_0 a3).f0)).f2), .int .i64 ((rd_T72 tabL ((rd_T41 l2_0 a3).f0)).f3), .int .i64 0]) ?_ 4 _ rfl; refine bu ?_; refine blk_put (cs := #[.string ((rd_T72 tabL ((rd_T41 l2_0 a3).f0)).f0), .int .i64 ((rd_T72 tabL ((rd_T41 l2_0 a3).f0)).f1), .int .i64 ((rd_T72 tabL ((rd_T41 l2_0 a3).f0)).f2), .int .i64 0, .int .i64 0]) ?_ 3 _ rfl; refine bu ?_; refine blk_put (cs := #[.string ((rd_T72 tabL ((rd_T41 l2_0 a3).f0)).f0), .int .i64 ((rd_T72 tabL ((rd_T41 l2_0 a3).f0)).f1), .int .i64 0, .int .i64 0, .int .i64 0]) ?_ 2 _ rfl; refine bu ?_; refine blk_put (cs := #[.string ((rd_T72 tabL ((rd_T41 l2_0 a3).f0)).f0), .int .i64 0, .int .i64 0, .int .i64 0, .int .i64 0]) ?_ 1 _ rfl; refine bu ?_; refine blk_put (cs := #[.string (⟨#[]⟩ : ByteArray), .int .i64 0, .int .i64 0, .int .i64 0, .int .i64 0]) ?_ 0 _ rfl; refine bu ?_; exact BK105.out⟩
 have n3_ : Aside0 (Below w.heap.size w (((((w21.setCell ⟨gb105, 0, none⟩ (.string ((rd_T72 tabL ((rd_T41 l2_0 a3).f0)).f0))).setCell ⟨gb105, 1, none⟩ (.int .i64 ((rd_T72 tabL ((rd_T41 l2_0 a3).f0)).f1))).setCell ⟨gb105, 2, none⟩ (.int .i64 ((rd_T72 tabL ((rd_T41 l2_0 a3).f0)).f2))).setCell ⟨gb105, 3, none⟩ (.int .i64 ((rd_T72 tabL ((rd_T41 l2_0 a3).f0)).f3))).setCell ⟨gb105, 4, none⟩ (.int .i64 ((rd_T72 tabL ((rd_T41 l2_0 a3).f0)).f4)))) := ⟨bs⟩
 (try clear BK101)
 (try clear BK103)
 (try clear BK105)
 (try clear HB)
 generalize (((((w21.setCell ⟨gb105, 0, none⟩ (.string ((rd_T72 tabL ((rd_T41 l2_0 a3).f0)).f0))).setCell ⟨gb105, 1, none⟩ (.int .i64 ((rd_T72 tabL ((rd_T41 l2_0 a3).f0)).f1))).setCell ⟨gb105, 2, none⟩ (.int .i64 ((rd_T72 tabL ((rd_T41 l2_0 a3).f0)).f2))).setCell ⟨gb105, 3, none⟩ (.int .i64 ((rd_T72 tabL ((rd_T41 l2_0 a3).f0)).f3))).setCell ⟨gb105, 4, none⟩ (.int .i64 ((rd_T72 tabL ((rd_T41 l2_0 a3).f0)).f4))) = w27 at n0_ n1_ n2_ n3_ ⊢
 have BK101 := n0_
 have BK103 := n1_
 have BK105 := n2_
 have HB := n3_
 clear n0_ n1_ n2_ n3_
 have n0_ := am (blk_drew BK101.out)
 have n1_ := am (blk_drew BK103.out)
 have n2_ := am (blk_drew BK105.out)
 have n3_ := am (below_drew1 HB.out)
 clear BK101
 clear BK103
 clear BK105
 clear HB
 have BK101 := n0_
 have BK103 := n1_
 have BK105 := n2_
 have HB := n3_
 clear n0_ n1_ n2_ n3_
 refine start_ (n := 8) (S := fun w' => w'.cell? ⟨gb105, 0, none⟩ = some (.string ((rd_T72 tabL ((rd_T41 l2_0 a3).f0)).f0)) ∧ w'.cell? ⟨gb105, 1, none⟩ = some (.int .i64 ((rd_T72 tabL ((rd_T41 l2_0 a3).f0)).f1)) ∧ w'.cell? ⟨gb105, 2, none⟩ = some (.int .i64 ((rd_T72 tabL ((rd_T41 l2_0 a3).f0)).f2)) ∧ w'.cell? ⟨gb105, 3, none⟩ = some (.int .i64 ((rd_T72 tabL ((rd_T41 l2_0 a3).f0)).f3)) ∧ w'.cell? ⟨gb105, 4, none⟩ = some (.int .i64 ((rd_T72 tabL ((rd_T41 l2_0 a3).f0)).f4))) (ds := []) #[false, false, false, false, false, false, false, false] (by kernel_rfl) rfl rfl ⟨(blk_cell BK105.out 0).trans rfl, (blk_cell BK105.out 1).trans rfl, (blk_cell BK105.out 2).trans rfl, (blk_cell BK105.out 3).trans rfl, (blk_cell BK105.out 4).trans rfl⟩ (fun hHeld => ?_)
 generalize w27.drew = w28 at BK101 BK103 BK105 HB hHeld ⊢
 refine pure_ (i := 0) (N := some 22) (v := ?_) (a' := ?_) #[true, false, false, false, false, false, false, false] rfl rfl (by kernel_rfl) (fun _ _ _ h => h) (Or.inl ⟨by rfl, ?_⟩) ?_ ?_
 rotate_left
 ·intro w'
  go_simp
  with_reducible rfl
 rotate_left
 ·simp only [Act.put, List.setIfInBounds_toArray, List.set_cons_zero, List.set_cons_succ, i64_w, i32_w]
  rfl
 refine pure_ (i := 1) (N := some 23) (v := ?_) (a' := ?_) #[true, true, false, false, false, false, false, false] rfl rfl (by kernel_rfl) (fun _ _ _ h => h) (Or.inl ⟨by rfl, ?_⟩) ?_ ?_
 rotate_left
 ·intro w'
  go_simp
  with_reducible rfl
 rotate_left
 ·simp only [Act.put, List.setIfInBounds_toArray, List.set_cons_zero, List.set_cons_succ, i64_w, i32_w]
  rfl
 refine pure_ (i := 4) (N := some 26) (v := ?_) (a' := ?_) #[true, true, false, false, true, false, false, false] rfl rfl (by kernel_rfl) (fun _ _ _ h => h) (Or.inl ⟨by rfl, ?_⟩) ?_ ?_
 rotate_left
 ·intro w'
  go_simp
  with_reducible rfl
 rotate_left
 ·simp only [Act.put, List.setIfInBounds_toArray, List.set_cons_zero, List.set_cons_succ, i64_w, i32_w]
  rfl
 refine take_ (i := 5) (N := some 27) (v := ?_) (a' := ?_) #[true, true, false, false, true, true, false, false] rfl rfl (by kernel_rfl) (fun _ _ _ h => h) (Or.inl ⟨by rfl, ?_⟩) hHeld ?_ ?_
 rotate_left
 ·rintro w' ⟨s0, s1, s2, s3, s4⟩
  go_simp
  with_reducible rfl
 rotate_left
 ·simp only [Act.put, List.setIfInBounds_toArray, List.set_cons_zero, List.set_cons_succ, i64_w, i32_w]
  rfl
 refine one_ (i := 2) (N := some 24) #[true, true, true, false, true, true, false, false] rfl rfl (by kernel_rfl) (by decide) (fun K hK => ?_)
 refine goes_ Tryd.func44 (by kernel_rfl) rfl #[.int .i64 a3] (by rfl) rfl rfl ls ?_
 with_reducible refine (xItoa.calls a3 t106 _ ?side1 A9.out).mono ?_
 (case side1 => exact GW.below HG.out bs)
 rintro e w29 ⟨rfl, hb⟩
 refine ⟨_, rfl, ?_⟩
 have n0_ := am (blk_below (bu BK101.out) hb)
 have n1_ := am (blk_below (bu BK103.out) hb)
 have n2_ := am (blk_below (bu BK105.out) hb)
 have n3_ := am (below_step bs hb)
 clear BK101
 clear BK103
 clear BK105
 clear HB
 have BK101 := n0_
 have BK103 := n1_
 have BK105 := n2_
 have HB := n3_
 clear n0_ n1_ n2_ n3_
 (try clear hb)
 (try clear hb2)
 (try clear hk)
 (try clear hi)
 refine hK.out _ _ ⟨(blk_cell BK105.out 0).trans rfl, (blk_cell BK105.out 1).trans rfl, (blk_cell BK105.out 2).trans rfl, (blk_cell BK105.out 3).trans rfl, (blk_cell BK105.out 4).trans rfl⟩ (fun hHeld => ?_)
 clear hK K
 refine norm_ (a' := ?_) ?_ ?_
 rotate_left
 ·show Act.put _ (some 24) _ = _
  simp only [Act.put, List.setIfInBounds_toArray, List.set_cons_zero, List.set_cons_succ, i64_w, i32_w]
  rfl
 refine pure_ (i := 3) (N := some 25) (v := ?_) (a' := ?_) #[true, true, true, true, true, true, false, false] rfl rfl (by kernel_rfl) (fun _ _ _ h => h) (Or.inl ⟨by rfl, ?_⟩) ?_ ?_
 rotate_left
 ·intro w'
  go_simp
  with_reducible rfl
 rotate_left
 ·simp only [Act.put, List.setIfInBounds_toArray, List.set_cons_zero, List.set_cons_succ, i64_w, i32_w]
  rfl
 refine pure_ (i := 6) (N := some 28) (v := ?_) (a' := ?_) #[true, true, true, true, true, true, true, false] rfl rfl (by kernel_rfl) (fun _ _ _ h => h) (Or.inl ⟨by rfl, ?_⟩) ?_ ?_
 rotate_left
 ·intro w'
  go_simp
  with_reducible rfl
 rotate_left
 ·simp only [Act.put, List.setIfInBounds_toArray, List.set_cons_zero, List.set_cons_succ, i64_w, i32_w]
  rfl
 refine one_ (i := 7) (N := some 29) #[true, true, true, true, true, true, true, true] rfl rfl (by kernel_rfl) (by decide) (fun K hK => ?_)
 refine goes_ Tryd.func43 (by kernel_rfl) rfl #[.pointer (some ⟨gbb, 0, none⟩), .string ((t106 ++ (⟨#[58, 32]⟩ : ByteArray)) ++ ((rd_T72 tabL ((rd_T41 l2_0 a3).f0)).f0))] (by rfl) rfl rfl ls ?_
 refine (BR.write (BR.below hF0 bs) ((t106 ++ (⟨#[58, 32]⟩ : ByteArray)) ++ ((rd_T72 tabL ((rd_T41 l2_0 a3).f0)).f0)) (by have := LMc12.out; first | omega | (simp only [ByteArray.size, Array.size, List.length]; omega)) (lb_size0 (lb_start gbb hB0 bs))).mono ?_
 rintro e w30 ⟨rfl, ho, hb, hg⟩
 refine ⟨_, rfl, ?_⟩
 replace hb := lb_bld (lb_start gbb hB0 bs) hb hg
 rw [← Ny107.out] at ho
 have n0_ := am (blk_kept (g := gb101) (o := .cells #[.slice (some ad102) l2_0.length c2_0, .slice A2_1 l2_1.length c2_1, .slice A2_2 l2_2.length c2_2] 26 (0, 0)) (bu BK101.out) hg (BR.ne (BR.below hF0 bs) BK101.out (by decide)))
 have n1_ := am (blk_kept (g := gb103) (o := .cells #[.int .i64 ((rd_T41 l2_0 a3).f0), .int .i64 ((rd_T41 l2_0 a3).f1), .int .i64 ((rd_T41 l2_0 a3).f2)] 41 (0, 0)) (bu BK103.out) hg (BR.ne (BR.below hF0 bs) BK103.out (by decide)))
 have n2_ := am (blk_kept (g := gb105) (o := .cells #[.string ((rd_T72 tabL ((rd_T41 l2_0 a3).f0)).f0), .int .i64 ((rd_T72 tabL ((rd_T41 l2_0 a3).f0)).f1), .int .i64 ((rd_T72 tabL ((rd_T41 l2_0 a3).f0)).f2), .int .i64 ((rd_T72 tabL ((rd_T41 l2_0 a3).f0)).f3), .int .i64 ((rd_T72 tabL ((rd_T41 l2_0 a3).f0)).f4)] 72 (0, 0)) (bu BK105.out) hg (BR.ne (BR.below hF0 bs) BK105.out (by decide)))
 have n3_ := am (hb)
 have n4_ := am (ho)
 clear BK101
 clear BK103
 clear BK105
 clear HB
 (try clear HF_)
 have BK101 := n0_
 have BK103 := n1_
 have BK105 := n2_
 have HB := n3_
 have HO109 := n4_
 clear n0_ n1_ n2_ n3_ n4_
 clear ho hb hg
 have hnb31 := NB105_101.out
 have hnc31 := NB101_105.out
 have hnb32 := NB105_103.out
 have hnc32 := NB103_105.out
 obtain ⟨⟨hcz33_0, hcz33_1, hcz33_2, hcz33_3, hcz33_4⟩, hfz33_0, hfz33_1, hfz33_2, hfz33_3, hfz33_4⟩ := blkAll5 BK105
 refine hK.out _ _ ⟨(blk_cell BK105.out 0).trans rfl, (blk_cell BK105.out 1).trans rfl, (blk_cell BK105.out 2).trans rfl, (blk_cell BK105.out 3).trans rfl, (blk_cell BK105.out 4).trans rfl⟩ (fun hHeld => ?_)
 clear hK K
 refine norm_ (a' := ?_) ?_ ?_
 rotate_left
 ·show Act.put _ (some 29) _ = _
  simp only [Act.put, List.setIfInBounds_toArray, List.set_cons_zero, List.set_cons_succ, i64_w, i32_w]
  rfl
 refine done_ (by kernel_rfl) ?_
 clear HR2_0 HR2_1 HR2_2 HG
 have HR2_0 := am hr2_0
 have HR2_1 := am hr2_1
 have HR2_2 := am hr2_2
 have HG := am hG
 go_upto_if 32 with fail
 (try simp only [Act.put, List.setIfInBounds_toArray, List.set_cons_zero, List.set_cons_succ])
 go_cut [] (fun wc => ∃ (kq : Nat) (x84_12 : List Int), Aside0 (c_line.j0 kq x84_12 l2_0 l2_1 l2_2 ((rd_T41 l2_0 a3).f0) ((rd_T41 l2_0 a3).f1) ((rd_T41 l2_0 a3).f2) ((rd_T72 tabL ((rd_T41 l2_0 a3).f0)).f0) ((rd_T72 tabL ((rd_T41 l2_0 a3).f0)).f1) ((rd_T72 tabL ((rd_T41 l2_0 a3).f0)).f2) ((rd_T72 tabL ((rd_T41 l2_0 a3).f0)).f3) ((rd_T72 tabL ((rd_T41 l2_0 a3).f0)).f4) = some r) ∧ Aside0 (kq ≤ k) ∧ Aside0 (BR wc w0.heap.size gbb x84_12) ∧ Aside0 (wc.heap[gb101]? = some (.cells #[(.slice (some ad102) l2_0.length c2_0), (.slice A2_1 l2_1.length c2_1), (.slice A2_2 l2_2.length c2_2)] 26 (0, 0))) ∧ Aside0 (wc.heap[gb103]? = some (.cells #[.int .i64 ((rd_T41 l2_0 a3).f0), .int .i64 ((rd_T41 l2_0 a3).f1), .int .i64 ((rd_T41 l2_0 a3).f2)] 41 (0, 0))) ∧ Aside0 (wc.heap[gb105]? = some (.cells #[.string ((rd_T72 tabL ((rd_T41 l2_0 a3).f0)).f0), .int .i64 ((rd_T72 tabL ((rd_T41 l2_0 a3).f0)).f1), .int .i64 ((rd_T72 tabL ((rd_T41 l2_0 a3).f0)).f2), .int .i64 ((rd_T72 tabL ((rd_T41 l2_0 a3).f0)).f3), .int .i64 ((rd_T72 tabL ((rd_T41 l2_0 a3).f0)).f4)] 72 (0, 0))) ∧ Aside0 (LB w0 w gbb wc))
 case first =>
  have H := HC13.out
  clear HC13
  by_cases c34 : ((rd_T72 tabL ((rd_T41 l2_0 a3).f0)).f1) = 0
  ·rw [if_pos c34] at H
   have c34b0 : (((rd_T72 tabL ((rd_T41 l2_0 a3).f0)).f1) == 0) = true := beq_iff_eq.mpr c34
   have c34b1 : (((rd_T72 tabL ((rd_T41 l2_0 a3).f0)).f1) != 0) = false := bne_eq_false_iff_eq.mpr c34
   clear c34
   (first | rw [c34b0] | (simp only [i64_w, i32_w]; rw [c34b0]) | skip)
   have H' := am H
   clear H
   go_wp2
   go_meet
   case rel => exact ⟨_, (y107), H', ⟨by first | omega | exact Nat.le_refl _⟩, ⟨by (with_reducible repeat (first | apply BR.alloc | apply BR.drewN | apply BR.drew)); exact HO109.out⟩, ⟨by refine bu ?_; exact BK101.out⟩, ⟨by refine bu ?_; exact BK103.out⟩, ⟨by refine bu ?_; exact BK105.out⟩, ⟨by repeat (first | (with_reducible first | exact HB.out | apply lb_alloc | apply lb_drewN | apply lb_drew1 | refine lb_set ?_ GE101.out | refine lb_set ?_ GE103.out | refine lb_set ?_ GE105.out) | exact HB.out)⟩⟩
  rw [if_neg c34] at H
  have c34b0 : (((rd_T72 tabL ((rd_T41 l2_0 a3).f0)).f1) == 0) = false := beq_eq_false_iff_ne.mpr c34
  have c34b1 : (((rd_T72 tabL ((rd_T41 l2_0 a3).f0)).f1) != 0) = true := bne_iff_ne.mpr c34
  (first | rw [c34b0] | (simp only [i64_w, i32_w]; rw [c34b0]) | skip)
  replace H := Option.bind_eq_some_iff.mp H
  obtain ⟨t110, A350, H⟩ := H
  replace H : (if 1 + t110.size ≤ 9223372036854775807 then (if y107.length + ((⟨#[32]⟩ : ByteArray) ++ t110).size < 140737488355328 then (c_line.j0 k (y107 ++ bytesOf ((⟨#[32]⟩ : ByteArray) ++ t110)) l2_0 l2_1 l2_2 ((rd_T41 l2_0 a3).f0) ((rd_T41 l2_0 a3).f1) ((rd_T41 l2_0 a3).f2) ((rd_T72 tabL ((rd_T41 l2_0 a3).f0)).f0) ((rd_T72 tabL ((rd_T41 l2_0 a3).f0)).f1) ((rd_T72 tabL ((rd_T41 l2_0 a3).f0)).f2) ((rd_T72 tabL ((rd_T41 l2_0 a3).f0)).f3) ((rd_T72 tabL ((rd_T41 l2_0 a3).f0)).f4)) else (none)) else (none)) = some r := H
  have A35 := am A350
  clear A350
  by_cases c36 : 1 + t110.size ≤ 9223372036854775807
  rotate_left
  ·rw [if_neg c36] at H
   exact absurd H (by simp)
  rw [if_pos c36] at H
  have c36b0 := eq_true c36
  have c36b1 := decide_eq_true c36
  try have c36b2 : (9223372036854775807 < 1 + t110.size) = False := eq_false (Nat.not_lt.2 c36)
  by_cases c37 : y107.length + ((⟨#[32]⟩ : ByteArray) ++ t110).size < 140737488355328
  rotate_left
  ·rw [if_neg c37] at H
   exact absurd H (by simp)
  rw [if_pos c37] at H
  have LMc37 := am c37
  clear c37
  obtain ⟨y111, hy111⟩ : ∃ y_ : List Int, y_ = (y107 ++ bytesOf ((⟨#[32]⟩ : ByteArray) ++ t110)) := ⟨_, rfl⟩
  replace H : (c_line.j0 k y111 l2_0 l2_1 l2_2 ((rd_T41 l2_0 a3).f0) ((rd_T41 l2_0 a3).f1) ((rd_T41 l2_0 a3).f2) ((rd_T72 tabL ((rd_T41 l2_0 a3).f0)).f0) ((rd_T72 tabL ((rd_T41 l2_0 a3).f0)).f1) ((rd_T72 tabL ((rd_T41 l2_0 a3).f0)).f2) ((rd_T72 tabL ((rd_T41 l2_0 a3).f0)).f3) ((rd_T72 tabL ((rd_T41 l2_0 a3).f0)).f4)) = some r := by first | (rw [hy111]; with_reducible exact H) | (have H2_ := (Option.bind_some _ _).symm.trans H; rw [hy111]; with_reducible exact H2_) | (have H2_ := (Option.bind_some _ _).symm.trans H; with_reducible exact H2_) | with_reducible exact H | (rw [hy111]; exact H) | exact H
  have Ny111 := am hy111
  clear hy111
  have H' := am H
  clear H
  have hnb38 := NB103_101.out
  have hnc38 := NB101_103.out
  have hnb39 := NB103_105.out
  have hnc39 := NB105_103.out
  obtain ⟨⟨hcz40_0, hcz40_1, hcz40_2⟩, hfz40_0, hfz40_1, hfz40_2⟩ := blkAll3 BK103
  go_wp2_with (first | ((with_reducible refine gate_callee (f := 44) rfl ?_); refine goesL_ (some 36) rfl rfl Tryd.func44 (by kernel_rfl) rfl #[.int .i64 ((rd_T41 l2_0 a3).f1)] rfl ls ?_; (with_reducible refine (xItoa.calls ((rd_T41 l2_0 a3).f1) t110 _ ?side1 A35.out).mono ?_); (case side1 => exact GWL HG.out (by repeat (first | (with_reducible first | exact HB.out | apply lb_alloc | apply lb_drewN | apply lb_drew1 | refine lb_set ?_ GE101.out | refine lb_set ?_ GE103.out | refine lb_set ?_ GE105.out) | exact HB.out))); rintro e w41 ⟨rfl, hb⟩; refine ⟨_, rfl, ?_⟩; have n0_ := am (BR.below (by (with_reducible repeat (first | apply BR.alloc | apply BR.drewN | apply BR.drew)); exact HO109.out) hb); have n1_ := am (blk_below (bu BK101.out) hb); have n2_ := am (blk_below (bu BK103.out) hb); have n3_ := am (blk_below (bu BK105.out) hb); have n4_ := am (lb_step (by repeat (first | (with_reducible first | exact HB.out | apply lb_alloc | apply lb_drewN | apply lb_drew1 | refine lb_set ?_ GE101.out | refine lb_set ?_ GE103.out | refine lb_set ?_ GE105.out) | exact HB.out)) hb); clear HO109; clear BK101; clear BK103; clear BK105; clear HB; have HO109 := n0_; have BK101 := n1_; have BK103 := n2_; have BK105 := n3_; have HB := n4_; clear n0_ n1_ n2_ n3_ n4_; (try clear hb); (try clear hb2); (try clear hk); (try clear hi)) | ((with_reducible refine gate_callee (f := 43) rfl ?_); refine goesL_ (some 38) rfl rfl Tryd.func43 (by kernel_rfl) rfl #[.pointer (some ⟨gbb, 0, none⟩), .string ((⟨#[32]⟩ : ByteArray) ++ t110)] rfl ls ?_; refine (BR.write (by (with_reducible repeat (first | apply BR.alloc | apply BR.drewN | apply BR.drew)); exact HO109.out) ((⟨#[32]⟩ : ByteArray) ++ t110) (by have := LMc37.out; first | omega | (simp only [ByteArray.size, Array.size, List.length]; omega)) (lb_size0 (by repeat (first | (with_reducible first | exact HB.out | apply lb_alloc | apply lb_drewN | apply lb_drew1 | refine lb_set ?_ GE101.out | refine lb_set ?_ GE103.out | refine lb_set ?_ GE105.out) | exact HB.out)))).mono ?_; rintro e w42 ⟨rfl, ho, hb, hg⟩; refine ⟨_, rfl, ?_⟩; replace hb := lb_bld (by repeat (first | (with_reducible first | exact HB.out | apply lb_alloc | apply lb_drewN | apply lb_drew1 | refine lb_set ?_ GE101.out | refine lb_set ?_ GE103.out | refine lb_set ?_ GE105.out) | exact HB.out)) hb hg; rw [← Ny111.out] at ho; have n0_ := am (blk_kept (g := gb101) (o := .cells #[.slice (some ad102) l2_0.length c2_0, .slice A2_1 l2_1.length c2_1, .slice A2_2 l2_2.length c2_2] 26 (0, 0)) (bu BK101.out) hg (BR.ne HO109.out BK101.out (by decide))); have n1_ := am (blk_kept (g := gb103) (o := .cells #[.int .i64 ((rd_T41 l2_0 a3).f0), .int .i64 ((rd_T41 l2_0 a3).f1), .int .i64 ((rd_T41 l2_0 a3).f2)] 41 (0, 0)) (bu BK103.out) hg (BR.ne HO109.out BK103.out (by decide))); have n2_ := am (blk_kept (g := gb105) (o := .cells #[.string ((rd_T72 tabL ((rd_T41 l2_0 a3).f0)).f0), .int .i64 ((rd_T72 tabL ((rd_T41 l2_0 a3).f0)).f1), .int .i64 ((rd_T72 tabL ((rd_T41 l2_0 a3).f0)).f2), .int .i64 ((rd_T72 tabL ((rd_T41 l2_0 a3).f0)).f3), .int .i64 ((rd_T72 tabL ((rd_T41 l2_0 a3).f0)).f4)] 72 (0, 0)) (bu BK105.out) hg (BR.ne HO109.out BK105.out (by decide))); have n3_ := am (hb); have n4_ := am (ho); clear BK101; clear BK103; clear BK105; clear HB; clear HO109; have BK101 := n0_; have BK103 := n1_; have BK105 := n2_; have HB := n3_; have HO113 := n4_; clear n0_ n1_ n2_ n3_ n4_; clear ho hb hg))
  go_meet
  case rel => exact ⟨_, (y111), H', ⟨by first | omega | exact Nat.le_refl _⟩, ⟨by (with_reducible repeat (first | apply BR.alloc | apply BR.drewN | apply BR.drew)); exact HO113.out⟩, ⟨by refine bu ?_; exact BK101.out⟩, ⟨by refine bu ?_; exact BK103.out⟩, ⟨by refine bu ?_; exact BK105.out⟩, ⟨by repeat (first | (with_reducible first | exact HB.out | apply lb_alloc | apply lb_drewN | apply lb_drew1 | refine lb_set ?_ GE101.out | refine lb_set ?_ GE103.out | refine lb_set ?_ GE105.out) | exact HB.out)⟩⟩
 case rest =>
  clear HC13
  try clear c1
  try clear p1
  try clear q1
  try clear hx1
  try clear c2
  try clear p2
  try clear c3
  try clear c4
  try clear c5
  try clear c5b0
  try clear c6
  try clear c6b0
  try clear c7
  try clear c7b0
  try clear c8
  try clear c8b0
  try clear c10
  try clear c10b0
  try clear c10b1
  try clear c10b2
  try clear p10
  try clear q10
  try clear hx10
  try clear c11
  try clear c11b0
  try clear c11b1
  try clear c11b2
  try clear c12
  try clear c17
  try clear c30
  try clear c31
  try clear c32
  try clear c34
  try clear c34b0
  try clear c34b1
  try clear c36
  try clear c36b0
  try clear c36b1
  try clear c36b2
  try clear c37
  try clear c38
  try clear c39
  try clear hcz15_0 hcz15_1 hcz15_2
  try clear hcz18_0 hcz18_1 hcz18_2
  try clear hcz33_0 hcz33_1 hcz33_2 hcz33_3 hcz33_4
  try clear hcz40_0 hcz40_1 hcz40_2
  try clear hfz15_0 hfz15_1 hfz15_2
  try clear hfz18_0 hfz18_1 hfz18_2
  try clear hfz33_0 hfz33_1 hfz33_2 hfz33_3 hfz33_4
  try clear hfz40_0 hfz40_1 hfz40_2
  try clear hx102_0
  try clear hx102_1
  try clear hx102_2
  try clear hx104_0
  try clear hx104_1
  try clear hx104_2
  try clear hx104_3
  try clear hx104_4
  try clear p102
  try clear p104
  try clear q102
  try clear q104
  obtain ⟨kq, x84_12, HA, HJ12, HO_84, BK101, BK103, BK105, HB⟩ := hcut
  cases kq with
  | zero => exact absurd HA.out (by simp [c_line.j0])
  | succ kj12 =>
   have H := HA.out
   clear HA
   simp only [c_line.j0] at H
   have HC43 := am H
   clear H
   have hnb44 := NB105_101.out
   have hnc44 := NB101_105.out
   have hnb45 := NB105_103.out
   have hnc45 := NB103_105.out
   obtain ⟨⟨hcz46_0, hcz46_1, hcz46_2, hcz46_3, hcz46_4⟩, hfz46_0, hfz46_1, hfz46_2, hfz46_3, hfz46_4⟩ := blkAll5 BK105
   go_upto_if 41 with (fail)
   go_cut [] (fun wc => ∃ (kq : Nat) (x84_42 : List Int), Aside0 (c_line.j1 kq x84_42 l2_0 l2_1 l2_2 ((rd_T41 l2_0 a3).f0) ((rd_T41 l2_0 a3).f1) ((rd_T41 l2_0 a3).f2) ((rd_T72 tabL ((rd_T41 l2_0 a3).f0)).f0) ((rd_T72 tabL ((rd_T41 l2_0 a3).f0)).f1) ((rd_T72 tabL ((rd_T41 l2_0 a3).f0)).f2) ((rd_T72 tabL ((rd_T41 l2_0 a3).f0)).f3) ((rd_T72 tabL ((rd_T41 l2_0 a3).f0)).f4) = some r) ∧ Aside0 (kq ≤ kj12) ∧ Aside0 (BR wc w0.heap.size gbb x84_42) ∧ Aside0 (wc.heap[gb101]? = some (.cells #[(.slice (some ad102) l2_0.length c2_0), (.slice A2_1 l2_1.length c2_1), (.slice A2_2 l2_2.length c2_2)] 26 (0, 0))) ∧ Aside0 (wc.heap[gb103]? = some (.cells #[.int .i64 ((rd_T41 l2_0 a3).f0), .int .i64 ((rd_T41 l2_0 a3).f1), .int .i64 ((rd_T41 l2_0 a3).f2)] 41 (0, 0))) ∧ Aside0 (wc.heap[gb105]? = some (.cells #[.string ((rd_T72 tabL ((rd_T41 l2_0 a3).f0)).f0), .int .i64 ((rd_T72 tabL ((rd_T41 l2_0 a3).f0)).f1), .int .i64 ((rd_T72 tabL ((rd_T41 l2_0 a3).f0)).f2), .int .i64 ((rd_T72 tabL ((rd_T41 l2_0 a3).f0)).f3), .int .i64 ((rd_T72 tabL ((rd_T41 l2_0 a3).f0)).f4)] 72 (0, 0))) ∧ Aside0 (LB w0 w gbb wc))
   case first =>
    have H := HC43.out
    clear HC43
    by_cases c47 : ((rd_T72 tabL ((rd_T41 l2_0 a3).f0)).f2) = 0
    ·rw [if_pos c47] at H
     have c47b0 : (((rd_T72 tabL ((rd_T41 l2_0 a3).f0)).f2) == 0) = true := beq_iff_eq.mpr c47
     have c47b1 : (((rd_T72 tabL ((rd_T41 l2_0 a3).f0)).f2) != 0) = false := bne_eq_false_iff_eq.mpr c47
     clear c47
     (first | rw [c47b0] | (simp only [i64_w, i32_w]; rw [c47b0]) | skip)
     have H' := am H
     clear H
     go_wp2
     go_meet
     case rel => exact ⟨_, (x84_12), H', ⟨by have := HJ12.out; first | omega | exact Nat.le_refl _⟩, ⟨by (with_reducible repeat (first | apply BR.alloc | apply BR.drewN | apply BR.drew)); exact HO_84.out⟩, ⟨by refine bu ?_; exact BK101.out⟩, ⟨by refine bu ?_; exact BK103.out⟩, ⟨by refine bu ?_; exact BK105.out⟩, ⟨by repeat (first | (with_reducible first | exact HB.out | apply lb_alloc | apply lb_drewN | apply lb_drew1 | refine lb_set ?_ GE101.out | refine lb_set ?_ GE103.out | refine lb_set ?_ GE105.out) | exact HB.out)⟩⟩
    rw [if_neg c47] at H
    have c47b0 : (((rd_T72 tabL ((rd_T41 l2_0 a3).f0)).f2) == 0) = false := beq_eq_false_iff_ne.mpr c47
    have c47b1 : (((rd_T72 tabL ((rd_T41 l2_0 a3).f0)).f2) != 0) = true := bne_iff_ne.mpr c47
    (first | rw [c47b0] | (simp only [i64_w, i32_w]; rw [c47b0]) | skip)
    replace H := Option.bind_eq_some_iff.mp H
    obtain ⟨t114, A480, H⟩ := H
    replace H : (if 1 + t114.size ≤ 9223372036854775807 then (if x84_12.length + ((⟨#[32]⟩ : ByteArray) ++ t114).size < 140737488355328 then (c_line.j1 kj12 (x84_12 ++ bytesOf ((⟨#[32]⟩ : ByteArray) ++ t114)) l2_0 l2_1 l2_2 ((rd_T41 l2_0 a3).f0) ((rd_T41 l2_0 a3).f1) ((rd_T41 l2_0 a3).f2) ((rd_T72 tabL ((rd_T41 l2_0 a3).f0)).f0) ((rd_T72 tabL ((rd_T41 l2_0 a3).f0)).f1) ((rd_T72 tabL ((rd_T41 l2_0 a3).f0)).f2) ((rd_T72 tabL ((rd_T41 l2_0 a3).f0)).f3) ((rd_T72 tabL ((rd_T41 l2_0 a3).f0)).f4)) else (none)) else (none)) = some r := H
    have A48 := am A480
    clear A480
    by_cases c49 : 1 + t114.size ≤ 9223372036854775807
    rotate_left
    ·rw [if_neg c49] at H
     exact absurd H (by simp)
    rw [if_pos c49] at H
    have c49b0 := eq_true c49
    have c49b1 := decide_eq_true c49
    try have c49b2 : (9223372036854775807 < 1 + t114.size) = False := eq_false (Nat.not_lt.2 c49)
    by_cases c50 : x84_12.length + ((⟨#[32]⟩ : ByteArray) ++ t114).size < 140737488355328
    rotate_left
    ·rw [if_neg c50] at H
     exact absurd H (by simp)
    rw [if_pos c50] at H
    have LMc50 := am c50
    clear c50
    obtain ⟨y115, hy115⟩ : ∃ y_ : List Int, y_ = (x84_12 ++ bytesOf ((⟨#[32]⟩ : ByteArray) ++ t114)) := ⟨_, rfl⟩
    replace H : (c_line.j1 kj12 y115 l2_0 l2_1 l2_2 ((rd_T41 l2_0 a3).f0) ((rd_T41 l2_0 a3).f1) ((rd_T41 l2_0 a3).f2) ((rd_T72 tabL ((rd_T41 l2_0 a3).f0)).f0) ((rd_T72 tabL ((rd_T41 l2_0 a3).f0)).f1) ((rd_T72 tabL ((rd_T41 l2_0 a3).f0)).f2) ((rd_T72 tabL ((rd_T41 l2_0 a3).f0)).f3) ((rd_T72 tabL ((rd_T41 l2_0 a3).f0)).f4)) = some r := by first | (rw [hy115]; with_reducible exact H) | (have H2_ := (Option.bind_some _ _).symm.trans H; rw [hy115]; with_reducible exact H2_) | (have H2_ := (Option.bind_some _ _).symm.trans H; with_reducible exact H2_) | with_reducible exact H | (rw [hy115]; exact H) | exact H
    have Ny115 := am hy115
    clear hy115
    have H' := am H
    clear H
    have hnb51 := NB103_101.out
    have hnc51 := NB101_103.out
    have hnb52 := NB103_105.out
    have hnc52 := NB105_103.out
    obtain ⟨⟨hcz53_0, hcz53_1, hcz53_2⟩, hfz53_0, hfz53_1, hfz53_2⟩ := blkAll3 BK103
    go_wp2_with (first | ((with_reducible refine gate_callee (f := 44) rfl ?_); refine goesL_ (some 45) rfl rfl Tryd.func44 (by kernel_rfl) rfl #[.int .i64 ((rd_T41 l2_0 a3).f2)] rfl ls ?_; (with_reducible refine (xItoa.calls ((rd_T41 l2_0 a3).f2) t114 _ ?side1 A48.out).mono ?_); (case side1 => exact GWL HG.out (by repeat (first | (with_reducible first | exact HB.out | apply lb_alloc | apply lb_drewN | apply lb_drew1 | refine lb_set ?_ GE101.out | refine lb_set ?_ GE103.out | refine lb_set ?_ GE105.out) | exact HB.out))); rintro e w54 ⟨rfl, hb⟩; refine ⟨_, rfl, ?_⟩; have n0_ := am (BR.below (by (with_reducible repeat (first | apply BR.alloc | apply BR.drewN | apply BR.drew)); exact HO_84.out) hb); have n1_ := am (blk_below (bu BK101.out) hb); have n2_ := am (blk_below (bu BK103.out) hb); have n3_ := am (blk_below (bu BK105.out) hb); have n4_ := am (lb_step (by repeat (first | (with_reducible first | exact HB.out | apply lb_alloc | apply lb_drewN | apply lb_drew1 | refine lb_set ?_ GE101.out | refine lb_set ?_ GE103.out | refine lb_set ?_ GE105.out) | exact HB.out)) hb); clear HO_84; clear BK101; clear BK103; clear BK105; clear HB; have HO_84 := n0_; have BK101 := n1_; have BK103 := n2_; have BK105 := n3_; have HB := n4_; clear n0_ n1_ n2_ n3_ n4_; (try clear hb); (try clear hb2); (try clear hk); (try clear hi)) | ((with_reducible refine gate_callee (f := 43) rfl ?_); refine goesL_ (some 47) rfl rfl Tryd.func43 (by kernel_rfl) rfl #[.pointer (some ⟨gbb, 0, none⟩), .string ((⟨#[32]⟩ : ByteArray) ++ t114)] rfl ls ?_; refine (BR.write (by (with_reducible repeat (first | apply BR.alloc | apply BR.drewN | apply BR.drew)); exact HO_84.out) ((⟨#[32]⟩ : ByteArray) ++ t114) (by have := LMc50.out; first | omega | (simp only [ByteArray.size, Array.size, List.length]; omega)) (lb_size0 (by repeat (first | (with_reducible first | exact HB.out | apply lb_alloc | apply lb_drewN | apply lb_drew1 | refine lb_set ?_ GE101.out | refine lb_set ?_ GE103.out | refine lb_set ?_ GE105.out) | exact HB.out)))).mono ?_; rintro e w55 ⟨rfl, ho, hb, hg⟩; refine ⟨_, rfl, ?_⟩; replace hb := lb_bld (by repeat (first | (with_reducible first | exact HB.out | apply lb_alloc | apply lb_drewN | apply lb_drew1 | refine lb_set ?_ GE101.out | refine lb_set ?_ GE103.out | refine lb_set ?_ GE105.out) | exact HB.out)) hb hg; rw [← Ny115.out] at ho; have n0_ := am (blk_kept (g := gb101) (o := .cells #[.slice (some ad102) l2_0.length c2_0, .slice A2_1 l2_1.length c2_1, .slice A2_2 l2_2.length c2_2] 26 (0, 0)) (bu BK101.out) hg (BR.ne HO_84.out BK101.out (by decide))); have n1_ := am (blk_kept (g := gb103) (o := .cells #[.int .i64 ((rd_T41 l2_0 a3).f0), .int .i64 ((rd_T41 l2_0 a3).f1), .int .i64 ((rd_T41 l2_0 a3).f2)] 41 (0, 0)) (bu BK103.out) hg (BR.ne HO_84.out BK103.out (by decide))); have n2_ := am (blk_kept (g := gb105) (o := .cells #[.string ((rd_T72 tabL ((rd_T41 l2_0 a3).f0)).f0), .int .i64 ((rd_T72 tabL ((rd_T41 l2_0 a3).f0)).f1), .int .i64 ((rd_T72 tabL ((rd_T41 l2_0 a3).f0)).f2), .int .i64 ((rd_T72 tabL ((rd_T41 l2_0 a3).f0)).f3), .int .i64 ((rd_T72 tabL ((rd_T41 l2_0 a3).f0)).f4)] 72 (0, 0)) (bu BK105.out) hg (BR.ne HO_84.out BK105.out (by decide))); have n3_ := am (hb); have n4_ := am (ho); clear BK101; clear BK103; clear BK105; clear HB; clear HO_84; have BK101 := n0_; have BK103 := n1_; have BK105 := n2_; have HB := n3_; have HO117 := n4_; clear n0_ n1_ n2_ n3_ n4_; clear ho hb hg))
    go_meet
    case rel => exact ⟨_, (y115), H', ⟨by have := HJ12.out; first | omega | exact Nat.le_refl _⟩, ⟨by (with_reducible repeat (first | apply BR.alloc | apply BR.drewN | apply BR.drew)); exact HO117.out⟩, ⟨by refine bu ?_; exact BK101.out⟩, ⟨by refine bu ?_; exact BK103.out⟩, ⟨by refine bu ?_; exact BK105.out⟩, ⟨by repeat (first | (with_reducible first | exact HB.out | apply lb_alloc | apply lb_drewN | apply lb_drew1 | refine lb_set ?_ GE101.out | refine lb_set ?_ GE103.out | refine lb_set ?_ GE105.out) | exact HB.out)⟩⟩
   case rest =>
    clear HC43
    try clear c1
    try clear p1
    try clear q1
    try clear hx1
    try clear c2
    try clear p2
    try clear c3
    try clear c4
    try clear c5
    try clear c5b0
    try clear c6
    try clear c6b0
    try clear c7
    try clear c7b0
    try clear c8
    try clear c8b0
    try clear c10
    try clear c10b0
    try clear c10b1
    try clear c10b2
    try clear p10
    try clear q10
    try clear hx10
    try clear c11
    try clear c11b0
    try clear c11b1
    try clear c11b2
    try clear c12
    try clear c17
    try clear c30
    try clear c31
    try clear c32
    try clear c34
    try clear c34b0
    try clear c34b1
    try clear c36
    try clear c36b0
    try clear c36b1
    try clear c36b2
    try clear c37
    try clear c38
    try clear c39
    try clear c44
    try clear c45
    try clear c47
    try clear c47b0
    try clear c47b1
    try clear c49
    try clear c49b0
    try clear c49b1
    try clear c49b2
    try clear c50
    try clear c51
    try clear c52
    try clear hcz15_0 hcz15_1 hcz15_2
    try clear hcz18_0 hcz18_1 hcz18_2
    try clear hcz33_0 hcz33_1 hcz33_2 hcz33_3 hcz33_4
    try clear hcz40_0 hcz40_1 hcz40_2
    try clear hcz46_0 hcz46_1 hcz46_2 hcz46_3 hcz46_4
    try clear hcz53_0 hcz53_1 hcz53_2
    try clear hfz15_0 hfz15_1 hfz15_2
    try clear hfz18_0 hfz18_1 hfz18_2
    try clear hfz33_0 hfz33_1 hfz33_2 hfz33_3 hfz33_4
    try clear hfz40_0 hfz40_1 hfz40_2
    try clear hfz46_0 hfz46_1 hfz46_2 hfz46_3 hfz46_4
    try clear hfz53_0 hfz53_1 hfz53_2
    try clear hx102_0
    try clear hx102_1
    try clear hx102_2
    try clear hx104_0
    try clear hx104_1
    try clear hx104_2
    try clear hx104_3
    try clear hx104_4
    try clear p1
    try clear p10
    try clear p102
    try clear p104
    try clear p2
    try clear q1
    try clear q10
    try clear q102
    try clear q104
    obtain ⟨kq, x84_42, HA, HJ42, HO_84, BK101, BK103, BK105, HB⟩ := hcut
    cases kq with
    | zero => exact absurd HA.out (by simp [c_line.j1])
    | succ kj42 =>
     have H := HA.out
     clear HA
     simp only [c_line.j1] at H
     by_cases c56 : ((rd_T72 tabL ((rd_T41 l2_0 a3).f0)).f1) = 1
     rotate_left
     ·rw [if_neg c56] at H
      have c56b0 : (((rd_T72 tabL ((rd_T41 l2_0 a3).f0)).f1) == 1) = false := beq_eq_false_iff_ne.mpr c56
      have c56b1 : (((rd_T72 tabL ((rd_T41 l2_0 a3).f0)).f1) != 1) = true := bne_iff_ne.mpr c56
      by_cases c79 : ((rd_T72 tabL ((rd_T41 l2_0 a3).f0)).f1) = 2
      rotate_left
      ·rw [if_neg c79] at H
       have c79b0 : (((rd_T72 tabL ((rd_T41 l2_0 a3).f0)).f1) == 2) = false := beq_eq_false_iff_ne.mpr c79
       have c79b1 : (((rd_T72 tabL ((rd_T41 l2_0 a3).f0)).f1) != 2) = true := bne_iff_ne.mpr c79
       by_cases c96 : x84_42.length < 140737488355328
       rotate_left
       ·rw [if_neg c96] at H
        exact absurd H (by simp)
       rw [if_pos c96] at H
       have LMc96 := am c96
       clear c96
       obtain ⟨y139, hy139⟩ : ∃ y_ : List Int, y_ = (x84_42 ++ [10]) := ⟨_, rfl⟩
       replace H : (some y139) = some r := by first | (rw [hy139]; with_reducible exact H) | (have H2_ := (Option.bind_some _ _).symm.trans H; rw [hy139]; with_reducible exact H2_) | (have H2_ := (Option.bind_some _ _).symm.trans H; with_reducible exact H2_) | with_reducible exact H | (rw [hy139]; exact H) | exact H
       have Ny139 := am hy139
       clear hy139
       obtain rfl := Option.some.inj H
       have hnb97 := NB105_101.out
       have hnc97 := NB101_105.out
       have hnb98 := NB105_103.out
       have hnc98 := NB103_105.out
       obtain ⟨⟨hcz99_0, hcz99_1, hcz99_2, hcz99_3, hcz99_4⟩, hfz99_0, hfz99_1, hfz99_2, hfz99_3, hfz99_4⟩ := blkAll5 BK105
       go_wp2_with (first | ((with_reducible refine gate_callee (f := 45) rfl ?_); refine goesL_ (some 83) rfl rfl Tryd.func45 (by kernel_rfl) rfl #[.pointer (some ⟨gbb, 0, none⟩), .int .u8 10] rfl ls ?_; refine (BR.byte (by (with_reducible repeat (first | apply BR.alloc | apply BR.drewN | apply BR.drew)); exact HO_84.out) 10 (by have := LMc96.out; first | omega | (simp only [ByteArray.size, Array.size, List.length]; omega)) (lb_size0 (by repeat (first | (with_reducible first | exact HB.out | apply lb_alloc | apply lb_drewN | apply lb_drew1 | refine lb_set ?_ GE101.out | refine lb_set ?_ GE103.out | refine lb_set ?_ GE105.out) | exact HB.out)))).mono ?_; rintro e w100 ⟨rfl, ho, hb, hg⟩; refine ⟨_, rfl, ?_⟩; replace hb := lb_bld (by repeat (first | (with_reducible first | exact HB.out | apply lb_alloc | apply lb_drewN | apply lb_drew1 | refine lb_set ?_ GE101.out | refine lb_set ?_ GE103.out | refine lb_set ?_ GE105.out) | exact HB.out)) hb hg; rw [← Ny139.out] at ho; have n0_ := am (blk_kept (g := gb101) (o := .cells #[.slice (some ad102) l2_0.length c2_0, .slice A2_1 l2_1.length c2_1, .slice A2_2 l2_2.length c2_2] 26 (0, 0)) (bu BK101.out) hg (BR.ne HO_84.out BK101.out (by decide))); have n1_ := am (blk_kept (g := gb103) (o := .cells #[.int .i64 ((rd_T41 l2_0 a3).f0), .int .i64 ((rd_T41 l2_0 a3).f1), .int .i64 ((rd_T41 l2_0 a3).f2)] 41 (0, 0)) (bu BK103.out) hg (BR.ne HO_84.out BK103.out (by decide))); have n2_ := am (blk_kept (g := gb105) (o := .cells #[.string ((rd_T72 tabL ((rd_T41 l2_0 a3).f0)).f0), .int .i64 ((rd_T72 tabL ((rd_T41 l2_0 a3).f0)).f1), .int .i64 ((rd_T72 tabL ((rd_T41 l2_0 a3).f0)).f2), .int .i64 ((rd_T72 tabL ((rd_T41 l2_0 a3).f0)).f3), .int .i64 ((rd_T72 tabL ((rd_T41 l2_0 a3).f0)).f4)] 72 (0, 0)) (bu BK105.out) hg (BR.ne HO_84.out BK105.out (by decide))); have n3_ := am (hb); have n4_ := am (ho); clear BK101; clear BK103; clear BK105; clear HB; clear HO_84; have BK101 := n0_; have BK103 := n1_; have BK105 := n2_; have HB := n3_; have HO141 := n4_; clear n0_ n1_ n2_ n3_ n4_; clear ho hb hg))
       go_end0
       exact ⟨rfl, by (with_reducible repeat (first | apply BR.alloc | apply BR.drewN | apply BR.drew)); exact HO141.out, by repeat (first | (with_reducible first | exact HB.out | apply lb_alloc | apply lb_drewN | apply lb_drew1 | refine lb_set ?_ GE101.out | refine lb_set ?_ GE103.out | refine lb_set ?_ GE105.out) | exact HB.out)⟩
      rw [if_pos c79] at H
      have c79b0 : (((rd_T72 tabL ((rd_T41 l2_0 a3).f0)).f1) == 2) = true := beq_iff_eq.mpr c79
      have c79b1 : (((rd_T72 tabL ((rd_T41 l2_0 a3).f0)).f1) != 2) = false := bne_eq_false_iff_eq.mpr c79
      clear c79
      by_cases c80 : x84_42.length < 140737488355328
      rotate_left
      ·rw [if_neg c80] at H
       exact absurd H (by simp)
      rw [if_pos c80] at H
      have LMc80 := am c80
      clear c80
      obtain ⟨y128, hy128⟩ : ∃ y_ : List Int, y_ = (x84_42 ++ [32]) := ⟨_, rfl⟩
      replace H : (if 0 ≤ ((rd_T41 l2_0 a3).f1) then (if ((rd_T41 l2_0 a3).f1) < (l2_2.length : Int) then ((xQuoted.f (rdOf ByteArray.empty l2_2 ((rd_T41 l2_0 a3).f1))).bind fun t132 => (if y128.length + t132.size < 140737488355328 then ((some (y128 ++ bytesOf t132 : List Int)).bind fun y133 => (if y133.length < 140737488355328 then (some (y133 ++ [10])) else (none))) else (none))) else (none)) else (none)) = some r := by first | (rw [hy128]; with_reducible exact H) | (have H2_ := (Option.bind_some _ _).symm.trans H; rw [hy128]; with_reducible exact H2_) | (have H2_ := (Option.bind_some _ _).symm.trans H; with_reducible exact H2_) | with_reducible exact H | (rw [hy128]; exact H) | exact H
      have Ny128 := am hy128
      clear hy128
      by_cases c81 : 0 ≤ ((rd_T41 l2_0 a3).f1)
      rotate_left
      ·rw [if_neg c81] at H
       exact absurd H (by simp)
      rw [if_pos c81] at H
      have c81b0 := decide_eq_true c81
      clear c81
      by_cases c82 : ((rd_T41 l2_0 a3).f1) < (l2_2.length : Int)
      rotate_left
      ·rw [if_neg c82] at H
       exact absurd H (by simp)
      rw [if_pos c82] at H
      have c82b0 := decide_eq_true c82
      clear c82
      replace H := Option.bind_eq_some_iff.mp H
      obtain ⟨t132, A830, H⟩ := H
      replace H : (if y128.length + t132.size < 140737488355328 then ((some (y128 ++ bytesOf t132 : List Int)).bind fun y133 => (if y133.length < 140737488355328 then (some (y133 ++ [10])) else (none))) else (none)) = some r := H
      have A83 := am A830
      clear A830
      by_cases c84 : y128.length + t132.size < 140737488355328
      rotate_left
      ·rw [if_neg c84] at H
       exact absurd H (by simp)
      rw [if_pos c84] at H
      have LMc84 := am c84
      clear c84
      obtain ⟨y133, hy133⟩ : ∃ y_ : List Int, y_ = (y128 ++ bytesOf t132) := ⟨_, rfl⟩
      replace H : (if y133.length < 140737488355328 then (some (y133 ++ [10])) else (none)) = some r := by first | (rw [hy133]; with_reducible exact H) | (have H2_ := (Option.bind_some _ _).symm.trans H; rw [hy133]; with_reducible exact H2_) | (have H2_ := (Option.bind_some _ _).symm.trans H; with_reducible exact H2_) | with_reducible exact H | (rw [hy133]; exact H) | exact H
      have Ny133 := am hy133
      clear hy133
      by_cases c85 : y133.length < 140737488355328
      rotate_left
      ·rw [if_neg c85] at H
       exact absurd H (by simp)
      rw [if_pos c85] at H
      have LMc85 := am c85
      clear c85
      obtain ⟨y136, hy136⟩ : ∃ y_ : List Int, y_ = (y133 ++ [10]) := ⟨_, rfl⟩
      replace H : (some y136) = some r := by first | (rw [hy136]; with_reducible exact H) | (have H2_ := (Option.bind_some _ _).symm.trans H; rw [hy136]; with_reducible exact H2_) | (have H2_ := (Option.bind_some _ _).symm.trans H; with_reducible exact H2_) | with_reducible exact H | (rw [hy136]; exact H) | exact H
      have Ny136 := am hy136
      clear hy136
      obtain rfl := Option.some.inj H
      have hnb86 := NB105_101.out
      have hnc86 := NB101_105.out
      have hnb87 := NB105_103.out
      have hnc87 := NB103_105.out
      obtain ⟨⟨hcz88_0, hcz88_1, hcz88_2, hcz88_3, hcz88_4⟩, hfz88_0, hfz88_1, hfz88_2, hfz88_3, hfz88_4⟩ := blkAll5 BK105
      go_wp2_with (first | ((with_reducible refine gate_callee (f := 45) rfl ?_); refine goesL_ (some 73) rfl rfl Tryd.func45 (by kernel_rfl) rfl #[.pointer (some ⟨gbb, 0, none⟩), .int .u8 32] rfl ls ?_; refine (BR.byte (by (with_reducible repeat (first | apply BR.alloc | apply BR.drewN | apply BR.drew)); exact HO_84.out) 32 (by have := LMc80.out; first | omega | (simp only [ByteArray.size, Array.size, List.length]; omega)) (lb_size0 (by repeat (first | (with_reducible first | exact HB.out | apply lb_alloc | apply lb_drewN | apply lb_drew1 | refine lb_set ?_ GE101.out | refine lb_set ?_ GE103.out | refine lb_set ?_ GE105.out) | exact HB.out)))).mono ?_; rintro e w89 ⟨rfl, ho, hb, hg⟩; refine ⟨_, rfl, ?_⟩; replace hb := lb_bld (by repeat (first | (with_reducible first | exact HB.out | apply lb_alloc | apply lb_drewN | apply lb_drew1 | refine lb_set ?_ GE101.out | refine lb_set ?_ GE103.out | refine lb_set ?_ GE105.out) | exact HB.out)) hb hg; rw [← Ny128.out] at ho; have n0_ := am (blk_kept (g := gb101) (o := .cells #[.slice (some ad102) l2_0.length c2_0, .slice A2_1 l2_1.length c2_1, .slice A2_2 l2_2.length c2_2] 26 (0, 0)) (bu BK101.out) hg (BR.ne HO_84.out BK101.out (by decide))); have n1_ := am (blk_kept (g := gb103) (o := .cells #[.int .i64 ((rd_T41 l2_0 a3).f0), .int .i64 ((rd_T41 l2_0 a3).f1), .int .i64 ((rd_T41 l2_0 a3).f2)] 41 (0, 0)) (bu BK103.out) hg (BR.ne HO_84.out BK103.out (by decide))); have n2_ := am (blk_kept (g := gb105) (o := .cells #[.string ((rd_T72 tabL ((rd_T41 l2_0 a3).f0)).f0), .int .i64 ((rd_T72 tabL ((rd_T41 l2_0 a3).f0)).f1), .int .i64 ((rd_T72 tabL ((rd_T41 l2_0 a3).f0)).f2), .int .i64 ((rd_T72 tabL ((rd_T41 l2_0 a3).f0)).f3), .int .i64 ((rd_T72 tabL ((rd_T41 l2_0 a3).f0)).f4)] 72 (0, 0)) (bu BK105.out) hg (BR.ne HO_84.out BK105.out (by decide))); have n3_ := am (hb); have n4_ := am (ho); clear BK101; clear BK103; clear BK105; clear HB; clear HO_84; have BK101 := n0_; have BK103 := n1_; have BK105 := n2_; have HB := n3_; have HO130 := n4_; clear n0_ n1_ n2_ n3_ n4_; clear ho hb hg; have hnb90 := NB101_103.out; have hnc90 := NB103_101.out; obtain ⟨⟨hcz91_0, hcz91_1, hcz91_2⟩, hfz91_0, hfz91_1, hfz91_2⟩ := blkAll3 BK101; obtain ⟨⟨hcz92_0, hcz92_1, hcz92_2⟩, hfz92_0, hfz92_1, hfz92_2⟩ := blkAll3 BK103; have p131 : 0 ≤ (((rd_T41 l2_0 a3).f1) : Int) := of_decide_eq_true od; have q131 : ((rd_T41 l2_0 a3).f1) < (l2_2.length : Int) := of_decide_eq_true od; obtain ⟨ad131, e131, hx131_0⟩ := Kd.at_string HR2_2.out ((rd_T41 l2_0 a3).f1) p131 q131; cases e131; replace hx131_0 := (HB.out.1.cell (World.block_lt_of_cell? w0 _ hx131_0)).trans hx131_0; replace p131 := eq_true p131; replace q131 := eq_true q131) | ((with_reducible refine gate_callee (f := 46) rfl ?_); refine goesL_ (some 81) rfl rfl Tryd.func46 (by kernel_rfl) rfl #[.pointer (some ⟨gbb, 0, none⟩), .string (rdOf ByteArray.empty l2_2 ((rd_T41 l2_0 a3).f1))] rfl ls ?_; refine (xQuoted.calls w0 gbb _ _ _ t132 (by (with_reducible repeat (first | apply BR.alloc | apply BR.drewN | apply BR.drew)); exact HO130.out) (lb_below (by repeat (first | (with_reducible first | exact HB.out | apply lb_alloc | apply lb_drewN | apply lb_drew1 | refine lb_set ?_ GE101.out | refine lb_set ?_ GE103.out | refine lb_set ?_ GE105.out) | exact HB.out))) (by have := LMc84.out; first | omega | (simp only [ByteArray.size, Array.size, List.length]; omega)) A83.out).mono ?_; rintro e w94 ⟨rfl, ho, hb⟩; refine ⟨_, rfl, ?_⟩; have hg := OK.mk hb; replace hb := lb_call (by repeat (first | (with_reducible first | exact HB.out | apply lb_alloc | apply lb_drewN | apply lb_drew1 | refine lb_set ?_ GE101.out | refine lb_set ?_ GE103.out | refine lb_set ?_ GE105.out) | exact HB.out)) hb; rw [← Ny133.out] at ho; have n0_ := am (blk_kept (g := gb101) (o := .cells #[.slice (some ad102) l2_0.length c2_0, .slice A2_1 l2_1.length c2_1, .slice (some ad131) l2_2.length c2_2] 26 (0, 0)) (bu BK101.out) hg (BR.ne HO130.out BK101.out (by decide))); have n1_ := am (blk_kept (g := gb103) (o := .cells #[.int .i64 ((rd_T41 l2_0 a3).f0), .int .i64 ((rd_T41 l2_0 a3).f1), .int .i64 ((rd_T41 l2_0 a3).f2)] 41 (0, 0)) (bu BK103.out) hg (BR.ne HO130.out BK103.out (by decide))); have n2_ := am (blk_kept (g := gb105) (o := .cells #[.string ((rd_T72 tabL ((rd_T41 l2_0 a3).f0)).f0), .int .i64 ((rd_T72 tabL ((rd_T41 l2_0 a3).f0)).f1), .int .i64 ((rd_T72 tabL ((rd_T41 l2_0 a3).f0)).f2), .int .i64 ((rd_T72 tabL ((rd_T41 l2_0 a3).f0)).f3), .int .i64 ((rd_T72 tabL ((rd_T41 l2_0 a3).f0)).f4)] 72 (0, 0)) (bu BK105.out) hg (BR.ne HO130.out BK105.out (by decide))); have n3_ := am (hb); have n4_ := am (ho); clear BK101; clear BK103; clear BK105; clear HB; clear HO130; have BK101 := n0_; have BK103 := n1_; have BK105 := n2_; have HB := n3_; have HO135 := n4_; clear n0_ n1_ n2_ n3_ n4_; clear ho hb hg) | ((with_reducible refine gate_callee (f := 45) rfl ?_); refine goesL_ (some 83) rfl rfl Tryd.func45 (by kernel_rfl) rfl #[.pointer (some ⟨gbb, 0, none⟩), .int .u8 10] rfl ls ?_; refine (BR.byte (by (with_reducible repeat (first | apply BR.alloc | apply BR.drewN | apply BR.drew)); exact HO135.out) 10 (by have := LMc85.out; first | omega | (simp only [ByteArray.size, Array.size, List.length]; omega)) (lb_size0 (by repeat (first | (with_reducible first | exact HB.out | apply lb_alloc | apply lb_drewN | apply lb_drew1 | refine lb_set ?_ GE101.out | refine lb_set ?_ GE103.out | refine lb_set ?_ GE105.out) | exact HB.out)))).mono ?_; rintro e w95 ⟨rfl, ho, hb, hg⟩; refine ⟨_, rfl, ?_⟩; replace hb := lb_bld (by repeat (first | (with_reducible first | exact HB.out | apply lb_alloc | apply lb_drewN | apply lb_drew1 | refine lb_set ?_ GE101.out | refine lb_set ?_ GE103.out | refine lb_set ?_ GE105.out) | exact HB.out)) hb hg; rw [← Ny136.out] at ho; have n0_ := am (blk_kept (g := gb101) (o := .cells #[.slice (some ad102) l2_0.length c2_0, .slice A2_1 l2_1.length c2_1, .slice (some ad131) l2_2.length c2_2] 26 (0, 0)) (bu BK101.out) hg (BR.ne HO135.out BK101.out (by decide))); have n1_ := am (blk_kept (g := gb103) (o := .cells #[.int .i64 ((rd_T41 l2_0 a3).f0), .int .i64 ((rd_T41 l2_0 a3).f1), .int .i64 ((rd_T41 l2_0 a3).f2)] 41 (0, 0)) (bu BK103.out) hg (BR.ne HO135.out BK103.out (by decide))); have n2_ := am (blk_kept (g := gb105) (o := .cells #[.string ((rd_T72 tabL ((rd_T41 l2_0 a3).f0)).f0), .int .i64 ((rd_T72 tabL ((rd_T41 l2_0 a3).f0)).f1), .int .i64 ((rd_T72 tabL ((rd_T41 l2_0 a3).f0)).f2), .int .i64 ((rd_T72 tabL ((rd_T41 l2_0 a3).f0)).f3), .int .i64 ((rd_T72 tabL ((rd_T41 l2_0 a3).f0)).f4)] 72 (0, 0)) (bu BK105.out) hg (BR.ne HO135.out BK105.out (by decide))); have n3_ := am (hb); have n4_ := am (ho); clear BK101; clear BK103; clear BK105; clear HB; clear HO135; have BK101 := n0_; have BK103 := n1_; have BK105 := n2_; have HB := n3_; have HO138 := n4_; clear n0_ n1_ n2_ n3_ n4_; clear ho hb hg))
      go_end0
      exact ⟨rfl, by (with_reducible repeat (first | apply BR.alloc | apply BR.drewN | apply BR.drew)); exact HO138.out, by repeat (first | (with_reducible first | exact HB.out | apply lb_alloc | apply lb_drewN | apply lb_drew1 | refine lb_set ?_ GE101.out | refine lb_set ?_ GE103.out | refine lb_set ?_ GE105.out) | exact HB.out)⟩
     rw [if_pos c56] at H
     have c56b0 : (((rd_T72 tabL ((rd_T41 l2_0 a3).f0)).f1) == 1) = true := beq_iff_eq.mpr c56
     have c56b1 : (((rd_T72 tabL ((rd_T41 l2_0 a3).f0)).f1) != 1) = false := bne_eq_false_iff_eq.mpr c56
     clear c56
     by_cases c57 : x84_42.length < 140737488355328
     rotate_left
     ·rw [if_neg c57] at H
      exact absurd H (by simp)
     rw [if_pos c57] at H
     have LMc57 := am c57
     clear c57
     obtain ⟨y118, hy118⟩ : ∃ y_ : List Int, y_ = (x84_42 ++ [32]) := ⟨_, rfl⟩
     replace H : (c_line.l0 kj42 60 y118 l2_0 l2_1 l2_2 ((rd_T41 l2_0 a3).f0) ((rd_T41 l2_0 a3).f1) ((rd_T41 l2_0 a3).f2)) = some r := by first | (rw [hy118]; with_reducible exact H) | (have H2_ := (Option.bind_some _ _).symm.trans H; rw [hy118]; with_reducible exact H2_) | (have H2_ := (Option.bind_some _ _).symm.trans H; with_reducible exact H2_) | with_reducible exact H | (rw [hy118]; exact H) | exact H
     have Ny118 := am hy118
     clear hy118
     have H' := am H
     clear H
     have hnb58 := NB105_101.out
     have hnc58 := NB101_105.out
     have hnb59 := NB105_103.out
     have hnc59 := NB103_105.out
     obtain ⟨⟨hcz60_0, hcz60_1, hcz60_2, hcz60_3, hcz60_4⟩, hfz60_0, hfz60_1, hfz60_2, hfz60_3, hfz60_4⟩ := blkAll5 BK105
     go_wp2_with (first | ((with_reducible refine gate_callee (f := 45) rfl ?_); refine goesL_ (some 53) rfl rfl Tryd.func45 (by kernel_rfl) rfl #[.pointer (some ⟨gbb, 0, none⟩), .int .u8 32] rfl ls ?_; refine (BR.byte (by (with_reducible repeat (first | apply BR.alloc | apply BR.drewN | apply BR.drew)); exact HO_84.out) 32 (by have := LMc57.out; first | omega | (simp only [ByteArray.size, Array.size, List.length]; omega)) (lb_size0 (by repeat (first | (with_reducible first | exact HB.out | apply lb_alloc | apply lb_drewN | apply lb_drew1 | refine lb_set ?_ GE101.out | refine lb_set ?_ GE103.out | refine lb_set ?_ GE105.out) | exact HB.out)))).mono ?_; rintro e w61 ⟨rfl, ho, hb, hg⟩; refine ⟨_, rfl, ?_⟩; replace hb := lb_bld (by repeat (first | (with_reducible first | exact HB.out | apply lb_alloc | apply lb_drewN | apply lb_drew1 | refine lb_set ?_ GE101.out | refine lb_set ?_ GE103.out | refine lb_set ?_ GE105.out) | exact HB.out)) hb hg; rw [← Ny118.out] at ho; have n0_ := am (blk_kept (g := gb101) (o := .cells #[.slice (some ad102) l2_0.length c2_0, .slice A2_1 l2_1.length c2_1, .slice A2_2 l2_2.length c2_2] 26 (0, 0)) (bu BK101.out) hg (BR.ne HO_84.out BK101.out (by decide))); have n1_ := am (blk_kept (g := gb103) (o := .cells #[.int .i64 ((rd_T41 l2_0 a3).f0), .int .i64 ((rd_T41 l2_0 a3).f1), .int .i64 ((rd_T41 l2_0 a3).f2)] 41 (0, 0)) (bu BK103.out) hg (BR.ne HO_84.out BK103.out (by decide))); have n2_ := am (blk_kept (g := gb105) (o := .cells #[.string ((rd_T72 tabL ((rd_T41 l2_0 a3).f0)).f0), .int .i64 ((rd_T72 tabL ((rd_T41 l2_0 a3).f0)).f1), .int .i64 ((rd_T72 tabL ((rd_T41 l2_0 a3).f0)).f2), .int .i64 ((rd_T72 tabL ((rd_T41 l2_0 a3).f0)).f3), .int .i64 ((rd_T72 tabL ((rd_T41 l2_0 a3).f0)).f4)] 72 (0, 0)) (bu BK105.out) hg (BR.ne HO_84.out BK105.out (by decide))); have n3_ := am (hb); have n4_ := am (ho); clear BK101; clear BK103; clear BK105; clear HB; clear HO_84; have BK101 := n0_; have BK103 := n1_; have BK105 := n2_; have HB := n3_; have HO120 := n4_; clear n0_ n1_ n2_ n3_ n4_; clear ho hb hg))
     go_loopg [10] kj42 (fun kq v10 w' => ∃ (x10_3 : Int) (x84_3 : List Int), v10 = .int .i64 x10_3 ∧ Aside0 (c_line.l0 kq x10_3 x84_3 l2_0 l2_1 l2_2 ((rd_T41 l2_0 a3).f0) ((rd_T41 l2_0 a3).f1) ((rd_T41 l2_0 a3).f2) = some r) ∧ Aside0 (kq ≤ kj42) ∧ Aside0 (BR w' w0.heap.size gbb x84_3) ∧ Aside0 (w'.heap[gb101]? = some (.cells #[(.slice (some ad102) l2_0.length c2_0), (.slice A2_1 l2_1.length c2_1), (.slice A2_2 l2_2.length c2_2)] 26 (0, 0))) ∧ Aside0 (w'.heap[gb103]? = some (.cells #[.int .i64 ((rd_T41 l2_0 a3).f0), .int .i64 ((rd_T41 l2_0 a3).f1), .int .i64 ((rd_T41 l2_0 a3).f2)] 41 (0, 0))) ∧ Aside0 (w'.heap[gb105]? = some (.cells #[.string ((rd_T72 tabL ((rd_T41 l2_0 a3).f0)).f0), .int .i64 ((rd_T72 tabL ((rd_T41 l2_0 a3).f0)).f1), .int .i64 ((rd_T72 tabL ((rd_T41 l2_0 a3).f0)).f2), .int .i64 ((rd_T72 tabL ((rd_T41 l2_0 a3).f0)).f3), .int .i64 ((rd_T72 tabL ((rd_T41 l2_0 a3).f0)).f4)] 72 (0, 0))) ∧ Aside0 (LB w0 w gbb w'))
     case atStart => exact ⟨(60), (y118), tv, H', ⟨Nat.le_refl _⟩, ⟨by (with_reducible repeat (first | apply BR.alloc | apply BR.drewN | apply BR.drew)); exact HO120.out⟩, ⟨by refine bu ?_; exact BK101.out⟩, ⟨by refine bu ?_; exact BK103.out⟩, ⟨by refine bu ?_; exact BK105.out⟩, ⟨by repeat (first | (with_reducible first | exact HB.out | apply lb_alloc | apply lb_drewN | apply lb_drew1 | refine lb_set ?_ GE101.out | refine lb_set ?_ GE103.out | refine lb_set ?_ GE105.out) | exact HB.out)⟩⟩
     case round =>
      clear H'
      try clear c1
      try clear p1
      try clear q1
      try clear hx1
      try clear c2
      try clear p2
      try clear c3
      try clear c4
      try clear c5
      try clear c5b0
      try clear c6
      try clear c6b0
      try clear c7
      try clear c7b0
      try clear c8
      try clear c8b0
      try clear c10
      try clear c10b0
      try clear c10b1
      try clear c10b2
      try clear p10
      try clear q10
      try clear hx10
      try clear c11
      try clear c11b0
      try clear c11b1
      try clear c11b2
      try clear c12
      try clear c17
      try clear c30
      try clear c31
      try clear c32
      try clear c34
      try clear c34b0
      try clear c34b1
      try clear c36
      try clear c36b0
      try clear c36b1
      try clear c36b2
      try clear c37
      try clear c38
      try clear c39
      try clear c44
      try clear c45
      try clear c47
      try clear c47b0
      try clear c47b1
      try clear c49
      try clear c49b0
      try clear c49b1
      try clear c49b2
      try clear c50
      try clear c51
      try clear c52
      try clear c56
      try clear c56b0
      try clear c56b1
      try clear c57
      try clear c58
      try clear c59
      try clear hcz15_0 hcz15_1 hcz15_2
      try clear hcz18_0 hcz18_1 hcz18_2
      try clear hcz33_0 hcz33_1 hcz33_2 hcz33_3 hcz33_4
      try clear hcz40_0 hcz40_1 hcz40_2
      try clear hcz46_0 hcz46_1 hcz46_2 hcz46_3 hcz46_4
      try clear hcz53_0 hcz53_1 hcz53_2
      try clear hcz60_0 hcz60_1 hcz60_2 hcz60_3 hcz60_4
      try clear hfz15_0 hfz15_1 hfz15_2
      try clear hfz18_0 hfz18_1 hfz18_2
      try clear hfz33_0 hfz33_1 hfz33_2 hfz33_3 hfz33_4
      try clear hfz40_0 hfz40_1 hfz40_2
      try clear hfz46_0 hfz46_1 hfz46_2 hfz46_3 hfz46_4
      try clear hfz53_0 hfz53_1 hfz53_2
      try clear hfz60_0 hfz60_1 hfz60_2 hfz60_3 hfz60_4
      try clear hx102_0
      try clear hx102_1
      try clear hx102_2
      try clear hx104_0
      try clear hx104_1
      try clear hx104_2
      try clear hx104_3
      try clear hx104_4
      try clear p1
      try clear p10
      try clear p102
      try clear p104
      try clear p2
      try clear q1
      try clear q10
      try clear q102
      try clear q104
      obtain ⟨x10_3, x84_3, rfl, HA, HK3, HO_84, BK101, BK103, BK105, HB⟩ := hrel
      cases gk with
      | zero => exact absurd HA.out (by simp [c_line.l0])
      | succ k3 =>
       have H := HA.out
       clear HA
       simp only [c_line.l0] at H
       by_cases c62 : x10_3 ≥ 0
       rotate_left
       ·rw [if_neg c62] at H
        have c62b0 : decide (0 ≤ x10_3) = false := decide_eq_false c62
        clear c62
        by_cases c77 : x84_3.length < 140737488355328
        rotate_left
        ·rw [if_neg c77] at H
         exact absurd H (by simp)
        rw [if_pos c77] at H
        have LMc77 := am c77
        clear c77
        obtain ⟨y125, hy125⟩ : ∃ y_ : List Int, y_ = (x84_3 ++ [10]) := ⟨_, rfl⟩
        replace H : (some y125) = some r := by first | (rw [hy125]; with_reducible exact H) | (have H2_ := (Option.bind_some _ _).symm.trans H; rw [hy125]; with_reducible exact H2_) | (have H2_ := (Option.bind_some _ _).symm.trans H; with_reducible exact H2_) | with_reducible exact H | (rw [hy125]; exact H) | exact H
        have Ny125 := am hy125
        clear hy125
        obtain rfl := Option.some.inj H
        go_wp2_with (first | ((with_reducible refine gate_callee (f := 45) rfl ?_); refine goesL_ (some 83) rfl rfl Tryd.func45 (by kernel_rfl) rfl #[.pointer (some ⟨gbb, 0, none⟩), .int .u8 10] rfl ls ?_; refine (BR.byte (by (with_reducible repeat (first | apply BR.alloc | apply BR.drewN | apply BR.drew)); exact HO_84.out) 10 (by have := LMc77.out; first | omega | (simp only [ByteArray.size, Array.size, List.length]; omega)) (lb_size0 (by repeat (first | (with_reducible first | exact HB.out | apply lb_alloc | apply lb_drewN | apply lb_drew1 | refine lb_set ?_ GE101.out | refine lb_set ?_ GE103.out | refine lb_set ?_ GE105.out) | exact HB.out)))).mono ?_; rintro e w78 ⟨rfl, ho, hb, hg⟩; refine ⟨_, rfl, ?_⟩; replace hb := lb_bld (by repeat (first | (with_reducible first | exact HB.out | apply lb_alloc | apply lb_drewN | apply lb_drew1 | refine lb_set ?_ GE101.out | refine lb_set ?_ GE103.out | refine lb_set ?_ GE105.out) | exact HB.out)) hb hg; rw [← Ny125.out] at ho; have n0_ := am (blk_kept (g := gb101) (o := .cells #[.slice (some ad102) l2_0.length c2_0, .slice A2_1 l2_1.length c2_1, .slice A2_2 l2_2.length c2_2] 26 (0, 0)) (bu BK101.out) hg (BR.ne HO_84.out BK101.out (by decide))); have n1_ := am (blk_kept (g := gb103) (o := .cells #[.int .i64 ((rd_T41 l2_0 a3).f0), .int .i64 ((rd_T41 l2_0 a3).f1), .int .i64 ((rd_T41 l2_0 a3).f2)] 41 (0, 0)) (bu BK103.out) hg (BR.ne HO_84.out BK103.out (by decide))); have n2_ := am (blk_kept (g := gb105) (o := .cells #[.string ((rd_T72 tabL ((rd_T41 l2_0 a3).f0)).f0), .int .i64 ((rd_T72 tabL ((rd_T41 l2_0 a3).f0)).f1), .int .i64 ((rd_T72 tabL ((rd_T41 l2_0 a3).f0)).f2), .int .i64 ((rd_T72 tabL ((rd_T41 l2_0 a3).f0)).f3), .int .i64 ((rd_T72 tabL ((rd_T41 l2_0 a3).f0)).f4)] 72 (0, 0)) (bu BK105.out) hg (BR.ne HO_84.out BK105.out (by decide))); have n3_ := am (hb); have n4_ := am (ho); clear BK101; clear BK103; clear BK105; clear HB; clear HO_84; have BK101 := n0_; have BK103 := n1_; have BK105 := n2_; have HB := n3_; have HO127 := n4_; clear n0_ n1_ n2_ n3_ n4_; clear ho hb hg))
        go_end0
        exact ⟨rfl, by (with_reducible repeat (first | apply BR.alloc | apply BR.drewN | apply BR.drew)); exact HO127.out, by repeat (first | (with_reducible first | exact HB.out | apply lb_alloc | apply lb_drewN | apply lb_drew1 | refine lb_set ?_ GE101.out | refine lb_set ?_ GE103.out | refine lb_set ?_ GE105.out) | exact HB.out)⟩
       rw [if_pos c62] at H
       have c62b0 : decide (0 ≤ x10_3) = true := decide_eq_true c62
       clear c62
       by_cases c63 : 0 ≤ ((rd_T41 l2_0 a3).f1)
       rotate_left
       ·rw [if_neg c63] at H
        exact absurd H (by simp)
       rw [if_pos c63] at H
       have c63b0 := decide_eq_true c63
       clear c63
       by_cases c64 : ((rd_T41 l2_0 a3).f1) < (l2_1.length : Int)
       rotate_left
       ·rw [if_neg c64] at H
        exact absurd H (by simp)
       rw [if_pos c64] at H
       have c64b0 := decide_eq_true c64
       clear c64
       by_cases c65 : 0 ≤ x10_3
       rotate_left
       ·rw [if_neg c65] at H
        exact absurd H (by simp)
       rw [if_pos c65] at H
       have c65b0 := eq_true c65
       have c65b1 := decide_eq_true c65
       clear c65
       obtain ⟨ji66, hji66⟩ : ∃ j_ : Int, (shr .u64 (rd l2_1 ((rd_T41 l2_0 a3).f1)) x10_3) = j_ := ⟨_, rfl⟩
       replace H : (if 0 ≤ (Go.bits .and .u64 (ji66) 15) then (if (Go.bits .and .u64 (ji66) 15) < 16 then (if x84_3.length < 140737488355328 then (c_line.l0 k3 (wrap64 (x10_3 - 4)) (x84_3 ++ [bt (⟨#[48, 49, 50, 51, 52, 53, 54, 55, 56, 57, 97, 98, 99, 100, 101, 102]⟩ : ByteArray) (Go.bits .and .u64 (ji66) 15)]) l2_0 l2_1 l2_2 ((rd_T41 l2_0 a3).f0) ((rd_T41 l2_0 a3).f1) ((rd_T41 l2_0 a3).f2)) else (none)) else (none)) else (none)) = some r := by first | (rw [hji66] at H; exact H) | (simp only [hji66] at H ⊢; exact H)
       have hji66_ : ((rd l2_1 ((rd_T41 l2_0 a3).f1)) / 2 ^ min x10_3.toNat 64) = ji66 := hji66
       have hji66z : x10_3 ≤ 64 → ((rd l2_1 ((rd_T41 l2_0 a3).f1)) / 2 ^ x10_3.toNat) = ji66 := shr_small hji66
       by_cases c67 : 0 ≤ (Go.bits .and .u64 (ji66) 15)
       rotate_left
       ·rw [if_neg c67] at H
        exact absurd H (by simp)
       rw [if_pos c67] at H
       have c67b0 := decide_eq_true c67
       clear c67
       by_cases c68 : (Go.bits .and .u64 (ji66) 15) < 16
       rotate_left
       ·rw [if_neg c68] at H
        exact absurd H (by simp)
       rw [if_pos c68] at H
       have c68b0 := decide_eq_true c68
       clear c68
       by_cases c70 : x84_3.length < 140737488355328
       rotate_left
       ·rw [if_neg c70] at H
        exact absurd H (by simp)
       rw [if_pos c70] at H
       have LMc70 := am c70
       clear c70
       obtain ⟨y122, hy122⟩ : ∃ y_ : List Int, y_ = (x84_3 ++ [bt (⟨#[48, 49, 50, 51, 52, 53, 54, 55, 56, 57, 97, 98, 99, 100, 101, 102]⟩ : ByteArray) (Go.bits .and .u64 (ji66) 15)]) := ⟨_, rfl⟩
       replace H : (c_line.l0 k3 (wrap64 (x10_3 - 4)) y122 l2_0 l2_1 l2_2 ((rd_T41 l2_0 a3).f0) ((rd_T41 l2_0 a3).f1) ((rd_T41 l2_0 a3).f2)) = some r := by first | (rw [hy122]; with_reducible exact H) | (have H2_ := (Option.bind_some _ _).symm.trans H; rw [hy122]; with_reducible exact H2_) | (have H2_ := (Option.bind_some _ _).symm.trans H; with_reducible exact H2_) | with_reducible exact H | (rw [hy122]; exact H) | exact H
       have Ny122 := am hy122
       clear hy122
       have H' := am H
       clear H
       have hnb71 := NB101_103.out
       have hnc71 := NB103_101.out
       have hnb72 := NB101_105.out
       have hnc72 := NB105_101.out
       obtain ⟨⟨hcz73_0, hcz73_1, hcz73_2⟩, hfz73_0, hfz73_1, hfz73_2⟩ := blkAll3 BK101
       have hnb74 := NB103_105.out
       have hnc74 := NB105_103.out
       obtain ⟨⟨hcz75_0, hcz75_1, hcz75_2⟩, hfz75_0, hfz75_1, hfz75_2⟩ := blkAll3 BK103
       have p121 : 0 ≤ (((rd_T41 l2_0 a3).f1) : Int) := of_decide_eq_true od
       have q121 : ((rd_T41 l2_0 a3).f1) < (l2_1.length : Int) := of_decide_eq_true od
       obtain ⟨ad121, e121, hx121_0⟩ := Kd.at_int HR2_1.out ((rd_T41 l2_0 a3).f1) p121 q121
       cases e121
       replace hx121_0 := (HB.out.1.cell (World.block_lt_of_cell? w0 _ hx121_0)).trans hx121_0
       replace p121 := eq_true p121
       replace q121 := eq_true q121
       have p69 : 0 ≤ ((Go.bits .and .u64 (ji66) 15) : Int) := of_decide_eq_true od
       have q69 : (Go.bits .and .u64 (ji66) 15) < (16 : Int) := of_decide_eq_true od
       have hx69 := bt_at (⟨#[48, 49, 50, 51, 52, 53, 54, 55, 56, 57, 97, 98, 99, 100, 101, 102]⟩ : ByteArray) (Go.bits .and .u64 (ji66) 15)
       replace p69 := eq_true p69
       replace q69 := eq_true q69
       go_wp2_with (first | ((with_reducible refine gate_callee (f := 45) rfl ?_); refine goesL_ (some 69) rfl rfl Tryd.func45 (by kernel_rfl) rfl #[.pointer (some ⟨gbb, 0, none⟩), .int .u8 (bt (⟨#[48, 49, 50, 51, 52, 53, 54, 55, 56, 57, 97, 98, 99, 100, 101, 102]⟩ : ByteArray) (Go.bits .and .u64 (ji66) 15))] rfl ls ?_; refine (BR.byte (by (with_reducible repeat (first | apply BR.alloc | apply BR.drewN | apply BR.drew)); exact HO_84.out) ((bt (⟨#[48, 49, 50, 51, 52, 53, 54, 55, 56, 57, 97, 98, 99, 100, 101, 102]⟩ : ByteArray) (Go.bits .and .u64 (ji66) 15))) (by have := LMc70.out; first | omega | (simp only [ByteArray.size, Array.size, List.length]; omega)) (lb_size0 (by repeat (first | (with_reducible first | exact HB.out | apply lb_alloc | apply lb_drewN | apply lb_drew1 | refine lb_set ?_ GE101.out | refine lb_set ?_ GE103.out | refine lb_set ?_ GE105.out) | exact HB.out)))).mono ?_; rintro e w76 ⟨rfl, ho, hb, hg⟩; refine ⟨_, rfl, ?_⟩; replace hb := lb_bld (by repeat (first | (with_reducible first | exact HB.out | apply lb_alloc | apply lb_drewN | apply lb_drew1 | refine lb_set ?_ GE101.out | refine lb_set ?_ GE103.out | refine lb_set ?_ GE105.out) | exact HB.out)) hb hg; rw [← Ny122.out] at ho; have n0_ := am (blk_kept (g := gb101) (o := .cells #[.slice (some ad102) l2_0.length c2_0, .slice (some ad121) l2_1.length c2_1, .slice A2_2 l2_2.length c2_2] 26 (0, 0)) (bu BK101.out) hg (BR.ne HO_84.out BK101.out (by decide))); have n1_ := am (blk_kept (g := gb103) (o := .cells #[.int .i64 ((rd_T41 l2_0 a3).f0), .int .i64 ((rd_T41 l2_0 a3).f1), .int .i64 ((rd_T41 l2_0 a3).f2)] 41 (0, 0)) (bu BK103.out) hg (BR.ne HO_84.out BK103.out (by decide))); have n2_ := am (blk_kept (g := gb105) (o := .cells #[.string ((rd_T72 tabL ((rd_T41 l2_0 a3).f0)).f0), .int .i64 ((rd_T72 tabL ((rd_T41 l2_0 a3).f0)).f1), .int .i64 ((rd_T72 tabL ((rd_T41 l2_0 a3).f0)).f2), .int .i64 ((rd_T72 tabL ((rd_T41 l2_0 a3).f0)).f3), .int .i64 ((rd_T72 tabL ((rd_T41 l2_0 a3).f0)).f4)] 72 (0, 0)) (bu BK105.out) hg (BR.ne HO_84.out BK105.out (by decide))); have n3_ := am (hb); have n4_ := am (ho); clear BK101; clear BK103; clear BK105; clear HB; clear HO_84; have BK101 := n0_; have BK103 := n1_; have BK105 := n2_; have HB := n3_; have HO124 := n4_; clear n0_ n1_ n2_ n3_ n4_; clear ho hb hg))
       go_roundg k3
       case measure => have := HJ12.out; have := HJ42.out; have := HK3.out; omega
       case rel => exact ⟨(wrap64 (x10_3 - 4)), (y122), tv, H', ⟨by have := HJ12.out; have := HJ42.out; have := HK3.out; omega⟩, ⟨by (with_reducible repeat (first | apply BR.alloc | apply BR.drewN | apply BR.drew)); exact HO124.out⟩, ⟨by refine bu ?_; exact BK101.out⟩, ⟨by refine bu ?_; exact BK103.out⟩, ⟨by refine bu ?_; exact BK105.out⟩, ⟨by repeat (first | (with_reducible first | exact HB.out | apply lb_alloc | apply lb_drewN | apply lb_drew1 | refine lb_set ?_ GE101.out | refine lb_set ?_ GE103.out | refine lb_set ?_ GE105.out) | exact HB.out)⟩⟩
end Go.Proofs.YtdkejcadoepnnaaDoor.ECc
