/-
 A text of this session's own.
-/
import Derived.Test.YtdkejcadoepnnaaDoorBkA0
import Derived.Test.YtdkejcadoepnnaaDoorBkECrx4
import Derived.Test.YtdkejcadoepnnaaDoorBkECcx0
import Derived.Test.YtdkejcadoepnnaaDoorBkECcx6
import Derived.Test.YtdkejcadoepnnaaDoorBkECcx9
import Derived.Test.YtdkejcadoepnnaaDoorBkXWays
set_option linter.unusedSimpArgs false
namespace Go.Proofs.YtdkejcadoepnnaaDoor.ECc
open Go.Proofs.YtdkejcadoepnnaaDoor.X
open Go.RowKit Go.Proofs.YtdkejcadoepnnaaDoorW.PrintWords Go.Proofs.YtdkejcadoepnnaaDoorW.PrintLast Go.Proofs.YtdkejcadoepnnaaDoorW.PrintMore
attribute [local go_sem] max2_int min2_int max_two min_two max_three min_three max_four min_four
set_option linter.unusedVariables false
open Go.Proofs.YtdkejcadoepnnaaDoor.X
mutual
def c_Heights.l0 : Nat → Int → Int → Int → List (S41) → List Int → List ByteArray → Option (List Int × Int × Int)
 | 0, _, _, _, _, _, _ => none
 | k + 1, x5, x23, x24, x143000, x143001, x143002 => if x24 < x23 then ((c_right.f k tabL x143000 x143001 x143002 x24).bind fun t144 => (if t144 = true then (c_Heights.l0 k x5 x23 (wrap64 (x24 + 1)) x143000 x143001 x143002) else (some (([] : List Int), x24, 260)))) else (if 0 ≤ (wrap64 (x5 + 1)) then (if (wrap64 (x5 + 1) : Int).toNat ≤ 35184372088832 then ((some (List.replicate (wrap64 (x5 + 1) : Int).toNat 0 : List Int)).bind fun y145 => (c_Heights.l1 k x5 y145 (y145.length : Int) 0 x143000 x143001 x143002)) else (none)) else (none))
def c_Heights.l1 : Nat → Int → List Int → Int → Int → List (S41) → List Int → List ByteArray → Option (List Int × Int × Int)
 | 0, _, _, _, _, _, _, _ => none
 | k + 1, x5, x8, x37, x38, x143000, x143001, x143002 => if x38 < x37 then (if 0 ≤ x38 then (if x38 < (x8.length : Int) then (c_Heights.l1 k x5 (x8.set (x38 : Int).toNat (-1)) x37 (wrap64 (x38 + 1)) x143000 x143001 x143002) else (none)) else (none)) else (if 0 < (x8.length : Int) then (c_Heights.l2 k x5 (x8.set (0 : Int).toNat 0) x143000 (x143000.length : Int) 0) else (none))
def c_Heights.l2 : Nat → Int → List Int → List (S41) → Int → Int → Option (List Int × Int × Int)
 | 0, _, _, _, _, _ => none
 | k + 1, x5, x8, x48, x49, x50 => if x50 < x49 then (if 0 ≤ x50 then (if x50 < (x48.length : Int) then (if x50 < (x8.length : Int) then (if (rd x8 x50) < 0 then (c_Heights.l2 k x5 x8 x48 x49 (wrap64 (x50 + 1))) else (if 0 ≤ ((rd_T41 x48 x50).f0) then (if ((rd_T41 x48 x50).f0) < (tabL.length : Int) then ((c_row_effect.f ((rd_T72 tabL ((rd_T41 x48 x50).f0)).f0) ((rd_T72 tabL ((rd_T41 x48 x50).f0)).f1) ((rd_T72 tabL ((rd_T41 x48 x50).f0)).f2) ((rd_T72 tabL ((rd_T41 x48 x50).f0)).f3) ((rd_T72 tabL ((rd_T41 x48 x50).f0)).f4) ((rd_T41 x48 x50).f0) ((rd_T41 x48 x50).f1) ((rd_T41 x48 x50).f2)).bind fun bt155 => (if (rd x8 x50) < bt155.1 then (c_Heights.j3 k x5 x8 x50 (wrap64 ((wrap64 ((rd x8 x50) - bt155.1)) + bt155.2)) x48 x49 x50 true ((rd_T41 x48 x50).f0) ((rd_T41 x48 x50).f1) ((rd_T41 x48 x50).f2)) else (c_Heights.j3 k x5 x8 x50 (wrap64 ((wrap64 ((rd x8 x50) - bt155.1)) + bt155.2)) x48 x49 x50 (decide ((wrap64 ((wrap64 ((rd x8 x50) - bt155.1)) + bt155.2)) > 32768)) ((rd_T41 x48 x50).f0) ((rd_T41 x48 x50).f1) ((rd_T41 x48 x50).f2)))) else (none)) else (none))) else (none)) else (none)) else (none)) else (if 0 ≤ x5 then (if x5 < (x8.length : Int) then (if (rd x8 x5) = 1 then (some (x8, 0, 0)) else (some (([] : List Int), x5, 260))) else (none)) else (none))
def c_Heights.j3 : Nat → Int → List Int → Int → Int → List (S41) → Int → Int → Bool → Int → Int → Int → Option (List Int × Int × Int)
 | 0, _, _, _, _, _, _, _, _, _, _, _ => none
 | k + 1, x5, x8, x10, x14, x48, x49, x50, x86, x153000, x153001, x153002 => if x86 = true then (some (([] : List Int), x10, 260)) else ((xWays.f x153000 x153001 x153002 x10).bind fun bt159 => (c_Heights.l3 k x5 x8 x10 x14 x48 x49 x50 0 bt159.1 bt159.2))
def c_Heights.l3 : Nat → Int → List Int → Int → Int → List (S41) → Int → Int → Int → Int → Int → Option (List Int × Int × Int)
 | 0, _, _, _, _, _, _, _, _, _, _ => none
 | k + 1, x5, x8, x10, x14, x48, x49, x50, x91, x122, x123 => if x91 < 2 then (if x91 = 0 then (if 0 ≤ x122 then (if x122 < (x8.length : Int) then (if (rd x8 x122) ≥ 0 then (if (rd x8 x122) = x14 then (c_Heights.l3 k x5 (x8.set (x122 : Int).toNat x14) x10 x14 x48 x49 x50 (wrap64 (x91 + 1)) x122 x123) else (some (([] : List Int), x10, 260))) else (c_Heights.l3 k x5 (x8.set (x122 : Int).toNat x14) x10 x14 x48 x49 x50 (wrap64 (x91 + 1)) x122 x123)) else (none)) else (none)) else (if 0 ≤ x123 then (if x123 < (x8.length : Int) then (if (rd x8 x123) ≥ 0 then (if (rd x8 x123) = x14 then (c_Heights.l3 k x5 (x8.set (x123 : Int).toNat x14) x10 x14 x48 x49 x50 (wrap64 (x91 + 1)) x122 x123) else (some (([] : List Int), x10, 260))) else (c_Heights.l3 k x5 (x8.set (x123 : Int).toNat x14) x10 x14 x48 x49 x50 (wrap64 (x91 + 1)) x122 x123)) else (none)) else (none))) else (c_Heights.l2 k x5 x8 x48 x49 (wrap64 (x50 + 1)))
end
def c_Heights.f (k : Nat) (l0_0 : List (S41)) (l0_1 : List Int) (l0_2 : List ByteArray) : Option (List Int × Int × Int) := if (l0_0.length : Int) > 131072 then (some (([] : List Int), 131072, 260)) else (c_Heights.l0 k (l0_0.length : Int) (l0_0.length : Int) 0 l0_0 l0_1 l0_2)
def c_Heights.T22 : Bool × List (List Nat × List Nat) := (true, [([], []), ([0], [0]), ([1], [1]), ([2], [2]), ([], []), ([3, 4], [3, 4]), ([5], [5]), ([6], [6]), ([6], [6]), ([7, 5, 0, 1, 2, 3, 4, 5, 6, 7], [7]), ([8, 9, 0, 1, 2, 3, 4, 5, 6, 7, 8, 9], [8])])
def c_Heights.B22 : List Nat := [0, 1, 3, 7, 0, 31, 63, 127, 127, 255, 1023]
theorem c_Heights.tab22 : rtab .any (opsOf Tryd.f12 22) = c_Heights.T22 := by kernel_rfl
theorem c_Heights.bits22 : waitsOk c_Heights.T22.2 c_Heights.B22 = true := by kernel_rfl
set_option maxHeartbeats 8000000 in
set_option maxRecDepth 100000 in
theorem c_Heights.calls (k : Nat) (A0_0 : Option Addr) (c0_0 : Nat) (l0_0 : List (S41)) (A0_1 : Option Addr) (c0_1 : Nat) (l0_1 : List Int) (A0_2 : Option Addr) (c0_2 : Nat) (l0_2 : List ByteArray) (r1 : List Int) (r2 : Int) (r3 : Int) (w : World) (hr0_0 : Kd.C k41 w A0_0 l0_0.length l0_0) (hc0_0 : l0_0.length ≤ c0_0) (hr0_1 : Kd.C (Kd.int .u64) w A0_1 l0_1.length l0_1) (hc0_1 : l0_1.length ≤ c0_1) (hr0_2 : Kd.C Kd.string w A0_2 l0_2.length l0_2) (hc0_2 : l0_2.length ≤ c0_2) (h : c_Heights.f k l0_0 l0_1 l0_2 = some (r1, r2, r3)) :
  Calls Tryd.prog 12 #[.agg #[.slice A0_0 l0_0.length c0_0, .slice A0_1 l0_1.length c0_1, .slice A0_2 l0_2.length c0_2]] w fun e w' => ∃ v0_ : Value, e = .returned (.tuple #[v0_, .int .i64 r2, .int .i64 r3]) ∧ Kd.R (Kd.int .i64) 3 w' w.heap.size (fun _ => True) v0_ r1 ∧ Below w.heap.size w w' := by
 have hu26 := Tryd.underlying26
 have hu7 := Tryd.underlying7
 have hu41 := Tryd.underlying41
 have hu72 := Tryd.underlying72
 have HR0_0 := am hr0_0
 have HC0_0 := am hc0_0
 clear hr0_0 hc0_0
 have HR0_1 := am hr0_1
 have HC0_1 := am hc0_1
 clear hr0_1 hc0_1
 have HR0_2 := am hr0_2
 have HC0_2 := am hc0_2
 clear hr0_2 hc0_2
 have HB := am (Below.refl w.heap.size w)
 have H : (if (l0_0.length : Int) > 131072 then (some (([] : List Int), 131072, 260)) else (c_Heights.l0 k (l0_0.length : Int) (l0_0.length : Int) 0 l0_0 l0_1 l0_2)) = some (r1, r2, r3) := h
 clear h
 by_cases c2 : (l0_0.length : Int) > 131072
 ·rw [if_pos c2] at H
  have c2b0 : decide (131072 < (l0_0.length : Int)) = true := decide_eq_true c2
  have c2b1 : decide (131072 < l0_0.length) = true := decide_eq_true (by omega)
  clear c2
  simp only [Option.some.injEq, Prod.mk.injEq] at H
  obtain ⟨rfl, rfl, rfl⟩ := H
  go_enter Tryd.func12, Tryd.ntmps12
  go_wp2_with (first | ((with_reducible refine gate_dst (N := 1) rfl ?_); refine box_event ?hg (N := 1) ?hd (cs := #[.slice A0_0 l0_0.length c0_0, .slice A0_1 l0_1.length c0_1, .slice A0_2 l0_2.length c0_2]) (t := 26) ?hr ?_; (case hd => rfl); (case hg => rfl); (case hr => first | (go_simp; done) | (go_simp; rfl)); intro gb142 hg w3 hbox hb; have n0_ := am (below_step bl hb); have n1_ := am (hbox); have n2_ := am ((by rw [hg]; exact (below_size bl) : w.heap.size ≤ gb142)); have n3_ := n2_; clear HB; have HB := n0_; have BK142 := n1_; have GW142 := n2_; have GE142 := n3_; clear n0_ n1_ n2_ n3_; clear hb hbox hg; obtain ⟨⟨hcz4_0, hcz4_1, hcz4_2⟩, hfz4_0, hfz4_1, hfz4_2⟩ := blkAll3 BK142))
  go_ret3
  exact ⟨_, er, by first | exact Kd.R_nil _ _ _ _ _ | exact Kd.N_nil _ _ _ _ _ | exact Kd.V_nil _ _ _ _ _ | exact Kd.Q_nil _ _ _ _ _ | exact Kd.S_nil _ _ _ _ _, bs⟩
 rw [if_neg c2] at H
 have c2b0 : decide (131072 < (l0_0.length : Int)) = false := decide_eq_false c2
 have c2b1 : decide (131072 < l0_0.length) = false := decide_eq_false (by omega)
 clear c2
 have H' := am H
 clear H
 go_enter Tryd.func12, Tryd.ntmps12
 go_wp2_with (first | ((with_reducible refine gate_dst (N := 1) rfl ?_); refine box_event ?hg (N := 1) ?hd (cs := #[.slice A0_0 l0_0.length c0_0, .slice A0_1 l0_1.length c0_1, .slice A0_2 l0_2.length c0_2]) (t := 26) ?hr ?_; (case hd => rfl); (case hg => rfl); (case hr => first | (go_simp; done) | (go_simp; rfl)); intro gb142 hg w5 hbox hb; have n0_ := am (below_step bl hb); have n1_ := am (hbox); have n2_ := am ((by rw [hg]; exact (below_size bl) : w.heap.size ≤ gb142)); have n3_ := n2_; clear HB; have HB := n0_; have BK142 := n1_; have GW142 := n2_; have GE142 := n3_; clear n0_ n1_ n2_ n3_; clear hb hbox hg; obtain ⟨⟨hcz6_0, hcz6_1, hcz6_2⟩, hfz6_0, hfz6_1, hfz6_2⟩ := blkAll3 BK142) | ((with_reducible refine gate_callee (f := 25) rfl ?_); refine goesL_ (some 22) rfl rfl Tryd.func25 (by kernel_rfl) rfl #[] rfl (by first | rfl | simp) ?_; (with_reducible refine (xRows.calls _).mono ?_); rintro e wq_ ⟨rfl, hq_⟩; refine ⟨_, rfl, ?_⟩; refine tab_event (T := 6) (B := 22) rfl rfl rfl rfl rfl rfl ?hx_ ?hy_ ?_; (case hx_ => intro v; first | rfl | (go_simp; done)); (case hy_ => intro v; first | rfl | (go_simp; done)); intro gb143 adT_ hg0_ hadT_ w7 hbox hb0_; have hb := below_then hq_ hq_.size hb0_; have hg := Nat.le_trans hq_.size hg0_; clear hq_ hg0_ hb0_; have n0_ := am (blk_below (bu BK142.out) hb); have n1_ := am (below_step bs hb); have n2_ := am (hbox); have n3_ := am ((exact_le hg (below_size bs) : w.heap.size ≤ gb143)); have n4_ := am ((exact_le hg (below_size bs) : w.heap.size ≤ gb143)); have n5_ := am ((ne_lt_le hg (blk_lt (bu BK142.out)) : gb142 ≠ gb143)); have n6_ := am ((ne_gt_le hg (blk_lt (bu BK142.out)) : gb143 ≠ gb142)); clear BK142; clear HB; have BK142 := n0_; have HB := n1_; have BK143 := n2_; have GW143 := n3_; have GE143 := n4_; have NB142_143 := n5_; have NB143_142 := n6_; clear n0_ n1_ n2_ n3_ n4_ n5_ n6_; clear hb hbox hg))
 go_loopg [24] k (fun kq v24 w' => ∃ (x24_1 : Int), v24 = .int .i64 x24_1 ∧ Aside0 (c_Heights.l0 kq (l0_0.length : Int) (l0_0.length : Int) x24_1 l0_0 l0_1 l0_2 = some (r1, r2, r3)) ∧ Aside0 (kq ≤ k) ∧ Aside0 (w'.heap[gb142]? = some (.cells #[(.slice A0_0 l0_0.length c0_0), (.slice A0_1 l0_1.length c0_1), (.slice A0_2 l0_2.length c0_2)] 26 (0, 0))) ∧ Aside0 (w'.heap[gb143]? = some (.cells tabC 73 (0, 0))) ∧ Aside0 (Below w.heap.size w w'))
 case atStart => exact ⟨(0), tv, H', ⟨Nat.le_refl _⟩, ⟨by refine bu ?_; exact BK142.out⟩, ⟨by refine bu ?_; exact BK143.out⟩, ⟨bs⟩⟩
 case round =>
  clear H'
  try clear c1
  try clear c2
  try clear c2b0
  try clear c2b1
  try clear p2
  try clear hcz4_0 hcz4_1 hcz4_2
  try clear hcz6_0 hcz6_1 hcz6_2
  try clear hfz4_0 hfz4_1 hfz4_2
  try clear hfz6_0 hfz6_1 hfz6_2
  obtain ⟨x24_1, rfl, HA, HK1, BK142, BK143, HB⟩ := hrel
  cases gk with
  | zero => exact absurd HA.out (by simp [c_Heights.l0])
  | succ k1 =>
   have H := HA.out
   clear HA
   simp only [c_Heights.l0] at H
   by_cases c8 : x24_1 < (l0_0.length : Int)
   ·rw [if_pos c8] at H
    have c8b0 := decide_eq_true c8
    clear c8
    replace H := Option.bind_eq_some_iff.mp H
    obtain ⟨t144, A90, H⟩ := H
    replace H : (if t144 = true then (c_Heights.l0 k1 (l0_0.length : Int) (l0_0.length : Int) (wrap64 (x24_1 + 1)) l0_0 l0_1 l0_2) else (some (([] : List Int), x24_1, 260))) = some (r1, r2, r3) := H
    have A9 := am A90
    clear A90
    by_cases c10 : t144 = true
    ·subst c10
     have H1 : (c_Heights.l0 k1 (l0_0.length : Int) (l0_0.length : Int) (wrap64 (x24_1 + 1)) l0_0 l0_1 l0_2) = some (r1, r2, r3) := by rw [if_pos rfl] at H; exact H
     clear H
     have H := H1
     clear H1
     have H' := am H
     clear H
     have hnb11 := NB142_143.out
     have hnc11 := NB143_142.out
     obtain ⟨⟨hcz12_0, hcz12_1, hcz12_2⟩, hfz12_0, hfz12_1, hfz12_2⟩ := blkAll3 BK142
     go_wp2_with (first | ((with_reducible refine gate_callee (f := 26) rfl ?_); refine goesL_ (some 29) rfl rfl Tryd.func26 (by kernel_rfl) rfl #[.pointer (some adT_), .agg #[.slice A0_0 l0_0.length c0_0, .slice A0_1 l0_1.length c0_1, .slice A0_2 l0_2.length c0_2], .int .i64 x24_1] rfl ls ?_; (refine (c_right.calls k1 _ tabL _ _ l0_0 _ _ l0_1 _ _ l0_2 x24_1 true _ ?side1 ?side2 ?side3 ?side4 ?side5 ?side6 ?side7 ?side8 A9.out).mono ?_); (case side1 => exact tab_rowsA hadT_.out (bu BK143.out)); (case side2 => exact tabL_len); (case side3 => repeat (first | exact (Kd.C_below HR0_0.out HB.out) | (with_reducible refine Kd.C_alloc ?_ _) | (with_reducible refine Kd.C_drewN ?_ _) | (with_reducible refine Kd.C_drew ?_))); (case side4 => exact HC0_0.out); (case side5 => repeat (first | exact (Kd.C_below HR0_1.out HB.out) | (with_reducible refine Kd.C_alloc ?_ _) | (with_reducible refine Kd.C_drewN ?_ _) | (with_reducible refine Kd.C_drew ?_))); (case side6 => exact HC0_1.out); (case side7 => repeat (first | exact (Kd.C_below HR0_2.out HB.out) | (with_reducible refine Kd.C_alloc ?_ _) | (with_reducible refine Kd.C_drewN ?_ _) | (with_reducible refine Kd.C_drew ?_))); (case side8 => exact HC0_2.out); rintro e w13 ⟨rfl, hb⟩; refine ⟨_, rfl, ?_⟩; have n0_ := am (blk_below (bu BK142.out) hb); have n1_ := am (blk_below (bu BK143.out) hb); have n2_ := am (below_step bs hb); clear BK142; clear BK143; clear HB; have BK142 := n0_; have BK143 := n1_; have HB := n2_; clear n0_ n1_ n2_; (try clear hb); (try clear hb2); (try clear hk); (try clear hi)))
     go_roundg k1
     case measure => have := HK1.out; omega
     case rel => exact ⟨(wrap64 (x24_1 + 1)), tv, H', ⟨by have := HK1.out; omega⟩, ⟨by refine bu ?_; exact BK142.out⟩, ⟨by refine bu ?_; exact BK143.out⟩, ⟨bs⟩⟩
    replace c10 := Bool.eq_false_iff.mpr c10
    subst c10
    have H1 : (some (([] : List Int), x24_1, 260)) = some (r1, r2, r3) := by rw [if_neg (show ¬ (false = true) by decide)] at H; exact H
    clear H
    have H := H1
    clear H1
    simp only [Option.some.injEq, Prod.mk.injEq] at H
    obtain ⟨rfl, rfl, rfl⟩ := H
    have hnb14 := NB142_143.out
    have hnc14 := NB143_142.out
    obtain ⟨⟨hcz15_0, hcz15_1, hcz15_2⟩, hfz15_0, hfz15_1, hfz15_2⟩ := blkAll3 BK142
    go_wp2_with (first | ((with_reducible refine gate_callee (f := 26) rfl ?_); refine goesL_ (some 29) rfl rfl Tryd.func26 (by kernel_rfl) rfl #[.pointer (some adT_), .agg #[.slice A0_0 l0_0.length c0_0, .slice A0_1 l0_1.length c0_1, .slice A0_2 l0_2.length c0_2], .int .i64 x24_1] rfl ls ?_; (refine (c_right.calls k1 _ tabL _ _ l0_0 _ _ l0_1 _ _ l0_2 x24_1 false _ ?side1 ?side2 ?side3 ?side4 ?side5 ?side6 ?side7 ?side8 A9.out).mono ?_); (case side1 => exact tab_rowsA hadT_.out (bu BK143.out)); (case side2 => exact tabL_len); (case side3 => repeat (first | exact (Kd.C_below HR0_0.out HB.out) | (with_reducible refine Kd.C_alloc ?_ _) | (with_reducible refine Kd.C_drewN ?_ _) | (with_reducible refine Kd.C_drew ?_))); (case side4 => exact HC0_0.out); (case side5 => repeat (first | exact (Kd.C_below HR0_1.out HB.out) | (with_reducible refine Kd.C_alloc ?_ _) | (with_reducible refine Kd.C_drewN ?_ _) | (with_reducible refine Kd.C_drew ?_))); (case side6 => exact HC0_1.out); (case side7 => repeat (first | exact (Kd.C_below HR0_2.out HB.out) | (with_reducible refine Kd.C_alloc ?_ _) | (with_reducible refine Kd.C_drewN ?_ _) | (with_reducible refine Kd.C_drew ?_))); (case side8 => exact HC0_2.out); rintro e w16 ⟨rfl, hb⟩; refine ⟨_, rfl, ?_⟩; have n0_ := am (blk_below (bu BK142.out) hb); have n1_ := am (blk_below (bu BK143.out) hb); have n2_ := am (below_step bs hb); clear BK142; clear BK143; clear HB; have BK142 := n0_; have BK143 := n1_; have HB := n2_; clear n0_ n1_ n2_; (try clear hb); (try clear hb2); (try clear hk); (try clear hi)))
    go_ret3
    exact ⟨_, er, by first | exact Kd.R_nil _ _ _ _ _ | exact Kd.N_nil _ _ _ _ _ | exact Kd.V_nil _ _ _ _ _ | exact Kd.Q_nil _ _ _ _ _ | exact Kd.S_nil _ _ _ _ _, bs⟩
   rw [if_neg c8] at H
   have c8b0 := decide_eq_false c8
   clear c8
   obtain ⟨ji17, hji17⟩ : ∃ j_ : Int, (wrap64 ((l0_0.length : Int) + 1)) = j_ := ⟨_, rfl⟩
   replace H : (if 0 ≤ (ji17) then (if (ji17 : Int).toNat ≤ 35184372088832 then ((some (List.replicate (ji17 : Int).toNat 0 : List Int)).bind fun y145 => (c_Heights.l1 k1 (l0_0.length : Int) y145 (y145.length : Int) 0 l0_0 l0_1 l0_2)) else (none)) else (none)) = some (r1, r2, r3) := by first | (rw [hji17] at H; exact H) | (simp only [hji17] at H ⊢; exact H)
   have hji17w : (IntKind.i64.wrap ((l0_0.length : Int) + 1)) = ji17 := (i64_w _).trans hji17
   by_cases c18 : 0 ≤ (ji17)
   rotate_left
   ·rw [if_neg c18] at H
    exact absurd H (by simp)
   rw [if_pos c18] at H
   have c18b0 := eq_true c18
   have c18b1 := decide_eq_true c18
   clear c18
   by_cases c19 : (ji17 : Int).toNat ≤ 35184372088832
   rotate_left
   ·rw [if_neg c19] at H
    exact absurd H (by simp)
   rw [if_pos c19] at H
   have c19b0 := eq_true c19
   have c19b1 := decide_eq_true c19
   clear c19
   obtain ⟨y145, hy145⟩ : ∃ y_ : List Int, y_ = (List.replicate (ji17 : Int).toNat 0) := ⟨_, rfl⟩
   replace H : (c_Heights.l1 k1 (l0_0.length : Int) y145 (y145.length : Int) 0 l0_0 l0_1 l0_2) = some (r1, r2, r3) := by first | (rw [hy145]; with_reducible exact H) | (have H2_ := (Option.bind_some _ _).symm.trans H; rw [hy145]; with_reducible exact H2_) | (have H2_ := (Option.bind_some _ _).symm.trans H; with_reducible exact H2_) | with_reducible exact H | (rw [hy145]; exact H) | exact H
   have Ny145 := am hy145
   clear hy145
   have H' := am H
   clear H
   go_wp2_with (first | ((with_reducible refine gate_dst (N := 35) rfl ?_); refine Kd.R_make (Kd.int .i64) _ 3 rfl (N := 35) rfl 28 _ _ rfl ji17 rfl rfl Tryd.underlying28 (.int .i64 0) 8 info3 rfl (by decide) (by omega) 0 (ok := fun _ => True) (okp := fun _ => True) rfl (fun _ hk => hk) trivial (of_decide_eq_true od) (Nat.le_trans (Nat.mul_le_mul_right _ (of_decide_eq_true od : ji17.toNat ≤ 35184372088832)) (by omega)) (Below.refl _ _) (Nat.le_refl _) ?_; intro v146 w20 ho21 hb hg_ hnew_; clear hg_ hnew_; (first | rw [← Ny145.out] at ho21 | (simp only [Int.reduceToNat] at ho21; rw [← Ny145.out] at ho21)); have n0_ := am (Kd.R_lower ho21 (below_size bs)); have n1_ := am (blk_below (bu BK142.out) hb); have n2_ := am (blk_below (bu BK143.out) hb); have n3_ := am (below_step bs hb); clear BK142; clear BK143; clear HB; have HO147 := n0_; have BK142 := n1_; have BK143 := n2_; have HB := n3_; clear n0_ n1_ n2_ n3_; clear hb ho21; obtain ⟨Ao22, co22, eo22⟩ := Kd.R_slice HO147.out; subst eo22))
   go_loopg [38] k1 (fun kq v38 w' => ∃ (x8_2 : List Int) (x38_2 : Int), v38 = .int .i64 x38_2 ∧ Aside0 (c_Heights.l1 kq (l0_0.length : Int) x8_2 (y145.length : Int) x38_2 l0_0 l0_1 l0_2 = some (r1, r2, r3)) ∧ Aside0 (kq ≤ k1) ∧ Aside0 (Kd.R (Kd.int .i64) 3 w' w.heap.size (fun _ => True) (.slice Ao22 y145.length co22) x8_2) ∧ Aside0 (w'.heap[gb142]? = some (.cells #[(.slice A0_0 l0_0.length c0_0), (.slice A0_1 l0_1.length c0_1), (.slice A0_2 l0_2.length c0_2)] 26 (0, 0))) ∧ Aside0 (w'.heap[gb143]? = some (.cells tabC 73 (0, 0))) ∧ Aside0 (Below w.heap.size w w'))
   case atStart => exact ⟨(y145), (0), tv, H', ⟨Nat.le_refl _⟩, ⟨by (with_reducible repeat (first | apply Kd.R_alloc | apply Kd.R_drewN | apply Kd.R_drew)); exact HO147.out⟩, ⟨by refine bu ?_; exact BK142.out⟩, ⟨by refine bu ?_; exact BK143.out⟩, ⟨bs⟩⟩
   case round =>
    clear H'
    try clear c1
    try clear c2
    try clear c2b0
    try clear c2b1
    try clear p2
    try clear p6
    try clear c8
    try clear c8b0
    try clear c10
    try clear c11
    try clear c12
    try clear c14
    try clear c18
    try clear c18b0
    try clear c18b1
    try clear c19
    try clear c19b0
    try clear c19b1
    try clear hcz12_0 hcz12_1 hcz12_2
    try clear hcz15_0 hcz15_1 hcz15_2
    try clear hcz4_0 hcz4_1 hcz4_2
    try clear hcz6_0 hcz6_1 hcz6_2
    try clear hfz12_0 hfz12_1 hfz12_2
    try clear hfz15_0 hfz15_1 hfz15_2
    try clear hfz4_0 hfz4_1 hfz4_2
    try clear hfz6_0 hfz6_1 hfz6_2
    try clear p2
    obtain ⟨x8_2, x38_2, rfl, HA, HK2, HO_8, BK142, BK143, HB⟩ := hrel
    have hl8_2 := (Kd.R_reads' HO_8.out).1
    rw [hl8_2] at HO_8
    (try simp only [hl8_2])
    (try simp only [hl8_2] at BK142)
    (try simp only [hl8_2] at BK143)
    cases gk with
    | zero => exact absurd HA.out (by simp [c_Heights.l1])
    | succ k2 =>
     have H := HA.out
     clear HA
     simp only [c_Heights.l1] at H
     by_cases c23 : x38_2 < (y145.length : Int)
     ·rw [if_pos c23] at H
      have c23b0 := decide_eq_true c23
      clear c23
      by_cases c24 : 0 ≤ x38_2
      rotate_left
      ·rw [if_neg c24] at H
       exact absurd H (by simp)
      rw [if_pos c24] at H
      have c24b0 := decide_eq_true c24
      clear c24
      by_cases c25 : x38_2 < (x8_2.length : Int)
      rotate_left
      ·rw [if_neg c25] at H
       exact absurd H (by simp)
      rw [if_pos c25] at H
      have c25b0 := decide_eq_true c25
      clear c25
      obtain ⟨y148, hy148⟩ : ∃ y_ : List Int, y_ = (x8_2.set (x38_2 : Int).toNat (-1)) := ⟨_, rfl⟩
      replace H : (c_Heights.l1 k2 (l0_0.length : Int) y148 (y145.length : Int) (wrap64 (x38_2 + 1)) l0_0 l0_1 l0_2) = some (r1, r2, r3) := by first | (rw [hy148]; with_reducible exact H) | (have H2_ := (Option.bind_some _ _).symm.trans H; rw [hy148]; with_reducible exact H2_) | (have H2_ := (Option.bind_some _ _).symm.trans H; with_reducible exact H2_) | with_reducible exact H | (rw [hy148]; exact H) | exact H
      have Ny148 := am hy148
      clear hy148
      have H' := am H
      clear H
      have p26 : 0 ≤ (x38_2 : Int) := of_decide_eq_true od
      have q26 : (x38_2 : Int) < ((x8_2.length : Int) : Int) := of_decide_eq_true od
      obtain ⟨go26, co26, eo26, gb26, gl26, cl26, HG26⟩ := Kd.R_form HO_8.out (by omega)
      (first | cases eo26 | (injection eo26 with ea_ en_ ec_; (first | subst ea_ | (injection ea_ with ea_; subst ea_)); subst ec_; clear en_))
      have GB26 := am gb26
      have GG26 := am HG26
      clear gb26 gl26 HG26
      obtain ⟨hx26_0, hf26_0⟩ := Kd.R_celln 0 HO_8.out (x38_2 : Int) p26 q26
      replace p26 := eq_true p26
      replace q26 := eq_true q26
      have HP27 := Kd.R_putg HO_8.out (x38_2 : Int) (-1)
      go_wp2_with (first | ((with_reducible refine gate_store (t := 3) (p := 43) rfl ?_); refine store_event (t := 3) (p := 43) (v := ?vo_w28) (w1 := (wr.setCell ⟨go26, (x38_2 : Int).toNat, none⟩ (.int .i64 (-1)))) ?hg ?ho ?hn ?hr ?_; (case ho => rfl); (case hg => rfl); (case hn => rfl); (case hr => first | (go_simp; done) | (go_simp; rfl)); intro w28 hw; have hg : wr.grownBy w28 (some go26) := (by rw [hw]; exact HP27.2); have hp_ : Kd.R (Kd.int .i64) 3 w28 w.heap.size (fun _ => True) (.slice (some ⟨go26, 0, none⟩) x8_2.length co22) y148 := (by rw [hw, Ny148.out]; exact HP27.1); clear HP27; have n0_ := am (hp_); have n1_ := am (blk_grown (g := gb142) (o := .cells #[.slice A0_0 l0_0.length c0_0, .slice A0_1 l0_1.length c0_1, .slice A0_2 l0_2.length c0_2] 26 (0, 0)) (bu BK142.out) hg (Kd.R_ne HO_8.out BK142.out (by decide))); have n2_ := am (blk_grown (g := gb143) (o := .cells tabC 73 (0, 0)) (bu BK143.out) hg (Kd.R_ne HO_8.out BK143.out (by decide))); have n3_ := am ((by rw [hw]; exact below_set (HB.out) GB26.out : Below w.heap.size w w28)); clear HO_8; clear BK142; clear BK143; clear HB; have HO_8 := n0_; have BK142 := n1_; have BK143 := n2_; have HB := n3_; clear n0_ n1_ n2_ n3_; clear hg hw hp_))
      (try simp only [← hl8_2])
      go_roundg k2
      case measure => have := HK1.out; have := HK2.out; omega
      case rel => exact ⟨(y148), (wrap64 (x38_2 + 1)), tv, H', ⟨by have := HK1.out; have := HK2.out; omega⟩, ⟨by (try simp only [hl8_2]); (with_reducible repeat (first | apply Kd.R_alloc | apply Kd.R_drewN | apply Kd.R_drew)); exact HO_8.out⟩, ⟨by (try simp only [hl8_2]); refine bu ?_; exact BK142.out⟩, ⟨by (try simp only [hl8_2]); refine bu ?_; exact BK143.out⟩, ⟨bs⟩⟩
     rw [if_neg c23] at H
     have c23b0 := decide_eq_false c23
     (try rw [hl8_2] at c23b0)
     clear c23
     by_cases c29 : 0 < (x8_2.length : Int)
     rotate_left
     ·rw [if_neg c29] at H
      exact absurd H (by simp)
     rw [if_pos c29] at H
     have c29b0 := decide_eq_true c29
     have c29b1 : decide (0 < x8_2.length) = true := decide_eq_true (by omega)
     clear c29
     obtain ⟨y149, hy149⟩ : ∃ y_ : List Int, y_ = (x8_2.set (0 : Int).toNat 0) := ⟨_, rfl⟩
     replace H : (c_Heights.l2 k2 (l0_0.length : Int) y149 l0_0 (l0_0.length : Int) 0) = some (r1, r2, r3) := by first | (rw [hy149]; with_reducible exact H) | (have H2_ := (Option.bind_some _ _).symm.trans H; rw [hy149]; with_reducible exact H2_) | (have H2_ := (Option.bind_some _ _).symm.trans H; with_reducible exact H2_) | with_reducible exact H | (rw [hy149]; exact H) | exact H
     have Ny149 := am hy149
     clear hy149
     have H' := am H
     clear H
     have p30 : 0 ≤ (0 : Int) := (by omega)
     have q30 : (0 : Int) < ((x8_2.length : Int) : Int) := of_decide_eq_true od
     have qi30 : (0 < x8_2.length) = True := eq_true (by omega)
     obtain ⟨go30, co30, eo30, gb30, gl30, cl30, HG30⟩ := Kd.R_form HO_8.out (by omega)
     (first | cases eo30 | (injection eo30 with ea_ en_ ec_; (first | subst ea_ | (injection ea_ with ea_; subst ea_)); subst ec_; clear en_))
     have GB30 := am gb30
     have GG30 := am HG30
     clear gb30 gl30 HG30
     obtain ⟨hx30_0, hf30_0⟩ := Kd.R_celln 0 HO_8.out (0 : Int) p30 q30
     (try rw [show ((0 : Int)).toNat = 0 from rfl] at hx30_0)
     (try simp only [Nat.reduceMul, Nat.zero_mul, Nat.zero_add, Nat.reduceAdd] at hx30_0)
     (try rw [show ((0 : Int)).toNat = 0 from rfl] at hf30_0)
     (try simp only [Nat.reduceMul, Nat.zero_mul, Nat.zero_add, Nat.reduceAdd] at hf30_0)
     replace p30 := eq_true p30
     replace q30 := eq_true q30
     have HP31 := Kd.R_putg HO_8.out (0 : Int) 0
     go_wp2_with (first | ((with_reducible refine gate_store (t := 3) (p := 46) rfl ?_); refine store_event (t := 3) (p := 46) (v := ?vo_w32) (w1 := (wr.setCell ⟨go30, (0 : Int).toNat, none⟩ (.int .i64 0))) ?hg ?ho ?hn ?hr ?_; (case ho => rfl); (case hg => rfl); (case hn => rfl); (case hr => first | (go_simp; done) | (go_simp; rfl)); intro w32 hw; have hg : wr.grownBy w32 (some go30) := (by rw [hw]; exact HP31.2); have hp_ : Kd.R (Kd.int .i64) 3 w32 w.heap.size (fun _ => True) (.slice (some ⟨go30, 0, none⟩) x8_2.length co22) y149 := (by rw [hw, Ny149.out]; exact HP31.1); clear HP31; have n0_ := am (hp_); have n1_ := am (blk_grown (g := gb142) (o := .cells #[.slice A0_0 l0_0.length c0_0, .slice A0_1 l0_1.length c0_1, .slice A0_2 l0_2.length c0_2] 26 (0, 0)) (bu BK142.out) hg (Kd.R_ne HO_8.out BK142.out (by decide))); have n2_ := am (blk_grown (g := gb143) (o := .cells tabC 73 (0, 0)) (bu BK143.out) hg (Kd.R_ne HO_8.out BK143.out (by decide))); have n3_ := am ((by rw [hw]; exact below_set (HB.out) GB30.out : Below w.heap.size w w32)); clear HO_8; clear BK142; clear BK143; clear HB; have HO_8 := n0_; have BK142 := n1_; have BK143 := n2_; have HB := n3_; clear n0_ n1_ n2_ n3_; clear hg hw hp_; have hnb33 := NB142_143.out; have hnc33 := NB143_142.out; obtain ⟨⟨hcz34_0, hcz34_1, hcz34_2⟩, hfz34_0, hfz34_1, hfz34_2⟩ := blkAll3 BK142))
     go_loopg [50] k2 (fun kq v50 w' => ∃ (x8_3 : List Int) (x50_3 : Int), v50 = .int .i64 x50_3 ∧ Aside0 (c_Heights.l2 kq (l0_0.length : Int) x8_3 l0_0 (l0_0.length : Int) x50_3 = some (r1, r2, r3)) ∧ Aside0 (kq ≤ k2) ∧ Aside0 (Kd.R (Kd.int .i64) 3 w' w.heap.size (fun _ => True) (.slice (some ⟨go30, 0, none⟩) x8_2.length co22) x8_3) ∧ Aside0 (w'.heap[gb142]? = some (.cells #[(.slice A0_0 l0_0.length c0_0), (.slice A0_1 l0_1.length c0_1), (.slice A0_2 l0_2.length c0_2)] 26 (0, 0))) ∧ Aside0 (w'.heap[gb143]? = some (.cells tabC 73 (0, 0))) ∧ Aside0 (Below w.heap.size w w'))
     case atStart => exact ⟨(y149), (0), tv, H', ⟨Nat.le_refl _⟩, ⟨by (try simp only [hl8_2]); (with_reducible repeat (first | apply Kd.R_alloc | apply Kd.R_drewN | apply Kd.R_drew)); exact HO_8.out⟩, ⟨by (try simp only [hl8_2]); refine bu ?_; exact BK142.out⟩, ⟨by (try simp only [hl8_2]); refine bu ?_; exact BK143.out⟩, ⟨bs⟩⟩
     case round =>
      clear H'
      try clear c1
      try clear c2
      try clear c2b0
      try clear c2b1
      try clear p2
      try clear q2
      try clear hx2
      try clear hf2
      try clear c3
      try clear p3
      try clear q3
      try clear hx3
      try clear qi3
      try clear hf3
      try clear p6
      try clear c8
      try clear c8b0
      try clear c10
      try clear c11
      try clear c12
      try clear c14
      try clear c18
      try clear c18b0
      try clear c18b1
      try clear c19
      try clear c19b0
      try clear c19b1
      try clear c23
      try clear c23b0
      try clear c24
      try clear c24b0
      try clear c25
      try clear c25b0
      try clear c26
      try clear p26
      try clear q26
      try clear hx26
      try clear hf26
      try clear c29
      try clear c29b0
      try clear c29b1
      try clear p30
      try clear q30
      try clear hx30
      try clear qi30
      try clear hf30
      try clear c33
      try clear hcz12_0 hcz12_1 hcz12_2
      try clear hcz15_0 hcz15_1 hcz15_2
      try clear hcz34_0 hcz34_1 hcz34_2
      try clear hcz4_0 hcz4_1 hcz4_2
      try clear hcz6_0 hcz6_1 hcz6_2
      try clear hfz12_0 hfz12_1 hfz12_2
      try clear hfz15_0 hfz15_1 hfz15_2
      try clear hfz34_0 hfz34_1 hfz34_2
      try clear hfz4_0 hfz4_1 hfz4_2
      try clear hfz6_0 hfz6_1 hfz6_2
      try clear hx26_0
      try clear hx30_0
      try clear p2
      try clear p26
      try clear p30
      try clear p6
      try clear q26
      try clear q30
      obtain ⟨x8_3, x50_3, rfl, HA, HK3, HO_8, BK142, BK143, HB⟩ := hrel
      have hl8_3 := (Kd.R_reads' HO_8.out).1
      rw [hl8_3] at HO_8
      (try simp only [hl8_3])
      (try simp only [hl8_3] at BK142)
      (try simp only [hl8_3] at BK143)
      cases gk with
      | zero => exact absurd HA.out (by simp [c_Heights.l2])
      | succ k3 =>
       have H := HA.out
       clear HA
       simp only [c_Heights.l2] at H
       by_cases c35 : x50_3 < (l0_0.length : Int)
       rotate_left
       ·rw [if_neg c35] at H
        have c35b0 := decide_eq_false c35
        clear c35
        by_cases c84 : 0 ≤ (l0_0.length : Int)
        rotate_left
        ·rw [if_neg c84] at H
         exact absurd H (by simp)
        rw [if_pos c84] at H
        have c84b0 := decide_eq_true c84
        have c84b1 : decide (0 ≤ l0_0.length) = true := decide_eq_true (by omega)
        clear c84
        by_cases c85 : (l0_0.length : Int) < (x8_3.length : Int)
        rotate_left
        ·rw [if_neg c85] at H
         exact absurd H (by simp)
        rw [if_pos c85] at H
        have c85b0 := decide_eq_true c85
        have c85b1 : decide (l0_0.length < x8_3.length) = true := decide_eq_true (Int.ofNat_lt.mp c85)
        clear c85
        by_cases c86 : (rd x8_3 (l0_0.length : Int)) = 1
        ·rw [if_pos c86] at H
         have c86b0 : ((rd x8_3 (l0_0.length : Int)) == 1) = true := beq_iff_eq.mpr c86
         have c86b1 : ((rd x8_3 (l0_0.length : Int)) != 1) = false := bne_eq_false_iff_eq.mpr c86
         clear c86
         simp only [Option.some.injEq, Prod.mk.injEq] at H
         obtain ⟨rfl, rfl, rfl⟩ := H
         have p150 : 0 ≤ ((l0_0.length : Int) : Int) := of_decide_eq_true od
         have q150 : (l0_0.length : Int) < (x8_3.length : Int) := of_decide_eq_true od
         obtain ⟨ad150, e150, hx150_0⟩ := Kd.at_int (Kd.R_reads' HO_8.out).2.2 (l0_0.length : Int) p150 q150
         obtain rfl : (⟨go30, 0, none⟩ : Addr) = ad150 := (by injection e150)
         (first | simp only [add_plain] at hx150_0 | simp only [add_at] at hx150_0 | simp only [Addr.add, Nat.zero_add] at hx150_0 | skip)
         (try simp only [Go.IntWalk.toNatUp] at hx150_0)
         (try simp only [hl8_2, hl8_3] at p150)
         (try simp only [hl8_2, hl8_3] at q150)
         (try simp only [hl8_2, hl8_3] at hx150_0)
         replace p150 := eq_true p150
         replace q150 := eq_true q150
         go_wp2
         go_ret3
         exact ⟨_, by first | rfl | (simp [errW_none, errW_some] <;> rfl) | (simp only [← hji17]; first | rfl | (simp [errW_none, errW_some] <;> rfl)) | (simp [*, errW_none, errW_some] <;> rfl), by (with_reducible repeat (first | apply Kd.R_alloc | apply Kd.R_drewN | apply Kd.R_drew)); exact HO_8.out, bs⟩
        rw [if_neg c86] at H
        have c86b0 : ((rd x8_3 (l0_0.length : Int)) == 1) = false := beq_eq_false_iff_ne.mpr c86
        have c86b1 : ((rd x8_3 (l0_0.length : Int)) != 1) = true := bne_iff_ne.mpr c86
        simp only [Option.some.injEq, Prod.mk.injEq] at H
        obtain ⟨rfl, rfl, rfl⟩ := H
        have p150 : 0 ≤ ((l0_0.length : Int) : Int) := of_decide_eq_true od
        have q150 : (l0_0.length : Int) < (x8_3.length : Int) := of_decide_eq_true od
        obtain ⟨ad150, e150, hx150_0⟩ := Kd.at_int (Kd.R_reads' HO_8.out).2.2 (l0_0.length : Int) p150 q150
        obtain rfl : (⟨go30, 0, none⟩ : Addr) = ad150 := (by injection e150)
        (first | simp only [add_plain] at hx150_0 | simp only [add_at] at hx150_0 | simp only [Addr.add, Nat.zero_add] at hx150_0 | skip)
        (try simp only [Go.IntWalk.toNatUp] at hx150_0)
        (try simp only [hl8_2, hl8_3] at p150)
        (try simp only [hl8_2, hl8_3] at q150)
        (try simp only [hl8_2, hl8_3] at hx150_0)
        replace p150 := eq_true p150
        replace q150 := eq_true q150
        go_wp2
        go_ret3
        exact ⟨_, by first | rfl | (simp [errW_none, errW_some] <;> rfl) | (simp only [← hji17]; first | rfl | (simp [errW_none, errW_some] <;> rfl)) | (simp [*, errW_none, errW_some] <;> rfl), by first | exact Kd.R_nil _ _ _ _ _ | exact Kd.N_nil _ _ _ _ _ | exact Kd.V_nil _ _ _ _ _ | exact Kd.Q_nil _ _ _ _ _ | exact Kd.S_nil _ _ _ _ _, bs⟩
       rw [if_pos c35] at H
       have c35b0 := decide_eq_true c35
       clear c35
       by_cases c36 : 0 ≤ x50_3
       rotate_left
       ·rw [if_neg c36] at H
        exact absurd H (by simp)
       rw [if_pos c36] at H
       have c36b0 := decide_eq_true c36
       clear c36
       by_cases c37 : x50_3 < (l0_0.length : Int)
       rotate_left
       ·rw [if_neg c37] at H
        exact absurd H (by simp)
       rw [if_pos c37] at H
       have c37b0 := decide_eq_true c37
       clear c37
       by_cases c38 : x50_3 < (x8_3.length : Int)
       rotate_left
       ·rw [if_neg c38] at H
        exact absurd H (by simp)
       rw [if_pos c38] at H
       have c38b0 := decide_eq_true c38
       clear c38
       by_cases c39 : (rd x8_3 x50_3) < 0
       ·rw [if_pos c39] at H
        have c39b0 := decide_eq_true c39
        clear c39
        have H' := am H
        clear H
        have p151 : 0 ≤ (x50_3 : Int) := of_decide_eq_true od
        have q151 : x50_3 < (l0_0.length : Int) := of_decide_eq_true od
        obtain ⟨ad151, e151, hx151_0, hx151_1, hx151_2⟩ := at_T41 HR0_0.out x50_3 p151 q151
        cases e151
        replace hx151_0 := (HB.out.cell (World.block_lt_of_cell? w _ hx151_0)).trans hx151_0
        replace hx151_1 := (HB.out.cell (World.block_lt_of_cell? w _ hx151_1)).trans hx151_1
        replace hx151_2 := (HB.out.cell (World.block_lt_of_cell? w _ hx151_2)).trans hx151_2
        replace p151 := eq_true p151
        replace q151 := eq_true q151
        go_wp2_with (first | ((with_reducible refine gate_dst (N := 11) rfl ?_); refine box_event ?hg (N := 11) ?hd (cs := #[.int .i64 0, .int .i64 0, .int .i64 0]) (t := 41) ?hr ?_; (case hd => rfl); (case hg => rfl); (case hr => first | (go_simp; done) | (go_simp; rfl)); intro gb152 hg w40 hbox hb; have n0_ := am (Kd.R_below (by (with_reducible repeat (first | apply Kd.R_alloc | apply Kd.R_drewN | apply Kd.R_drew)); exact HO_8.out) hb); have n1_ := am (blk_below (bu BK142.out) hb); have n2_ := am (blk_below (bu BK143.out) hb); have n3_ := am (below_step bs hb); have n4_ := am (hbox); have n5_ := am ((by rw [hg]; exact (below_size bs) : w.heap.size ≤ gb152)); have n6_ := am ((by rw [hg]; exact (below_size bs) : w.heap.size ≤ gb152)); have n7_ := am ((by rw [hg]; exact Nat.ne_of_lt (blk_lt (bu BK142.out)) : gb142 ≠ gb152)); have n8_ := am ((by rw [hg]; exact Nat.ne_of_gt (blk_lt (bu BK142.out)) : gb152 ≠ gb142)); have n9_ := am ((by rw [hg]; exact Nat.ne_of_lt (blk_lt (bu BK143.out)) : gb143 ≠ gb152)); have n10_ := am ((by rw [hg]; exact Nat.ne_of_gt (blk_lt (bu BK143.out)) : gb152 ≠ gb143)); clear HO_8; clear BK142; clear BK143; clear HB; have HO_8 := n0_; have BK142 := n1_; have BK143 := n2_; have HB := n3_; have BK152 := n4_; have GW152 := n5_; have GE152 := n6_; have NB142_152 := n7_; have NB152_142 := n8_; have NB143_152 := n9_; have NB152_143 := n10_; clear n0_ n1_ n2_ n3_ n4_ n5_ n6_ n7_ n8_ n9_ n10_; clear hb hbox hg; have hnb41 := NB152_142.out; have hnc41 := NB142_152.out; have hnb42 := NB152_143.out; have hnc42 := NB143_152.out; obtain ⟨⟨hcz43_0, hcz43_1, hcz43_2⟩, hfz43_0, hfz43_1, hfz43_2⟩ := blkAll3 BK152; have p153 : 0 ≤ (x50_3 : Int) := of_decide_eq_true od; have q153 : x50_3 < (x8_3.length : Int) := of_decide_eq_true od; obtain ⟨ad153, e153, hx153_0⟩ := Kd.at_int (Kd.R_reads' HO_8.out).2.2 x50_3 p153 q153; obtain rfl : (⟨go30, 0, none⟩ : Addr) = ad153 := (by injection e153); (first | simp only [add_plain] at hx153_0 | simp only [add_at] at hx153_0 | simp only [Addr.add, Nat.zero_add] at hx153_0 | skip); have hn153_0 : (⟨go30, 0, none⟩ : Addr).block ≠ gb152 := Kd.own_blk (Kd.R_ne HO_8.out BK152.out (by decide)); have hn153_1 : (⟨go30, 0, none⟩ : Addr).block ≠ gb152 := Kd.own_blk (Kd.R_ne HO_8.out BK152.out (by decide)); have hn153_2 : (⟨go30, 0, none⟩ : Addr).block ≠ gb152 := Kd.own_blk (Kd.R_ne HO_8.out BK152.out (by decide)); replace hx153_0 := (cell_far (p := ⟨gb152, 0, none⟩) (by first | (rw [add_block]; exact hn153_0) | (show (Addr.add _ _).block ≠ _; rw [add_block]; exact hn153_0) | exact hn153_0) (.int .i64 ((rd_T41 l0_0 x50_3).f0))).trans hx153_0; replace hx153_0 := (cell_far (p := ⟨gb152, 1, none⟩) (by first | (rw [add_block]; exact hn153_1) | (show (Addr.add _ _).block ≠ _; rw [add_block]; exact hn153_1) | exact hn153_1) (.int .i64 ((rd_T41 l0_0 x50_3).f1))).trans hx153_0; replace hx153_0 := (cell_far (p := ⟨gb152, 2, none⟩) (by first | (rw [add_block]; exact hn153_2) | (show (Addr.add _ _).block ≠ _; rw [add_block]; exact hn153_2) | exact hn153_2) (.int .i64 ((rd_T41 l0_0 x50_3).f2))).trans hx153_0; clear hn153_0; clear hn153_1; clear hn153_2; replace p153 := eq_true p153; replace q153 := eq_true q153))
        (try simp only [← hl8_3])
        go_roundg k3
        case measure => have := HK1.out; have := HK2.out; have := HK3.out; omega
        case rel => exact ⟨(x8_3), (wrap64 (x50_3 + 1)), tv, H', ⟨by have := HK1.out; have := HK2.out; have := HK3.out; omega⟩, ⟨by (try simp only [hl8_2]); (try simp only [hl8_3]); (with_reducible repeat (first | apply Kd.R_alloc | apply Kd.R_drewN | apply Kd.R_drew)); exact Kd.R_mono (Kd.R_far (p := ⟨gb152, 2, none⟩) (Kd.R_far (p := ⟨gb152, 1, none⟩) (Kd.R_far (p := ⟨gb152, 0, none⟩) (Kd.R_types HO_8.out BK152.out (by decide)) (fun _ hk => hk.2) (.int .i64 ((rd_T41 l0_0 x50_3).f0))) (fun _ hk => hk.2) (.int .i64 ((rd_T41 l0_0 x50_3).f1))) (fun _ hk => hk.2) (.int .i64 ((rd_T41 l0_0 x50_3).f2))) (fun _ hk => trivial)⟩, ⟨by (try simp only [hl8_2]); (try simp only [hl8_3]); refine bu ?_; refine blk_far ?_ NB142_152.out _; refine bu ?_; refine blk_far ?_ NB142_152.out _; refine bu ?_; refine blk_far ?_ NB142_152.out _; refine bu ?_; exact BK142.out⟩, ⟨by (try simp only [hl8_2]); (try simp only [hl8_3]); refine bu ?_; refine blk_far ?_ NB143_152.out _; refine bu ?_; refine blk_far ?_ NB143_152.out _; refine bu ?_; refine blk_far ?_ NB143_152.out _; refine bu ?_; exact BK143.out⟩, ⟨bs⟩⟩
       rw [if_neg c39] at H
       have c39b0 := decide_eq_false c39
       clear c39
       by_cases c44 : 0 ≤ ((rd_T41 l0_0 x50_3).f0)
       rotate_left
       ·rw [if_neg c44] at H
        exact absurd H (by simp)
       rw [if_pos c44] at H
       have c44b0 := decide_eq_true c44
       clear c44
       by_cases c45 : ((rd_T41 l0_0 x50_3).f0) < (tabL.length : Int)
       rotate_left
       ·rw [if_neg c45] at H
        exact absurd H (by simp)
       rw [if_pos c45] at H
       have c45b0 := decide_eq_true c45
       clear c45
       replace H := Option.bind_eq_some_iff.mp H
       obtain ⟨⟨t155, t156⟩, A460, H⟩ := H
       replace H : (if (rd x8_3 x50_3) < t155 then (c_Heights.j3 k3 (l0_0.length : Int) x8_3 x50_3 (wrap64 ((wrap64 ((rd x8_3 x50_3) - t155)) + t156)) l0_0 (l0_0.length : Int) x50_3 true ((rd_T41 l0_0 x50_3).f0) ((rd_T41 l0_0 x50_3).f1) ((rd_T41 l0_0 x50_3).f2)) else (c_Heights.j3 k3 (l0_0.length : Int) x8_3 x50_3 (wrap64 ((wrap64 ((rd x8_3 x50_3) - t155)) + t156)) l0_0 (l0_0.length : Int) x50_3 (decide ((wrap64 ((wrap64 ((rd x8_3 x50_3) - t155)) + t156)) > 32768)) ((rd_T41 l0_0 x50_3).f0) ((rd_T41 l0_0 x50_3).f1) ((rd_T41 l0_0 x50_3).f2))) = some (r1, r2, r3) := H
       have A46 := am A460
       clear A460
       have HC47 := am H
       clear H
       have p151 : 0 ≤ (x50_3 : Int) := of_decide_eq_true od
       have q151 : x50_3 < (l0_0.length : Int) := of_decide_eq_true od
       obtain ⟨ad151, e151, hx151_0, hx151_1, hx151_2⟩ := at_T41 HR0_0.out x50_3 p151 q151
       cases e151
       replace hx151_0 := (HB.out.cell (World.block_lt_of_cell? w _ hx151_0)).trans hx151_0
       replace hx151_1 := (HB.out.cell (World.block_lt_of_cell? w _ hx151_1)).trans hx151_1
       replace hx151_2 := (HB.out.cell (World.block_lt_of_cell? w _ hx151_2)).trans hx151_2
       replace p151 := eq_true p151
       replace q151 := eq_true q151
       try go_wp2_with (first | ((with_reducible refine gate_dst (N := 11) rfl ?_); refine box_event ?hg (N := 11) ?hd (cs := #[.int .i64 0, .int .i64 0, .int .i64 0]) (t := 41) ?hr ?_; (case hd => rfl); (case hg => rfl); (case hr => first | (go_simp; done) | (go_simp; rfl)); intro gb152 hg w48 hbox hb; have n0_ := am (Kd.R_below (by (with_reducible repeat (first | apply Kd.R_alloc | apply Kd.R_drewN | apply Kd.R_drew)); exact HO_8.out) hb); have n1_ := am (blk_below (bu BK142.out) hb); have n2_ := am (blk_below (bu BK143.out) hb); have n3_ := am (below_step bs hb); have n4_ := am (hbox); have n5_ := am ((by rw [hg]; exact (below_size bs) : w.heap.size ≤ gb152)); have n6_ := am ((by rw [hg]; exact (below_size bs) : w.heap.size ≤ gb152)); have n7_ := am ((by rw [hg]; exact Nat.ne_of_lt (blk_lt (bu BK142.out)) : gb142 ≠ gb152)); have n8_ := am ((by rw [hg]; exact Nat.ne_of_gt (blk_lt (bu BK142.out)) : gb152 ≠ gb142)); have n9_ := am ((by rw [hg]; exact Nat.ne_of_lt (blk_lt (bu BK143.out)) : gb143 ≠ gb152)); have n10_ := am ((by rw [hg]; exact Nat.ne_of_gt (blk_lt (bu BK143.out)) : gb152 ≠ gb143)); clear HO_8; clear BK142; clear BK143; clear HB; have HO_8 := n0_; have BK142 := n1_; have BK143 := n2_; have HB := n3_; have BK152 := n4_; have GW152 := n5_; have GE152 := n6_; have NB142_152 := n7_; have NB152_142 := n8_; have NB143_152 := n9_; have NB152_143 := n10_; clear n0_ n1_ n2_ n3_ n4_ n5_ n6_ n7_ n8_ n9_ n10_; clear hb hbox hg; have hnb49 := NB152_142.out; have hnc49 := NB142_152.out; have hnb50 := NB152_143.out; have hnc50 := NB143_152.out; obtain ⟨⟨hcz51_0, hcz51_1, hcz51_2⟩, hfz51_0, hfz51_1, hfz51_2⟩ := blkAll3 BK152; have p153 : 0 ≤ (x50_3 : Int) := of_decide_eq_true od; have q153 : x50_3 < (x8_3.length : Int) := of_decide_eq_true od; obtain ⟨ad153, e153, hx153_0⟩ := Kd.at_int (Kd.R_reads' HO_8.out).2.2 x50_3 p153 q153; obtain rfl : (⟨go30, 0, none⟩ : Addr) = ad153 := (by injection e153); (first | simp only [add_plain] at hx153_0 | simp only [add_at] at hx153_0 | simp only [Addr.add, Nat.zero_add] at hx153_0 | skip); have hn153_0 : (⟨go30, 0, none⟩ : Addr).block ≠ gb152 := Kd.own_blk (Kd.R_ne HO_8.out BK152.out (by decide)); have hn153_1 : (⟨go30, 0, none⟩ : Addr).block ≠ gb152 := Kd.own_blk (Kd.R_ne HO_8.out BK152.out (by decide)); have hn153_2 : (⟨go30, 0, none⟩ : Addr).block ≠ gb152 := Kd.own_blk (Kd.R_ne HO_8.out BK152.out (by decide)); replace hx153_0 := (cell_far (p := ⟨gb152, 0, none⟩) (by first | (rw [add_block]; exact hn153_0) | (show (Addr.add _ _).block ≠ _; rw [add_block]; exact hn153_0) | exact hn153_0) (.int .i64 ((rd_T41 l0_0 x50_3).f0))).trans hx153_0; replace hx153_0 := (cell_far (p := ⟨gb152, 1, none⟩) (by first | (rw [add_block]; exact hn153_1) | (show (Addr.add _ _).block ≠ _; rw [add_block]; exact hn153_1) | exact hn153_1) (.int .i64 ((rd_T41 l0_0 x50_3).f1))).trans hx153_0; replace hx153_0 := (cell_far (p := ⟨gb152, 2, none⟩) (by first | (rw [add_block]; exact hn153_2) | (show (Addr.add _ _).block ≠ _; rw [add_block]; exact hn153_2) | exact hn153_2) (.int .i64 ((rd_T41 l0_0 x50_3).f2))).trans hx153_0; clear hn153_0; clear hn153_1; clear hn153_2; replace p153 := eq_true p153; replace q153 := eq_true q153))
       have n0_ : Aside0 (Kd.R (Kd.int .i64) 3 (((w48.setCell ⟨gb152, 0, none⟩ (.int .i64 ((rd_T41 l0_0 x50_3).f0))).setCell ⟨gb152, 1, none⟩ (.int .i64 ((rd_T41 l0_0 x50_3).f1))).setCell ⟨gb152, 2, none⟩ (.int .i64 ((rd_T41 l0_0 x50_3).f2))) w.heap.size (fun _ => True) (.slice (some ⟨go30, 0, none⟩) x8_3.length co22) x8_3) := ⟨by (with_reducible repeat (first | apply Kd.R_alloc | apply Kd.R_drewN | apply Kd.R_drew)); exact Kd.R_mono (Kd.R_far (p := ⟨gb152, 2, none⟩) (Kd.R_far (p := ⟨gb152, 1, none⟩) (Kd.R_far (p := ⟨gb152, 0, none⟩) (Kd.R_types HO_8.out BK152.out (by decide)) (fun _ hk => hk.2) (.int .i64 ((rd_T41 l0_0 x50_3).f0))) (fun _ hk => hk.2) (.int .i64 ((rd_T41 l0_0 x50_3).f1))) (fun _ hk => hk.2) (.int .i64 ((rd_T41 l0_0 x50_3).f2))) (fun _ hk => trivial)⟩
       have n1_ : Aside0 ((((w48.setCell ⟨gb152, 0, none⟩ (.int .i64 ((rd_T41 l0_0 x50_3).f0))).setCell ⟨gb152, 1, none⟩ (.int .i64 ((rd_T41 l0_0 x50_3).f1))).setCell ⟨gb152, 2, none⟩ (.int .i64 ((rd_T41 l0_0 x50_3).f2))).heap[gb142]? = some (.cells #[.slice (some ad151) l0_0.length c0_0, .slice A0_1 l0_1.length c0_1, .slice A0_2 l0_2.length c0_2] 26 (0, 0))) := ⟨by refine bu ?_; refine blk_far ?_ NB142_152.out _; refine bu ?_; refine blk_far ?_ NB142_152.out _; refine bu ?_; refine blk_far ?_ NB142_152.out _; refine bu ?_; exact BK142.out⟩
       have n2_ : Aside0 ((((w48.setCell ⟨gb152, 0, none⟩ (.int .i64 ((rd_T41 l0_0 x50_3).f0))).setCell ⟨gb152, 1, none⟩ (.int .i64 ((rd_T41 l0_0 x50_3).f1))).setCell ⟨gb152, 2, none⟩ (.int .i64 ((rd_T41 l0_0 x50_3).f2))).heap[gb143]? = some (.cells tabC 73 (0, 0))) := ⟨by refine bu ?_; refine blk_far ?_ NB143_152.out _; refine bu ?_; refine blk_far ?_ NB143_152.out _; refine bu ?_; refine blk_far ?_ NB143_152.out _; refine bu ?_; exact BK143.out⟩
       have n3_ : Aside0 ((((w48.setCell ⟨gb152, 0, none⟩ (.int .i64 ((rd_T41 l0_0 x50_3).f0))).setCell ⟨gb152, 1, none⟩ (.int .i64 ((rd_T41 l0_0 x50_3).f1))).setCell ⟨gb152, 2, none⟩ (.int .i64 ((rd_T41 l0_0 x50_3).f2))).heap[gb152]? = some (.cells #[.int .i64 ((rd_T41 l0_0 x50_3).f0), .int .i64 ((rd_T41 l0_0 x50_3).f1), .int .i64 ((rd_T41 l0_0 x50_3).f2)] 41 (0, 0))) := ⟨by refine bu ?_; refine blk_put (cs := #[.int .i64 ((rd_T41 l0_0 x50_3).f0), .int .i64 ((rd_T41 l0_0 x50_3).f1), .int .i64 0]) ?_ 2 _ rfl; refine bu ?_; refine blk_put (cs := #[.int .i64 ((rd_T41 l0_0 x50_3).f0), .int .i64 0, .int .i64 0]) ?_ 1 _ rfl; refine bu ?_; refine blk_put (cs := #[.int .i64 0, .int .i64 0, .int .i64 0]) ?_ 0 _ rfl; refine bu ?_; exact BK152.out⟩
       have n4_ : Aside0 (Below w.heap.size w (((w48.setCell ⟨gb152, 0, none⟩ (.int .i64 ((rd_T41 l0_0 x50_3).f0))).setCell ⟨gb152, 1, none⟩ (.int .i64 ((rd_T41 l0_0 x50_3).f1))).setCell ⟨gb152, 2, none⟩ (.int .i64 ((rd_T41 l0_0 x50_3).f2)))) := ⟨bs⟩
       (try clear HO_8)
       (try clear BK142)
       (try clear BK143)
       (try clear BK152)
       (try clear HB)
       generalize (((w48.setCell ⟨gb152, 0, none⟩ (.int .i64 ((rd_T41 l0_0 x50_3).f0))).setCell ⟨gb152, 1, none⟩ (.int .i64 ((rd_T41 l0_0 x50_3).f1))).setCell ⟨gb152, 2, none⟩ (.int .i64 ((rd_T41 l0_0 x50_3).f2))) = w52 at n0_ n1_ n2_ n3_ n4_ ⊢
       have HO_8 := n0_
       have BK142 := n1_
       have BK143 := n2_
       have BK152 := n3_
       have HB := n4_
       clear n0_ n1_ n2_ n3_ n4_
       have n0_ := am (Kd.R_drew HO_8.out)
       have n1_ := am (blk_drew BK142.out)
       have n2_ := am (blk_drew BK143.out)
       have n3_ := am (blk_drew BK152.out)
       have n4_ := am (below_drew1 HB.out)
       clear HO_8
       clear BK142
       clear BK143
       clear BK152
       clear HB
       have HO_8 := n0_
       have BK142 := n1_
       have BK143 := n2_
       have BK152 := n3_
       have HB := n4_
       clear n0_ n1_ n2_ n3_ n4_
       have p154 : 0 ≤ (((rd_T41 l0_0 x50_3).f0) : Int) := of_decide_eq_true od
       have q154 : ((rd_T41 l0_0 x50_3).f0) < (tabL.length : Int) := of_decide_eq_true od
       have q154n : (((rd_T41 l0_0 x50_3).f0) < 34) = True := eq_true (by have h_ := q154; rw [tabL_len] at h_; exact h_)
       obtain ⟨adq_, e154, hx154_0, hx154_1, hx154_2, hx154_3, hx154_4⟩ := at_T72 (tab_rowsA hadT_.out BK143.out) ((rd_T41 l0_0 x50_3).f0) p154 q154
       obtain rfl := Option.some.inj e154
       replace p154 := eq_true p154
       replace q154 := eq_true q154
       refine start_ (n := 11) (S := fun w' => w'.cell? ⟨gb152, 0, none⟩ = some (.int .i64 ((rd_T41 l0_0 x50_3).f0)) ∧ w'.cell? ⟨gb152, 1, none⟩ = some (.int .i64 ((rd_T41 l0_0 x50_3).f1)) ∧ w'.cell? ⟨gb152, 2, none⟩ = some (.int .i64 ((rd_T41 l0_0 x50_3).f2)) ∧ w'.cell? (adT_.add ((((rd_T41 l0_0 x50_3).f0)).toNat * 5)) = some (.string ((rd_T72 tabL ((rd_T41 l0_0 x50_3).f0)).f0)) ∧ w'.cell? ⟨(adT_.add ((((rd_T41 l0_0 x50_3).f0)).toNat * 5)).block, (adT_.add ((((rd_T41 l0_0 x50_3).f0)).toNat * 5)).off + 1, none⟩ = some (.int .i64 ((rd_T72 tabL ((rd_T41 l0_0 x50_3).f0)).f1)) ∧ w'.cell? ⟨(adT_.add ((((rd_T41 l0_0 x50_3).f0)).toNat * 5)).block, (adT_.add ((((rd_T41 l0_0 x50_3).f0)).toNat * 5)).off + 2, none⟩ = some (.int .i64 ((rd_T72 tabL ((rd_T41 l0_0 x50_3).f0)).f2)) ∧ w'.cell? ⟨(adT_.add ((((rd_T41 l0_0 x50_3).f0)).toNat * 5)).block, (adT_.add ((((rd_T41 l0_0 x50_3).f0)).toNat * 5)).off + 3, none⟩ = some (.int .i64 ((rd_T72 tabL ((rd_T41 l0_0 x50_3).f0)).f3)) ∧ w'.cell? ⟨(adT_.add ((((rd_T41 l0_0 x50_3).f0)).toNat * 5)).block, (adT_.add ((((rd_T41 l0_0 x50_3).f0)).toNat * 5)).off + 4, none⟩ = some (.int .i64 ((rd_T72 tabL ((rd_T41 l0_0 x50_3).f0)).f4))) (ds := []) #[false, false, false, false, false, false, false, false, false, false, false] (by kernel_rfl) rfl rfl ⟨(blk_cell BK152.out 0).trans rfl, (blk_cell BK152.out 1).trans rfl, (blk_cell BK152.out 2).trans rfl, hx154_0, hx154_1, hx154_2, hx154_3, hx154_4⟩ (fun hHeld => ?_); refine with_tabW c_Heights.tab22 c_Heights.bits22 (fun HT_ HW_ => ?_)
       generalize w52.drew = w53 at HO_8 BK142 BK143 BK152 HB hx154_0 hx154_1 hx154_2 hx154_3 hx154_4 hHeld ⊢
       refine pure_ (i := 0) (N := some 61) (v := ?_) (a' := ?_) #[true, false, false, false, false, false, false, false, false, false, false] rfl rfl (any_of HT_.out (by kernel_rfl)) (fun _ _ _ h => h) (Or.inl ⟨by rfl, ?_⟩) ?_ ?_
       rotate_left
       ·intro w'
        go_simp
        with_reducible rfl
       rotate_left
       ·simp only [Act.put, List.setIfInBounds_toArray, List.set_cons_zero, List.set_cons_succ, i64_w, i32_w]
        rfl
       refine take_ (i := 1) (N := some 62) (v := ?_) (a' := ?_) #[true, true, false, false, false, false, false, false, false, false, false] rfl rfl (take_ofW HT_.out HW_.out (by kernel_rfl)) (fun _ _ _ h => h) (Or.inl ⟨by rfl, ?_⟩) hHeld ?_ ?_
       rotate_left
       ·rintro w' ⟨s0, s1, s2, s3, s4, s5, s6, s7⟩
        go_simp
        with_reducible rfl
       rotate_left
       ·simp only [Act.put, List.setIfInBounds_toArray, List.set_cons_zero, List.set_cons_succ, i64_w, i32_w]
        rfl
       refine pure_ (i := 2) (N := some 63) (v := ?_) (a' := ?_) #[true, true, true, false, false, false, false, false, false, false, false] rfl rfl (any_of HT_.out (by kernel_rfl)) (fun _ _ _ h => h) (Or.inl ⟨by rfl, ?_⟩) ?_ ?_
       rotate_left
       ·intro w'
        go_simp
        with_reducible rfl
       rotate_left
       ·simp only [Act.put, List.setIfInBounds_toArray, List.set_cons_zero, List.set_cons_succ, i64_w, i32_w]
        rfl
       refine take_ (i := 3) (N := some 64) (v := ?_) (a' := ?_) #[true, true, true, true, false, false, false, false, false, false, false] rfl rfl (take_ofW HT_.out HW_.out (by kernel_rfl)) (fun _ _ _ h => h) (Or.inl ⟨by rfl, ?_⟩) hHeld ?_ ?_
       rotate_left
       ·rintro w' ⟨s0, s1, s2, s3, s4, s5, s6, s7⟩
        go_simp
        with_reducible rfl
       rotate_left
       ·simp only [Act.put, List.setIfInBounds_toArray, List.set_cons_zero, List.set_cons_succ, i64_w, i32_w]
        rfl
       refine take_ (i := 4) (N := some 65) (v := ?_) (a' := ?_) #[true, true, true, true, true, false, false, false, false, false, false] rfl rfl (take_ofW HT_.out HW_.out (by kernel_rfl)) (fun _ _ _ h => h) (Or.inl ⟨by rfl, ?_⟩) hHeld ?_ ?_
       rotate_left
       ·rintro w' ⟨s0, s1, s2, s3, s4, s5, s6, s7⟩
        go_simp
        with_reducible rfl
       rotate_left
       ·simp only [Act.put, List.setIfInBounds_toArray, List.set_cons_zero, List.set_cons_succ, i64_w, i32_w]
        rfl
       refine one_ (i := 5) (N := some 66) #[true, true, true, true, true, true, false, false, false, false, false] rfl rfl (one_of HT_.out (by kernel_rfl)) (by decide) (fun K hK => ?_)
       refine goes_ Tryd.func27 (by kernel_rfl) rfl #[.agg #[.string ((rd_T72 tabL ((rd_T41 l0_0 x50_3).f0)).f0), .int .i64 ((rd_T72 tabL ((rd_T41 l0_0 x50_3).f0)).f1), .int .i64 ((rd_T72 tabL ((rd_T41 l0_0 x50_3).f0)).f2), .int .i64 ((rd_T72 tabL ((rd_T41 l0_0 x50_3).f0)).f3), .int .i64 ((rd_T72 tabL ((rd_T41 l0_0 x50_3).f0)).f4)], .agg #[.int .i64 ((rd_T41 l0_0 x50_3).f0), .int .i64 ((rd_T41 l0_0 x50_3).f1), .int .i64 ((rd_T41 l0_0 x50_3).f2)]] (by rfl) rfl rfl ls ?_
       with_reducible refine (c_row_effect.calls ((rd_T72 tabL ((rd_T41 l0_0 x50_3).f0)).f0) ((rd_T72 tabL ((rd_T41 l0_0 x50_3).f0)).f1) ((rd_T72 tabL ((rd_T41 l0_0 x50_3).f0)).f2) ((rd_T72 tabL ((rd_T41 l0_0 x50_3).f0)).f3) ((rd_T72 tabL ((rd_T41 l0_0 x50_3).f0)).f4) ((rd_T41 l0_0 x50_3).f0) ((rd_T41 l0_0 x50_3).f1) ((rd_T41 l0_0 x50_3).f2) t155 t156 _ A46.out).mono ?_
       rintro e w54 ⟨rfl, hb⟩
       have HS3_ := (hb.cell (World.block_lt_of_cell? _ _ (hHeld.2.2.2.1))).trans (hHeld.2.2.2.1)
       have HS4_ := (hb.cell (World.block_lt_of_cell? _ _ (hHeld.2.2.2.2.1))).trans (hHeld.2.2.2.2.1)
       have HS5_ := (hb.cell (World.block_lt_of_cell? _ _ (hHeld.2.2.2.2.2.1))).trans (hHeld.2.2.2.2.2.1)
       have HS6_ := (hb.cell (World.block_lt_of_cell? _ _ (hHeld.2.2.2.2.2.2.1))).trans (hHeld.2.2.2.2.2.2.1)
       have HS7_ := (hb.cell (World.block_lt_of_cell? _ _ (hHeld.2.2.2.2.2.2.2))).trans (hHeld.2.2.2.2.2.2.2)
       refine ⟨_, rfl, ?_⟩
       have n0_ := am (Kd.R_below (by (with_reducible repeat (first | apply Kd.R_alloc | apply Kd.R_drewN | apply Kd.R_drew)); exact HO_8.out) hb)
       have n1_ := am (blk_below (bu BK142.out) hb)
       have n2_ := am (blk_below (bu BK143.out) hb)
       have n3_ := am (blk_below (bu BK152.out) hb)
       have n4_ := am (below_step bs hb)
       clear HO_8
       clear BK142
       clear BK143
       clear BK152
       clear HB
       have HO_8 := n0_
       have BK142 := n1_
       have BK143 := n2_
       have BK152 := n3_
       have HB := n4_
       clear n0_ n1_ n2_ n3_ n4_
       (try clear hb)
       (try clear hb2)
       (try clear hk)
       (try clear hi)
       refine hK.out _ _ ⟨(blk_cell BK152.out 0).trans rfl, (blk_cell BK152.out 1).trans rfl, (blk_cell BK152.out 2).trans rfl, HS3_, HS4_, HS5_, HS6_, HS7_⟩ (fun hHeld => ?_)
       clear hK K
       refine norm_ (a' := ?_) ?_ ?_
       rotate_left
       ·show Act.put _ (some 66) _ = _
        simp only [Act.put, List.setIfInBounds_toArray, List.set_cons_zero, List.set_cons_succ, i64_w, i32_w]
        rfl
       refine pure_ (i := 6) (N := some 60) (v := ?_) (a' := ?_) #[true, true, true, true, true, true, true, false, false, false, false] rfl rfl (any_of HT_.out (by kernel_rfl)) (fun _ _ _ h => h) (Or.inl ⟨by rfl, ?_⟩) ?_ ?_
       rotate_left
       ·intro w'
        go_simp
        with_reducible rfl
       rotate_left
       ·simp only [Act.put, List.setIfInBounds_toArray, List.set_cons_zero, List.set_cons_succ, i64_w, i32_w]
        rfl
       refine pure_ (i := 7) (N := some 67) (v := ?_) (a' := ?_) #[true, true, true, true, true, true, true, true, false, false, false] rfl rfl (any_of HT_.out (by kernel_rfl)) (fun _ _ _ h => h) (Or.inl ⟨by rfl, ?_⟩) ?_ ?_
       rotate_left
       ·intro w'
        go_simp
        with_reducible rfl
       rotate_left
       ·simp only [Act.put, List.setIfInBounds_toArray, List.set_cons_zero, List.set_cons_succ, i64_w, i32_w]
        rfl
       refine pure_ (i := 8) (N := some 68) (v := ?_) (a' := ?_) #[true, true, true, true, true, true, true, true, true, false, false] rfl rfl (any_of HT_.out (by kernel_rfl)) (fun _ _ _ h => h) (Or.inl ⟨by rfl, ?_⟩) ?_ ?_
       rotate_left
       ·intro w'
        go_simp
        with_reducible rfl
       rotate_left
       ·simp only [Act.put, List.setIfInBounds_toArray, List.set_cons_zero, List.set_cons_succ, i64_w, i32_w]
        rfl
       refine pure_ (i := 9) (N := some 12) (v := ?_) (a' := ?_) #[true, true, true, true, true, true, true, true, true, true, false] rfl rfl (any_of HT_.out (by kernel_rfl)) (fun _ _ _ h => h) (Or.inl ⟨by rfl, ?_⟩) ?_ ?_
       rotate_left
       ·intro w'
        go_simp
        with_reducible rfl
       rotate_left
       ·simp only [Act.put, List.setIfInBounds_toArray, List.set_cons_zero, List.set_cons_succ, i64_w, i32_w]
        rfl
       refine pure_ (i := 10) (N := some 13) (v := ?_) (a' := ?_) #[true, true, true, true, true, true, true, true, true, true, true] rfl rfl (any_of HT_.out (by kernel_rfl)) (fun _ _ _ h => h) (Or.inl ⟨by rfl, ?_⟩) ?_ ?_
       rotate_left
       ·intro w'
        go_simp
        with_reducible rfl
       rotate_left
       ·simp only [Act.put, List.setIfInBounds_toArray, List.set_cons_zero, List.set_cons_succ, i64_w, i32_w]
        rfl
       refine done_ (done_of HT_.out (by kernel_rfl)) ?_
       have p157 : 0 ≤ (x50_3 : Int) := of_decide_eq_true od
       have q157 : x50_3 < (x8_3.length : Int) := of_decide_eq_true od
       obtain ⟨ad157, e157, hx157_0⟩ := Kd.at_int (Kd.R_reads' HO_8.out).2.2 x50_3 p157 q157
       obtain rfl : (⟨go30, 0, none⟩ : Addr) = ad157 := (by injection e157)
       (first | simp only [add_plain] at hx157_0 | simp only [add_at] at hx157_0 | simp only [Addr.add, Nat.zero_add] at hx157_0 | skip)
       replace p157 := eq_true p157
       replace q157 := eq_true q157
       go_upto_region 24 with (fail)
       go_cut [86] (fun v86 wc => ∃ (kq : Nat) (x86_46 : Bool), v86 = .bool x86_46 ∧ Aside0 (c_Heights.j3 kq (l0_0.length : Int) x8_3 x50_3 (wrap64 ((wrap64 ((rd x8_3 x50_3) - t155)) + t156)) l0_0 (l0_0.length : Int) x50_3 x86_46 ((rd_T41 l0_0 x50_3).f0) ((rd_T41 l0_0 x50_3).f1) ((rd_T41 l0_0 x50_3).f2) = some (r1, r2, r3)) ∧ Aside0 (kq ≤ k3) ∧ Aside0 (Kd.R (Kd.int .i64) 3 wc w.heap.size (fun _ => True) (.slice (some ⟨go30, 0, none⟩) x8_3.length co22) x8_3) ∧ Aside0 (wc.heap[gb142]? = some (.cells #[(.slice (some ad151) l0_0.length c0_0), (.slice A0_1 l0_1.length c0_1), (.slice A0_2 l0_2.length c0_2)] 26 (0, 0))) ∧ Aside0 (wc.heap[gb143]? = some (.cells tabC 73 (0, 0))) ∧ Aside0 (wc.heap[gb152]? = some (.cells #[.int .i64 ((rd_T41 l0_0 x50_3).f0), .int .i64 ((rd_T41 l0_0 x50_3).f1), .int .i64 ((rd_T41 l0_0 x50_3).f2)] 41 (0, 0))) ∧ Aside0 (Below w.heap.size w wc))
       case first =>
        have H := HC47.out
        clear HC47
        by_cases c55 : (rd x8_3 x50_3) < t155
        ·rw [if_pos c55] at H
         have c55b0 := decide_eq_true c55
         clear c55
         (first | rw [c55b0] | (simp only [i64_w, i32_w]; rw [c55b0]) | skip)
         have H' := am H
         clear H
         have p158 : 0 ≤ (x50_3 : Int) := of_decide_eq_true od
         have q158 : x50_3 < (x8_3.length : Int) := of_decide_eq_true od
         obtain ⟨ad158, e158, hx158_0⟩ := Kd.at_int (Kd.R_reads' HO_8.out).2.2 x50_3 p158 q158
         obtain rfl : (⟨go30, 0, none⟩ : Addr) = ad158 := (by injection e158)
         (first | simp only [add_plain] at hx158_0 | simp only [add_at] at hx158_0 | simp only [Addr.add, Nat.zero_add] at hx158_0 | skip)
         replace p158 := eq_true p158
         replace q158 := eq_true q158
         go_wp2
         go_meet
         case rel => exact ⟨_, (true), tv, H', ⟨by have := HK1.out; have := HK2.out; have := HK3.out; first | omega | exact Nat.le_refl _⟩, ⟨by (try simp only [hl8_2]); (try simp only [hl8_3]); (with_reducible repeat (first | apply Kd.R_alloc | apply Kd.R_drewN | apply Kd.R_drew)); exact HO_8.out⟩, ⟨by (try simp only [hl8_2]); (try simp only [hl8_3]); refine bu ?_; exact BK142.out⟩, ⟨by (try simp only [hl8_2]); (try simp only [hl8_3]); refine bu ?_; exact BK143.out⟩, ⟨by (try simp only [hl8_2]); (try simp only [hl8_3]); refine bu ?_; exact BK152.out⟩, ⟨bs⟩⟩
        rw [if_neg c55] at H
        have c55b0 := decide_eq_false c55
        clear c55
        (first | rw [c55b0] | (simp only [i64_w, i32_w]; rw [c55b0]) | skip)
        have H' := am H
        clear H
        have p158 : 0 ≤ (x50_3 : Int) := of_decide_eq_true od
        have q158 : x50_3 < (x8_3.length : Int) := of_decide_eq_true od
        obtain ⟨ad158, e158, hx158_0⟩ := Kd.at_int (Kd.R_reads' HO_8.out).2.2 x50_3 p158 q158
        obtain rfl : (⟨go30, 0, none⟩ : Addr) = ad158 := (by injection e158)
        (first | simp only [add_plain] at hx158_0 | simp only [add_at] at hx158_0 | simp only [Addr.add, Nat.zero_add] at hx158_0 | skip)
        replace p158 := eq_true p158
        replace q158 := eq_true q158
        go_wp2
        go_meet
        case rel => exact ⟨_, (decide ((wrap64 ((wrap64 ((rd x8_3 x50_3) - t155)) + t156)) > 32768)), tv, H', ⟨by have := HK1.out; have := HK2.out; have := HK3.out; first | omega | exact Nat.le_refl _⟩, ⟨by (try simp only [hl8_2]); (try simp only [hl8_3]); (with_reducible repeat (first | apply Kd.R_alloc | apply Kd.R_drewN | apply Kd.R_drew)); exact HO_8.out⟩, ⟨by (try simp only [hl8_2]); (try simp only [hl8_3]); refine bu ?_; exact BK142.out⟩, ⟨by (try simp only [hl8_2]); (try simp only [hl8_3]); refine bu ?_; exact BK143.out⟩, ⟨by (try simp only [hl8_2]); (try simp only [hl8_3]); refine bu ?_; exact BK152.out⟩, ⟨bs⟩⟩
       case rest =>
        clear HC47
        try clear c1
        try clear p1
        try clear q1
        try clear hx1
        try clear c2
        try clear c2b0
        try clear c2b1
        try clear p2
        try clear q2
        try clear hx2
        try clear hf2
        try clear c3
        try clear p3
        try clear q3
        try clear hx3
        try clear qi3
        try clear hf3
        try clear c4
        try clear c5
        try clear p6
        try clear c8
        try clear c8b0
        try clear c10
        try clear c11
        try clear c12
        try clear c14
        try clear p15
        try clear q15
        try clear hx15
        try clear c18
        try clear c18b0
        try clear c18b1
        try clear c19
        try clear c19b0
        try clear c19b1
        try clear c23
        try clear c23b0
        try clear c24
        try clear c24b0
        try clear c25
        try clear c25b0
        try clear c26
        try clear p26
        try clear q26
        try clear hx26
        try clear hf26
        try clear c27
        try clear c29
        try clear c29b0
        try clear c29b1
        try clear p30
        try clear q30
        try clear hx30
        try clear qi30
        try clear hf30
        try clear c33
        try clear c35
        try clear c35b0
        try clear c36
        try clear c36b0
        try clear c37
        try clear c37b0
        try clear c38
        try clear c38b0
        try clear c39
        try clear c39b0
        try clear c41
        try clear c42
        try clear c44
        try clear c44b0
        try clear c45
        try clear c45b0
        try clear c49
        try clear c50
        try clear c55
        try clear c55b0
        try clear hcz12_0 hcz12_1 hcz12_2
        try clear hcz15_0 hcz15_1 hcz15_2
        try clear hcz34_0 hcz34_1 hcz34_2
        try clear hcz43_0 hcz43_1 hcz43_2
        try clear hcz4_0 hcz4_1 hcz4_2
        try clear hcz51_0 hcz51_1 hcz51_2
        try clear hcz6_0 hcz6_1 hcz6_2
        try clear hfz12_0 hfz12_1 hfz12_2
        try clear hfz15_0 hfz15_1 hfz15_2
        try clear hfz34_0 hfz34_1 hfz34_2
        try clear hfz43_0 hfz43_1 hfz43_2
        try clear hfz4_0 hfz4_1 hfz4_2
        try clear hfz51_0 hfz51_1 hfz51_2
        try clear hfz6_0 hfz6_1 hfz6_2
        try clear hx151_0
        try clear hx151_1
        try clear hx151_2
        try clear hx153_0
        try clear hx154_0
        try clear hx154_1
        try clear hx154_2
        try clear hx154_3
        try clear hx154_4
        try clear hx157_0
        try clear hx158_0
        try clear hx26_0
        try clear hx30_0
        try clear p151
        try clear p153
        try clear p154
        try clear p157
        try clear p158
        try clear p2
        try clear p26
        try clear p3
        try clear p30
        try clear p6
        try clear q151
        try clear q153
        try clear q154
        try clear q157
        try clear q158
        try clear q2
        try clear q26
        try clear q3
        try clear q30
        obtain ⟨kq, x86_46, rfl, HA, HJ46, HO_8, BK142, BK143, BK152, HB⟩ := hcut
        cases kq with
        | zero => exact absurd HA.out (by simp [c_Heights.j3])
        | succ kj46 =>
         have H := HA.out
         clear HA
         simp only [c_Heights.j3] at H
         by_cases c56 : x86_46 = true
         ·subst c56
          have H1 : (some (([] : List Int), x50_3, 260)) = some (r1, r2, r3) := by rw [if_pos rfl] at H; exact H
          clear H
          have H := H1
          clear H1
          simp only [Option.some.injEq, Prod.mk.injEq] at H
          obtain ⟨rfl, rfl, rfl⟩ := H
          go_wp2
          go_ret3
          exact ⟨_, by first | rfl | (simp [errW_none, errW_some] <;> rfl) | (simp only [← hji17]; first | rfl | (simp [errW_none, errW_some] <;> rfl)) | (simp [*, errW_none, errW_some] <;> rfl), by first | exact Kd.R_nil _ _ _ _ _ | exact Kd.N_nil _ _ _ _ _ | exact Kd.V_nil _ _ _ _ _ | exact Kd.Q_nil _ _ _ _ _ | exact Kd.S_nil _ _ _ _ _, bs⟩
         replace c56 := Bool.eq_false_iff.mpr c56
         subst c56
         have H1 : ((xWays.f ((rd_T41 l0_0 x50_3).f0) ((rd_T41 l0_0 x50_3).f1) ((rd_T41 l0_0 x50_3).f2) x50_3).bind fun bt159 => (c_Heights.l3 kj46 (l0_0.length : Int) x8_3 x50_3 (wrap64 ((wrap64 ((rd x8_3 x50_3) - t155)) + t156)) l0_0 (l0_0.length : Int) x50_3 0 bt159.1 bt159.2)) = some (r1, r2, r3) := by rw [if_neg (show ¬ (false = true) by decide)] at H; exact H
         clear H
         have H := H1
         clear H1
         replace H := Option.bind_eq_some_iff.mp H
         obtain ⟨⟨t159, t160⟩, A570, H⟩ := H
         replace H : (c_Heights.l3 kj46 (l0_0.length : Int) x8_3 x50_3 (wrap64 ((wrap64 ((rd x8_3 x50_3) - t155)) + t156)) l0_0 (l0_0.length : Int) x50_3 0 t159 t160) = some (r1, r2, r3) := H
         have A57 := am A570
         clear A570
         have H' := am H
         clear H
         have hnb58 := NB152_142.out
         have hnc58 := NB142_152.out
         have hnb59 := NB152_143.out
         have hnc59 := NB143_152.out
         obtain ⟨⟨hcz60_0, hcz60_1, hcz60_2⟩, hfz60_0, hfz60_1, hfz60_2⟩ := blkAll3 BK152
         go_wp2_with (first | ((with_reducible refine gate_callee (f := 28) rfl ?_); refine goesL_ (some 90) rfl rfl Tryd.func28 (by kernel_rfl) rfl #[.agg #[.int .i64 ((rd_T41 l0_0 x50_3).f0), .int .i64 ((rd_T41 l0_0 x50_3).f1), .int .i64 ((rd_T41 l0_0 x50_3).f2)], .int .i64 x50_3] rfl ls ?_; (with_reducible refine (xWays.calls ((rd_T41 l0_0 x50_3).f0) ((rd_T41 l0_0 x50_3).f1) ((rd_T41 l0_0 x50_3).f2) x50_3 t159 t160 _ A57.out).mono ?_); rintro e w61 ⟨rfl, hb⟩; refine ⟨_, rfl, ?_⟩; have n0_ := am (Kd.R_below (by (with_reducible repeat (first | apply Kd.R_alloc | apply Kd.R_drewN | apply Kd.R_drew)); exact HO_8.out) hb); have n1_ := am (blk_below (bu BK142.out) hb); have n2_ := am (blk_below (bu BK143.out) hb); have n3_ := am (blk_below (bu BK152.out) hb); have n4_ := am (below_step bs hb); clear HO_8; clear BK142; clear BK143; clear BK152; clear HB; have HO_8 := n0_; have BK142 := n1_; have BK143 := n2_; have BK152 := n3_; have HB := n4_; clear n0_ n1_ n2_ n3_ n4_; (try clear hb); (try clear hb2); (try clear hk); (try clear hi)))
         go_loopg [91] kj46 (fun kq v91 w' => ∃ (x8_5 : List Int) (x91_5 : Int), v91 = .int .i64 x91_5 ∧ Aside0 (c_Heights.l3 kq (l0_0.length : Int) x8_5 x50_3 (wrap64 ((wrap64 ((rd x8_3 x50_3) - t155)) + t156)) l0_0 (l0_0.length : Int) x50_3 x91_5 t159 t160 = some (r1, r2, r3)) ∧ Aside0 (kq ≤ kj46) ∧ Aside0 (Kd.R (Kd.int .i64) 3 w' w.heap.size (fun _ => True) (.slice (some ⟨go30, 0, none⟩) x8_3.length co22) x8_5) ∧ Aside0 (w'.heap[gb142]? = some (.cells #[(.slice (some ad151) l0_0.length c0_0), (.slice A0_1 l0_1.length c0_1), (.slice A0_2 l0_2.length c0_2)] 26 (0, 0))) ∧ Aside0 (w'.heap[gb143]? = some (.cells tabC 73 (0, 0))) ∧ Aside0 (w'.heap[gb152]? = some (.cells #[.int .i64 ((rd_T41 l0_0 x50_3).f0), .int .i64 ((rd_T41 l0_0 x50_3).f1), .int .i64 ((rd_T41 l0_0 x50_3).f2)] 41 (0, 0))) ∧ Aside0 (0 ≤ x91_5) ∧ Aside0 (Below w.heap.size w w'))
         case atStart => exact ⟨(x8_3), (0), tv, H', ⟨Nat.le_refl _⟩, ⟨by (try simp only [hl8_2]); (try simp only [hl8_3]); (with_reducible repeat (first | apply Kd.R_alloc | apply Kd.R_drewN | apply Kd.R_drew)); exact HO_8.out⟩, ⟨by (try simp only [hl8_2]); (try simp only [hl8_3]); refine bu ?_; exact BK142.out⟩, ⟨by (try simp only [hl8_2]); (try simp only [hl8_3]); refine bu ?_; exact BK143.out⟩, ⟨by (try simp only [hl8_2]); (try simp only [hl8_3]); refine bu ?_; exact BK152.out⟩, ⟨Int.le_refl 0⟩, ⟨bs⟩⟩
         case round =>
          clear H'
          try clear c1
          try clear p1
          try clear q1
          try clear hx1
          try clear c2
          try clear c2b0
          try clear c2b1
          try clear p2
          try clear q2
          try clear hx2
          try clear hf2
          try clear c3
          try clear p3
          try clear q3
          try clear hx3
          try clear qi3
          try clear hf3
          try clear c4
          try clear c5
          try clear p6
          try clear c8
          try clear c8b0
          try clear c10
          try clear c11
          try clear c12
          try clear c14
          try clear p15
          try clear q15
          try clear hx15
          try clear c18
          try clear c18b0
          try clear c18b1
          try clear c19
          try clear c19b0
          try clear c19b1
          try clear c23
          try clear c23b0
          try clear c24
          try clear c24b0
          try clear c25
          try clear c25b0
          try clear c26
          try clear p26
          try clear q26
          try clear hx26
          try clear hf26
          try clear c27
          try clear c28
          try clear c29
          try clear c29b0
          try clear c29b1
          try clear p30
          try clear q30
          try clear hx30
          try clear qi30
          try clear hf30
          try clear c33
          try clear c35
          try clear c35b0
          try clear c36
          try clear c36b0
          try clear c37
          try clear c37b0
          try clear c38
          try clear c38b0
          try clear c39
          try clear c39b0
          try clear c41
          try clear c42
          try clear c44
          try clear c44b0
          try clear c45
          try clear c45b0
          try clear c49
          try clear c50
          try clear c55
          try clear c55b0
          try clear c56
          try clear c58
          try clear c59
          try clear hcz12_0 hcz12_1 hcz12_2
          try clear hcz15_0 hcz15_1 hcz15_2
          try clear hcz34_0 hcz34_1 hcz34_2
          try clear hcz43_0 hcz43_1 hcz43_2
          try clear hcz4_0 hcz4_1 hcz4_2
          try clear hcz51_0 hcz51_1 hcz51_2
          try clear hcz60_0 hcz60_1 hcz60_2
          try clear hcz6_0 hcz6_1 hcz6_2
          try clear hfz12_0 hfz12_1 hfz12_2
          try clear hfz15_0 hfz15_1 hfz15_2
          try clear hfz34_0 hfz34_1 hfz34_2
          try clear hfz43_0 hfz43_1 hfz43_2
          try clear hfz4_0 hfz4_1 hfz4_2
          try clear hfz51_0 hfz51_1 hfz51_2
          try clear hfz60_0 hfz60_1 hfz60_2
          try clear hfz6_0 hfz6_1 hfz6_2
          try clear hx151_0
          try clear hx151_1
          try clear hx151_2
          try clear hx153_0
          try clear hx154_0
          try clear hx154_1
          try clear hx154_2
          try clear hx154_3
          try clear hx154_4
          try clear hx157_0
          try clear hx158_0
          try clear hx26_0
          try clear hx30_0
          try clear p1
          try clear p15
          try clear p151
          try clear p153
          try clear p154
          try clear p157
          try clear p158
          try clear p2
          try clear p26
          try clear p3
          try clear p30
          try clear p6
          try clear q1
          try clear q15
          try clear q151
          try clear q153
          try clear q154
          try clear q157
          try clear q158
          try clear q2
          try clear q26
          try clear q3
          try clear q30
          obtain ⟨x8_5, x91_5, rfl, HA, HK5, HO_8, BK142, BK143, BK152, HL91, HB⟩ := hrel
          have hl8_5 := (Kd.R_reads' HO_8.out).1
          rw [hl8_5] at HO_8
          (try simp only [hl8_5])
          cases gk with
          | zero => exact absurd HA.out (by simp [c_Heights.l3])
          | succ k5 =>
           have H := HA.out
           clear HA
           simp only [c_Heights.l3] at H
           by_cases c62 : x91_5 < 2
           rotate_left
           ·rw [if_neg c62] at H
            have c62b0 := decide_eq_false c62
            clear c62
            have H' := am H
            clear H
            go_wp2
            (try simp only [← hl8_5]); (try simp only [← hl8_3])
            go_roundg k5
            case measure => have := HK1.out; have := HK2.out; have := HK3.out; have := HJ46.out; have := HK5.out; omega
            case rel => exact ⟨(x8_5), (wrap64 (x50_3 + 1)), tv, H', ⟨by have := HK1.out; have := HK2.out; have := HK3.out; have := HJ46.out; have := HK5.out; omega⟩, ⟨by (try simp only [hl8_2]); (try simp only [hl8_3]); (try simp only [hl8_5]); (with_reducible repeat (first | apply Kd.R_alloc | apply Kd.R_drewN | apply Kd.R_drew)); exact HO_8.out⟩, ⟨by (try simp only [hl8_2]); (try simp only [hl8_3]); (try simp only [hl8_5]); refine bu ?_; exact BK142.out⟩, ⟨by (try simp only [hl8_2]); (try simp only [hl8_3]); (try simp only [hl8_5]); refine bu ?_; exact BK143.out⟩, ⟨bs⟩⟩
           rw [if_pos c62] at H
           have c62b0 := decide_eq_true c62
           clear c62
           by_cases c63 : x91_5 = 0
           ·rw [if_pos c63] at H
            have c63b0 : (x91_5 == 0) = true := beq_iff_eq.mpr c63
            have c63b1 : (x91_5 != 0) = false := bne_eq_false_iff_eq.mpr c63
            have HIX_ := am (show IdxV x91_5 t159 t160 t159 from .inl ⟨c63, rfl⟩)
            clear c63
            by_cases c64 : 0 ≤ t159
            rotate_left
            ·rw [if_neg c64] at H
             exact absurd H (by simp)
            rw [if_pos c64] at H
            have c64b0 := decide_eq_true c64
            clear c64
            by_cases c65 : t159 < (x8_5.length : Int)
            rotate_left
            ·rw [if_neg c65] at H
             exact absurd H (by simp)
            rw [if_pos c65] at H
            have c65b0 := decide_eq_true c65
            clear c65
            by_cases c66 : (rd x8_5 t159) ≥ 0
            rotate_left
            ·rw [if_neg c66] at H
             have c66b0 : decide (0 ≤ (rd x8_5 t159)) = false := decide_eq_false c66
             clear c66
             obtain ⟨y164, hy164⟩ : ∃ y_ : List Int, y_ = (x8_5.set (t159 : Int).toNat (wrap64 ((wrap64 ((rd x8_3 x50_3) - t155)) + t156))) := ⟨_, rfl⟩
             replace H : (c_Heights.l3 k5 (l0_0.length : Int) y164 x50_3 (wrap64 ((wrap64 ((rd x8_3 x50_3) - t155)) + t156)) l0_0 (l0_0.length : Int) x50_3 (wrap64 (x91_5 + 1)) t159 t160) = some (r1, r2, r3) := by first | (rw [hy164]; with_reducible exact H) | (have H2_ := (Option.bind_some _ _).symm.trans H; rw [hy164]; with_reducible exact H2_) | (have H2_ := (Option.bind_some _ _).symm.trans H; with_reducible exact H2_) | with_reducible exact H | (rw [hy164]; exact H) | exact H
             have Ny164 := am hy164
             clear hy164
             have H' := am H
             clear H
             have p161 : 0 ≤ (t159 : Int) := of_decide_eq_true od
             have q161 : t159 < (x8_5.length : Int) := of_decide_eq_true od
             obtain ⟨ad161, e161, hx161_0⟩ := Kd.at_int (Kd.R_reads' HO_8.out).2.2 t159 p161 q161
             obtain rfl : (⟨go30, 0, none⟩ : Addr) = ad161 := (by injection e161)
             (first | simp only [add_plain] at hx161_0 | simp only [add_at] at hx161_0 | simp only [Addr.add, Nat.zero_add] at hx161_0 | skip)
             replace p161 := eq_true p161
             replace q161 := eq_true q161
             have p71 : 0 ≤ (t159 : Int) := of_decide_eq_true od
             have q71 : (t159 : Int) < ((x8_5.length : Int) : Int) := of_decide_eq_true od
             obtain ⟨go71, co71, eo71, gb71, gl71, cl71, HG71⟩ := Kd.R_form HO_8.out (by omega)
             obtain ⟨ea_, en_, ec_⟩ := slice_inj eo71; subst ea_; subst ec_; clear en_
             have GB71 := am gb71
             have GG71 := am HG71
             clear gb71 gl71 HG71
             obtain ⟨hx71_0, hf71_0⟩ := Kd.R_celln 0 HO_8.out (t159 : Int) p71 q71
             replace p71 := eq_true p71
             replace q71 := eq_true q71
             have HP72 := Kd.R_putg HO_8.out (t159 : Int) (wrap64 ((wrap64 ((rd x8_3 x50_3) - t155)) + t156))
             go_wp2_with (first | ((with_reducible refine gate_dst (N := 93) rfl ?_); refine index_event rfl rfl rfl ?hx_ ?hi_ HIX_.out ?_; (case hx_ => rfl); (case hi_ => rfl)) | ((with_reducible refine gate_store (t := 3) (p := 111) rfl ?_); refine store_event (t := 3) (p := 111) (v := ?vo_w73) (w1 := (wr.setCell ⟨go30, (t159 : Int).toNat, none⟩ (.int .i64 (wrap64 ((wrap64 ((rd x8_3 x50_3) - t155)) + t156))))) ?hg ?ho ?hn ?hr ?_; (case ho => rfl); (case hg => rfl); (case hn => rfl); (case hr => first | (go_simp; done) | (go_simp; rfl)); intro w73 hw; have hg : wr.grownBy w73 (some go30) := (by rw [hw]; exact HP72.2); have hp_ : Kd.R (Kd.int .i64) 3 w73 w.heap.size (fun _ => True) (.slice (some ⟨go30, 0, none⟩) x8_5.length co22) y164 := (by rw [hw, Ny164.out]; exact HP72.1); clear HP72; have n0_ := am (hp_); have n1_ := am (blk_grown (g := gb142) (o := .cells #[.slice (some ad151) l0_0.length c0_0, .slice A0_1 l0_1.length c0_1, .slice A0_2 l0_2.length c0_2] 26 (0, 0)) (bu BK142.out) hg (Kd.R_ne HO_8.out BK142.out (by decide))); have n2_ := am (blk_grown (g := gb143) (o := .cells tabC 73 (0, 0)) (bu BK143.out) hg (Kd.R_ne HO_8.out BK143.out (by decide))); have n3_ := am (blk_grown (g := gb152) (o := .cells #[.int .i64 ((rd_T41 l0_0 x50_3).f0), .int .i64 ((rd_T41 l0_0 x50_3).f1), .int .i64 ((rd_T41 l0_0 x50_3).f2)] 41 (0, 0)) (bu BK152.out) hg (Kd.R_ne HO_8.out BK152.out (by decide))); have n4_ := am ((by rw [hw]; exact below_set (HB.out) GB71.out : Below w.heap.size w w73)); clear HO_8; clear BK142; clear BK143; clear BK152; clear HB; have HO_8 := n0_; have BK142 := n1_; have BK143 := n2_; have BK152 := n3_; have HB := n4_; clear n0_ n1_ n2_ n3_ n4_; clear hg hw hp_))
             (try simp only [← hl8_5])
             go_roundg k5
             case measure => have := HK1.out; have := HK2.out; have := HK3.out; have := HJ46.out; have := HK5.out; omega
             case rel => exact ⟨(y164), (wrap64 (x91_5 + 1)), tv, H', ⟨by have := HK1.out; have := HK2.out; have := HK3.out; have := HJ46.out; have := HK5.out; omega⟩, ⟨by (try simp only [hl8_2]); (try simp only [hl8_3]); (try simp only [hl8_5]); (with_reducible repeat (first | apply Kd.R_alloc | apply Kd.R_drewN | apply Kd.R_drew)); exact HO_8.out⟩, ⟨by (try simp only [hl8_2]); (try simp only [hl8_3]); (try simp only [hl8_5]); refine bu ?_; exact BK142.out⟩, ⟨by (try simp only [hl8_2]); (try simp only [hl8_3]); (try simp only [hl8_5]); refine bu ?_; exact BK143.out⟩, ⟨by (try simp only [hl8_2]); (try simp only [hl8_3]); (try simp only [hl8_5]); refine bu ?_; exact BK152.out⟩, ⟨wrap_two HL91.out (of_decide_eq_true c62b0)⟩, ⟨bs⟩⟩
            rw [if_pos c66] at H
            have c66b0 : decide (0 ≤ (rd x8_5 t159)) = true := decide_eq_true c66
            clear c66
            by_cases c67 : (rd x8_5 t159) = (wrap64 ((wrap64 ((rd x8_3 x50_3) - t155)) + t156))
            rotate_left
            ·rw [if_neg c67] at H
             have c67b0 : ((rd x8_5 t159) == (wrap64 ((wrap64 ((rd x8_3 x50_3) - t155)) + t156))) = false := beq_eq_false_iff_ne.mpr c67
             have c67b1 : ((rd x8_5 t159) != (wrap64 ((wrap64 ((rd x8_3 x50_3) - t155)) + t156))) = true := bne_iff_ne.mpr c67
             simp only [Option.some.injEq, Prod.mk.injEq] at H
             obtain ⟨rfl, rfl, rfl⟩ := H
             have p161 : 0 ≤ (t159 : Int) := of_decide_eq_true od
             have q161 : t159 < (x8_5.length : Int) := of_decide_eq_true od
             obtain ⟨ad161, e161, hx161_0⟩ := Kd.at_int (Kd.R_reads' HO_8.out).2.2 t159 p161 q161
             obtain rfl : (⟨go30, 0, none⟩ : Addr) = ad161 := (by injection e161)
             (first | simp only [add_plain] at hx161_0 | simp only [add_at] at hx161_0 | simp only [Addr.add, Nat.zero_add] at hx161_0 | skip)
             replace p161 := eq_true p161
             replace q161 := eq_true q161
             have p162 : 0 ≤ (t159 : Int) := of_decide_eq_true od
             have q162 : t159 < (x8_5.length : Int) := of_decide_eq_true od
             obtain ⟨ad162, e162, hx162_0⟩ := Kd.at_int (Kd.R_reads' HO_8.out).2.2 t159 p162 q162
             obtain rfl : (⟨go30, 0, none⟩ : Addr) = ad162 := (by injection e162)
             (first | simp only [add_plain] at hx162_0 | simp only [add_at] at hx162_0 | simp only [Addr.add, Nat.zero_add] at hx162_0 | skip)
             replace p162 := eq_true p162
             replace q162 := eq_true q162
             go_wp2_with (first | ((with_reducible refine gate_dst (N := 93) rfl ?_); refine index_event rfl rfl rfl ?hx_ ?hi_ HIX_.out ?_; (case hx_ => rfl); (case hi_ => rfl)))
             go_ret3
             exact ⟨_, by first | rfl | (simp [errW_none, errW_some] <;> rfl) | (simp only [← hji17]; first | rfl | (simp [errW_none, errW_some] <;> rfl)) | (simp [*, errW_none, errW_some] <;> rfl), by first | exact Kd.R_nil _ _ _ _ _ | exact Kd.N_nil _ _ _ _ _ | exact Kd.V_nil _ _ _ _ _ | exact Kd.Q_nil _ _ _ _ _ | exact Kd.S_nil _ _ _ _ _, bs⟩
            rw [if_pos c67] at H
            have c67b0 : ((rd x8_5 t159) == (wrap64 ((wrap64 ((rd x8_3 x50_3) - t155)) + t156))) = true := beq_iff_eq.mpr c67
            have c67b1 : ((rd x8_5 t159) != (wrap64 ((wrap64 ((rd x8_3 x50_3) - t155)) + t156))) = false := bne_eq_false_iff_eq.mpr c67
            clear c67
            obtain ⟨y163, hy163⟩ : ∃ y_ : List Int, y_ = (x8_5.set (t159 : Int).toNat (wrap64 ((wrap64 ((rd x8_3 x50_3) - t155)) + t156))) := ⟨_, rfl⟩
            replace H : (c_Heights.l3 k5 (l0_0.length : Int) y163 x50_3 (wrap64 ((wrap64 ((rd x8_3 x50_3) - t155)) + t156)) l0_0 (l0_0.length : Int) x50_3 (wrap64 (x91_5 + 1)) t159 t160) = some (r1, r2, r3) := by first | (rw [hy163]; with_reducible exact H) | (have H2_ := (Option.bind_some _ _).symm.trans H; rw [hy163]; with_reducible exact H2_) | (have H2_ := (Option.bind_some _ _).symm.trans H; with_reducible exact H2_) | with_reducible exact H | (rw [hy163]; exact H) | exact H
            have Ny163 := am hy163
            clear hy163
            have H' := am H
            clear H
            have p161 : 0 ≤ (t159 : Int) := of_decide_eq_true od
            have q161 : t159 < (x8_5.length : Int) := of_decide_eq_true od
            obtain ⟨ad161, e161, hx161_0⟩ := Kd.at_int (Kd.R_reads' HO_8.out).2.2 t159 p161 q161
            obtain rfl : (⟨go30, 0, none⟩ : Addr) = ad161 := (by injection e161)
            (first | simp only [add_plain] at hx161_0 | simp only [add_at] at hx161_0 | simp only [Addr.add, Nat.zero_add] at hx161_0 | skip)
            replace p161 := eq_true p161
            replace q161 := eq_true q161
            have p162 : 0 ≤ (t159 : Int) := of_decide_eq_true od
            have q162 : t159 < (x8_5.length : Int) := of_decide_eq_true od
            obtain ⟨ad162, e162, hx162_0⟩ := Kd.at_int (Kd.R_reads' HO_8.out).2.2 t159 p162 q162
            obtain rfl : (⟨go30, 0, none⟩ : Addr) = ad162 := (by injection e162)
            (first | simp only [add_plain] at hx162_0 | simp only [add_at] at hx162_0 | simp only [Addr.add, Nat.zero_add] at hx162_0 | skip)
            replace p162 := eq_true p162
            replace q162 := eq_true q162
            have p68 : 0 ≤ (t159 : Int) := of_decide_eq_true od
            have q68 : (t159 : Int) < ((x8_5.length : Int) : Int) := of_decide_eq_true od
            obtain ⟨go68, co68, eo68, gb68, gl68, cl68, HG68⟩ := Kd.R_form HO_8.out (by omega)
            obtain ⟨ea_, en_, ec_⟩ := slice_inj eo68; subst ea_; subst ec_; clear en_
            have GB68 := am gb68
            have GG68 := am HG68
            clear gb68 gl68 HG68
            obtain ⟨hx68_0, hf68_0⟩ := Kd.R_celln 0 HO_8.out (t159 : Int) p68 q68
            replace p68 := eq_true p68
            replace q68 := eq_true q68
            have HP69 := Kd.R_putg HO_8.out (t159 : Int) (wrap64 ((wrap64 ((rd x8_3 x50_3) - t155)) + t156))
            go_wp2_with (first | ((with_reducible refine gate_dst (N := 93) rfl ?_); refine index_event rfl rfl rfl ?hx_ ?hi_ HIX_.out ?_; (case hx_ => rfl); (case hi_ => rfl)) | ((with_reducible refine gate_store (t := 3) (p := 111) rfl ?_); refine store_event (t := 3) (p := 111) (v := ?vo_w70) (w1 := (wr.setCell ⟨go30, (t159 : Int).toNat, none⟩ (.int .i64 (wrap64 ((wrap64 ((rd x8_3 x50_3) - t155)) + t156))))) ?hg ?ho ?hn ?hr ?_; (case ho => rfl); (case hg => rfl); (case hn => rfl); (case hr => first | (go_simp; done) | (go_simp; rfl)); intro w70 hw; have hg : wr.grownBy w70 (some go30) := (by rw [hw]; exact HP69.2); have hp_ : Kd.R (Kd.int .i64) 3 w70 w.heap.size (fun _ => True) (.slice (some ⟨go30, 0, none⟩) x8_5.length co22) y163 := (by rw [hw, Ny163.out]; exact HP69.1); clear HP69; have n0_ := am (hp_); have n1_ := am (blk_grown (g := gb142) (o := .cells #[.slice (some ad151) l0_0.length c0_0, .slice A0_1 l0_1.length c0_1, .slice A0_2 l0_2.length c0_2] 26 (0, 0)) (bu BK142.out) hg (Kd.R_ne HO_8.out BK142.out (by decide))); have n2_ := am (blk_grown (g := gb143) (o := .cells tabC 73 (0, 0)) (bu BK143.out) hg (Kd.R_ne HO_8.out BK143.out (by decide))); have n3_ := am (blk_grown (g := gb152) (o := .cells #[.int .i64 ((rd_T41 l0_0 x50_3).f0), .int .i64 ((rd_T41 l0_0 x50_3).f1), .int .i64 ((rd_T41 l0_0 x50_3).f2)] 41 (0, 0)) (bu BK152.out) hg (Kd.R_ne HO_8.out BK152.out (by decide))); have n4_ := am ((by rw [hw]; exact below_set (HB.out) GB68.out : Below w.heap.size w w70)); clear HO_8; clear BK142; clear BK143; clear BK152; clear HB; have HO_8 := n0_; have BK142 := n1_; have BK143 := n2_; have BK152 := n3_; have HB := n4_; clear n0_ n1_ n2_ n3_ n4_; clear hg hw hp_))
            (try simp only [← hl8_5])
            go_roundg k5
            case measure => have := HK1.out; have := HK2.out; have := HK3.out; have := HJ46.out; have := HK5.out; omega
            case rel => exact ⟨(y163), (wrap64 (x91_5 + 1)), tv, H', ⟨by have := HK1.out; have := HK2.out; have := HK3.out; have := HJ46.out; have := HK5.out; omega⟩, ⟨by (try simp only [hl8_2]); (try simp only [hl8_3]); (try simp only [hl8_5]); (with_reducible repeat (first | apply Kd.R_alloc | apply Kd.R_drewN | apply Kd.R_drew)); exact HO_8.out⟩, ⟨by (try simp only [hl8_2]); (try simp only [hl8_3]); (try simp only [hl8_5]); refine bu ?_; exact BK142.out⟩, ⟨by (try simp only [hl8_2]); (try simp only [hl8_3]); (try simp only [hl8_5]); refine bu ?_; exact BK143.out⟩, ⟨by (try simp only [hl8_2]); (try simp only [hl8_3]); (try simp only [hl8_5]); refine bu ?_; exact BK152.out⟩, ⟨wrap_two HL91.out (of_decide_eq_true c62b0)⟩, ⟨bs⟩⟩
           rw [if_neg c63] at H
           have c63b0 : (x91_5 == 0) = false := beq_eq_false_iff_ne.mpr c63
           have c63b1 : (x91_5 != 0) = true := bne_iff_ne.mpr c63
           have HIX_ := am (show IdxV x91_5 t159 t160 t160 from .inr ⟨by have h0_ := HL91.out; have h1_ := of_decide_eq_true c62b0; omega, rfl⟩)
           by_cases c74 : 0 ≤ t160
           rotate_left
           ·rw [if_neg c74] at H
            exact absurd H (by simp)
           rw [if_pos c74] at H
           have c74b0 := decide_eq_true c74
           clear c74
           by_cases c75 : t160 < (x8_5.length : Int)
           rotate_left
           ·rw [if_neg c75] at H
            exact absurd H (by simp)
           rw [if_pos c75] at H
           have c75b0 := decide_eq_true c75
           clear c75
           by_cases c76 : (rd x8_5 t160) ≥ 0
           rotate_left
           ·rw [if_neg c76] at H
            have c76b0 : decide (0 ≤ (rd x8_5 t160)) = false := decide_eq_false c76
            clear c76
            obtain ⟨y168, hy168⟩ : ∃ y_ : List Int, y_ = (x8_5.set (t160 : Int).toNat (wrap64 ((wrap64 ((rd x8_3 x50_3) - t155)) + t156))) := ⟨_, rfl⟩
            replace H : (c_Heights.l3 k5 (l0_0.length : Int) y168 x50_3 (wrap64 ((wrap64 ((rd x8_3 x50_3) - t155)) + t156)) l0_0 (l0_0.length : Int) x50_3 (wrap64 (x91_5 + 1)) t159 t160) = some (r1, r2, r3) := by first | (rw [hy168]; with_reducible exact H) | (have H2_ := (Option.bind_some _ _).symm.trans H; rw [hy168]; with_reducible exact H2_) | (have H2_ := (Option.bind_some _ _).symm.trans H; with_reducible exact H2_) | with_reducible exact H | (rw [hy168]; exact H) | exact H
            have Ny168 := am hy168
            clear hy168
            have H' := am H
            clear H
            have p165 : 0 ≤ (t160 : Int) := of_decide_eq_true od
            have q165 : t160 < (x8_5.length : Int) := of_decide_eq_true od
            obtain ⟨ad165, e165, hx165_0⟩ := Kd.at_int (Kd.R_reads' HO_8.out).2.2 t160 p165 q165
            obtain rfl : (⟨go30, 0, none⟩ : Addr) = ad165 := (by injection e165)
            (first | simp only [add_plain] at hx165_0 | simp only [add_at] at hx165_0 | simp only [Addr.add, Nat.zero_add] at hx165_0 | skip)
            replace p165 := eq_true p165
            replace q165 := eq_true q165
            have p81 : 0 ≤ (t160 : Int) := of_decide_eq_true od
            have q81 : (t160 : Int) < ((x8_5.length : Int) : Int) := of_decide_eq_true od
            obtain ⟨go81, co81, eo81, gb81, gl81, cl81, HG81⟩ := Kd.R_form HO_8.out (by omega)
            obtain ⟨ea_, en_, ec_⟩ := slice_inj eo81; subst ea_; subst ec_; clear en_
            have GB81 := am gb81
            have GG81 := am HG81
            clear gb81 gl81 HG81
            obtain ⟨hx81_0, hf81_0⟩ := Kd.R_celln 0 HO_8.out (t160 : Int) p81 q81
            replace p81 := eq_true p81
            replace q81 := eq_true q81
            have HP82 := Kd.R_putg HO_8.out (t160 : Int) (wrap64 ((wrap64 ((rd x8_3 x50_3) - t155)) + t156))
            go_wp2_with (first | ((with_reducible refine gate_dst (N := 93) rfl ?_); refine index_event rfl rfl rfl ?hx_ ?hi_ HIX_.out ?_; (case hx_ => rfl); (case hi_ => rfl)) | ((with_reducible refine gate_store (t := 3) (p := 111) rfl ?_); refine store_event (t := 3) (p := 111) (v := ?vo_w83) (w1 := (wr.setCell ⟨go30, (t160 : Int).toNat, none⟩ (.int .i64 (wrap64 ((wrap64 ((rd x8_3 x50_3) - t155)) + t156))))) ?hg ?ho ?hn ?hr ?_; (case ho => rfl); (case hg => rfl); (case hn => rfl); (case hr => first | (go_simp; done) | (go_simp; rfl)); intro w83 hw; have hg : wr.grownBy w83 (some go30) := (by rw [hw]; exact HP82.2); have hp_ : Kd.R (Kd.int .i64) 3 w83 w.heap.size (fun _ => True) (.slice (some ⟨go30, 0, none⟩) x8_5.length co22) y168 := (by rw [hw, Ny168.out]; exact HP82.1); clear HP82; have n0_ := am (hp_); have n1_ := am (blk_grown (g := gb142) (o := .cells #[.slice (some ad151) l0_0.length c0_0, .slice A0_1 l0_1.length c0_1, .slice A0_2 l0_2.length c0_2] 26 (0, 0)) (bu BK142.out) hg (Kd.R_ne HO_8.out BK142.out (by decide))); have n2_ := am (blk_grown (g := gb143) (o := .cells tabC 73 (0, 0)) (bu BK143.out) hg (Kd.R_ne HO_8.out BK143.out (by decide))); have n3_ := am (blk_grown (g := gb152) (o := .cells #[.int .i64 ((rd_T41 l0_0 x50_3).f0), .int .i64 ((rd_T41 l0_0 x50_3).f1), .int .i64 ((rd_T41 l0_0 x50_3).f2)] 41 (0, 0)) (bu BK152.out) hg (Kd.R_ne HO_8.out BK152.out (by decide))); have n4_ := am ((by rw [hw]; exact below_set (HB.out) GB81.out : Below w.heap.size w w83)); clear HO_8; clear BK142; clear BK143; clear BK152; clear HB; have HO_8 := n0_; have BK142 := n1_; have BK143 := n2_; have BK152 := n3_; have HB := n4_; clear n0_ n1_ n2_ n3_ n4_; clear hg hw hp_))
            (try simp only [← hl8_5])
            go_roundg k5
            case measure => have := HK1.out; have := HK2.out; have := HK3.out; have := HJ46.out; have := HK5.out; omega
            case rel => exact ⟨(y168), (wrap64 (x91_5 + 1)), tv, H', ⟨by have := HK1.out; have := HK2.out; have := HK3.out; have := HJ46.out; have := HK5.out; omega⟩, ⟨by (try simp only [hl8_2]); (try simp only [hl8_3]); (try simp only [hl8_5]); (with_reducible repeat (first | apply Kd.R_alloc | apply Kd.R_drewN | apply Kd.R_drew)); exact HO_8.out⟩, ⟨by (try simp only [hl8_2]); (try simp only [hl8_3]); (try simp only [hl8_5]); refine bu ?_; exact BK142.out⟩, ⟨by (try simp only [hl8_2]); (try simp only [hl8_3]); (try simp only [hl8_5]); refine bu ?_; exact BK143.out⟩, ⟨by (try simp only [hl8_2]); (try simp only [hl8_3]); (try simp only [hl8_5]); refine bu ?_; exact BK152.out⟩, ⟨wrap_two HL91.out (of_decide_eq_true c62b0)⟩, ⟨bs⟩⟩
           rw [if_pos c76] at H
           have c76b0 : decide (0 ≤ (rd x8_5 t160)) = true := decide_eq_true c76
           clear c76
           by_cases c77 : (rd x8_5 t160) = (wrap64 ((wrap64 ((rd x8_3 x50_3) - t155)) + t156))
           rotate_left
           ·rw [if_neg c77] at H
            have c77b0 : ((rd x8_5 t160) == (wrap64 ((wrap64 ((rd x8_3 x50_3) - t155)) + t156))) = false := beq_eq_false_iff_ne.mpr c77
            have c77b1 : ((rd x8_5 t160) != (wrap64 ((wrap64 ((rd x8_3 x50_3) - t155)) + t156))) = true := bne_iff_ne.mpr c77
            simp only [Option.some.injEq, Prod.mk.injEq] at H
            obtain ⟨rfl, rfl, rfl⟩ := H
            have p165 : 0 ≤ (t160 : Int) := of_decide_eq_true od
            have q165 : t160 < (x8_5.length : Int) := of_decide_eq_true od
            obtain ⟨ad165, e165, hx165_0⟩ := Kd.at_int (Kd.R_reads' HO_8.out).2.2 t160 p165 q165
            obtain rfl : (⟨go30, 0, none⟩ : Addr) = ad165 := (by injection e165)
            (first | simp only [add_plain] at hx165_0 | simp only [add_at] at hx165_0 | simp only [Addr.add, Nat.zero_add] at hx165_0 | skip)
            replace p165 := eq_true p165
            replace q165 := eq_true q165
            have p166 : 0 ≤ (t160 : Int) := of_decide_eq_true od
            have q166 : t160 < (x8_5.length : Int) := of_decide_eq_true od
            obtain ⟨ad166, e166, hx166_0⟩ := Kd.at_int (Kd.R_reads' HO_8.out).2.2 t160 p166 q166
            obtain rfl : (⟨go30, 0, none⟩ : Addr) = ad166 := (by injection e166)
            (first | simp only [add_plain] at hx166_0 | simp only [add_at] at hx166_0 | simp only [Addr.add, Nat.zero_add] at hx166_0 | skip)
            replace p166 := eq_true p166
            replace q166 := eq_true q166
            go_wp2_with (first | ((with_reducible refine gate_dst (N := 93) rfl ?_); refine index_event rfl rfl rfl ?hx_ ?hi_ HIX_.out ?_; (case hx_ => rfl); (case hi_ => rfl)))
            go_ret3
            exact ⟨_, by first | rfl | (simp [errW_none, errW_some] <;> rfl) | (simp only [← hji17]; first | rfl | (simp [errW_none, errW_some] <;> rfl)) | (simp [*, errW_none, errW_some] <;> rfl), by first | exact Kd.R_nil _ _ _ _ _ | exact Kd.N_nil _ _ _ _ _ | exact Kd.V_nil _ _ _ _ _ | exact Kd.Q_nil _ _ _ _ _ | exact Kd.S_nil _ _ _ _ _, bs⟩
           rw [if_pos c77] at H
           have c77b0 : ((rd x8_5 t160) == (wrap64 ((wrap64 ((rd x8_3 x50_3) - t155)) + t156))) = true := beq_iff_eq.mpr c77
           have c77b1 : ((rd x8_5 t160) != (wrap64 ((wrap64 ((rd x8_3 x50_3) - t155)) + t156))) = false := bne_eq_false_iff_eq.mpr c77
           clear c77
           obtain ⟨y167, hy167⟩ : ∃ y_ : List Int, y_ = (x8_5.set (t160 : Int).toNat (wrap64 ((wrap64 ((rd x8_3 x50_3) - t155)) + t156))) := ⟨_, rfl⟩
           replace H : (c_Heights.l3 k5 (l0_0.length : Int) y167 x50_3 (wrap64 ((wrap64 ((rd x8_3 x50_3) - t155)) + t156)) l0_0 (l0_0.length : Int) x50_3 (wrap64 (x91_5 + 1)) t159 t160) = some (r1, r2, r3) := by first | (rw [hy167]; with_reducible exact H) | (have H2_ := (Option.bind_some _ _).symm.trans H; rw [hy167]; with_reducible exact H2_) | (have H2_ := (Option.bind_some _ _).symm.trans H; with_reducible exact H2_) | with_reducible exact H | (rw [hy167]; exact H) | exact H
           have Ny167 := am hy167
           clear hy167
           have H' := am H
           clear H
           have p165 : 0 ≤ (t160 : Int) := of_decide_eq_true od
           have q165 : t160 < (x8_5.length : Int) := of_decide_eq_true od
           obtain ⟨ad165, e165, hx165_0⟩ := Kd.at_int (Kd.R_reads' HO_8.out).2.2 t160 p165 q165
           obtain rfl : (⟨go30, 0, none⟩ : Addr) = ad165 := (by injection e165)
           (first | simp only [add_plain] at hx165_0 | simp only [add_at] at hx165_0 | simp only [Addr.add, Nat.zero_add] at hx165_0 | skip)
           replace p165 := eq_true p165
           replace q165 := eq_true q165
           have p166 : 0 ≤ (t160 : Int) := of_decide_eq_true od
           have q166 : t160 < (x8_5.length : Int) := of_decide_eq_true od
           obtain ⟨ad166, e166, hx166_0⟩ := Kd.at_int (Kd.R_reads' HO_8.out).2.2 t160 p166 q166
           obtain rfl : (⟨go30, 0, none⟩ : Addr) = ad166 := (by injection e166)
           (first | simp only [add_plain] at hx166_0 | simp only [add_at] at hx166_0 | simp only [Addr.add, Nat.zero_add] at hx166_0 | skip)
           replace p166 := eq_true p166
           replace q166 := eq_true q166
           have p78 : 0 ≤ (t160 : Int) := of_decide_eq_true od
           have q78 : (t160 : Int) < ((x8_5.length : Int) : Int) := of_decide_eq_true od
           obtain ⟨go78, co78, eo78, gb78, gl78, cl78, HG78⟩ := Kd.R_form HO_8.out (by omega)
           obtain ⟨ea_, en_, ec_⟩ := slice_inj eo78; subst ea_; subst ec_; clear en_
           have GB78 := am gb78
           have GG78 := am HG78
           clear gb78 gl78 HG78
           obtain ⟨hx78_0, hf78_0⟩ := Kd.R_celln 0 HO_8.out (t160 : Int) p78 q78
           replace p78 := eq_true p78
           replace q78 := eq_true q78
           have HP79 := Kd.R_putg HO_8.out (t160 : Int) (wrap64 ((wrap64 ((rd x8_3 x50_3) - t155)) + t156))
           go_wp2_with (first | ((with_reducible refine gate_dst (N := 93) rfl ?_); refine index_event rfl rfl rfl ?hx_ ?hi_ HIX_.out ?_; (case hx_ => rfl); (case hi_ => rfl)) | ((with_reducible refine gate_store (t := 3) (p := 111) rfl ?_); refine store_event (t := 3) (p := 111) (v := ?vo_w80) (w1 := (wr.setCell ⟨go30, (t160 : Int).toNat, none⟩ (.int .i64 (wrap64 ((wrap64 ((rd x8_3 x50_3) - t155)) + t156))))) ?hg ?ho ?hn ?hr ?_; (case ho => rfl); (case hg => rfl); (case hn => rfl); (case hr => first | (go_simp; done) | (go_simp; rfl)); intro w80 hw; have hg : wr.grownBy w80 (some go30) := (by rw [hw]; exact HP79.2); have hp_ : Kd.R (Kd.int .i64) 3 w80 w.heap.size (fun _ => True) (.slice (some ⟨go30, 0, none⟩) x8_5.length co22) y167 := (by rw [hw, Ny167.out]; exact HP79.1); clear HP79; have n0_ := am (hp_); have n1_ := am (blk_grown (g := gb142) (o := .cells #[.slice (some ad151) l0_0.length c0_0, .slice A0_1 l0_1.length c0_1, .slice A0_2 l0_2.length c0_2] 26 (0, 0)) (bu BK142.out) hg (Kd.R_ne HO_8.out BK142.out (by decide))); have n2_ := am (blk_grown (g := gb143) (o := .cells tabC 73 (0, 0)) (bu BK143.out) hg (Kd.R_ne HO_8.out BK143.out (by decide))); have n3_ := am (blk_grown (g := gb152) (o := .cells #[.int .i64 ((rd_T41 l0_0 x50_3).f0), .int .i64 ((rd_T41 l0_0 x50_3).f1), .int .i64 ((rd_T41 l0_0 x50_3).f2)] 41 (0, 0)) (bu BK152.out) hg (Kd.R_ne HO_8.out BK152.out (by decide))); have n4_ := am ((by rw [hw]; exact below_set (HB.out) GB78.out : Below w.heap.size w w80)); clear HO_8; clear BK142; clear BK143; clear BK152; clear HB; have HO_8 := n0_; have BK142 := n1_; have BK143 := n2_; have BK152 := n3_; have HB := n4_; clear n0_ n1_ n2_ n3_ n4_; clear hg hw hp_))
           (try simp only [← hl8_5])
           go_roundg k5
           case measure => have := HK1.out; have := HK2.out; have := HK3.out; have := HJ46.out; have := HK5.out; omega
           case rel => exact ⟨(y167), (wrap64 (x91_5 + 1)), tv, H', ⟨by have := HK1.out; have := HK2.out; have := HK3.out; have := HJ46.out; have := HK5.out; omega⟩, ⟨by (try simp only [hl8_2]); (try simp only [hl8_3]); (try simp only [hl8_5]); (with_reducible repeat (first | apply Kd.R_alloc | apply Kd.R_drewN | apply Kd.R_drew)); exact HO_8.out⟩, ⟨by (try simp only [hl8_2]); (try simp only [hl8_3]); (try simp only [hl8_5]); refine bu ?_; exact BK142.out⟩, ⟨by (try simp only [hl8_2]); (try simp only [hl8_3]); (try simp only [hl8_5]); refine bu ?_; exact BK143.out⟩, ⟨by (try simp only [hl8_2]); (try simp only [hl8_3]); (try simp only [hl8_5]); refine bu ?_; exact BK152.out⟩, ⟨wrap_two HL91.out (of_decide_eq_true c62b0)⟩, ⟨bs⟩⟩
end Go.Proofs.YtdkejcadoepnnaaDoor.ECc
