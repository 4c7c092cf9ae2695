/-
 A text of this session's own.
-/
import Derived.Test.YtdkejcadoepnnaaDoorBkA0
import Derived.Test.YtdkejcadoepnnaaDoorBkECrx4
import Derived.Test.YtdkejcadoepnnaaDoorBkECcx0
import Derived.Test.YtdkejcadoepnnaaDoorBkXDec
import Derived.Test.YtdkejcadoepnnaaDoorBkECcx8
set_option linter.unusedSimpArgs false
namespace Go.Proofs.YtdkejcadoepnnaaDoor.ECc
open Go.Proofs.YtdkejcadoepnnaaDoor.X
open Go.RowKit Go.Proofs.YtdkejcadoepnnaaDoorW.PrintWords Go.Proofs.YtdkejcadoepnnaaDoorW.PrintLast Go.Proofs.YtdkejcadoepnnaaDoorW.PrintMore
attribute [local go_sem] max2_int min2_int max_two min_two max_three min_three max_four min_four
set_option linter.unusedVariables false
open Go.Proofs.YtdkejcadoepnnaaDoor.X
mutual
def c_Encode.l0 : Nat → Int → List ByteArray → Int → Int → List (S41) → List Int → List ByteArray → Option (List Int × Int)
 | 0, _, _, _, _, _, _, _ => none
 | k + 1, x7, x28, x29, x30, x177000, x177001, x177002 => if x30 < x29 then (if 0 ≤ x30 then (if x30 < (x28.length : Int) then (if (wrap64 (x7 + ((rdOf ByteArray.empty x28 x30).size : Int))) > 16777216 then (some (([] : List Int), 3)) else (c_Encode.l0 k (wrap64 (x7 + ((rdOf ByteArray.empty x28 x30).size : Int))) x28 x29 (wrap64 (x30 + 1)) x177000 x177001 x177002)) else (none)) else (none)) else (if (x177001.length : Int) > 2097152 then (c_Encode.j1 k true x177000 x177001 x177002) else (c_Encode.j1 k (decide ((x177002.length : Int) > 16777216)) x177000 x177001 x177002))
def c_Encode.j1 : Nat → Bool → List (S41) → List Int → List ByteArray → Option (List Int × Int)
 | 0, _, _, _, _ => none
 | k + 1, x50, x177000, x177001, x177002 => if x50 = true then (some (([] : List Int), 3)) else ((some (([65, 66, 67, 49] : List Int) : List Int)).bind fun y181 => ((xDigits.f (x177001.length : Int)).bind fun t184 => (if y181.length + t184.size < 140737488355328 then (c_Encode.l1 k (y181 ++ bytesOf t184) x177001 (x177001.length : Int) 0 x177000 x177001 x177002) else (none))))
def c_Encode.l1 : Nat → List Int → List Int → Int → Int → List (S41) → List Int → List ByteArray → Option (List Int × Int)
 | 0, _, _, _, _, _, _, _ => none
 | k + 1, x10, x58, x59, x60, x177000, x177001, x177002 => if x60 < x59 then (if 0 ≤ x60 then (if x60 < (x58.length : Int) then (c_Encode.l2 k x10 (rd x58 x60) x58 x59 x60 0 x177000 x177001 x177002) else (none)) else (none)) else ((xDigits.f (x177002.length : Int)).bind fun t192 => (if x10.length + t192.size < 140737488355328 then (c_Encode.l3 k (x10 ++ bytesOf t192) x177002 (x177002.length : Int) 0 x177000 x177001 x177002) else (none)))
def c_Encode.l2 : Nat → List Int → Int → List Int → Int → Int → Int → List (S41) → List Int → List ByteArray → Option (List Int × Int)
 | 0, _, _, _, _, _, _, _, _, _ => none
 | k + 1, x10, x12, x58, x59, x60, x64, x177000, x177001, x177002 => if x64 < 8 then (if x10.length < 140737488355328 then (c_Encode.l2 k (x10 ++ [(x12) % 256]) (x12 / 256) x58 x59 x60 (wrap64 (x64 + 1)) x177000 x177001 x177002) else (none)) else (c_Encode.l1 k x10 x58 x59 (wrap64 (x60 + 1)) x177000 x177001 x177002)
def c_Encode.l3 : Nat → List Int → List ByteArray → Int → Int → List (S41) → List Int → List ByteArray → Option (List Int × Int)
 | 0, _, _, _, _, _, _, _ => none
 | k + 1, x10, x81, x82, x83, x177000, x177001, x177002 => if x83 < x82 then (if 0 ≤ x83 then (if x83 < (x81.length : Int) then ((xDigits.f ((rdOf ByteArray.empty x81 x83).size : Int)).bind fun t197 => (if x10.length + t197.size < 140737488355328 then ((some (x10 ++ bytesOf t197 : List Int)).bind fun y198 => (if y198.length + (rdOf ByteArray.empty x81 x83).size < 140737488355328 then (c_Encode.l3 k (y198 ++ bytesOf (rdOf ByteArray.empty x81 x83)) x81 x82 (wrap64 (x83 + 1)) x177000 x177001 x177002) else (none))) else (none))) else (none)) else (none)) else ((xDigits.f (x177000.length : Int)).bind fun t205 => (if x10.length + t205.size < 140737488355328 then (c_Encode.l4 k (x10 ++ bytesOf t205) x177000 (x177000.length : Int) 0) else (none)))
def c_Encode.l4 : Nat → List Int → List (S41) → Int → Int → Option (List Int × Int)
 | 0, _, _, _, _ => none
 | k + 1, x10, x101, x102, x103 => if x103 < x102 then (if 0 ≤ x103 then (if x103 < (x101.length : Int) then (if x10.length < 140737488355328 then ((some (x10 ++ [((rd_T41 x101 x103).f0) % 256] : List Int)).bind fun y211 => (if 0 ≤ ((rd_T41 x101 x103).f0) then (if ((rd_T41 x101 x103).f0) < (tabL.length : Int) then (if ((rd_T72 tabL ((rd_T41 x101 x103).f0)).f1) = 0 then (if ((rd_T72 tabL ((rd_T41 x101 x103).f0)).f2) = 0 then (c_Encode.l4 k y211 x101 x102 (wrap64 (x103 + 1))) else ((xDigits.f ((rd_T41 x101 x103).f2)).bind fun t216 => (if y211.length + t216.size < 140737488355328 then (c_Encode.l4 k (y211 ++ bytesOf t216) x101 x102 (wrap64 (x103 + 1))) else (none)))) else ((xDigits.f ((rd_T41 x101 x103).f1)).bind fun t220 => (if y211.length + t220.size < 140737488355328 then ((some (y211 ++ bytesOf t220 : List Int)).bind fun y221 => (if ((rd_T72 tabL ((rd_T41 x101 x103).f0)).f2) = 0 then (c_Encode.l4 k y221 x101 x102 (wrap64 (x103 + 1))) else ((xDigits.f ((rd_T41 x101 x103).f2)).bind fun t225 => (if y221.length + t225.size < 140737488355328 then (c_Encode.l4 k (y221 ++ bytesOf t225) x101 x102 (wrap64 (x103 + 1))) else (none))))) else (none)))) else (none)) else (none))) else (none)) else (none)) else (none)) else (if (x10.length : Int) > 16777216 then (some (([] : List Int), 3)) else (some (x10, 0)))
end
def c_Encode.f (k : Nat) (l0_0 : List (S41)) (l0_1 : List Int) (l0_2 : List ByteArray) : Option (List Int × Int) := (c_Check.f k l0_0 l0_1 l0_2).bind fun bt177 => (if bt177.2.2 = 0 then (c_Encode.l0 k 0 l0_2 (l0_2.length : Int) 0 l0_0 l0_1 l0_2) else (some (([] : List Int), bt177.2.2)))
set_option maxHeartbeats 8000000 in
set_option maxRecDepth 100000 in
theorem c_Encode.calls (k : Nat) (A0_0 : Option Addr) (c0_0 : Nat) (l0_0 : List (S41)) (A0_1 : Option Addr) (c0_1 : Nat) (l0_1 : List Int) (A0_2 : Option Addr) (c0_2 : Nat) (l0_2 : List ByteArray) (r1 : List Int) (r2 : Int) (w : World) (hr0_0 : Kd.C k41 w A0_0 l0_0.length l0_0) (hc0_0 : l0_0.length ≤ c0_0) (hr0_1 : Kd.C (Kd.int .u64) w A0_1 l0_1.length l0_1) (hc0_1 : l0_1.length ≤ c0_1) (hr0_2 : Kd.C Kd.string w A0_2 l0_2.length l0_2) (hc0_2 : l0_2.length ≤ c0_2) (h : c_Encode.f k l0_0 l0_1 l0_2 = some (r1, r2)) :
  Calls Tryd.prog 14 #[.agg #[.slice A0_0 l0_0.length c0_0, .slice A0_1 l0_1.length c0_1, .slice A0_2 l0_2.length c0_2]] w fun e w' => ∃ v0_ : Value, e = .returned (.tuple #[v0_, .int .i64 r2]) ∧ Kd.R (Kd.int .u8) 5 w' w.heap.size (fun _ => True) v0_ r1 ∧ Below w.heap.size w w' := by
 have hu26 := Tryd.underlying26
 have hu7 := Tryd.underlying7
 have hu41 := Tryd.underlying41
 have HR0_0 := am hr0_0
 have HC0_0 := am hc0_0
 clear hr0_0 hc0_0
 have HR0_1 := am hr0_1
 have HC0_1 := am hc0_1
 clear hr0_1 hc0_1
 have HR0_2 := am hr0_2
 have HC0_2 := am hc0_2
 clear hr0_2 hc0_2
 have HB := am (Below.refl w.heap.size w)
 have H : ((c_Check.f k l0_0 l0_1 l0_2).bind fun bt177 => (if bt177.2.2 = 0 then (c_Encode.l0 k 0 l0_2 (l0_2.length : Int) 0 l0_0 l0_1 l0_2) else (some (([] : List Int), bt177.2.2)))) = some (r1, r2) := h
 clear h
 replace H := Option.bind_eq_some_iff.mp H
 obtain ⟨⟨t177, t178, t179⟩, A20, H⟩ := H
 replace H : (if t179 = 0 then (c_Encode.l0 k 0 l0_2 (l0_2.length : Int) 0 l0_0 l0_1 l0_2) else (some (([] : List Int), t179))) = some (r1, r2) := H
 have A2 := am A20
 clear A20
 by_cases c3 : t179 = 0
 rotate_left
 ·rw [if_neg c3] at H
  have c3b0 : (t179 == 0) = false := beq_eq_false_iff_ne.mpr c3
  have c3b1 : (t179 != 0) = true := bne_iff_ne.mpr c3
  simp only [Option.some.injEq, Prod.mk.injEq] at H
  obtain ⟨rfl, rfl⟩ := H
  go_enter Tryd.func14, Tryd.ntmps14
  go_wp2_with (first | ((with_reducible refine gate_dst (N := 1) rfl ?_); (try (refine gate_guard (by rfl) ?_; dsimp only)); refine box_event ?hg (N := 1) ?hd (cs := #[.slice A0_0 l0_0.length c0_0, .slice A0_1 l0_1.length c0_1, .slice A0_2 l0_2.length c0_2]) (t := 26) ?hr ?_; (case hd => rfl); (case hg => rfl); (case hr => first | (go_simp; done) | (go_simp; rfl)); intro gb176 hg w106 hbox hb; have n0_ := am (below_step bl hb); have n1_ := am (hbox); have n2_ := am ((by rw [hg]; exact (below_size bl) : w.heap.size ≤ gb176)); have n3_ := n2_; clear HB; have HB := n0_; have BK176 := n1_; have GW176 := n2_; have GE176 := n3_; clear n0_ n1_ n2_ n3_; clear hb hbox hg; obtain ⟨⟨hcz107_0, hcz107_1, hcz107_2⟩, hfz107_0, hfz107_1, hfz107_2⟩ := blkAll3 BK176) | ((with_reducible refine gate_callee (f := 13) rfl ?_); refine goesL_ (some 20) rfl rfl Tryd.func13 (by kernel_rfl) rfl #[.agg #[.slice A0_0 l0_0.length c0_0, .slice A0_1 l0_1.length c0_1, .slice A0_2 l0_2.length c0_2]] rfl ls ?_; (with_reducible refine (c_Check.calls k _ _ l0_0 _ _ l0_1 _ _ l0_2 t177 t178 t179 _ ?side1 ?side2 ?side3 ?side4 ?side5 ?side6 A2.out).mono ?_); (case side1 => repeat (first | exact (Kd.C_below HR0_0.out HB.out) | (with_reducible refine Kd.C_alloc ?_ _) | (with_reducible refine Kd.C_drewN ?_ _) | (with_reducible refine Kd.C_drew ?_))); (case side2 => exact HC0_0.out); (case side3 => repeat (first | exact (Kd.C_below HR0_1.out HB.out) | (with_reducible refine Kd.C_alloc ?_ _) | (with_reducible refine Kd.C_drewN ?_ _) | (with_reducible refine Kd.C_drew ?_))); (case side4 => exact HC0_1.out); (case side5 => repeat (first | exact (Kd.C_below HR0_2.out HB.out) | (with_reducible refine Kd.C_alloc ?_ _) | (with_reducible refine Kd.C_drewN ?_ _) | (with_reducible refine Kd.C_drew ?_))); (case side6 => exact HC0_2.out); rintro e w108 ⟨rfl, hb⟩; refine ⟨_, rfl, ?_⟩; have n0_ := am (blk_below (bu BK176.out) hb); have n1_ := am (below_step bs hb); clear BK176; clear HB; have BK176 := n0_; have HB := n1_; clear n0_ n1_; (try clear hb); (try clear hb2); (try clear hk); (try clear hi)))
  go_ret2
  exact ⟨_, er, by first | exact Kd.R_nil _ _ _ _ _ | exact Kd.N_nil _ _ _ _ _ | exact Kd.V_nil _ _ _ _ _ | exact Kd.Q_nil _ _ _ _ _ | exact Kd.S_nil _ _ _ _ _, bs⟩
 rw [if_pos c3] at H
 have c3b0 : (t179 == 0) = true := beq_iff_eq.mpr c3
 have c3b1 : (t179 != 0) = false := bne_eq_false_iff_eq.mpr c3
 clear c3
 have H' := am H
 clear H
 go_enter Tryd.func14, Tryd.ntmps14
 go_wp2_with (first | ((with_reducible refine gate_dst (N := 1) rfl ?_); (try (refine gate_guard (by rfl) ?_; dsimp only)); refine box_event ?hg (N := 1) ?hd (cs := #[.slice A0_0 l0_0.length c0_0, .slice A0_1 l0_1.length c0_1, .slice A0_2 l0_2.length c0_2]) (t := 26) ?hr ?_; (case hd => rfl); (case hg => rfl); (case hr => first | (go_simp; done) | (go_simp; rfl)); intro gb176 hg w4 hbox hb; have n0_ := am (below_step bl hb); have n1_ := am (hbox); have n2_ := am ((by rw [hg]; exact (below_size bl) : w.heap.size ≤ gb176)); have n3_ := n2_; clear HB; have HB := n0_; have BK176 := n1_; have GW176 := n2_; have GE176 := n3_; clear n0_ n1_ n2_ n3_; clear hb hbox hg; obtain ⟨⟨hcz5_0, hcz5_1, hcz5_2⟩, hfz5_0, hfz5_1, hfz5_2⟩ := blkAll3 BK176) | ((with_reducible refine gate_callee (f := 13) rfl ?_); refine goesL_ (some 20) rfl rfl Tryd.func13 (by kernel_rfl) rfl #[.agg #[.slice A0_0 l0_0.length c0_0, .slice A0_1 l0_1.length c0_1, .slice A0_2 l0_2.length c0_2]] rfl ls ?_; (with_reducible refine (c_Check.calls k _ _ l0_0 _ _ l0_1 _ _ l0_2 t177 t178 t179 _ ?side1 ?side2 ?side3 ?side4 ?side5 ?side6 A2.out).mono ?_); (case side1 => repeat (first | exact (Kd.C_below HR0_0.out HB.out) | (with_reducible refine Kd.C_alloc ?_ _) | (with_reducible refine Kd.C_drewN ?_ _) | (with_reducible refine Kd.C_drew ?_))); (case side2 => exact HC0_0.out); (case side3 => repeat (first | exact (Kd.C_below HR0_1.out HB.out) | (with_reducible refine Kd.C_alloc ?_ _) | (with_reducible refine Kd.C_drewN ?_ _) | (with_reducible refine Kd.C_drew ?_))); (case side4 => exact HC0_1.out); (case side5 => repeat (first | exact (Kd.C_below HR0_2.out HB.out) | (with_reducible refine Kd.C_alloc ?_ _) | (with_reducible refine Kd.C_drewN ?_ _) | (with_reducible refine Kd.C_drew ?_))); (case side6 => exact HC0_2.out); rintro e w6 ⟨rfl, hb⟩; refine ⟨_, rfl, ?_⟩; have n0_ := am (blk_below (bu BK176.out) hb); have n1_ := am (below_step bs hb); clear BK176; clear HB; have BK176 := n0_; have HB := n1_; clear n0_ n1_; (try clear hb); (try clear hb2); (try clear hk); (try clear hi); obtain ⟨⟨hcz7_0, hcz7_1, hcz7_2⟩, hfz7_0, hfz7_1, hfz7_2⟩ := blkAll3 BK176))
 go_loopg [7, 30] k (fun kq v7 v30 w' => ∃ (x7_1 : Int) (x30_1 : Int), v7 = .int .i64 x7_1 ∧ v30 = .int .i64 x30_1 ∧ Aside0 (c_Encode.l0 kq x7_1 l0_2 (l0_2.length : Int) x30_1 l0_0 l0_1 l0_2 = some (r1, r2)) ∧ Aside0 (kq ≤ k) ∧ Aside0 (w'.heap[gb176]? = some (.cells #[(.slice A0_0 l0_0.length c0_0), (.slice A0_1 l0_1.length c0_1), (.slice A0_2 l0_2.length c0_2)] 26 (0, 0))) ∧ Aside0 (Below w.heap.size w w'))
 case atStart => exact ⟨(0), (0), tv, tv, H', ⟨Nat.le_refl _⟩, ⟨by refine bu ?_; exact BK176.out⟩, ⟨bs⟩⟩
 case round =>
  clear H'
  try clear c1
  try clear p2
  try clear c3
  try clear c3b0
  try clear c3b1
  try clear hcz5_0 hcz5_1 hcz5_2
  try clear hcz7_0 hcz7_1 hcz7_2
  try clear hfz5_0 hfz5_1 hfz5_2
  try clear hfz7_0 hfz7_1 hfz7_2
  obtain ⟨x7_1, x30_1, rfl, rfl, HA, HK1, BK176, HB⟩ := hrel
  cases gk with
  | zero => exact absurd HA.out (by simp [c_Encode.l0])
  | succ k1 =>
   have H := HA.out
   clear HA
   simp only [c_Encode.l0] at H
   by_cases c8 : x30_1 < (l0_2.length : Int)
   ·rw [if_pos c8] at H
    have c8b0 := decide_eq_true c8
    clear c8
    by_cases c9 : 0 ≤ x30_1
    rotate_left
    ·rw [if_neg c9] at H
     exact absurd H (by simp)
    rw [if_pos c9] at H
    have c9b0 := decide_eq_true c9
    clear c9
    by_cases c10 : x30_1 < (l0_2.length : Int)
    rotate_left
    ·rw [if_neg c10] at H
     exact absurd H (by simp)
    rw [if_pos c10] at H
    have c10b0 := decide_eq_true c10
    clear c10
    by_cases c11 : (wrap64 (x7_1 + ((rdOf ByteArray.empty l0_2 x30_1).size : Int))) > 16777216
    ·rw [if_pos c11] at H
     have c11b0 : decide (16777216 < (wrap64 (x7_1 + ((rdOf ByteArray.empty l0_2 x30_1).size : Int)))) = true := decide_eq_true c11
     clear c11
     simp only [Option.some.injEq, Prod.mk.injEq] at H
     obtain ⟨rfl, rfl⟩ := H
     have p180 : 0 ≤ (x30_1 : Int) := of_decide_eq_true od
     have q180 : x30_1 < (l0_2.length : Int) := of_decide_eq_true od
     obtain ⟨ad180, e180, hx180_0⟩ := Kd.at_string HR0_2.out x30_1 p180 q180
     cases e180
     replace hx180_0 := (HB.out.cell (World.block_lt_of_cell? w _ hx180_0)).trans hx180_0
     replace p180 := eq_true p180
     replace q180 := eq_true q180
     go_wp2
     go_ret2
     exact ⟨_, er, by first | exact Kd.R_nil _ _ _ _ _ | exact Kd.N_nil _ _ _ _ _ | exact Kd.V_nil _ _ _ _ _ | exact Kd.Q_nil _ _ _ _ _ | exact Kd.S_nil _ _ _ _ _, bs⟩
    rw [if_neg c11] at H
    have c11b0 : decide (16777216 < (wrap64 (x7_1 + ((rdOf ByteArray.empty l0_2 x30_1).size : Int)))) = false := decide_eq_false c11
    clear c11
    have H' := am H
    clear H
    have p180 : 0 ≤ (x30_1 : Int) := of_decide_eq_true od
    have q180 : x30_1 < (l0_2.length : Int) := of_decide_eq_true od
    obtain ⟨ad180, e180, hx180_0⟩ := Kd.at_string HR0_2.out x30_1 p180 q180
    cases e180
    replace hx180_0 := (HB.out.cell (World.block_lt_of_cell? w _ hx180_0)).trans hx180_0
    replace p180 := eq_true p180
    replace q180 := eq_true q180
    go_wp2
    go_roundg k1
    case measure => have := HK1.out; omega
    case rel => exact ⟨(wrap64 (x7_1 + ((rdOf ByteArray.empty l0_2 x30_1).size : Int))), (wrap64 (x30_1 + 1)), tv, tv, H', ⟨by have := HK1.out; omega⟩, ⟨by refine bu ?_; exact BK176.out⟩, ⟨bs⟩⟩
   rw [if_neg c8] at H
   have c8b0 := decide_eq_false c8
   clear c8
   have HC12 := am H
   clear H
   go_upto_region 12 with (fail)
   go_cut [50] (fun v50 wc => ∃ (kq : Nat) (x50_11 : Bool), v50 = .bool x50_11 ∧ Aside0 (c_Encode.j1 kq x50_11 l0_0 l0_1 l0_2 = some (r1, r2)) ∧ Aside0 (kq ≤ k1) ∧ Aside0 (wc.heap[gb176]? = some (.cells #[(.slice A0_0 l0_0.length c0_0), (.slice A0_1 l0_1.length c0_1), (.slice A0_2 l0_2.length c0_2)] 26 (0, 0))) ∧ Aside0 (Below w.heap.size w wc))
   case first =>
    have H := HC12.out
    clear HC12
    by_cases c13 : (l0_1.length : Int) > 2097152
    ·rw [if_pos c13] at H
     have c13b0 : decide (2097152 < (l0_1.length : Int)) = true := decide_eq_true c13
     have c13b1 : decide (2097152 < l0_1.length) = true := decide_eq_true (by omega)
     clear c13
     (first | rw [c13b0] | (simp only [i64_w, i32_w]; rw [c13b0]) | skip)
     have H' := am H
     clear H
     obtain ⟨⟨hcz14_0, hcz14_1, hcz14_2⟩, hfz14_0, hfz14_1, hfz14_2⟩ := blkAll3 BK176
     go_wp2
     go_meet
     case rel => exact ⟨_, (true), tv, H', ⟨by have := HK1.out; first | omega | exact Nat.le_refl _⟩, ⟨by refine bu ?_; exact BK176.out⟩, ⟨bs⟩⟩
    rw [if_neg c13] at H
    have c13b0 : decide (2097152 < (l0_1.length : Int)) = false := decide_eq_false c13
    have c13b1 : decide (2097152 < l0_1.length) = false := decide_eq_false (by omega)
    clear c13
    (first | rw [c13b0] | (simp only [i64_w, i32_w]; rw [c13b0]) | skip)
    have H' := am H
    clear H
    obtain ⟨⟨hcz15_0, hcz15_1, hcz15_2⟩, hfz15_0, hfz15_1, hfz15_2⟩ := blkAll3 BK176
    go_wp2
    go_meet
    case rel => exact ⟨_, (decide ((l0_2.length : Int) > 16777216)), tv, H', ⟨by have := HK1.out; first | omega | exact Nat.le_refl _⟩, ⟨by refine bu ?_; exact BK176.out⟩, ⟨bs⟩⟩
   case rest =>
    clear HC12
    try clear c1
    try clear p1
    try clear q1
    try clear hx1
    try clear p2
    try clear c3
    try clear c3b0
    try clear c3b1
    try clear p6
    try clear c8
    try clear c8b0
    try clear c9
    try clear c9b0
    try clear c10
    try clear c10b0
    try clear c11
    try clear c11b0
    try clear c13
    try clear c13b0
    try clear c13b1
    try clear c14
    try clear hcz14_0 hcz14_1 hcz14_2
    try clear hcz15_0 hcz15_1 hcz15_2
    try clear hcz5_0 hcz5_1 hcz5_2
    try clear hcz7_0 hcz7_1 hcz7_2
    try clear hfz14_0 hfz14_1 hfz14_2
    try clear hfz15_0 hfz15_1 hfz15_2
    try clear hfz5_0 hfz5_1 hfz5_2
    try clear hfz7_0 hfz7_1 hfz7_2
    try clear hx180_0
    try clear p180
    try clear p2
    try clear q180
    obtain ⟨kq, x50_11, rfl, HA, HJ11, BK176, HB⟩ := hcut
    cases kq with
    | zero => exact absurd HA.out (by simp [c_Encode.j1])
    | succ kj11 =>
     have H := HA.out
     clear HA
     simp only [c_Encode.j1] at H
     by_cases c16 : x50_11 = true
     ·subst c16
      have H1 : (some (([] : List Int), 3)) = some (r1, r2) := by rw [if_pos rfl] at H; exact H
      clear H
      have H := H1
      clear H1
      simp only [Option.some.injEq, Prod.mk.injEq] at H
      obtain ⟨rfl, rfl⟩ := H
      go_wp2
      go_ret2
      exact ⟨_, er, by first | exact Kd.R_nil _ _ _ _ _ | exact Kd.N_nil _ _ _ _ _ | exact Kd.V_nil _ _ _ _ _ | exact Kd.Q_nil _ _ _ _ _ | exact Kd.S_nil _ _ _ _ _, bs⟩
     replace c16 := Bool.eq_false_iff.mpr c16
     subst c16
     have H1 : ((some (([65, 66, 67, 49] : List Int) : List Int)).bind fun y181 => ((xDigits.f (l0_1.length : Int)).bind fun t184 => (if y181.length + t184.size < 140737488355328 then (c_Encode.l1 kj11 (y181 ++ bytesOf t184) l0_1 (l0_1.length : Int) 0 l0_0 l0_1 l0_2) else (none)))) = some (r1, r2) := by rw [if_neg (show ¬ (false = true) by decide)] at H; exact H
     clear H
     have H := H1
     clear H1
     obtain ⟨y181, hy181⟩ : ∃ y_ : List Int, y_ = (([65, 66, 67, 49] : List Int)) := ⟨_, rfl⟩
     replace H : ((xDigits.f (l0_1.length : Int)).bind fun t184 => (if y181.length + t184.size < 140737488355328 then (c_Encode.l1 kj11 (y181 ++ bytesOf t184) l0_1 (l0_1.length : Int) 0 l0_0 l0_1 l0_2) else (none))) = some (r1, r2) := by first | (rw [hy181]; with_reducible exact H) | (have H2_ := (Option.bind_some _ _).symm.trans H; rw [hy181]; with_reducible exact H2_) | (have H2_ := (Option.bind_some _ _).symm.trans H; with_reducible exact H2_) | with_reducible exact H | (rw [hy181]; exact H) | exact H
     have Ny181 := am hy181
     clear hy181
     replace H := Option.bind_eq_some_iff.mp H
     obtain ⟨t184, A170, H⟩ := H
     replace H : (if y181.length + t184.size < 140737488355328 then (c_Encode.l1 kj11 (y181 ++ bytesOf t184) l0_1 (l0_1.length : Int) 0 l0_0 l0_1 l0_2) else (none)) = some (r1, r2) := H
     have A17 := am A170
     clear A170
     by_cases c18 : y181.length + t184.size < 140737488355328
     rotate_left
     ·rw [if_neg c18] at H
      exact absurd H (by simp)
     rw [if_pos c18] at H
     have LMc18 := am c18
     clear c18
     obtain ⟨y185, hy185⟩ : ∃ y_ : List Int, y_ = (y181 ++ bytesOf t184) := ⟨_, rfl⟩
     replace H : (c_Encode.l1 kj11 y185 l0_1 (l0_1.length : Int) 0 l0_0 l0_1 l0_2) = some (r1, r2) := by first | (rw [hy185]; with_reducible exact H) | (have H2_ := (Option.bind_some _ _).symm.trans H; rw [hy185]; with_reducible exact H2_) | (have H2_ := (Option.bind_some _ _).symm.trans H; with_reducible exact H2_) | with_reducible exact H | (rw [hy185]; exact H) | exact H
     have Ny185 := am hy185
     clear hy185
     have H' := am H
     clear H
     go_wp2_with (first | ((with_reducible refine gate_dst (N := 51) rfl ?_); (try (refine gate_guard (by rfl) ?_; dsimp only)); refine mark_event _ ?hg rfl ?hg2 rfl ([65, 66, 67, 49] : List Int) ?hr ?hx_ (Below.refl _ _) (Nat.le_refl _) ?_; (case hg => rfl); (case hg2 => rfl); (case hx_ => intro v; first | rfl | (go_simp; done)); (case hr => first | (go_simp; done) | (go_simp; rfl)); intro v182 w19 ho20 hb hg_ hnew_; clear hg_ hnew_; (first | rw [← Ny181.out] at ho20 | (simp only [Int.reduceToNat] at ho20; rw [← Ny181.out] at ho20)); have n0_ := am (RX.lower ho20 (below_size bs)); have n1_ := am (blk_below (bu BK176.out) hb); have n2_ := am (below_step bs hb); clear BK176; clear HB; have HO183 := n0_; have BK176 := n1_; have HB := n2_; clear n0_ n1_ n2_; clear hb ho20; obtain ⟨⟨hcz21_0, hcz21_1, hcz21_2⟩, hfz21_0, hfz21_1, hfz21_2⟩ := blkAll3 BK176) | ((with_reducible refine gate_callee (f := 29) rfl ?_); refine goesL_ (some 56) rfl rfl Tryd.func29 (by kernel_rfl) rfl #[v182, .int .i64 (l0_1.length : Int)] rfl ls ?_; refine (xNumber.calls w v182 y181 (l0_1.length : Int) t184 _ ?aO ?aB ?aL A17.out).mono ?_; (case aB => exact bs); (case aO => exact (by (with_reducible repeat (first | apply RX.alloc | apply RX.drewN | apply RX.drew)); exact HO183.out)); (case aL => have := LMc18.out; omega); rintro e w23 ⟨v186, rfl, ho, hb, hg⟩; refine ⟨_, rfl, ?_⟩; have hat := True.intro; rw [← Ny185.out] at ho; change Kd.R (Kd.int .u8) 5 w23 w.heap.size (fun _ => True) v186 y185 at ho; have n0_ := am (blk_grown (g := gb176) (o := .cells #[.slice A0_0 l0_0.length c0_0, .slice A0_1 l0_1.length c0_1, .slice A0_2 l0_2.length c0_2] 26 (0, 0)) (bu BK176.out) hg (RX.ne HO183.out BK176.out (by decide))); have n1_ := am (hb); have n2_ := am (ho); clear BK176; clear HB; clear HO183; have BK176 := n0_; have HB := n1_; have HO187 := n2_; clear n0_ n1_ n2_; clear ho hb hg hat; obtain ⟨⟨hcz24_0, hcz24_1, hcz24_2⟩, hfz24_0, hfz24_1, hfz24_2⟩ := blkAll3 BK176))
     go_loopg [10, 60] kj11 (fun kq v10 v60 w' => ∃ (x10_3 : List Int) (x60_3 : Int), v60 = .int .i64 x60_3 ∧ Aside0 (c_Encode.l1 kq x10_3 l0_1 (l0_1.length : Int) x60_3 l0_0 l0_1 l0_2 = some (r1, r2)) ∧ Aside0 (kq ≤ kj11) ∧ Aside0 (Kd.R (Kd.int .u8) 5 w' w.heap.size (fun _ => True) v10 x10_3) ∧ Aside0 (w'.heap[gb176]? = some (.cells #[(.slice A0_0 l0_0.length c0_0), (.slice A0_1 l0_1.length c0_1), (.slice A0_2 l0_2.length c0_2)] 26 (0, 0))) ∧ Aside0 (Below w.heap.size w w'))
     case atStart => exact ⟨(y185), (0), tv, H', ⟨Nat.le_refl _⟩, ⟨by (with_reducible repeat (first | apply Kd.R_alloc | apply Kd.R_drewN | apply Kd.R_drew)); exact HO187.out⟩, ⟨by refine bu ?_; exact BK176.out⟩, ⟨bs⟩⟩
     case round =>
      clear H'
      try clear c1
      try clear p1
      try clear q1
      try clear hx1
      try clear c2
      try clear p2
      try clear c3
      try clear c3b0
      try clear c3b1
      try clear p6
      try clear c8
      try clear c8b0
      try clear c9
      try clear c9b0
      try clear c10
      try clear c10b0
      try clear c11
      try clear c11b0
      try clear c13
      try clear c13b0
      try clear c13b1
      try clear c14
      try clear c16
      try clear c18
      try clear p18
      try clear q18
      try clear hx18
      try clear hcz14_0 hcz14_1 hcz14_2
      try clear hcz15_0 hcz15_1 hcz15_2
      try clear hcz21_0 hcz21_1 hcz21_2
      try clear hcz24_0 hcz24_1 hcz24_2
      try clear hcz5_0 hcz5_1 hcz5_2
      try clear hcz7_0 hcz7_1 hcz7_2
      try clear hfz14_0 hfz14_1 hfz14_2
      try clear hfz15_0 hfz15_1 hfz15_2
      try clear hfz21_0 hfz21_1 hfz21_2
      try clear hfz24_0 hfz24_1 hfz24_2
      try clear hfz5_0 hfz5_1 hfz5_2
      try clear hfz7_0 hfz7_1 hfz7_2
      try clear hx180_0
      try clear p1
      try clear p180
      try clear p2
      try clear p6
      try clear q1
      try clear q180
      obtain ⟨x10_3, x60_3, rfl, HA, HK3, HO_10, BK176, HB⟩ := hrel
      cases gk with
      | zero => exact absurd HA.out (by simp [c_Encode.l1])
      | succ k3 =>
       have H := HA.out
       clear HA
       simp only [c_Encode.l1] at H
       by_cases c25 : x60_3 < (l0_1.length : Int)
       ·rw [if_pos c25] at H
        have c25b0 := decide_eq_true c25
        clear c25
        by_cases c26 : 0 ≤ x60_3
        rotate_left
        ·rw [if_neg c26] at H
         exact absurd H (by simp)
        rw [if_pos c26] at H
        have c26b0 := decide_eq_true c26
        clear c26
        by_cases c27 : x60_3 < (l0_1.length : Int)
        rotate_left
        ·rw [if_neg c27] at H
         exact absurd H (by simp)
        rw [if_pos c27] at H
        have c27b0 := decide_eq_true c27
        clear c27
        have H' := am H
        clear H
        have p188 : 0 ≤ (x60_3 : Int) := of_decide_eq_true od
        have q188 : x60_3 < (l0_1.length : Int) := of_decide_eq_true od
        obtain ⟨ad188, e188, hx188_0⟩ := Kd.at_int HR0_1.out x60_3 p188 q188
        cases e188
        replace hx188_0 := (HB.out.cell (World.block_lt_of_cell? w _ hx188_0)).trans hx188_0
        replace p188 := eq_true p188
        replace q188 := eq_true q188
        go_wp2
        go_loopg [10, 12, 64] k3 (fun kq v10 v12 v64 w' => ∃ (x10_4 : List Int) (x12_4 : Int) (x64_4 : Int), v12 = .int .u64 x12_4 ∧ v64 = .int .i64 x64_4 ∧ Aside0 (c_Encode.l2 kq x10_4 x12_4 l0_1 (l0_1.length : Int) x60_3 x64_4 l0_0 l0_1 l0_2 = some (r1, r2)) ∧ Aside0 (kq ≤ k3) ∧ Aside0 (Kd.R (Kd.int .u8) 5 w' w.heap.size (fun _ => True) v10 x10_4) ∧ Aside0 (w'.heap[gb176]? = some (.cells #[(.slice A0_0 l0_0.length c0_0), (.slice (some ad188) l0_1.length c0_1), (.slice A0_2 l0_2.length c0_2)] 26 (0, 0))) ∧ Aside0 (Below w.heap.size w w'))
        case atStart => exact ⟨(x10_3), (rd l0_1 x60_3), (0), tv, tv, H', ⟨Nat.le_refl _⟩, ⟨by (with_reducible repeat (first | apply Kd.R_alloc | apply Kd.R_drewN | apply Kd.R_drew)); exact HO_10.out⟩, ⟨by refine bu ?_; exact BK176.out⟩, ⟨bs⟩⟩
        case round =>
         clear H'
         try clear c1
         try clear p1
         try clear q1
         try clear hx1
         try clear c2
         try clear p2
         try clear c3
         try clear c3b0
         try clear c3b1
         try clear p6
         try clear c8
         try clear c8b0
         try clear c9
         try clear c9b0
         try clear c10
         try clear c10b0
         try clear c11
         try clear c11b0
         try clear c13
         try clear c13b0
         try clear c13b1
         try clear c14
         try clear c16
         try clear c18
         try clear p18
         try clear q18
         try clear hx18
         try clear c25
         try clear c25b0
         try clear c26
         try clear c26b0
         try clear c27
         try clear c27b0
         try clear hcz14_0 hcz14_1 hcz14_2
         try clear hcz15_0 hcz15_1 hcz15_2
         try clear hcz21_0 hcz21_1 hcz21_2
         try clear hcz24_0 hcz24_1 hcz24_2
         try clear hcz5_0 hcz5_1 hcz5_2
         try clear hcz7_0 hcz7_1 hcz7_2
         try clear hfz14_0 hfz14_1 hfz14_2
         try clear hfz15_0 hfz15_1 hfz15_2
         try clear hfz21_0 hfz21_1 hfz21_2
         try clear hfz24_0 hfz24_1 hfz24_2
         try clear hfz5_0 hfz5_1 hfz5_2
         try clear hfz7_0 hfz7_1 hfz7_2
         try clear hx180_0
         try clear hx188_0
         try clear p1
         try clear p18
         try clear p180
         try clear p188
         try clear p2
         try clear p6
         try clear q1
         try clear q18
         try clear q180
         try clear q188
         obtain ⟨x10_4, x12_4, x64_4, rfl, rfl, HA, HK4, HO_10, BK176, HB⟩ := hrel
         cases gk with
         | zero => exact absurd HA.out (by simp [c_Encode.l2])
         | succ k4 =>
          have H := HA.out
          clear HA
          simp only [c_Encode.l2] at H
          by_cases c28 : x64_4 < 8
          rotate_left
          ·rw [if_neg c28] at H
           have c28b0 := decide_eq_false c28
           clear c28
           have H' := am H
           clear H
           go_wp2
           go_roundg k4
           case measure => have := HK1.out; have := HJ11.out; have := HK3.out; have := HK4.out; omega
           case rel => exact ⟨(x10_4), (wrap64 (x60_3 + 1)), tv, H', ⟨by have := HK1.out; have := HJ11.out; have := HK3.out; have := HK4.out; omega⟩, ⟨by (with_reducible repeat (first | apply Kd.R_alloc | apply Kd.R_drewN | apply Kd.R_drew)); exact HO_10.out⟩, ⟨by refine bu ?_; exact BK176.out⟩, ⟨bs⟩⟩
          rw [if_pos c28] at H
          have c28b0 := decide_eq_true c28
          clear c28
          by_cases c29 : x10_4.length < 140737488355328
          rotate_left
          ·rw [if_neg c29] at H
           exact absurd H (by simp)
          rw [if_pos c29] at H
          have LMc29 := am c29
          clear c29
          obtain ⟨y189, hy189⟩ : ∃ y_ : List Int, y_ = (x10_4 ++ [(x12_4) % 256]) := ⟨_, rfl⟩
          replace H : (c_Encode.l2 k4 y189 (x12_4 / 256) l0_1 (l0_1.length : Int) x60_3 (wrap64 (x64_4 + 1)) l0_0 l0_1 l0_2) = some (r1, r2) := by first | (rw [hy189]; with_reducible exact H) | (have H2_ := (Option.bind_some _ _).symm.trans H; rw [hy189]; with_reducible exact H2_) | (have H2_ := (Option.bind_some _ _).symm.trans H; with_reducible exact H2_) | with_reducible exact H | (rw [hy189]; exact H) | exact H
          have Ny189 := am hy189
          clear hy189
          have H' := am H
          clear H
          go_wp2_with (first | ((with_reducible refine gate_builtin (b := .append) (xs := #[.tmp 66, .tmp 69]) rfl ?_); (try (refine gate_guard (by rfl) ?_; dsimp only)); at_builtin; refine Kd.R_append (Kd.int .u8) (w0 := w) w.heap.size rfl (.tmp 66) (.tmp 69) 34 5 (.int .u8 0) 1 rfl Tryd.underlying34 info5 rfl (by decide) (by omega) u10 x10_4 ((x12_4) % 256) [.int .u8 ((x12_4) % 256)] (fun _ => True) (fun _ => False) rfl rfl ?aP (fun _ hk => hk.elim) ?aF ?aO ?aB ?aS ?aL ?_; (case aP => exact rfl); (case aB => exact bs); (case aF => exact (fun _ _ => trivial)); (case aO => exact (by (with_reducible repeat (first | apply Kd.R_alloc | apply Kd.R_drewN | apply Kd.R_drew)); exact HO_10.out)); (case aS => exact (below_size bs)); (case aL => have := LMc29.out; omega); intro v190 w30 ho hb hg hat; rw [← Ny189.out] at ho; have n0_ := am (blk_grown (g := gb176) (o := .cells #[.slice A0_0 l0_0.length c0_0, .slice (some ad188) l0_1.length c0_1, .slice A0_2 l0_2.length c0_2] 26 (0, 0)) (bu BK176.out) hg (Kd.R_ne HO_10.out BK176.out (by decide))); have n1_ := am (hb); have n2_ := am (ho); clear BK176; clear HB; clear HO_10; have BK176 := n0_; have HB := n1_; have HO191 := n2_; clear n0_ n1_ n2_; clear ho hb hg hat))
          go_roundg k4
          case measure => have := HK1.out; have := HJ11.out; have := HK3.out; have := HK4.out; omega
          case rel => exact ⟨(y189), (x12_4 / 256), (wrap64 (x64_4 + 1)), tv, tv, H', ⟨by have := HK1.out; have := HJ11.out; have := HK3.out; have := HK4.out; omega⟩, ⟨by (with_reducible repeat (first | apply Kd.R_alloc | apply Kd.R_drewN | apply Kd.R_drew)); exact HO191.out⟩, ⟨by refine bu ?_; exact BK176.out⟩, ⟨bs⟩⟩
       rw [if_neg c25] at H
       have c25b0 := decide_eq_false c25
       clear c25
       replace H := Option.bind_eq_some_iff.mp H
       obtain ⟨t192, A310, H⟩ := H
       replace H : (if x10_3.length + t192.size < 140737488355328 then (c_Encode.l3 k3 (x10_3 ++ bytesOf t192) l0_2 (l0_2.length : Int) 0 l0_0 l0_1 l0_2) else (none)) = some (r1, r2) := H
       have A31 := am A310
       clear A310
       by_cases c32 : x10_3.length + t192.size < 140737488355328
       rotate_left
       ·rw [if_neg c32] at H
        exact absurd H (by simp)
       rw [if_pos c32] at H
       have LMc32 := am c32
       clear c32
       obtain ⟨y193, hy193⟩ : ∃ y_ : List Int, y_ = (x10_3 ++ bytesOf t192) := ⟨_, rfl⟩
       replace H : (c_Encode.l3 k3 y193 l0_2 (l0_2.length : Int) 0 l0_0 l0_1 l0_2) = some (r1, r2) := by first | (rw [hy193]; with_reducible exact H) | (have H2_ := (Option.bind_some _ _).symm.trans H; rw [hy193]; with_reducible exact H2_) | (have H2_ := (Option.bind_some _ _).symm.trans H; with_reducible exact H2_) | with_reducible exact H | (rw [hy193]; exact H) | exact H
       have Ny193 := am hy193
       clear hy193
       have H' := am H
       clear H
       obtain ⟨⟨hcz33_0, hcz33_1, hcz33_2⟩, hfz33_0, hfz33_1, hfz33_2⟩ := blkAll3 BK176
       go_wp2_with (first | ((with_reducible refine gate_callee (f := 29) rfl ?_); refine goesL_ (some 79) rfl rfl Tryd.func29 (by kernel_rfl) rfl #[u10, .int .i64 (l0_2.length : Int)] rfl ls ?_; refine (xNumber.calls w u10 x10_3 (l0_2.length : Int) t192 _ ?aO ?aB ?aL A31.out).mono ?_; (case aB => exact bs); (case aO => exact (.inl (by (with_reducible repeat (first | apply Kd.R_alloc | apply Kd.R_drewN | apply Kd.R_drew)); exact HO_10.out))); (case aL => have := LMc32.out; omega); rintro e w35 ⟨v194, rfl, ho, hb, hg⟩; refine ⟨_, rfl, ?_⟩; have hat := True.intro; rw [← Ny193.out] at ho; change Kd.R (Kd.int .u8) 5 w35 w.heap.size (fun _ => True) v194 y193 at ho; have n0_ := am (blk_grown (g := gb176) (o := .cells #[.slice A0_0 l0_0.length c0_0, .slice A0_1 l0_1.length c0_1, .slice A0_2 l0_2.length c0_2] 26 (0, 0)) (bu BK176.out) hg (Kd.R_ne HO_10.out BK176.out (by decide))); have n1_ := am (hb); have n2_ := am (ho); clear BK176; clear HB; clear HO_10; have BK176 := n0_; have HB := n1_; have HO195 := n2_; clear n0_ n1_ n2_; clear ho hb hg hat; obtain ⟨⟨hcz36_0, hcz36_1, hcz36_2⟩, hfz36_0, hfz36_1, hfz36_2⟩ := blkAll3 BK176))
       go_loopg [10, 83] k3 (fun kq v10 v83 w' => ∃ (x10_4 : List Int) (x83_4 : Int), v83 = .int .i64 x83_4 ∧ Aside0 (c_Encode.l3 kq x10_4 l0_2 (l0_2.length : Int) x83_4 l0_0 l0_1 l0_2 = some (r1, r2)) ∧ Aside0 (kq ≤ k3) ∧ Aside0 (Kd.R (Kd.int .u8) 5 w' w.heap.size (fun _ => True) v10 x10_4) ∧ Aside0 (w'.heap[gb176]? = some (.cells #[(.slice A0_0 l0_0.length c0_0), (.slice A0_1 l0_1.length c0_1), (.slice A0_2 l0_2.length c0_2)] 26 (0, 0))) ∧ Aside0 (Below w.heap.size w w'))
       case atStart => exact ⟨(y193), (0), tv, H', ⟨Nat.le_refl _⟩, ⟨by (with_reducible repeat (first | apply Kd.R_alloc | apply Kd.R_drewN | apply Kd.R_drew)); exact HO195.out⟩, ⟨by refine bu ?_; exact BK176.out⟩, ⟨bs⟩⟩
       case round =>
        clear H'
        try clear c1
        try clear p1
        try clear q1
        try clear hx1
        try clear c2
        try clear p2
        try clear c3
        try clear c3b0
        try clear c3b1
        try clear p6
        try clear c8
        try clear c8b0
        try clear c9
        try clear c9b0
        try clear c10
        try clear c10b0
        try clear c11
        try clear c11b0
        try clear c13
        try clear c13b0
        try clear c13b1
        try clear c14
        try clear c16
        try clear c18
        try clear p18
        try clear q18
        try clear hx18
        try clear c25
        try clear c25b0
        try clear c26
        try clear c26b0
        try clear c27
        try clear c27b0
        try clear c28
        try clear c28b0
        try clear c29
        try clear c32
        try clear hcz14_0 hcz14_1 hcz14_2
        try clear hcz15_0 hcz15_1 hcz15_2
        try clear hcz21_0 hcz21_1 hcz21_2
        try clear hcz24_0 hcz24_1 hcz24_2
        try clear hcz33_0 hcz33_1 hcz33_2
        try clear hcz36_0 hcz36_1 hcz36_2
        try clear hcz5_0 hcz5_1 hcz5_2
        try clear hcz7_0 hcz7_1 hcz7_2
        try clear hfz14_0 hfz14_1 hfz14_2
        try clear hfz15_0 hfz15_1 hfz15_2
        try clear hfz21_0 hfz21_1 hfz21_2
        try clear hfz24_0 hfz24_1 hfz24_2
        try clear hfz33_0 hfz33_1 hfz33_2
        try clear hfz36_0 hfz36_1 hfz36_2
        try clear hfz5_0 hfz5_1 hfz5_2
        try clear hfz7_0 hfz7_1 hfz7_2
        try clear hx180_0
        try clear hx188_0
        try clear p1
        try clear p18
        try clear p180
        try clear p188
        try clear p2
        try clear p6
        try clear q1
        try clear q18
        try clear q180
        try clear q188
        obtain ⟨x10_4, x83_4, rfl, HA, HK4, HO_10, BK176, HB⟩ := hrel
        cases gk with
        | zero => exact absurd HA.out (by simp [c_Encode.l3])
        | succ k4 =>
         have H := HA.out
         clear HA
         simp only [c_Encode.l3] at H
         by_cases c37 : x83_4 < (l0_2.length : Int)
         ·rw [if_pos c37] at H
          have c37b0 := decide_eq_true c37
          clear c37
          by_cases c38 : 0 ≤ x83_4
          rotate_left
          ·rw [if_neg c38] at H
           exact absurd H (by simp)
          rw [if_pos c38] at H
          have c38b0 := decide_eq_true c38
          clear c38
          by_cases c39 : x83_4 < (l0_2.length : Int)
          rotate_left
          ·rw [if_neg c39] at H
           exact absurd H (by simp)
          rw [if_pos c39] at H
          have c39b0 := decide_eq_true c39
          clear c39
          replace H := Option.bind_eq_some_iff.mp H
          obtain ⟨t197, A400, H⟩ := H
          replace H : (if x10_4.length + t197.size < 140737488355328 then ((some (x10_4 ++ bytesOf t197 : List Int)).bind fun y198 => (if y198.length + (rdOf ByteArray.empty l0_2 x83_4).size < 140737488355328 then (c_Encode.l3 k4 (y198 ++ bytesOf (rdOf ByteArray.empty l0_2 x83_4)) l0_2 (l0_2.length : Int) (wrap64 (x83_4 + 1)) l0_0 l0_1 l0_2) else (none))) else (none)) = some (r1, r2) := H
          have A40 := am A400
          clear A400
          by_cases c41 : x10_4.length + t197.size < 140737488355328
          rotate_left
          ·rw [if_neg c41] at H
           exact absurd H (by simp)
          rw [if_pos c41] at H
          have LMc41 := am c41
          clear c41
          obtain ⟨y198, hy198⟩ : ∃ y_ : List Int, y_ = (x10_4 ++ bytesOf t197) := ⟨_, rfl⟩
          replace H : (if y198.length + (rdOf ByteArray.empty l0_2 x83_4).size < 140737488355328 then (c_Encode.l3 k4 (y198 ++ bytesOf (rdOf ByteArray.empty l0_2 x83_4)) l0_2 (l0_2.length : Int) (wrap64 (x83_4 + 1)) l0_0 l0_1 l0_2) else (none)) = some (r1, r2) := by first | (rw [hy198]; with_reducible exact H) | (have H2_ := (Option.bind_some _ _).symm.trans H; rw [hy198]; with_reducible exact H2_) | (have H2_ := (Option.bind_some _ _).symm.trans H; with_reducible exact H2_) | with_reducible exact H | (rw [hy198]; exact H) | exact H
          have Ny198 := am hy198
          clear hy198
          by_cases c42 : y198.length + (rdOf ByteArray.empty l0_2 x83_4).size < 140737488355328
          rotate_left
          ·rw [if_neg c42] at H
           exact absurd H (by simp)
          rw [if_pos c42] at H
          have LMc42 := am c42
          clear c42
          obtain ⟨y201, hy201⟩ : ∃ y_ : List Int, y_ = (y198 ++ bytesOf (rdOf ByteArray.empty l0_2 x83_4)) := ⟨_, rfl⟩
          replace H : (c_Encode.l3 k4 y201 l0_2 (l0_2.length : Int) (wrap64 (x83_4 + 1)) l0_0 l0_1 l0_2) = some (r1, r2) := by first | (rw [hy201]; with_reducible exact H) | (have H2_ := (Option.bind_some _ _).symm.trans H; rw [hy201]; with_reducible exact H2_) | (have H2_ := (Option.bind_some _ _).symm.trans H; with_reducible exact H2_) | with_reducible exact H | (rw [hy201]; exact H) | exact H
          have Ny201 := am hy201
          clear hy201
          have H' := am H
          clear H
          have p196 : 0 ≤ (x83_4 : Int) := of_decide_eq_true od
          have q196 : x83_4 < (l0_2.length : Int) := of_decide_eq_true od
          obtain ⟨ad196, e196, hx196_0⟩ := Kd.at_string HR0_2.out x83_4 p196 q196
          cases e196
          replace hx196_0 := (HB.out.cell (World.block_lt_of_cell? w _ hx196_0)).trans hx196_0
          replace p196 := eq_true p196
          replace q196 := eq_true q196
          go_wp2_with (first | ((with_reducible refine gate_callee (f := 29) rfl ?_); refine goesL_ (some 90) rfl rfl Tryd.func29 (by kernel_rfl) rfl #[u10, .int .i64 ((rdOf ByteArray.empty l0_2 x83_4).size : Int)] rfl ls ?_; refine (xNumber.calls w u10 x10_4 ((rdOf ByteArray.empty l0_2 x83_4).size : Int) t197 _ ?aO ?aB ?aL A40.out).mono ?_; (case aB => exact bs); (case aO => exact (.inl (by (with_reducible repeat (first | apply Kd.R_alloc | apply Kd.R_drewN | apply Kd.R_drew)); exact HO_10.out))); (case aL => have := LMc41.out; omega); rintro e w44 ⟨v199, rfl, ho, hb, hg⟩; refine ⟨_, rfl, ?_⟩; have hat := True.intro; rw [← Ny198.out] at ho; change Kd.R (Kd.int .u8) 5 w44 w.heap.size (fun _ => True) v199 y198 at ho; have n0_ := am (blk_grown (g := gb176) (o := .cells #[.slice A0_0 l0_0.length c0_0, .slice A0_1 l0_1.length c0_1, .slice (some ad196) l0_2.length c0_2] 26 (0, 0)) (bu BK176.out) hg (Kd.R_ne HO_10.out BK176.out (by decide))); have n1_ := am (hb); have n2_ := am (ho); clear BK176; clear HB; clear HO_10; have BK176 := n0_; have HB := n1_; have HO200 := n2_; clear n0_ n1_ n2_; clear ho hb hg hat) | (at_builtin; refine print_append_str (w0 := w) w.heap.size rfl (.tmp 90) _ 34 9 5 rfl Tryd.underlying34 Tryd.underlying9 info5 v199 y198 (rdOf ByteArray.empty l0_2 x83_4) rfl rfl ?aO ?aB ?aS ?aL ?_; (case aB => exact bs); (case aO => exact (Kd.own_of_R (by (with_reducible repeat (first | apply Kd.R_alloc | apply Kd.R_drewN | apply Kd.R_drew)); exact HO200.out))); (case aS => exact (below_size bs)); (case aL => have := LMc42.out; omega); intro v202 w45 ho0 hb hg; have ho := Kd.R_of_own (h1 := fun _ => rfl) (ok := fun _ => True) ho0 (fun _ _ => trivial); clear ho0; have hat := True.intro; rw [← Ny201.out] at ho; change Kd.R (Kd.int .u8) 5 w45 w.heap.size (fun _ => True) v202 y201 at ho; have n0_ := am (blk_grown (g := gb176) (o := .cells #[.slice A0_0 l0_0.length c0_0, .slice A0_1 l0_1.length c0_1, .slice (some ad196) l0_2.length c0_2] 26 (0, 0)) (bu BK176.out) hg (Kd.R_ne HO200.out BK176.out (by decide))); have n1_ := am (hb); have n2_ := am (ho); clear BK176; clear HB; clear HO200; have BK176 := n0_; have HB := n1_; have HO203 := n2_; clear n0_ n1_ n2_; clear ho hb hg hat))
          go_roundg k4
          case measure => have := HK1.out; have := HJ11.out; have := HK3.out; have := HK4.out; omega
          case rel => exact ⟨(y201), (wrap64 (x83_4 + 1)), tv, H', ⟨by have := HK1.out; have := HJ11.out; have := HK3.out; have := HK4.out; omega⟩, ⟨by (with_reducible repeat (first | apply Kd.R_alloc | apply Kd.R_drewN | apply Kd.R_drew)); exact HO203.out⟩, ⟨by refine bu ?_; exact BK176.out⟩, ⟨bs⟩⟩
         rw [if_neg c37] at H
         have c37b0 := decide_eq_false c37
         clear c37
         replace H := Option.bind_eq_some_iff.mp H
         obtain ⟨t205, A460, H⟩ := H
         replace H : (if x10_4.length + t205.size < 140737488355328 then (c_Encode.l4 k4 (x10_4 ++ bytesOf t205) l0_0 (l0_0.length : Int) 0) else (none)) = some (r1, r2) := H
         have A46 := am A460
         clear A460
         by_cases c47 : x10_4.length + t205.size < 140737488355328
         rotate_left
         ·rw [if_neg c47] at H
          exact absurd H (by simp)
         rw [if_pos c47] at H
         have LMc47 := am c47
         clear c47
         obtain ⟨y206, hy206⟩ : ∃ y_ : List Int, y_ = (x10_4 ++ bytesOf t205) := ⟨_, rfl⟩
         replace H : (c_Encode.l4 k4 y206 l0_0 (l0_0.length : Int) 0) = some (r1, r2) := by first | (rw [hy206]; with_reducible exact H) | (have H2_ := (Option.bind_some _ _).symm.trans H; rw [hy206]; with_reducible exact H2_) | (have H2_ := (Option.bind_some _ _).symm.trans H; with_reducible exact H2_) | with_reducible exact H | (rw [hy206]; exact H) | exact H
         have Ny206 := am hy206
         clear hy206
         have H' := am H
         clear H
         go_wp2_with (first | ((with_reducible refine gate_callee (f := 25) rfl ?_); refine goesL_ (some 94) rfl rfl Tryd.func25 (by kernel_rfl) rfl #[] rfl (by first | rfl | simp) ?_; (with_reducible refine (xRows.calls _).mono ?_); rintro e wq_ ⟨rfl, hq_⟩; refine ⟨_, rfl, ?_⟩; refine tab_event (T := 15) (B := 94) rfl rfl rfl rfl rfl rfl ?hx_ ?hy_ ?_; (case hx_ => intro v; first | rfl | (go_simp; done)); (case hy_ => intro v; first | rfl | (go_simp; done)); intro gb204 adT_ hg0_ hadT_ w48 hbox hb0_; have hb := below_then hq_ hq_.size hb0_; have hg := Nat.le_trans hq_.size hg0_; clear hq_ hg0_ hb0_; have n0_ := am (Kd.R_below (by (with_reducible repeat (first | apply Kd.R_alloc | apply Kd.R_drewN | apply Kd.R_drew)); exact HO_10.out) hb); have n1_ := am (blk_below (bu BK176.out) hb); have n2_ := am (below_step bs hb); have n3_ := am (hbox); have n4_ := am ((exact_le hg (below_size bs) : w.heap.size ≤ gb204)); have n5_ := am ((exact_le hg (below_size bs) : w.heap.size ≤ gb204)); have n6_ := am ((ne_lt_le hg (blk_lt (bu BK176.out)) : gb176 ≠ gb204)); have n7_ := am ((ne_gt_le hg (blk_lt (bu BK176.out)) : gb204 ≠ gb176)); clear HO_10; clear BK176; clear HB; have HO_10 := n0_; have BK176 := n1_; have HB := n2_; have BK204 := n3_; have GW204 := n4_; have GE204 := n5_; have NB176_204 := n6_; have NB204_176 := n7_; clear n0_ n1_ n2_ n3_ n4_ n5_ n6_ n7_; clear hb hbox hg; have hnb49 := NB176_204.out; have hnc49 := NB204_176.out; obtain ⟨⟨hcz50_0, hcz50_1, hcz50_2⟩, hfz50_0, hfz50_1, hfz50_2⟩ := blkAll3 BK176) | ((with_reducible refine gate_callee (f := 29) rfl ?_); refine goesL_ (some 99) rfl rfl Tryd.func29 (by kernel_rfl) rfl #[u10, .int .i64 (l0_0.length : Int)] rfl ls ?_; refine (xNumber.calls w u10 x10_4 (l0_0.length : Int) t205 _ ?aO ?aB ?aL A46.out).mono ?_; (case aB => exact bs); (case aO => exact (.inl (by (with_reducible repeat (first | apply Kd.R_alloc | apply Kd.R_drewN | apply Kd.R_drew)); exact HO_10.out))); (case aL => have := LMc47.out; omega); rintro e w52 ⟨v207, rfl, ho, hb, hg⟩; refine ⟨_, rfl, ?_⟩; have hat := True.intro; rw [← Ny206.out] at ho; change Kd.R (Kd.int .u8) 5 w52 w.heap.size (fun _ => True) v207 y206 at ho; have n0_ := am (blk_grown (g := gb176) (o := .cells #[.slice A0_0 l0_0.length c0_0, .slice A0_1 l0_1.length c0_1, .slice A0_2 l0_2.length c0_2] 26 (0, 0)) (bu BK176.out) hg (Kd.R_ne HO_10.out BK176.out (by decide))); have n1_ := am (blk_grown (g := gb204) (o := .cells tabC 73 (0, 0)) (bu BK204.out) hg (Kd.R_ne HO_10.out BK204.out (by decide))); have n2_ := am (hb); have n3_ := am (ho); clear BK176; clear BK204; clear HB; clear HO_10; have BK176 := n0_; have BK204 := n1_; have HB := n2_; have HO208 := n3_; clear n0_ n1_ n2_ n3_; clear ho hb hg hat; obtain ⟨⟨hcz53_0, hcz53_1, hcz53_2⟩, hfz53_0, hfz53_1, hfz53_2⟩ := blkAll3 BK176))
         go_loopg [10, 103] k4 (fun kq v10 v103 w' => ∃ (x10_5 : List Int) (x103_5 : Int), v103 = .int .i64 x103_5 ∧ Aside0 (c_Encode.l4 kq x10_5 l0_0 (l0_0.length : Int) x103_5 = some (r1, r2)) ∧ Aside0 (kq ≤ k4) ∧ Aside0 (Kd.R (Kd.int .u8) 5 w' w.heap.size (fun _ => True) v10 x10_5) ∧ Aside0 (w'.heap[gb176]? = some (.cells #[(.slice A0_0 l0_0.length c0_0), (.slice A0_1 l0_1.length c0_1), (.slice A0_2 l0_2.length c0_2)] 26 (0, 0))) ∧ Aside0 (w'.heap[gb204]? = some (.cells tabC 73 (0, 0))) ∧ Aside0 (Below w.heap.size w w'))
         case atStart => exact ⟨(y206), (0), tv, H', ⟨Nat.le_refl _⟩, ⟨by (with_reducible repeat (first | apply Kd.R_alloc | apply Kd.R_drewN | apply Kd.R_drew)); exact HO208.out⟩, ⟨by refine bu ?_; exact BK176.out⟩, ⟨by refine bu ?_; exact BK204.out⟩, ⟨bs⟩⟩
         case round =>
          clear H'
          try clear c1
          try clear p1
          try clear q1
          try clear hx1
          try clear c2
          try clear p2
          try clear c3
          try clear c3b0
          try clear c3b1
          try clear c4
          try clear p6
          try clear c8
          try clear c8b0
          try clear c9
          try clear c9b0
          try clear c10
          try clear c10b0
          try clear c11
          try clear c11b0
          try clear c13
          try clear c13b0
          try clear c13b1
          try clear c14
          try clear c16
          try clear c18
          try clear p18
          try clear q18
          try clear hx18
          try clear p19
          try clear q19
          try clear hx19
          try clear c25
          try clear c25b0
          try clear c26
          try clear c26b0
          try clear c27
          try clear c27b0
          try clear c28
          try clear c28b0
          try clear c29
          try clear c32
          try clear c37
          try clear c37b0
          try clear c38
          try clear c38b0
          try clear c39
          try clear c39b0
          try clear c41
          try clear c42
          try clear c47
          try clear c49
          try clear hcz14_0 hcz14_1 hcz14_2
          try clear hcz15_0 hcz15_1 hcz15_2
          try clear hcz21_0 hcz21_1 hcz21_2
          try clear hcz24_0 hcz24_1 hcz24_2
          try clear hcz33_0 hcz33_1 hcz33_2
          try clear hcz36_0 hcz36_1 hcz36_2
          try clear hcz50_0 hcz50_1 hcz50_2
          try clear hcz53_0 hcz53_1 hcz53_2
          try clear hcz5_0 hcz5_1 hcz5_2
          try clear hcz7_0 hcz7_1 hcz7_2
          try clear hfz14_0 hfz14_1 hfz14_2
          try clear hfz15_0 hfz15_1 hfz15_2
          try clear hfz21_0 hfz21_1 hfz21_2
          try clear hfz24_0 hfz24_1 hfz24_2
          try clear hfz33_0 hfz33_1 hfz33_2
          try clear hfz36_0 hfz36_1 hfz36_2
          try clear hfz50_0 hfz50_1 hfz50_2
          try clear hfz53_0 hfz53_1 hfz53_2
          try clear hfz5_0 hfz5_1 hfz5_2
          try clear hfz7_0 hfz7_1 hfz7_2
          try clear hx180_0
          try clear hx188_0
          try clear hx196_0
          try clear p1
          try clear p18
          try clear p180
          try clear p188
          try clear p196
          try clear p2
          try clear p6
          try clear q1
          try clear q18
          try clear q180
          try clear q188
          try clear q196
          obtain ⟨x10_5, x103_5, rfl, HA, HK5, HO_10, BK176, BK204, HB⟩ := hrel
          cases gk with
          | zero => exact absurd HA.out (by simp [c_Encode.l4])
          | succ k5 =>
           have H := HA.out
           clear HA
           simp only [c_Encode.l4] at H
           by_cases c54 : x103_5 < (l0_0.length : Int)
           rotate_left
           ·rw [if_neg c54] at H
            have c54b0 := decide_eq_false c54
            clear c54
            by_cases c103 : (x10_5.length : Int) > 16777216
            rotate_left
            ·rw [if_neg c103] at H
             have c103b0 : decide (16777216 < (x10_5.length : Int)) = false := decide_eq_false c103
             have c103b1 : decide (16777216 < x10_5.length) = false := decide_eq_false (by omega)
             clear c103
             simp only [Option.some.injEq, Prod.mk.injEq] at H
             obtain ⟨rfl, rfl⟩ := H
             obtain ⟨Ao105, co105, eo105⟩ := Kd.R_slice HO_10.out
             subst eo105
             go_wp2
             go_ret2
             exact ⟨_, er, by (with_reducible repeat (first | apply Kd.R_alloc | apply Kd.R_drewN | apply Kd.R_drew)); exact HO_10.out, bs⟩
            rw [if_pos c103] at H
            have c103b0 : decide (16777216 < (x10_5.length : Int)) = true := decide_eq_true c103
            have c103b1 : decide (16777216 < x10_5.length) = true := decide_eq_true (by omega)
            clear c103
            simp only [Option.some.injEq, Prod.mk.injEq] at H
            obtain ⟨rfl, rfl⟩ := H
            obtain ⟨Ao104, co104, eo104⟩ := Kd.R_slice HO_10.out
            subst eo104
            go_wp2
            go_ret2
            exact ⟨_, er, by first | exact Kd.R_nil _ _ _ _ _ | exact Kd.N_nil _ _ _ _ _ | exact Kd.V_nil _ _ _ _ _ | exact Kd.Q_nil _ _ _ _ _ | exact Kd.S_nil _ _ _ _ _, bs⟩
           rw [if_pos c54] at H
           have c54b0 := decide_eq_true c54
           clear c54
           by_cases c55 : 0 ≤ x103_5
           rotate_left
           ·rw [if_neg c55] at H
            exact absurd H (by simp)
           rw [if_pos c55] at H
           have c55b0 := decide_eq_true c55
           clear c55
           by_cases c56 : x103_5 < (l0_0.length : Int)
           rotate_left
           ·rw [if_neg c56] at H
            exact absurd H (by simp)
           rw [if_pos c56] at H
           have c56b0 := decide_eq_true c56
           clear c56
           by_cases c57 : x10_5.length < 140737488355328
           rotate_left
           ·rw [if_neg c57] at H
            exact absurd H (by simp)
           rw [if_pos c57] at H
           have LMc57 := am c57
           clear c57
           obtain ⟨y211, hy211⟩ : ∃ y_ : List Int, y_ = (x10_5 ++ [((rd_T41 l0_0 x103_5).f0) % 256]) := ⟨_, rfl⟩
           replace H : (if 0 ≤ ((rd_T41 l0_0 x103_5).f0) then (if ((rd_T41 l0_0 x103_5).f0) < (tabL.length : Int) then (if ((rd_T72 tabL ((rd_T41 l0_0 x103_5).f0)).f1) = 0 then (if ((rd_T72 tabL ((rd_T41 l0_0 x103_5).f0)).f2) = 0 then (c_Encode.l4 k5 y211 l0_0 (l0_0.length : Int) (wrap64 (x103_5 + 1))) else ((xDigits.f ((rd_T41 l0_0 x103_5).f2)).bind fun t216 => (if y211.length + t216.size < 140737488355328 then (c_Encode.l4 k5 (y211 ++ bytesOf t216) l0_0 (l0_0.length : Int) (wrap64 (x103_5 + 1))) else (none)))) else ((xDigits.f ((rd_T41 l0_0 x103_5).f1)).bind fun t220 => (if y211.length + t220.size < 140737488355328 then ((some (y211 ++ bytesOf t220 : List Int)).bind fun y221 => (if ((rd_T72 tabL ((rd_T41 l0_0 x103_5).f0)).f2) = 0 then (c_Encode.l4 k5 y221 l0_0 (l0_0.length : Int) (wrap64 (x103_5 + 1))) else ((xDigits.f ((rd_T41 l0_0 x103_5).f2)).bind fun t225 => (if y221.length + t225.size < 140737488355328 then (c_Encode.l4 k5 (y221 ++ bytesOf t225) l0_0 (l0_0.length : Int) (wrap64 (x103_5 + 1))) else (none))))) else (none)))) else (none)) else (none)) = some (r1, r2) := by first | (rw [hy211]; with_reducible exact H) | (have H2_ := (Option.bind_some _ _).symm.trans H; rw [hy211]; with_reducible exact H2_) | (have H2_ := (Option.bind_some _ _).symm.trans H; with_reducible exact H2_) | with_reducible exact H | (rw [hy211]; exact H) | exact H
           have Ny211 := am hy211
           clear hy211
           by_cases c58 : 0 ≤ ((rd_T41 l0_0 x103_5).f0)
           rotate_left
           ·rw [if_neg c58] at H
            exact absurd H (by simp)
           rw [if_pos c58] at H
           have c58b0 := decide_eq_true c58
           clear c58
           by_cases c59 : ((rd_T41 l0_0 x103_5).f0) < (tabL.length : Int)
           rotate_left
           ·rw [if_neg c59] at H
            exact absurd H (by simp)
           rw [if_pos c59] at H
           have c59b0 := decide_eq_true c59
           clear c59
           by_cases c60 : ((rd_T72 tabL ((rd_T41 l0_0 x103_5).f0)).f1) = 0
           ·rw [if_pos c60] at H
            have c60b0 : (((rd_T72 tabL ((rd_T41 l0_0 x103_5).f0)).f1) == 0) = true := beq_iff_eq.mpr c60
            have c60b1 : (((rd_T72 tabL ((rd_T41 l0_0 x103_5).f0)).f1) != 0) = false := bne_eq_false_iff_eq.mpr c60
            clear c60
            by_cases c61 : ((rd_T72 tabL ((rd_T41 l0_0 x103_5).f0)).f2) = 0
            ·rw [if_pos c61] at H
             have c61b0 : (((rd_T72 tabL ((rd_T41 l0_0 x103_5).f0)).f2) == 0) = true := beq_iff_eq.mpr c61
             have c61b1 : (((rd_T72 tabL ((rd_T41 l0_0 x103_5).f0)).f2) != 0) = false := bne_eq_false_iff_eq.mpr c61
             clear c61
             have H' := am H
             clear H
             have p209 : 0 ≤ (x103_5 : Int) := of_decide_eq_true od
             have q209 : x103_5 < (l0_0.length : Int) := of_decide_eq_true od
             obtain ⟨ad209, e209, hx209_0, hx209_1, hx209_2⟩ := at_T41 HR0_0.out x103_5 p209 q209
             cases e209
             replace hx209_0 := (HB.out.cell (World.block_lt_of_cell? w _ hx209_0)).trans hx209_0
             replace hx209_1 := (HB.out.cell (World.block_lt_of_cell? w _ hx209_1)).trans hx209_1
             replace hx209_2 := (HB.out.cell (World.block_lt_of_cell? w _ hx209_2)).trans hx209_2
             replace p209 := eq_true p209
             replace q209 := eq_true q209
             go_wp2_with (first | ((with_reducible refine gate_dst (N := 17) rfl ?_); (try (refine gate_guard (by rfl) ?_; dsimp only)); refine box_event ?hg (N := 17) ?hd (cs := #[.int .i64 0, .int .i64 0, .int .i64 0]) (t := 41) ?hr ?_; (case hd => rfl); (case hg => rfl); (case hr => first | (go_simp; done) | (go_simp; rfl)); intro gb210 hg w62 hbox hb; have n0_ := am (Kd.R_below (by (with_reducible repeat (first | apply Kd.R_alloc | apply Kd.R_drewN | apply Kd.R_drew)); exact HO_10.out) hb); have n1_ := am (blk_below (bu BK176.out) hb); have n2_ := am (blk_below (bu BK204.out) hb); have n3_ := am (below_step bs hb); have n4_ := am (hbox); have n5_ := am ((by rw [hg]; exact (below_size bs) : w.heap.size ≤ gb210)); have n6_ := am ((by rw [hg]; exact (below_size bs) : w.heap.size ≤ gb210)); have n7_ := am ((by rw [hg]; exact Nat.ne_of_lt (blk_lt (bu BK176.out)) : gb176 ≠ gb210)); have n8_ := am ((by rw [hg]; exact Nat.ne_of_gt (blk_lt (bu BK176.out)) : gb210 ≠ gb176)); have n9_ := am ((by rw [hg]; exact Nat.ne_of_lt (blk_lt (bu BK204.out)) : gb204 ≠ gb210)); have n10_ := am ((by rw [hg]; exact Nat.ne_of_gt (blk_lt (bu BK204.out)) : gb210 ≠ gb204)); clear HO_10; clear BK176; clear BK204; clear HB; have HO_10 := n0_; have BK176 := n1_; have BK204 := n2_; have HB := n3_; have BK210 := n4_; have GW210 := n5_; have GE210 := n6_; have NB176_210 := n7_; have NB210_176 := n8_; have NB204_210 := n9_; have NB210_204 := n10_; clear n0_ n1_ n2_ n3_ n4_ n5_ n6_ n7_ n8_ n9_ n10_; clear hb hbox hg; have hnb63 := NB210_176.out; have hnc63 := NB176_210.out; have hnb64 := NB210_204.out; have hnc64 := NB204_210.out; obtain ⟨⟨hcz65_0, hcz65_1, hcz65_2⟩, hfz65_0, hfz65_1, hfz65_2⟩ := blkAll3 BK210) | ((with_reducible refine gate_builtin (b := .append) (xs := #[.tmp 107, .tmp 111]) rfl ?_); (try (refine gate_guard (by rfl) ?_; dsimp only)); at_builtin; refine Kd.R_append (Kd.int .u8) (w0 := w) w.heap.size rfl (.tmp 107) (.tmp 111) 34 5 (.int .u8 0) 1 rfl Tryd.underlying34 info5 rfl (by decide) (by omega) u10 x10_5 (((rd_T41 l0_0 x103_5).f0) % 256) [.int .u8 (((rd_T41 l0_0 x103_5).f0) % 256)] (fun _ => True) (fun _ => False) rfl (by first | (go_simp; done) | (go_simp; rfl)) ?aP (fun _ hk => hk.elim) ?aF ?aO ?aB ?aS ?aL ?_; (case aP => exact rfl); (case aB => exact bs); (case aF => exact (fun _ _ => trivial)); (case aO => exact (by (with_reducible repeat (first | apply Kd.R_alloc | apply Kd.R_drewN | apply Kd.R_drew)); exact Kd.R_mono (Kd.R_far (p := ⟨gb210, 2, none⟩) (Kd.R_far (p := ⟨gb210, 1, none⟩) (Kd.R_far (p := ⟨gb210, 0, none⟩) (Kd.R_types HO_10.out BK210.out (by decide)) (fun _ hk => hk.2) (.int .i64 ((rd_T41 l0_0 x103_5).f0))) (fun _ hk => hk.2) (.int .i64 ((rd_T41 l0_0 x103_5).f1))) (fun _ hk => hk.2) (.int .i64 ((rd_T41 l0_0 x103_5).f2))) (fun _ hk => trivial))); (case aS => exact (below_size bs)); (case aL => have := LMc57.out; omega); intro v212 w66 ho hb hg hat; rw [← Ny211.out] at ho; have n0_ := am (blk_grown (g := gb176) (o := .cells #[.slice (some ad209) l0_0.length c0_0, .slice A0_1 l0_1.length c0_1, .slice A0_2 l0_2.length c0_2] 26 (0, 0)) (by refine bu ?_; refine blk_far ?_ NB176_210.out _; refine bu ?_; refine blk_far ?_ NB176_210.out _; refine bu ?_; refine blk_far ?_ NB176_210.out _; refine bu ?_; exact BK176.out) hg (Kd.R_ne HO_10.out BK176.out (by decide))); have n1_ := am (blk_grown (g := gb204) (o := .cells tabC 73 (0, 0)) (by refine bu ?_; refine blk_far ?_ NB204_210.out _; refine bu ?_; refine blk_far ?_ NB204_210.out _; refine bu ?_; refine blk_far ?_ NB204_210.out _; refine bu ?_; exact BK204.out) hg (Kd.R_ne HO_10.out BK204.out (by decide))); have n2_ := am (blk_grown (g := gb210) (o := .cells #[.int .i64 ((rd_T41 l0_0 x103_5).f0), .int .i64 ((rd_T41 l0_0 x103_5).f1), .int .i64 ((rd_T41 l0_0 x103_5).f2)] 41 (0, 0)) (by refine bu ?_; refine blk_put (cs := #[.int .i64 ((rd_T41 l0_0 x103_5).f0), .int .i64 ((rd_T41 l0_0 x103_5).f1), .int .i64 0]) ?_ 2 _ rfl; refine bu ?_; refine blk_put (cs := #[.int .i64 ((rd_T41 l0_0 x103_5).f0), .int .i64 0, .int .i64 0]) ?_ 1 _ rfl; refine bu ?_; refine blk_put (cs := #[.int .i64 0, .int .i64 0, .int .i64 0]) ?_ 0 _ rfl; refine bu ?_; exact BK210.out) hg (Kd.R_ne HO_10.out BK210.out (by decide))); have n3_ := am (hb); have n4_ := am (ho); clear BK176; clear BK204; clear BK210; clear HB; clear HO_10; have BK176 := n0_; have BK204 := n1_; have BK210 := n2_; have HB := n3_; have HO213 := n4_; clear n0_ n1_ n2_ n3_ n4_; clear ho hb hg hat; obtain ⟨⟨hcz67_0, hcz67_1, hcz67_2⟩, hfz67_0, hfz67_1, hfz67_2⟩ := blkAll3 BK210; have p214 : 0 ≤ (((rd_T41 l0_0 x103_5).f0) : Int) := of_decide_eq_true od; have q214 : ((rd_T41 l0_0 x103_5).f0) < (tabL.length : Int) := of_decide_eq_true od; have q214n : (((rd_T41 l0_0 x103_5).f0) < 34) = True := eq_true (by have h_ := q214; rw [tabL_len] at h_; exact h_); obtain ⟨adq_, e214, hx214_0, hx214_1, hx214_2, hx214_3, hx214_4⟩ := at_T72 (tab_rowsA hadT_.out BK204.out) ((rd_T41 l0_0 x103_5).f0) p214 q214; obtain rfl := Option.some.inj e214; replace p214 := eq_true p214; replace q214 := eq_true q214; have p215 : 0 ≤ (((rd_T41 l0_0 x103_5).f0) : Int) := of_decide_eq_true od; have q215 : ((rd_T41 l0_0 x103_5).f0) < (tabL.length : Int) := of_decide_eq_true od; have q215n : (((rd_T41 l0_0 x103_5).f0) < 34) = True := eq_true (by have h_ := q215; rw [tabL_len] at h_; exact h_); obtain ⟨adq_, e215, hx215_0, hx215_1, hx215_2, hx215_3, hx215_4⟩ := at_T72 (tab_rowsA hadT_.out BK204.out) ((rd_T41 l0_0 x103_5).f0) p215 q215; obtain rfl := Option.some.inj e215; replace p215 := eq_true p215; replace q215 := eq_true q215))
             go_roundg k5
             case measure => have := HK1.out; have := HJ11.out; have := HK3.out; have := HK4.out; have := HK5.out; omega
             case rel => exact ⟨(y211), (wrap64 (x103_5 + 1)), tv, H', ⟨by have := HK1.out; have := HJ11.out; have := HK3.out; have := HK4.out; have := HK5.out; omega⟩, ⟨by (with_reducible repeat (first | apply Kd.R_alloc | apply Kd.R_drewN | apply Kd.R_drew)); exact HO213.out⟩, ⟨by refine bu ?_; exact BK176.out⟩, ⟨by refine bu ?_; exact BK204.out⟩, ⟨bs⟩⟩
            rw [if_neg c61] at H
            have c61b0 : (((rd_T72 tabL ((rd_T41 l0_0 x103_5).f0)).f2) == 0) = false := beq_eq_false_iff_ne.mpr c61
            have c61b1 : (((rd_T72 tabL ((rd_T41 l0_0 x103_5).f0)).f2) != 0) = true := bne_iff_ne.mpr c61
            replace H := Option.bind_eq_some_iff.mp H
            obtain ⟨t216, A680, H⟩ := H
            replace H : (if y211.length + t216.size < 140737488355328 then (c_Encode.l4 k5 (y211 ++ bytesOf t216) l0_0 (l0_0.length : Int) (wrap64 (x103_5 + 1))) else (none)) = some (r1, r2) := H
            have A68 := am A680
            clear A680
            by_cases c69 : y211.length + t216.size < 140737488355328
            rotate_left
            ·rw [if_neg c69] at H
             exact absurd H (by simp)
            rw [if_pos c69] at H
            have LMc69 := am c69
            clear c69
            obtain ⟨y217, hy217⟩ : ∃ y_ : List Int, y_ = (y211 ++ bytesOf t216) := ⟨_, rfl⟩
            replace H : (c_Encode.l4 k5 y217 l0_0 (l0_0.length : Int) (wrap64 (x103_5 + 1))) = some (r1, r2) := by first | (rw [hy217]; with_reducible exact H) | (have H2_ := (Option.bind_some _ _).symm.trans H; rw [hy217]; with_reducible exact H2_) | (have H2_ := (Option.bind_some _ _).symm.trans H; with_reducible exact H2_) | with_reducible exact H | (rw [hy217]; exact H) | exact H
            have Ny217 := am hy217
            clear hy217
            have H' := am H
            clear H
            have p209 : 0 ≤ (x103_5 : Int) := of_decide_eq_true od
            have q209 : x103_5 < (l0_0.length : Int) := of_decide_eq_true od
            obtain ⟨ad209, e209, hx209_0, hx209_1, hx209_2⟩ := at_T41 HR0_0.out x103_5 p209 q209
            cases e209
            replace hx209_0 := (HB.out.cell (World.block_lt_of_cell? w _ hx209_0)).trans hx209_0
            replace hx209_1 := (HB.out.cell (World.block_lt_of_cell? w _ hx209_1)).trans hx209_1
            replace hx209_2 := (HB.out.cell (World.block_lt_of_cell? w _ hx209_2)).trans hx209_2
            replace p209 := eq_true p209
            replace q209 := eq_true q209
            go_wp2_with (first | ((with_reducible refine gate_dst (N := 17) rfl ?_); (try (refine gate_guard (by rfl) ?_; dsimp only)); refine box_event ?hg (N := 17) ?hd (cs := #[.int .i64 0, .int .i64 0, .int .i64 0]) (t := 41) ?hr ?_; (case hd => rfl); (case hg => rfl); (case hr => first | (go_simp; done) | (go_simp; rfl)); intro gb210 hg w70 hbox hb; have n0_ := am (Kd.R_below (by (with_reducible repeat (first | apply Kd.R_alloc | apply Kd.R_drewN | apply Kd.R_drew)); exact HO_10.out) hb); have n1_ := am (blk_below (bu BK176.out) hb); have n2_ := am (blk_below (bu BK204.out) hb); have n3_ := am (below_step bs hb); have n4_ := am (hbox); have n5_ := am ((by rw [hg]; exact (below_size bs) : w.heap.size ≤ gb210)); have n6_ := am ((by rw [hg]; exact (below_size bs) : w.heap.size ≤ gb210)); have n7_ := am ((by rw [hg]; exact Nat.ne_of_lt (blk_lt (bu BK176.out)) : gb176 ≠ gb210)); have n8_ := am ((by rw [hg]; exact Nat.ne_of_gt (blk_lt (bu BK176.out)) : gb210 ≠ gb176)); have n9_ := am ((by rw [hg]; exact Nat.ne_of_lt (blk_lt (bu BK204.out)) : gb204 ≠ gb210)); have n10_ := am ((by rw [hg]; exact Nat.ne_of_gt (blk_lt (bu BK204.out)) : gb210 ≠ gb204)); clear HO_10; clear BK176; clear BK204; clear HB; have HO_10 := n0_; have BK176 := n1_; have BK204 := n2_; have HB := n3_; have BK210 := n4_; have GW210 := n5_; have GE210 := n6_; have NB176_210 := n7_; have NB210_176 := n8_; have NB204_210 := n9_; have NB210_204 := n10_; clear n0_ n1_ n2_ n3_ n4_ n5_ n6_ n7_ n8_ n9_ n10_; clear hb hbox hg; have hnb71 := NB210_176.out; have hnc71 := NB176_210.out; have hnb72 := NB210_204.out; have hnc72 := NB204_210.out; obtain ⟨⟨hcz73_0, hcz73_1, hcz73_2⟩, hfz73_0, hfz73_1, hfz73_2⟩ := blkAll3 BK210) | ((with_reducible refine gate_builtin (b := .append) (xs := #[.tmp 107, .tmp 111]) rfl ?_); (try (refine gate_guard (by rfl) ?_; dsimp only)); at_builtin; refine Kd.R_append (Kd.int .u8) (w0 := w) w.heap.size rfl (.tmp 107) (.tmp 111) 34 5 (.int .u8 0) 1 rfl Tryd.underlying34 info5 rfl (by decide) (by omega) u10 x10_5 (((rd_T41 l0_0 x103_5).f0) % 256) [.int .u8 (((rd_T41 l0_0 x103_5).f0) % 256)] (fun _ => True) (fun _ => False) rfl (by first | (go_simp; done) | (go_simp; rfl)) ?aP (fun _ hk => hk.elim) ?aF ?aO ?aB ?aS ?aL ?_; (case aP => exact rfl); (case aB => exact bs); (case aF => exact (fun _ _ => trivial)); (case aO => exact (by (with_reducible repeat (first | apply Kd.R_alloc | apply Kd.R_drewN | apply Kd.R_drew)); exact Kd.R_mono (Kd.R_far (p := ⟨gb210, 2, none⟩) (Kd.R_far (p := ⟨gb210, 1, none⟩) (Kd.R_far (p := ⟨gb210, 0, none⟩) (Kd.R_types HO_10.out BK210.out (by decide)) (fun _ hk => hk.2) (.int .i64 ((rd_T41 l0_0 x103_5).f0))) (fun _ hk => hk.2) (.int .i64 ((rd_T41 l0_0 x103_5).f1))) (fun _ hk => hk.2) (.int .i64 ((rd_T41 l0_0 x103_5).f2))) (fun _ hk => trivial))); (case aS => exact (below_size bs)); (case aL => have := LMc57.out; omega); intro v212 w74 ho hb hg hat; rw [← Ny211.out] at ho; have n0_ := am (blk_grown (g := gb176) (o := .cells #[.slice (some ad209) l0_0.length c0_0, .slice A0_1 l0_1.length c0_1, .slice A0_2 l0_2.length c0_2] 26 (0, 0)) (by refine bu ?_; refine blk_far ?_ NB176_210.out _; refine bu ?_; refine blk_far ?_ NB176_210.out _; refine bu ?_; refine blk_far ?_ NB176_210.out _; refine bu ?_; exact BK176.out) hg (Kd.R_ne HO_10.out BK176.out (by decide))); have n1_ := am (blk_grown (g := gb204) (o := .cells tabC 73 (0, 0)) (by refine bu ?_; refine blk_far ?_ NB204_210.out _; refine bu ?_; refine blk_far ?_ NB204_210.out _; refine bu ?_; refine blk_far ?_ NB204_210.out _; refine bu ?_; exact BK204.out) hg (Kd.R_ne HO_10.out BK204.out (by decide))); have n2_ := am (blk_grown (g := gb210) (o := .cells #[.int .i64 ((rd_T41 l0_0 x103_5).f0), .int .i64 ((rd_T41 l0_0 x103_5).f1), .int .i64 ((rd_T41 l0_0 x103_5).f2)] 41 (0, 0)) (by refine bu ?_; refine blk_put (cs := #[.int .i64 ((rd_T41 l0_0 x103_5).f0), .int .i64 ((rd_T41 l0_0 x103_5).f1), .int .i64 0]) ?_ 2 _ rfl; refine bu ?_; refine blk_put (cs := #[.int .i64 ((rd_T41 l0_0 x103_5).f0), .int .i64 0, .int .i64 0]) ?_ 1 _ rfl; refine bu ?_; refine blk_put (cs := #[.int .i64 0, .int .i64 0, .int .i64 0]) ?_ 0 _ rfl; refine bu ?_; exact BK210.out) hg (Kd.R_ne HO_10.out BK210.out (by decide))); have n3_ := am (hb); have n4_ := am (ho); clear BK176; clear BK204; clear BK210; clear HB; clear HO_10; have BK176 := n0_; have BK204 := n1_; have BK210 := n2_; have HB := n3_; have HO213 := n4_; clear n0_ n1_ n2_ n3_ n4_; clear ho hb hg hat; obtain ⟨⟨hcz75_0, hcz75_1, hcz75_2⟩, hfz75_0, hfz75_1, hfz75_2⟩ := blkAll3 BK210; have p214 : 0 ≤ (((rd_T41 l0_0 x103_5).f0) : Int) := of_decide_eq_true od; have q214 : ((rd_T41 l0_0 x103_5).f0) < (tabL.length : Int) := of_decide_eq_true od; have q214n : (((rd_T41 l0_0 x103_5).f0) < 34) = True := eq_true (by have h_ := q214; rw [tabL_len] at h_; exact h_); obtain ⟨adq_, e214, hx214_0, hx214_1, hx214_2, hx214_3, hx214_4⟩ := at_T72 (tab_rowsA hadT_.out BK204.out) ((rd_T41 l0_0 x103_5).f0) p214 q214; obtain rfl := Option.some.inj e214; replace p214 := eq_true p214; replace q214 := eq_true q214; have p215 : 0 ≤ (((rd_T41 l0_0 x103_5).f0) : Int) := of_decide_eq_true od; have q215 : ((rd_T41 l0_0 x103_5).f0) < (tabL.length : Int) := of_decide_eq_true od; have q215n : (((rd_T41 l0_0 x103_5).f0) < 34) = True := eq_true (by have h_ := q215; rw [tabL_len] at h_; exact h_); obtain ⟨adq_, e215, hx215_0, hx215_1, hx215_2, hx215_3, hx215_4⟩ := at_T72 (tab_rowsA hadT_.out BK204.out) ((rd_T41 l0_0 x103_5).f0) p215 q215; obtain rfl := Option.some.inj e215; replace p215 := eq_true p215; replace q215 := eq_true q215) | ((with_reducible refine gate_callee (f := 29) rfl ?_); refine goesL_ (some 132) rfl rfl Tryd.func29 (by kernel_rfl) rfl #[v212, .int .i64 ((rd_T41 l0_0 x103_5).f2)] rfl ls ?_; refine (xNumber.calls w v212 y211 ((rd_T41 l0_0 x103_5).f2) t216 _ ?aO ?aB ?aL A68.out).mono ?_; (case aB => exact bs); (case aO => exact (.inl (by (with_reducible repeat (first | apply Kd.R_alloc | apply Kd.R_drewN | apply Kd.R_drew)); exact HO213.out))); (case aL => have := LMc69.out; omega); rintro e w77 ⟨v218, rfl, ho, hb, hg⟩; refine ⟨_, rfl, ?_⟩; have hat := True.intro; rw [← Ny217.out] at ho; change Kd.R (Kd.int .u8) 5 w77 w.heap.size (fun _ => True) v218 y217 at ho; have n0_ := am (blk_grown (g := gb176) (o := .cells #[.slice (some ad209) l0_0.length c0_0, .slice A0_1 l0_1.length c0_1, .slice A0_2 l0_2.length c0_2] 26 (0, 0)) (bu BK176.out) hg (Kd.R_ne HO213.out BK176.out (by decide))); have n1_ := am (blk_grown (g := gb204) (o := .cells tabC 73 (0, 0)) (bu BK204.out) hg (Kd.R_ne HO213.out BK204.out (by decide))); have n2_ := am (blk_grown (g := gb210) (o := .cells #[.int .i64 ((rd_T41 l0_0 x103_5).f0), .int .i64 ((rd_T41 l0_0 x103_5).f1), .int .i64 ((rd_T41 l0_0 x103_5).f2)] 41 (0, 0)) (bu BK210.out) hg (Kd.R_ne HO213.out BK210.out (by decide))); have n3_ := am (hb); have n4_ := am (ho); clear BK176; clear BK204; clear BK210; clear HB; clear HO213; have BK176 := n0_; have BK204 := n1_; have BK210 := n2_; have HB := n3_; have HO219 := n4_; clear n0_ n1_ n2_ n3_ n4_; clear ho hb hg hat))
            go_roundg k5
            case measure => have := HK1.out; have := HJ11.out; have := HK3.out; have := HK4.out; have := HK5.out; omega
            case rel => exact ⟨(y217), (wrap64 (x103_5 + 1)), tv, H', ⟨by have := HK1.out; have := HJ11.out; have := HK3.out; have := HK4.out; have := HK5.out; omega⟩, ⟨by (with_reducible repeat (first | apply Kd.R_alloc | apply Kd.R_drewN | apply Kd.R_drew)); exact HO219.out⟩, ⟨by refine bu ?_; exact BK176.out⟩, ⟨by refine bu ?_; exact BK204.out⟩, ⟨bs⟩⟩
           rw [if_neg c60] at H
           have c60b0 : (((rd_T72 tabL ((rd_T41 l0_0 x103_5).f0)).f1) == 0) = false := beq_eq_false_iff_ne.mpr c60
           have c60b1 : (((rd_T72 tabL ((rd_T41 l0_0 x103_5).f0)).f1) != 0) = true := bne_iff_ne.mpr c60
           replace H := Option.bind_eq_some_iff.mp H
           obtain ⟨t220, A780, H⟩ := H
           replace H : (if y211.length + t220.size < 140737488355328 then ((some (y211 ++ bytesOf t220 : List Int)).bind fun y221 => (if ((rd_T72 tabL ((rd_T41 l0_0 x103_5).f0)).f2) = 0 then (c_Encode.l4 k5 y221 l0_0 (l0_0.length : Int) (wrap64 (x103_5 + 1))) else ((xDigits.f ((rd_T41 l0_0 x103_5).f2)).bind fun t225 => (if y221.length + t225.size < 140737488355328 then (c_Encode.l4 k5 (y221 ++ bytesOf t225) l0_0 (l0_0.length : Int) (wrap64 (x103_5 + 1))) else (none))))) else (none)) = some (r1, r2) := H
           have A78 := am A780
           clear A780
           by_cases c79 : y211.length + t220.size < 140737488355328
           rotate_left
           ·rw [if_neg c79] at H
            exact absurd H (by simp)
           rw [if_pos c79] at H
           have LMc79 := am c79
           clear c79
           obtain ⟨y221, hy221⟩ : ∃ y_ : List Int, y_ = (y211 ++ bytesOf t220) := ⟨_, rfl⟩
           replace H : (if ((rd_T72 tabL ((rd_T41 l0_0 x103_5).f0)).f2) = 0 then (c_Encode.l4 k5 y221 l0_0 (l0_0.length : Int) (wrap64 (x103_5 + 1))) else ((xDigits.f ((rd_T41 l0_0 x103_5).f2)).bind fun t225 => (if y221.length + t225.size < 140737488355328 then (c_Encode.l4 k5 (y221 ++ bytesOf t225) l0_0 (l0_0.length : Int) (wrap64 (x103_5 + 1))) else (none)))) = some (r1, r2) := by first | (rw [hy221]; with_reducible exact H) | (have H2_ := (Option.bind_some _ _).symm.trans H; rw [hy221]; with_reducible exact H2_) | (have H2_ := (Option.bind_some _ _).symm.trans H; with_reducible exact H2_) | with_reducible exact H | (rw [hy221]; exact H) | exact H
           have Ny221 := am hy221
           clear hy221
           by_cases c80 : ((rd_T72 tabL ((rd_T41 l0_0 x103_5).f0)).f2) = 0
           ·rw [if_pos c80] at H
            have c80b0 : (((rd_T72 tabL ((rd_T41 l0_0 x103_5).f0)).f2) == 0) = true := beq_iff_eq.mpr c80
            have c80b1 : (((rd_T72 tabL ((rd_T41 l0_0 x103_5).f0)).f2) != 0) = false := bne_eq_false_iff_eq.mpr c80
            clear c80
            have H' := am H
            clear H
            have p209 : 0 ≤ (x103_5 : Int) := of_decide_eq_true od
            have q209 : x103_5 < (l0_0.length : Int) := of_decide_eq_true od
            obtain ⟨ad209, e209, hx209_0, hx209_1, hx209_2⟩ := at_T41 HR0_0.out x103_5 p209 q209
            cases e209
            replace hx209_0 := (HB.out.cell (World.block_lt_of_cell? w _ hx209_0)).trans hx209_0
            replace hx209_1 := (HB.out.cell (World.block_lt_of_cell? w _ hx209_1)).trans hx209_1
            replace hx209_2 := (HB.out.cell (World.block_lt_of_cell? w _ hx209_2)).trans hx209_2
            replace p209 := eq_true p209
            replace q209 := eq_true q209
            go_wp2_with (first | ((with_reducible refine gate_dst (N := 17) rfl ?_); (try (refine gate_guard (by rfl) ?_; dsimp only)); refine box_event ?hg (N := 17) ?hd (cs := #[.int .i64 0, .int .i64 0, .int .i64 0]) (t := 41) ?hr ?_; (case hd => rfl); (case hg => rfl); (case hr => first | (go_simp; done) | (go_simp; rfl)); intro gb210 hg w81 hbox hb; have n0_ := am (Kd.R_below (by (with_reducible repeat (first | apply Kd.R_alloc | apply Kd.R_drewN | apply Kd.R_drew)); exact HO_10.out) hb); have n1_ := am (blk_below (bu BK176.out) hb); have n2_ := am (blk_below (bu BK204.out) hb); have n3_ := am (below_step bs hb); have n4_ := am (hbox); have n5_ := am ((by rw [hg]; exact (below_size bs) : w.heap.size ≤ gb210)); have n6_ := am ((by rw [hg]; exact (below_size bs) : w.heap.size ≤ gb210)); have n7_ := am ((by rw [hg]; exact Nat.ne_of_lt (blk_lt (bu BK176.out)) : gb176 ≠ gb210)); have n8_ := am ((by rw [hg]; exact Nat.ne_of_gt (blk_lt (bu BK176.out)) : gb210 ≠ gb176)); have n9_ := am ((by rw [hg]; exact Nat.ne_of_lt (blk_lt (bu BK204.out)) : gb204 ≠ gb210)); have n10_ := am ((by rw [hg]; exact Nat.ne_of_gt (blk_lt (bu BK204.out)) : gb210 ≠ gb204)); clear HO_10; clear BK176; clear BK204; clear HB; have HO_10 := n0_; have BK176 := n1_; have BK204 := n2_; have HB := n3_; have BK210 := n4_; have GW210 := n5_; have GE210 := n6_; have NB176_210 := n7_; have NB210_176 := n8_; have NB204_210 := n9_; have NB210_204 := n10_; clear n0_ n1_ n2_ n3_ n4_ n5_ n6_ n7_ n8_ n9_ n10_; clear hb hbox hg; have hnb82 := NB210_176.out; have hnc82 := NB176_210.out; have hnb83 := NB210_204.out; have hnc83 := NB204_210.out; obtain ⟨⟨hcz84_0, hcz84_1, hcz84_2⟩, hfz84_0, hfz84_1, hfz84_2⟩ := blkAll3 BK210) | ((with_reducible refine gate_builtin (b := .append) (xs := #[.tmp 107, .tmp 111]) rfl ?_); (try (refine gate_guard (by rfl) ?_; dsimp only)); at_builtin; refine Kd.R_append (Kd.int .u8) (w0 := w) w.heap.size rfl (.tmp 107) (.tmp 111) 34 5 (.int .u8 0) 1 rfl Tryd.underlying34 info5 rfl (by decide) (by omega) u10 x10_5 (((rd_T41 l0_0 x103_5).f0) % 256) [.int .u8 (((rd_T41 l0_0 x103_5).f0) % 256)] (fun _ => True) (fun _ => False) rfl (by first | (go_simp; done) | (go_simp; rfl)) ?aP (fun _ hk => hk.elim) ?aF ?aO ?aB ?aS ?aL ?_; (case aP => exact rfl); (case aB => exact bs); (case aF => exact (fun _ _ => trivial)); (case aO => exact (by (with_reducible repeat (first | apply Kd.R_alloc | apply Kd.R_drewN | apply Kd.R_drew)); exact Kd.R_mono (Kd.R_far (p := ⟨gb210, 2, none⟩) (Kd.R_far (p := ⟨gb210, 1, none⟩) (Kd.R_far (p := ⟨gb210, 0, none⟩) (Kd.R_types HO_10.out BK210.out (by decide)) (fun _ hk => hk.2) (.int .i64 ((rd_T41 l0_0 x103_5).f0))) (fun _ hk => hk.2) (.int .i64 ((rd_T41 l0_0 x103_5).f1))) (fun _ hk => hk.2) (.int .i64 ((rd_T41 l0_0 x103_5).f2))) (fun _ hk => trivial))); (case aS => exact (below_size bs)); (case aL => have := LMc57.out; omega); intro v212 w85 ho hb hg hat; rw [← Ny211.out] at ho; have n0_ := am (blk_grown (g := gb176) (o := .cells #[.slice (some ad209) l0_0.length c0_0, .slice A0_1 l0_1.length c0_1, .slice A0_2 l0_2.length c0_2] 26 (0, 0)) (by refine bu ?_; refine blk_far ?_ NB176_210.out _; refine bu ?_; refine blk_far ?_ NB176_210.out _; refine bu ?_; refine blk_far ?_ NB176_210.out _; refine bu ?_; exact BK176.out) hg (Kd.R_ne HO_10.out BK176.out (by decide))); have n1_ := am (blk_grown (g := gb204) (o := .cells tabC 73 (0, 0)) (by refine bu ?_; refine blk_far ?_ NB204_210.out _; refine bu ?_; refine blk_far ?_ NB204_210.out _; refine bu ?_; refine blk_far ?_ NB204_210.out _; refine bu ?_; exact BK204.out) hg (Kd.R_ne HO_10.out BK204.out (by decide))); have n2_ := am (blk_grown (g := gb210) (o := .cells #[.int .i64 ((rd_T41 l0_0 x103_5).f0), .int .i64 ((rd_T41 l0_0 x103_5).f1), .int .i64 ((rd_T41 l0_0 x103_5).f2)] 41 (0, 0)) (by refine bu ?_; refine blk_put (cs := #[.int .i64 ((rd_T41 l0_0 x103_5).f0), .int .i64 ((rd_T41 l0_0 x103_5).f1), .int .i64 0]) ?_ 2 _ rfl; refine bu ?_; refine blk_put (cs := #[.int .i64 ((rd_T41 l0_0 x103_5).f0), .int .i64 0, .int .i64 0]) ?_ 1 _ rfl; refine bu ?_; refine blk_put (cs := #[.int .i64 0, .int .i64 0, .int .i64 0]) ?_ 0 _ rfl; refine bu ?_; exact BK210.out) hg (Kd.R_ne HO_10.out BK210.out (by decide))); have n3_ := am (hb); have n4_ := am (ho); clear BK176; clear BK204; clear BK210; clear HB; clear HO_10; have BK176 := n0_; have BK204 := n1_; have BK210 := n2_; have HB := n3_; have HO213 := n4_; clear n0_ n1_ n2_ n3_ n4_; clear ho hb hg hat; obtain ⟨⟨hcz86_0, hcz86_1, hcz86_2⟩, hfz86_0, hfz86_1, hfz86_2⟩ := blkAll3 BK210; have p214 : 0 ≤ (((rd_T41 l0_0 x103_5).f0) : Int) := of_decide_eq_true od; have q214 : ((rd_T41 l0_0 x103_5).f0) < (tabL.length : Int) := of_decide_eq_true od; have q214n : (((rd_T41 l0_0 x103_5).f0) < 34) = True := eq_true (by have h_ := q214; rw [tabL_len] at h_; exact h_); obtain ⟨adq_, e214, hx214_0, hx214_1, hx214_2, hx214_3, hx214_4⟩ := at_T72 (tab_rowsA hadT_.out BK204.out) ((rd_T41 l0_0 x103_5).f0) p214 q214; obtain rfl := Option.some.inj e214; replace p214 := eq_true p214; replace q214 := eq_true q214) | ((with_reducible refine gate_callee (f := 29) rfl ?_); refine goesL_ (some 122) rfl rfl Tryd.func29 (by kernel_rfl) rfl #[v212, .int .i64 ((rd_T41 l0_0 x103_5).f1)] rfl ls ?_; refine (xNumber.calls w v212 y211 ((rd_T41 l0_0 x103_5).f1) t220 _ ?aO ?aB ?aL A78.out).mono ?_; (case aB => exact bs); (case aO => exact (.inl (by (with_reducible repeat (first | apply Kd.R_alloc | apply Kd.R_drewN | apply Kd.R_drew)); exact HO213.out))); (case aL => have := LMc79.out; omega); rintro e w88 ⟨v222, rfl, ho, hb, hg⟩; refine ⟨_, rfl, ?_⟩; have hat := True.intro; rw [← Ny221.out] at ho; change Kd.R (Kd.int .u8) 5 w88 w.heap.size (fun _ => True) v222 y221 at ho; have n0_ := am (blk_grown (g := gb176) (o := .cells #[.slice (some ad209) l0_0.length c0_0, .slice A0_1 l0_1.length c0_1, .slice A0_2 l0_2.length c0_2] 26 (0, 0)) (bu BK176.out) hg (Kd.R_ne HO213.out BK176.out (by decide))); have n1_ := am (blk_grown (g := gb204) (o := .cells tabC 73 (0, 0)) (bu BK204.out) hg (Kd.R_ne HO213.out BK204.out (by decide))); have n2_ := am (blk_grown (g := gb210) (o := .cells #[.int .i64 ((rd_T41 l0_0 x103_5).f0), .int .i64 ((rd_T41 l0_0 x103_5).f1), .int .i64 ((rd_T41 l0_0 x103_5).f2)] 41 (0, 0)) (bu BK210.out) hg (Kd.R_ne HO213.out BK210.out (by decide))); have n3_ := am (hb); have n4_ := am (ho); clear BK176; clear BK204; clear BK210; clear HB; clear HO213; have BK176 := n0_; have BK204 := n1_; have BK210 := n2_; have HB := n3_; have HO223 := n4_; clear n0_ n1_ n2_ n3_ n4_; clear ho hb hg hat; obtain ⟨⟨hcz89_0, hcz89_1, hcz89_2⟩, hfz89_0, hfz89_1, hfz89_2⟩ := blkAll3 BK210; have p224 : 0 ≤ (((rd_T41 l0_0 x103_5).f0) : Int) := of_decide_eq_true od; have q224 : ((rd_T41 l0_0 x103_5).f0) < (tabL.length : Int) := of_decide_eq_true od; have q224n : (((rd_T41 l0_0 x103_5).f0) < 34) = True := eq_true (by have h_ := q224; rw [tabL_len] at h_; exact h_); obtain ⟨adq_, e224, hx224_0, hx224_1, hx224_2, hx224_3, hx224_4⟩ := at_T72 (tab_rowsA hadT_.out BK204.out) ((rd_T41 l0_0 x103_5).f0) p224 q224; obtain rfl := Option.some.inj e224; replace p224 := eq_true p224; replace q224 := eq_true q224))
            go_roundg k5
            case measure => have := HK1.out; have := HJ11.out; have := HK3.out; have := HK4.out; have := HK5.out; omega
            case rel => exact ⟨(y221), (wrap64 (x103_5 + 1)), tv, H', ⟨by have := HK1.out; have := HJ11.out; have := HK3.out; have := HK4.out; have := HK5.out; omega⟩, ⟨by (with_reducible repeat (first | apply Kd.R_alloc | apply Kd.R_drewN | apply Kd.R_drew)); exact HO223.out⟩, ⟨by refine bu ?_; exact BK176.out⟩, ⟨by refine bu ?_; exact BK204.out⟩, ⟨bs⟩⟩
           rw [if_neg c80] at H
           have c80b0 : (((rd_T72 tabL ((rd_T41 l0_0 x103_5).f0)).f2) == 0) = false := beq_eq_false_iff_ne.mpr c80
           have c80b1 : (((rd_T72 tabL ((rd_T41 l0_0 x103_5).f0)).f2) != 0) = true := bne_iff_ne.mpr c80
           replace H := Option.bind_eq_some_iff.mp H
           obtain ⟨t225, A900, H⟩ := H
           replace H : (if y221.length + t225.size < 140737488355328 then (c_Encode.l4 k5 (y221 ++ bytesOf t225) l0_0 (l0_0.length : Int) (wrap64 (x103_5 + 1))) else (none)) = some (r1, r2) := H
           have A90 := am A900
           clear A900
           by_cases c91 : y221.length + t225.size < 140737488355328
           rotate_left
           ·rw [if_neg c91] at H
            exact absurd H (by simp)
           rw [if_pos c91] at H
           have LMc91 := am c91
           clear c91
           obtain ⟨y226, hy226⟩ : ∃ y_ : List Int, y_ = (y221 ++ bytesOf t225) := ⟨_, rfl⟩
           replace H : (c_Encode.l4 k5 y226 l0_0 (l0_0.length : Int) (wrap64 (x103_5 + 1))) = some (r1, r2) := by first | (rw [hy226]; with_reducible exact H) | (have H2_ := (Option.bind_some _ _).symm.trans H; rw [hy226]; with_reducible exact H2_) | (have H2_ := (Option.bind_some _ _).symm.trans H; with_reducible exact H2_) | with_reducible exact H | (rw [hy226]; exact H) | exact H
           have Ny226 := am hy226
           clear hy226
           have H' := am H
           clear H
           have p209 : 0 ≤ (x103_5 : Int) := of_decide_eq_true od
           have q209 : x103_5 < (l0_0.length : Int) := of_decide_eq_true od
           obtain ⟨ad209, e209, hx209_0, hx209_1, hx209_2⟩ := at_T41 HR0_0.out x103_5 p209 q209
           cases e209
           replace hx209_0 := (HB.out.cell (World.block_lt_of_cell? w _ hx209_0)).trans hx209_0
           replace hx209_1 := (HB.out.cell (World.block_lt_of_cell? w _ hx209_1)).trans hx209_1
           replace hx209_2 := (HB.out.cell (World.block_lt_of_cell? w _ hx209_2)).trans hx209_2
           replace p209 := eq_true p209
           replace q209 := eq_true q209
           go_wp2_with (first | ((with_reducible refine gate_dst (N := 17) rfl ?_); (try (refine gate_guard (by rfl) ?_; dsimp only)); refine box_event ?hg (N := 17) ?hd (cs := #[.int .i64 0, .int .i64 0, .int .i64 0]) (t := 41) ?hr ?_; (case hd => rfl); (case hg => rfl); (case hr => first | (go_simp; done) | (go_simp; rfl)); intro gb210 hg w92 hbox hb; have n0_ := am (Kd.R_below (by (with_reducible repeat (first | apply Kd.R_alloc | apply Kd.R_drewN | apply Kd.R_drew)); exact HO_10.out) hb); have n1_ := am (blk_below (bu BK176.out) hb); have n2_ := am (blk_below (bu BK204.out) hb); have n3_ := am (below_step bs hb); have n4_ := am (hbox); have n5_ := am ((by rw [hg]; exact (below_size bs) : w.heap.size ≤ gb210)); have n6_ := am ((by rw [hg]; exact (below_size bs) : w.heap.size ≤ gb210)); have n7_ := am ((by rw [hg]; exact Nat.ne_of_lt (blk_lt (bu BK176.out)) : gb176 ≠ gb210)); have n8_ := am ((by rw [hg]; exact Nat.ne_of_gt (blk_lt (bu BK176.out)) : gb210 ≠ gb176)); have n9_ := am ((by rw [hg]; exact Nat.ne_of_lt (blk_lt (bu BK204.out)) : gb204 ≠ gb210)); have n10_ := am ((by rw [hg]; exact Nat.ne_of_gt (blk_lt (bu BK204.out)) : gb210 ≠ gb204)); clear HO_10; clear BK176; clear BK204; clear HB; have HO_10 := n0_; have BK176 := n1_; have BK204 := n2_; have HB := n3_; have BK210 := n4_; have GW210 := n5_; have GE210 := n6_; have NB176_210 := n7_; have NB210_176 := n8_; have NB204_210 := n9_; have NB210_204 := n10_; clear n0_ n1_ n2_ n3_ n4_ n5_ n6_ n7_ n8_ n9_ n10_; clear hb hbox hg; have hnb93 := NB210_176.out; have hnc93 := NB176_210.out; have hnb94 := NB210_204.out; have hnc94 := NB204_210.out; obtain ⟨⟨hcz95_0, hcz95_1, hcz95_2⟩, hfz95_0, hfz95_1, hfz95_2⟩ := blkAll3 BK210) | ((with_reducible refine gate_builtin (b := .append) (xs := #[.tmp 107, .tmp 111]) rfl ?_); (try (refine gate_guard (by rfl) ?_; dsimp only)); at_builtin; refine Kd.R_append (Kd.int .u8) (w0 := w) w.heap.size rfl (.tmp 107) (.tmp 111) 34 5 (.int .u8 0) 1 rfl Tryd.underlying34 info5 rfl (by decide) (by omega) u10 x10_5 (((rd_T41 l0_0 x103_5).f0) % 256) [.int .u8 (((rd_T41 l0_0 x103_5).f0) % 256)] (fun _ => True) (fun _ => False) rfl (by first | (go_simp; done) | (go_simp; rfl)) ?aP (fun _ hk => hk.elim) ?aF ?aO ?aB ?aS ?aL ?_; (case aP => exact rfl); (case aB => exact bs); (case aF => exact (fun _ _ => trivial)); (case aO => exact (by (with_reducible repeat (first | apply Kd.R_alloc | apply Kd.R_drewN | apply Kd.R_drew)); exact Kd.R_mono (Kd.R_far (p := ⟨gb210, 2, none⟩) (Kd.R_far (p := ⟨gb210, 1, none⟩) (Kd.R_far (p := ⟨gb210, 0, none⟩) (Kd.R_types HO_10.out BK210.out (by decide)) (fun _ hk => hk.2) (.int .i64 ((rd_T41 l0_0 x103_5).f0))) (fun _ hk => hk.2) (.int .i64 ((rd_T41 l0_0 x103_5).f1))) (fun _ hk => hk.2) (.int .i64 ((rd_T41 l0_0 x103_5).f2))) (fun _ hk => trivial))); (case aS => exact (below_size bs)); (case aL => have := LMc57.out; omega); intro v212 w96 ho hb hg hat; rw [← Ny211.out] at ho; have n0_ := am (blk_grown (g := gb176) (o := .cells #[.slice (some ad209) l0_0.length c0_0, .slice A0_1 l0_1.length c0_1, .slice A0_2 l0_2.length c0_2] 26 (0, 0)) (by refine bu ?_; refine blk_far ?_ NB176_210.out _; refine bu ?_; refine blk_far ?_ NB176_210.out _; refine bu ?_; refine blk_far ?_ NB176_210.out _; refine bu ?_; exact BK176.out) hg (Kd.R_ne HO_10.out BK176.out (by decide))); have n1_ := am (blk_grown (g := gb204) (o := .cells tabC 73 (0, 0)) (by refine bu ?_; refine blk_far ?_ NB204_210.out _; refine bu ?_; refine blk_far ?_ NB204_210.out _; refine bu ?_; refine blk_far ?_ NB204_210.out _; refine bu ?_; exact BK204.out) hg (Kd.R_ne HO_10.out BK204.out (by decide))); have n2_ := am (blk_grown (g := gb210) (o := .cells #[.int .i64 ((rd_T41 l0_0 x103_5).f0), .int .i64 ((rd_T41 l0_0 x103_5).f1), .int .i64 ((rd_T41 l0_0 x103_5).f2)] 41 (0, 0)) (by refine bu ?_; refine blk_put (cs := #[.int .i64 ((rd_T41 l0_0 x103_5).f0), .int .i64 ((rd_T41 l0_0 x103_5).f1), .int .i64 0]) ?_ 2 _ rfl; refine bu ?_; refine blk_put (cs := #[.int .i64 ((rd_T41 l0_0 x103_5).f0), .int .i64 0, .int .i64 0]) ?_ 1 _ rfl; refine bu ?_; refine blk_put (cs := #[.int .i64 0, .int .i64 0, .int .i64 0]) ?_ 0 _ rfl; refine bu ?_; exact BK210.out) hg (Kd.R_ne HO_10.out BK210.out (by decide))); have n3_ := am (hb); have n4_ := am (ho); clear BK176; clear BK204; clear BK210; clear HB; clear HO_10; have BK176 := n0_; have BK204 := n1_; have BK210 := n2_; have HB := n3_; have HO213 := n4_; clear n0_ n1_ n2_ n3_ n4_; clear ho hb hg hat; obtain ⟨⟨hcz97_0, hcz97_1, hcz97_2⟩, hfz97_0, hfz97_1, hfz97_2⟩ := blkAll3 BK210; have p214 : 0 ≤ (((rd_T41 l0_0 x103_5).f0) : Int) := of_decide_eq_true od; have q214 : ((rd_T41 l0_0 x103_5).f0) < (tabL.length : Int) := of_decide_eq_true od; have q214n : (((rd_T41 l0_0 x103_5).f0) < 34) = True := eq_true (by have h_ := q214; rw [tabL_len] at h_; exact h_); obtain ⟨adq_, e214, hx214_0, hx214_1, hx214_2, hx214_3, hx214_4⟩ := at_T72 (tab_rowsA hadT_.out BK204.out) ((rd_T41 l0_0 x103_5).f0) p214 q214; obtain rfl := Option.some.inj e214; replace p214 := eq_true p214; replace q214 := eq_true q214) | ((with_reducible refine gate_callee (f := 29) rfl ?_); refine goesL_ (some 122) rfl rfl Tryd.func29 (by kernel_rfl) rfl #[v212, .int .i64 ((rd_T41 l0_0 x103_5).f1)] rfl ls ?_; refine (xNumber.calls w v212 y211 ((rd_T41 l0_0 x103_5).f1) t220 _ ?aO ?aB ?aL A78.out).mono ?_; (case aB => exact bs); (case aO => exact (.inl (by (with_reducible repeat (first | apply Kd.R_alloc | apply Kd.R_drewN | apply Kd.R_drew)); exact HO213.out))); (case aL => have := LMc79.out; omega); rintro e w99 ⟨v222, rfl, ho, hb, hg⟩; refine ⟨_, rfl, ?_⟩; have hat := True.intro; rw [← Ny221.out] at ho; change Kd.R (Kd.int .u8) 5 w99 w.heap.size (fun _ => True) v222 y221 at ho; have n0_ := am (blk_grown (g := gb176) (o := .cells #[.slice (some ad209) l0_0.length c0_0, .slice A0_1 l0_1.length c0_1, .slice A0_2 l0_2.length c0_2] 26 (0, 0)) (bu BK176.out) hg (Kd.R_ne HO213.out BK176.out (by decide))); have n1_ := am (blk_grown (g := gb204) (o := .cells tabC 73 (0, 0)) (bu BK204.out) hg (Kd.R_ne HO213.out BK204.out (by decide))); have n2_ := am (blk_grown (g := gb210) (o := .cells #[.int .i64 ((rd_T41 l0_0 x103_5).f0), .int .i64 ((rd_T41 l0_0 x103_5).f1), .int .i64 ((rd_T41 l0_0 x103_5).f2)] 41 (0, 0)) (bu BK210.out) hg (Kd.R_ne HO213.out BK210.out (by decide))); have n3_ := am (hb); have n4_ := am (ho); clear BK176; clear BK204; clear BK210; clear HB; clear HO213; have BK176 := n0_; have BK204 := n1_; have BK210 := n2_; have HB := n3_; have HO223 := n4_; clear n0_ n1_ n2_ n3_ n4_; clear ho hb hg hat; obtain ⟨⟨hcz100_0, hcz100_1, hcz100_2⟩, hfz100_0, hfz100_1, hfz100_2⟩ := blkAll3 BK210; have p224 : 0 ≤ (((rd_T41 l0_0 x103_5).f0) : Int) := of_decide_eq_true od; have q224 : ((rd_T41 l0_0 x103_5).f0) < (tabL.length : Int) := of_decide_eq_true od; have q224n : (((rd_T41 l0_0 x103_5).f0) < 34) = True := eq_true (by have h_ := q224; rw [tabL_len] at h_; exact h_); obtain ⟨adq_, e224, hx224_0, hx224_1, hx224_2, hx224_3, hx224_4⟩ := at_T72 (tab_rowsA hadT_.out BK204.out) ((rd_T41 l0_0 x103_5).f0) p224 q224; obtain rfl := Option.some.inj e224; replace p224 := eq_true p224; replace q224 := eq_true q224) | ((with_reducible refine gate_callee (f := 29) rfl ?_); refine goesL_ (some 132) rfl rfl Tryd.func29 (by kernel_rfl) rfl #[v222, .int .i64 ((rd_T41 l0_0 x103_5).f2)] rfl ls ?_; refine (xNumber.calls w v222 y221 ((rd_T41 l0_0 x103_5).f2) t225 _ ?aO ?aB ?aL A90.out).mono ?_; (case aB => exact bs); (case aO => exact (.inl (by (with_reducible repeat (first | apply Kd.R_alloc | apply Kd.R_drewN | apply Kd.R_drew)); exact HO223.out))); (case aL => have := LMc91.out; omega); rintro e w102 ⟨v227, rfl, ho, hb, hg⟩; refine ⟨_, rfl, ?_⟩; have hat := True.intro; rw [← Ny226.out] at ho; change Kd.R (Kd.int .u8) 5 w102 w.heap.size (fun _ => True) v227 y226 at ho; have n0_ := am (blk_grown (g := gb176) (o := .cells #[.slice (some ad209) l0_0.length c0_0, .slice A0_1 l0_1.length c0_1, .slice A0_2 l0_2.length c0_2] 26 (0, 0)) (bu BK176.out) hg (Kd.R_ne HO223.out BK176.out (by decide))); have n1_ := am (blk_grown (g := gb204) (o := .cells tabC 73 (0, 0)) (bu BK204.out) hg (Kd.R_ne HO223.out BK204.out (by decide))); have n2_ := am (blk_grown (g := gb210) (o := .cells #[.int .i64 ((rd_T41 l0_0 x103_5).f0), .int .i64 ((rd_T41 l0_0 x103_5).f1), .int .i64 ((rd_T41 l0_0 x103_5).f2)] 41 (0, 0)) (bu BK210.out) hg (Kd.R_ne HO223.out BK210.out (by decide))); have n3_ := am (hb); have n4_ := am (ho); clear BK176; clear BK204; clear BK210; clear HB; clear HO223; have BK176 := n0_; have BK204 := n1_; have BK210 := n2_; have HB := n3_; have HO228 := n4_; clear n0_ n1_ n2_ n3_ n4_; clear ho hb hg hat))
           go_roundg k5
           case measure => have := HK1.out; have := HJ11.out; have := HK3.out; have := HK4.out; have := HK5.out; omega
           case rel => exact ⟨(y226), (wrap64 (x103_5 + 1)), tv, H', ⟨by have := HK1.out; have := HJ11.out; have := HK3.out; have := HK4.out; have := HK5.out; omega⟩, ⟨by (with_reducible repeat (first | apply Kd.R_alloc | apply Kd.R_drewN | apply Kd.R_drew)); exact HO228.out⟩, ⟨by refine bu ?_; exact BK176.out⟩, ⟨by refine bu ?_; exact BK204.out⟩, ⟨bs⟩⟩
end Go.Proofs.YtdkejcadoepnnaaDoor.ECc
