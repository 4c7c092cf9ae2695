/-
 A text of this session's own.
-/
import Derived.Test.YtdkejcadoepnnaaDoorBkA0
import Derived.Test.YtdkejcadoepnnaaDoorBkECrx4
import Derived.Test.YtdkejcadoepnnaaDoorBkECcx0
import Derived.Test.YtdkejcadoepnnaaDoorBkXDec
import Derived.Test.YtdkejcadoepnnaaDoorBkX
import Derived.Test.YtdkejcadoepnnaaDoorBkECcx8
set_option linter.unusedSimpArgs false
namespace Go.Proofs.YtdkejcadoepnnaaDoor.ECc
open Go.Proofs.YtdkejcadoepnnaaDoor.X
open Go.RowKit Go.Proofs.YtdkejcadoepnnaaDoorW.PrintWords Go.Proofs.YtdkejcadoepnnaaDoorW.PrintLast Go.Proofs.YtdkejcadoepnnaaDoorW.PrintMore
attribute [local go_sem] max2_int min2_int max_two min_two max_three min_three max_four min_four
set_option linter.unusedVariables false
open Go.Proofs.YtdkejcadoepnnaaDoor.X
mutual
def c_List.l0 : Nat → Int → Int → List Int → List (S41) → List Int → List ByteArray → Option (ByteArray × Int)
 | 0, _, _, _, _, _, _ => none
 | k + 1, x22, x23, x54, x230000, x230001, x230002 => if x23 < x22 then (if 0 ≤ x23 then (if x23 < (x230000.length : Int) then (if ((rd_T41 x230000 x23).f0) = 2 then (if 0 ≤ ((rd_T41 x230000 x23).f1) then (if ((rd_T41 x230000 x23).f1) < (x230002.length : Int) then (c_List.j1 k tabL x23 x22 x23 (decide (((rdOf ByteArray.empty x230002 ((rd_T41 x230000 x23).f1)).size : Int) > 16777216)) x54 x230000 x230001 x230002) else (none)) else (none)) else (c_List.j1 k tabL x23 x22 x23 false x54 x230000 x230001 x230002)) else (none)) else (none)) else (some (strOfNums x54, 0))
def c_List.j1 : Nat → List (S72) → Int → Int → Int → Bool → List Int → List (S41) → List Int → List ByteArray → Option (ByteArray × Int)
 | 0, _, _, _, _, _, _, _, _, _ => none
 | k + 1, x7, x9, x22, x23, x46, x54, x230000, x230001, x230002 => if x46 = true then (some ((⟨#[]⟩ : ByteArray), 3)) else ((xLine.f x7 x230000 x230001 x230002 x9).bind fun t237 => (if x54.length + t237.size < 140737488355328 then ((some (x54 ++ bytesOf t237 : List Int)).bind fun y238 => (if (y238.length : Int) > 16777216 then (some ((⟨#[]⟩ : ByteArray), 3)) else (c_List.l0 k x22 (wrap64 (x23 + 1)) y238 x230000 x230001 x230002))) else (none)))
end
def c_List.f (k : Nat) (l0_0 : List (S41)) (l0_1 : List Int) (l0_2 : List ByteArray) : Option (ByteArray × Int) := (c_Check.f k l0_0 l0_1 l0_2).bind fun bt230 => (if bt230.2.2 = 0 then (c_List.l0 k (l0_0.length : Int) 0 ([] : List Int) l0_0 l0_1 l0_2) else (some ((⟨#[]⟩ : ByteArray), bt230.2.2)))
set_option maxHeartbeats 8000000 in
set_option maxRecDepth 100000 in
theorem c_List.calls (k : Nat) (A0_0 : Option Addr) (c0_0 : Nat) (l0_0 : List (S41)) (A0_1 : Option Addr) (c0_1 : Nat) (l0_1 : List Int) (A0_2 : Option Addr) (c0_2 : Nat) (l0_2 : List ByteArray) (r1 : ByteArray) (r2 : Int) (w : World) (hr0_0 : Kd.C k41 w A0_0 l0_0.length l0_0) (hc0_0 : l0_0.length ≤ c0_0) (hr0_1 : Kd.C (Kd.int .u64) w A0_1 l0_1.length l0_1) (hc0_1 : l0_1.length ≤ c0_1) (hr0_2 : Kd.C Kd.string w A0_2 l0_2.length l0_2) (hc0_2 : l0_2.length ≤ c0_2) (hG : GW w) (h : c_List.f k l0_0 l0_1 l0_2 = some (r1, r2)) :
  Calls Tryd.prog 15 #[.agg #[.slice A0_0 l0_0.length c0_0, .slice A0_1 l0_1.length c0_1, .slice A0_2 l0_2.length c0_2]] w fun e w' => e = .returned (.tuple #[.string r1, .int .i64 r2]) ∧ Below w.heap.size w w' := by
 have hu26 := Tryd.underlying26
 have hu7 := Tryd.underlying7
 have HR0_0 := am hr0_0
 have HC0_0 := am hc0_0
 clear hr0_0 hc0_0
 have HR0_1 := am hr0_1
 have HC0_1 := am hc0_1
 clear hr0_1 hc0_1
 have HR0_2 := am hr0_2
 have HC0_2 := am hc0_2
 clear hr0_2 hc0_2
 have HB := am (Below.refl w.heap.size w)
 have HG := am hG
 clear hG
 have H : ((c_Check.f k l0_0 l0_1 l0_2).bind fun bt230 => (if bt230.2.2 = 0 then (c_List.l0 k (l0_0.length : Int) 0 ([] : List Int) l0_0 l0_1 l0_2) else (some ((⟨#[]⟩ : ByteArray), bt230.2.2)))) = some (r1, r2) := h
 clear h
 replace H := Option.bind_eq_some_iff.mp H
 obtain ⟨⟨t230, t231, t232⟩, A20, H⟩ := H
 replace H : (if t232 = 0 then (c_List.l0 k (l0_0.length : Int) 0 ([] : List Int) l0_0 l0_1 l0_2) else (some ((⟨#[]⟩ : ByteArray), t232))) = some (r1, r2) := H
 have A2 := am A20
 clear A20
 by_cases c3 : t232 = 0
 rotate_left
 ·rw [if_neg c3] at H
  have c3b0 : (t232 == 0) = false := beq_eq_false_iff_ne.mpr c3
  have c3b1 : (t232 != 0) = true := bne_iff_ne.mpr c3
  simp only [Option.some.injEq, Prod.mk.injEq] at H
  obtain ⟨rfl, rfl⟩ := H
  go_enter Tryd.func15, Tryd.ntmps15
  go_wp2_with (first | ((with_reducible refine gate_dst (N := 1) rfl ?_); (try (refine gate_guard (by rfl) ?_; dsimp only)); refine box_event ?hg (N := 1) ?hd (cs := #[.slice A0_0 l0_0.length c0_0, .slice A0_1 l0_1.length c0_1, .slice A0_2 l0_2.length c0_2]) (t := 26) ?hr ?_; (case hd => rfl); (case hg => rfl); (case hr => first | (go_simp; done) | (go_simp; rfl)); intro gb229 hg w36 hbox hb; have n0_ := am (below_step bl hb); have n1_ := am (hbox); have n2_ := am ((by rw [hg]; exact (below_size bl) : w.heap.size ≤ gb229)); have n3_ := n2_; clear HB; have HB := n0_; have BK229 := n1_; have GW229 := n2_; have GE229 := n3_; clear n0_ n1_ n2_ n3_; clear hb hbox hg; obtain ⟨⟨hcz37_0, hcz37_1, hcz37_2⟩, hfz37_0, hfz37_1, hfz37_2⟩ := blkAll3 BK229) | (go_at_call 13; (with_reducible refine (c_Check.calls k _ _ l0_0 _ _ l0_1 _ _ l0_2 t230 t231 t232 _ ?side1 ?side2 ?side3 ?side4 ?side5 ?side6 A2.out).mono ?_); (case side1 => repeat (first | exact (Kd.C_below HR0_0.out HB.out) | (with_reducible refine Kd.C_alloc ?_ _) | (with_reducible refine Kd.C_drewN ?_ _) | (with_reducible refine Kd.C_drew ?_))); (case side2 => exact HC0_0.out); (case side3 => repeat (first | exact (Kd.C_below HR0_1.out HB.out) | (with_reducible refine Kd.C_alloc ?_ _) | (with_reducible refine Kd.C_drewN ?_ _) | (with_reducible refine Kd.C_drew ?_))); (case side4 => exact HC0_1.out); (case side5 => repeat (first | exact (Kd.C_below HR0_2.out HB.out) | (with_reducible refine Kd.C_alloc ?_ _) | (with_reducible refine Kd.C_drewN ?_ _) | (with_reducible refine Kd.C_drew ?_))); (case side6 => exact HC0_2.out); rintro e w38 ⟨rfl, hb⟩; have n0_ := am (blk_below (bu BK229.out) hb); have n1_ := am (below_step bs hb); clear BK229; clear HB; have BK229 := n0_; have HB := n1_; clear n0_ n1_; (try clear hb); (try clear hb2); (try clear hk); (try clear hi)))
  repeat (go_quiet (fail); try go_wp2)
  go_ret2
  exact ⟨er, bs⟩
 rw [if_pos c3] at H
 have c3b0 : (t232 == 0) = true := beq_iff_eq.mpr c3
 have c3b1 : (t232 != 0) = false := bne_eq_false_iff_eq.mpr c3
 clear c3
 have H' := am H
 clear H
 go_enter Tryd.func15, Tryd.ntmps15
 go_wp2_with (first | ((with_reducible refine gate_dst (N := 1) rfl ?_); (try (refine gate_guard (by rfl) ?_; dsimp only)); refine box_event ?hg (N := 1) ?hd (cs := #[.slice A0_0 l0_0.length c0_0, .slice A0_1 l0_1.length c0_1, .slice A0_2 l0_2.length c0_2]) (t := 26) ?hr ?_; (case hd => rfl); (case hg => rfl); (case hr => first | (go_simp; done) | (go_simp; rfl)); intro gb229 hg w4 hbox hb; have n0_ := am (below_step bl hb); have n1_ := am (hbox); have n2_ := am ((by rw [hg]; exact (below_size bl) : w.heap.size ≤ gb229)); have n3_ := n2_; clear HB; have HB := n0_; have BK229 := n1_; have GW229 := n2_; have GE229 := n3_; clear n0_ n1_ n2_ n3_; clear hb hbox hg; obtain ⟨⟨hcz5_0, hcz5_1, hcz5_2⟩, hfz5_0, hfz5_1, hfz5_2⟩ := blkAll3 BK229) | (go_at_call 13; (with_reducible refine (c_Check.calls k _ _ l0_0 _ _ l0_1 _ _ l0_2 t230 t231 t232 _ ?side1 ?side2 ?side3 ?side4 ?side5 ?side6 A2.out).mono ?_); (case side1 => repeat (first | exact (Kd.C_below HR0_0.out HB.out) | (with_reducible refine Kd.C_alloc ?_ _) | (with_reducible refine Kd.C_drewN ?_ _) | (with_reducible refine Kd.C_drew ?_))); (case side2 => exact HC0_0.out); (case side3 => repeat (first | exact (Kd.C_below HR0_1.out HB.out) | (with_reducible refine Kd.C_alloc ?_ _) | (with_reducible refine Kd.C_drewN ?_ _) | (with_reducible refine Kd.C_drew ?_))); (case side4 => exact HC0_1.out); (case side5 => repeat (first | exact (Kd.C_below HR0_2.out HB.out) | (with_reducible refine Kd.C_alloc ?_ _) | (with_reducible refine Kd.C_drewN ?_ _) | (with_reducible refine Kd.C_drew ?_))); (case side6 => exact HC0_2.out); rintro e w6 ⟨rfl, hb⟩; have n0_ := am (blk_below (bu BK229.out) hb); have n1_ := am (below_step bs hb); clear BK229; clear HB; have BK229 := n0_; have HB := n1_; clear n0_ n1_; (try clear hb); (try clear hb2); (try clear hk); (try clear hi)) | ((with_reducible refine gate_callee (f := 25) rfl ?_); refine goesL_ (some 19) rfl rfl Tryd.func25 (by kernel_rfl) rfl #[] rfl (by first | rfl | simp) ?_; (with_reducible refine (xRows.calls _).mono ?_); rintro e wq_ ⟨rfl, hq_⟩; refine ⟨_, rfl, ?_⟩; refine tab_event (T := 7) (B := 19) rfl rfl rfl rfl rfl rfl ?hx_ ?hy_ ?_; (case hx_ => intro v; first | rfl | (go_simp; done)); (case hy_ => intro v; first | rfl | (go_simp; done)); intro gb233 adT_ hg0_ hadT_ w7 hbox hb0_; have hb := below_then hq_ hq_.size hb0_; have hg := Nat.le_trans hq_.size hg0_; clear hq_ hg0_ hb0_; have n0_ := am (blk_below (bu BK229.out) hb); have n1_ := am (below_step bs hb); have n2_ := am (hbox); have n3_ := am ((exact_le hg (below_size bs) : w.heap.size ≤ gb233)); have n4_ := am ((exact_le hg (below_size bs) : w.heap.size ≤ gb233)); have n5_ := am ((ne_lt_le hg (blk_lt (bu BK229.out)) : gb229 ≠ gb233)); have n6_ := am ((ne_gt_le hg (blk_lt (bu BK229.out)) : gb233 ≠ gb229)); clear BK229; clear HB; have BK229 := n0_; have HB := n1_; have BK233 := n2_; have GW233 := n3_; have GE233 := n4_; have NB229_233 := n5_; have NB233_229 := n6_; clear n0_ n1_ n2_ n3_ n4_ n5_ n6_; clear hb hbox hg; have hnb8 := NB229_233.out; have hnc8 := NB233_229.out; obtain ⟨⟨hcz9_0, hcz9_1, hcz9_2⟩, hfz9_0, hfz9_1, hfz9_2⟩ := blkAll3 BK229) | ((with_reducible refine gate_dst (N := 8) rfl ?_); refine BRr.new w.heap.size rfl (N := 8) rfl rfl (below_size bs) ?_; intro gbb wB_ ho hb; have n0_ := am (blk_below (bu BK229.out) hb); have n1_ := am (blk_below (bu BK233.out) hb); have n2_ := am (below_step bs hb); have n3_ := am ho; clear BK229; clear BK233; clear HB; have BK229 := n0_; have BK233 := n1_; have HB := n2_; have HO_54 := n3_; clear n0_ n1_ n2_ n3_; clear hb ho; have hczB_0 : wB_.cell? ⟨gb229, 0, none⟩ = some (.slice A0_0 l0_0.length c0_0) := (blk_cell BK229.out 0).trans rfl; have hczB_1 : wB_.cell? ⟨gb229, 1, none⟩ = some (.slice A0_1 l0_1.length c0_1) := (blk_cell BK229.out 1).trans rfl; have hczB_2 : wB_.cell? ⟨gb229, 2, none⟩ = some (.slice A0_2 l0_2.length c0_2) := (blk_cell BK229.out 2).trans rfl; have hfzB_0 := blk_frozen BK229.out 0; have hfzB_1 := blk_frozen BK229.out 1; have hfzB_2 := blk_frozen BK229.out 2))
 repeat (go_quiet (fail); try go_wp2)
 go_loopg [23] k (fun kq v23 w' => ∃ (x23_1 : Int) (x54_1 : List Int), v23 = .int .i64 x23_1 ∧ Aside0 (c_List.l0 kq (l0_0.length : Int) x23_1 x54_1 l0_0 l0_1 l0_2 = some (r1, r2)) ∧ Aside0 (kq ≤ k) ∧ Aside0 (BRr w' w.heap.size gbb x54_1) ∧ Aside0 (w'.heap[gb229]? = some (.cells #[(.slice A0_0 l0_0.length c0_0), (.slice A0_1 l0_1.length c0_1), (.slice A0_2 l0_2.length c0_2)] 26 (0, 0))) ∧ Aside0 (w'.heap[gb233]? = some (.cells tabC 73 (0, 0))) ∧ Aside0 (Below w.heap.size w w'))
 case atStart => exact ⟨(0), (([] : List Int)), tv, H', ⟨Nat.le_refl _⟩, ⟨by (with_reducible repeat (first | apply BRr.alloc | apply BRr.drewN | apply BRr.drew)); exact HO_54.out⟩, ⟨by refine bu ?_; exact BK229.out⟩, ⟨by refine bu ?_; exact BK233.out⟩, ⟨bs⟩⟩
 case round =>
  clear H'
  try clear c1
  try clear p2
  try clear c3
  try clear c3b0
  try clear c3b1
  try clear c8
  try clear hcz5_0 hcz5_1 hcz5_2
  try clear hcz9_0 hcz9_1 hcz9_2
  try clear hfz5_0 hfz5_1 hfz5_2
  try clear hfz9_0 hfz9_1 hfz9_2
  obtain ⟨x23_1, x54_1, rfl, HA, HK1, HO_54, BK229, BK233, HB⟩ := hrel
  cases gk with
  | zero => exact absurd HA.out (by simp [c_List.l0])
  | succ k1 =>
   have H := HA.out
   clear HA
   simp only [c_List.l0] at H
   by_cases c10 : x23_1 < (l0_0.length : Int)
   rotate_left
   ·rw [if_neg c10] at H
    have c10b0 := decide_eq_false c10
    clear c10
    simp only [Option.some.injEq, Prod.mk.injEq] at H
    obtain ⟨rfl, rfl⟩ := H
    go_wp2_with (first | ((with_reducible refine gate_callee (f := 32) rfl ?_); refine goesL_ (some 53) rfl rfl Tryd.func32 (by kernel_rfl) rfl #[.pointer (some ⟨gbb, 0, none⟩)] rfl ls ?_; refine (BRr.text (by (with_reducible repeat (first | apply BRr.alloc | apply BRr.drewN | apply BRr.drew)); exact HO_54.out) (below_size bs)).mono ?_; rintro e wS_ ⟨rfl, hb⟩; refine ⟨_, rfl, ?_⟩; have n0_ := am (below_trans_ bs hb); clear HB; have HB := n0_; clear n0_ hb))
    repeat (go_quiet (fail); try go_wp2)
    go_ret2
    exact ⟨er, bs⟩
   rw [if_pos c10] at H
   have c10b0 := decide_eq_true c10
   clear c10
   have HC11 := am H
   clear H
   go_upto_region 9 with (fail)
   repeat (go_quiet (fail); go_upto_region 9 with (fail))
   go_cut [46] (fun v46 wc => ∃ (kq : Nat) (x46_10 : Bool), v46 = .bool x46_10 ∧ Aside0 (c_List.j1 kq tabL x23_1 (l0_0.length : Int) x23_1 x46_10 x54_1 l0_0 l0_1 l0_2 = some (r1, r2)) ∧ Aside0 (kq ≤ k1) ∧ Aside0 (BRr wc w.heap.size gbb x54_1) ∧ Aside0 (wc.heap[gb229]? = some (.cells #[(.slice A0_0 l0_0.length c0_0), (.slice A0_1 l0_1.length c0_1), (.slice A0_2 l0_2.length c0_2)] 26 (0, 0))) ∧ Aside0 (wc.heap[gb233]? = some (.cells tabC 73 (0, 0))) ∧ Aside0 (Below w.heap.size w wc))
   case first =>
    have H := HC11.out
    clear HC11
    by_cases c12 : 0 ≤ x23_1
    rotate_left
    ·rw [if_neg c12] at H
     exact absurd H (by simp)
    rw [if_pos c12] at H
    have c12b0 := decide_eq_true c12
    clear c12
    (first | rw [c12b0] | (simp only [i64_w, i32_w]; rw [c12b0]) | skip)
    by_cases c13 : x23_1 < (l0_0.length : Int)
    rotate_left
    ·rw [if_neg c13] at H
     exact absurd H (by simp)
    rw [if_pos c13] at H
    have c13b0 := decide_eq_true c13
    clear c13
    by_cases c14 : ((rd_T41 l0_0 x23_1).f0) = 2
    rotate_left
    ·rw [if_neg c14] at H
     have c14b0 : (((rd_T41 l0_0 x23_1).f0) == 2) = false := beq_eq_false_iff_ne.mpr c14
     have c14b1 : (((rd_T41 l0_0 x23_1).f0) != 2) = true := bne_iff_ne.mpr c14
     have H' := am H
     clear H
     have hnb19 := NB229_233.out
     have hnc19 := NB233_229.out
     obtain ⟨⟨hcz20_0, hcz20_1, hcz20_2⟩, hfz20_0, hfz20_1, hfz20_2⟩ := blkAll3 BK229
     have p234 : 0 ≤ (x23_1 : Int) := of_decide_eq_true od
     have q234 : x23_1 < (l0_0.length : Int) := of_decide_eq_true od
     obtain ⟨ad234, e234, hx234_0, hx234_1, hx234_2⟩ := at_T41 HR0_0.out x23_1 p234 q234
     cases e234
     replace hx234_0 := (HB.out.cell (World.block_lt_of_cell? w _ hx234_0)).trans hx234_0
     replace hx234_1 := (HB.out.cell (World.block_lt_of_cell? w _ hx234_1)).trans hx234_1
     replace hx234_2 := (HB.out.cell (World.block_lt_of_cell? w _ hx234_2)).trans hx234_2
     replace p234 := eq_true p234
     replace q234 := eq_true q234
     go_wp2
     repeat (go_quiet (fail); try go_wp2)
     go_meet
     case rel => exact ⟨_, (false), tv, H', ⟨by have := HK1.out; first | omega | exact Nat.le_refl _⟩, ⟨by (with_reducible repeat (first | apply BRr.alloc | apply BRr.drewN | apply BRr.drew)); exact HO_54.out⟩, ⟨by refine bu ?_; exact BK229.out⟩, ⟨by refine bu ?_; exact BK233.out⟩, ⟨bs⟩⟩
    rw [if_pos c14] at H
    have c14b0 : (((rd_T41 l0_0 x23_1).f0) == 2) = true := beq_iff_eq.mpr c14
    have c14b1 : (((rd_T41 l0_0 x23_1).f0) != 2) = false := bne_eq_false_iff_eq.mpr c14
    clear c14
    by_cases c15 : 0 ≤ ((rd_T41 l0_0 x23_1).f1)
    rotate_left
    ·rw [if_neg c15] at H
     exact absurd H (by simp)
    rw [if_pos c15] at H
    have c15b0 := decide_eq_true c15
    clear c15
    by_cases c16 : ((rd_T41 l0_0 x23_1).f1) < (l0_2.length : Int)
    rotate_left
    ·rw [if_neg c16] at H
     exact absurd H (by simp)
    rw [if_pos c16] at H
    have c16b0 := decide_eq_true c16
    clear c16
    have H' := am H
    clear H
    have hnb17 := NB229_233.out
    have hnc17 := NB233_229.out
    obtain ⟨⟨hcz18_0, hcz18_1, hcz18_2⟩, hfz18_0, hfz18_1, hfz18_2⟩ := blkAll3 BK229
    have p234 : 0 ≤ (x23_1 : Int) := of_decide_eq_true od
    have q234 : x23_1 < (l0_0.length : Int) := of_decide_eq_true od
    obtain ⟨ad234, e234, hx234_0, hx234_1, hx234_2⟩ := at_T41 HR0_0.out x23_1 p234 q234
    cases e234
    replace hx234_0 := (HB.out.cell (World.block_lt_of_cell? w _ hx234_0)).trans hx234_0
    replace hx234_1 := (HB.out.cell (World.block_lt_of_cell? w _ hx234_1)).trans hx234_1
    replace hx234_2 := (HB.out.cell (World.block_lt_of_cell? w _ hx234_2)).trans hx234_2
    replace p234 := eq_true p234
    replace q234 := eq_true q234
    have p235 : 0 ≤ (x23_1 : Int) := of_decide_eq_true od
    have q235 : x23_1 < (l0_0.length : Int) := of_decide_eq_true od
    obtain ⟨ad235, e235, hx235_0, hx235_1, hx235_2⟩ := at_T41 HR0_0.out x23_1 p235 q235
    obtain rfl : ad234 = ad235 := (by injection e235)
    replace hx235_0 := (HB.out.cell (World.block_lt_of_cell? w _ hx235_0)).trans hx235_0
    replace hx235_1 := (HB.out.cell (World.block_lt_of_cell? w _ hx235_1)).trans hx235_1
    replace hx235_2 := (HB.out.cell (World.block_lt_of_cell? w _ hx235_2)).trans hx235_2
    replace p235 := eq_true p235
    replace q235 := eq_true q235
    have p236 : 0 ≤ (((rd_T41 l0_0 x23_1).f1) : Int) := of_decide_eq_true od
    have q236 : ((rd_T41 l0_0 x23_1).f1) < (l0_2.length : Int) := of_decide_eq_true od
    obtain ⟨ad236, e236, hx236_0⟩ := Kd.at_string HR0_2.out ((rd_T41 l0_0 x23_1).f1) p236 q236
    cases e236
    replace hx236_0 := (HB.out.cell (World.block_lt_of_cell? w _ hx236_0)).trans hx236_0
    replace p236 := eq_true p236
    replace q236 := eq_true q236
    go_wp2
    repeat (go_quiet (fail); try go_wp2)
    go_meet
    case rel => exact ⟨_, (decide (((rdOf ByteArray.empty l0_2 ((rd_T41 l0_0 x23_1).f1)).size : Int) > 16777216)), tv, H', ⟨by have := HK1.out; first | omega | exact Nat.le_refl _⟩, ⟨by (with_reducible repeat (first | apply BRr.alloc | apply BRr.drewN | apply BRr.drew)); exact HO_54.out⟩, ⟨by refine bu ?_; exact BK229.out⟩, ⟨by refine bu ?_; exact BK233.out⟩, ⟨bs⟩⟩
   case rest =>
    clear HC11
    try clear c1
    try clear p2
    try clear q2
    try clear hx2
    try clear c3
    try clear c3b0
    try clear c3b1
    try clear c8
    try clear c10
    try clear c10b0
    try clear c12
    try clear c12b0
    try clear c13
    try clear c13b0
    try clear c14
    try clear c14b0
    try clear c14b1
    try clear c15
    try clear c15b0
    try clear c16
    try clear c16b0
    try clear c17
    try clear c19
    try clear hcz18_0 hcz18_1 hcz18_2
    try clear hcz20_0 hcz20_1 hcz20_2
    try clear hcz5_0 hcz5_1 hcz5_2
    try clear hcz9_0 hcz9_1 hcz9_2
    try clear hfz18_0 hfz18_1 hfz18_2
    try clear hfz20_0 hfz20_1 hfz20_2
    try clear hfz5_0 hfz5_1 hfz5_2
    try clear hfz9_0 hfz9_1 hfz9_2
    try clear hx234_0
    try clear hx234_1
    try clear hx234_2
    try clear hx235_0
    try clear hx235_1
    try clear hx235_2
    try clear hx236_0
    try clear p2
    try clear p234
    try clear p235
    try clear p236
    try clear q234
    try clear q235
    try clear q236
    obtain ⟨kq, x46_10, rfl, HA, HJ10, HO_54, BK229, BK233, HB⟩ := hcut
    cases kq with
    | zero => exact absurd HA.out (by simp [c_List.j1])
    | succ kj10 =>
     have H := HA.out
     clear HA
     simp only [c_List.j1] at H
     by_cases c21 : x46_10 = true
     ·subst c21
      have H1 : (some ((⟨#[]⟩ : ByteArray), 3)) = some (r1, r2) := by rw [if_pos rfl] at H; exact H
      clear H
      have H := H1
      clear H1
      simp only [Option.some.injEq, Prod.mk.injEq] at H
      obtain ⟨rfl, rfl⟩ := H
      go_wp2
      repeat (go_quiet (fail); try go_wp2)
      go_ret2
      exact ⟨er, bs⟩
     replace c21 := Bool.eq_false_iff.mpr c21
     subst c21
     have H1 : ((xLine.f tabL l0_0 l0_1 l0_2 x23_1).bind fun t237 => (if x54_1.length + t237.size < 140737488355328 then ((some (x54_1 ++ bytesOf t237 : List Int)).bind fun y238 => (if (y238.length : Int) > 16777216 then (some ((⟨#[]⟩ : ByteArray), 3)) else (c_List.l0 kj10 (l0_0.length : Int) (wrap64 (x23_1 + 1)) y238 l0_0 l0_1 l0_2))) else (none))) = some (r1, r2) := by rw [if_neg (show ¬ (false = true) by decide)] at H; exact H
     clear H
     have H := H1
     clear H1
     replace H := Option.bind_eq_some_iff.mp H
     obtain ⟨t237, A220, H⟩ := H
     replace H : (if x54_1.length + t237.size < 140737488355328 then ((some (x54_1 ++ bytesOf t237 : List Int)).bind fun y238 => (if (y238.length : Int) > 16777216 then (some ((⟨#[]⟩ : ByteArray), 3)) else (c_List.l0 kj10 (l0_0.length : Int) (wrap64 (x23_1 + 1)) y238 l0_0 l0_1 l0_2))) else (none)) = some (r1, r2) := H
     have A22 := am A220
     clear A220
     by_cases c23 : x54_1.length + t237.size < 140737488355328
     rotate_left
     ·rw [if_neg c23] at H
      exact absurd H (by simp)
     rw [if_pos c23] at H
     have LMc23 := am c23
     clear c23
     obtain ⟨y238, hy238⟩ : ∃ y_ : List Int, y_ = (x54_1 ++ bytesOf t237) := ⟨_, rfl⟩
     replace H : (if (y238.length : Int) > 16777216 then (some ((⟨#[]⟩ : ByteArray), 3)) else (c_List.l0 kj10 (l0_0.length : Int) (wrap64 (x23_1 + 1)) y238 l0_0 l0_1 l0_2)) = some (r1, r2) := by first | (rw [hy238]; with_reducible exact H) | (have H2_ := (Option.bind_some _ _).symm.trans H; rw [hy238]; with_reducible exact H2_) | (have H2_ := (Option.bind_some _ _).symm.trans H; with_reducible exact H2_) | with_reducible exact H | (rw [hy238]; exact H) | exact H
     have Ny238 := am hy238
     clear hy238
     by_cases c24 : (y238.length : Int) > 16777216
     ·rw [if_pos c24] at H
      have c24b0 : decide (16777216 < (y238.length : Int)) = true := decide_eq_true c24
      have c24b1 : decide (16777216 < y238.length) = true := decide_eq_true (by omega)
      clear c24
      simp only [Option.some.injEq, Prod.mk.injEq] at H
      obtain ⟨rfl, rfl⟩ := H
      have hnb25 := NB229_233.out
      have hnc25 := NB233_229.out
      obtain ⟨⟨hcz26_0, hcz26_1, hcz26_2⟩, hfz26_0, hfz26_1, hfz26_2⟩ := blkAll3 BK229
      go_wp2_with (first | ((with_reducible refine gate_callee (f := 30) rfl ?_); refine goesL_ (some 49) rfl rfl Tryd.func30 (by kernel_rfl) rfl #[.pointer (some ⟨gbb, 0, none⟩), .pointer (some adT_), .agg #[.slice A0_0 l0_0.length c0_0, .slice A0_1 l0_1.length c0_1, .slice A0_2 l0_2.length c0_2], .int .i64 x23_1] rfl ls ?_; refine (BRr.line w gbb _ _ adT_ gb233 _ _ l0_0 _ _ l0_1 _ _ l0_2 x23_1 t237 (by (with_reducible repeat (first | apply BRr.alloc | apply BRr.drewN | apply BRr.drew)); exact HO_54.out) bs hadT_.out (bu BK233.out) HR0_0.out HC0_0.out HR0_1.out HC0_1.out HR0_2.out HC0_2.out HG.out (by have := LMc23.out; omega) A22.out).mono ?_; rintro e w28 ⟨rfl, ho, hb⟩; refine ⟨_, rfl, ?_⟩; have hg := OK.mk hb; rw [← Ny238.out] at ho; have n0_ := am (blk_kept (g := gb229) (o := .cells #[.slice A0_0 l0_0.length c0_0, .slice A0_1 l0_1.length c0_1, .slice A0_2 l0_2.length c0_2] 26 (0, 0)) (bu BK229.out) hg (BRr.ne HO_54.out BK229.out (by decide))); have n1_ := am (blk_kept (g := gb233) (o := .cells tabC 73 (0, 0)) (bu BK233.out) hg (BRr.ne HO_54.out BK233.out (by decide))); have n2_ := am (lb_below hb); have n3_ := am ho; clear BK229; clear BK233; clear HB; clear HO_54; have BK229 := n0_; have BK233 := n1_; have HB := n2_; have HO240 := n3_; clear n0_ n1_ n2_ n3_; clear ho hb hg) | ((with_reducible refine gate_callee (f := 31) rfl ?_); refine goesL_ (some 50) rfl rfl Tryd.func31 (by kernel_rfl) rfl #[.pointer (some ⟨gbb, 0, none⟩)] rfl ls ?_; refine (BRr.len (by (with_reducible repeat (first | apply BRr.alloc | apply BRr.drewN | apply BRr.drew)); exact HO240.out)).mono ?_; rintro e wL_ ⟨rfl, rfl⟩; refine ⟨_, rfl, ?_⟩))
      repeat (go_quiet (fail); try go_wp2)
      go_ret2
      exact ⟨er, bs⟩
     rw [if_neg c24] at H
     have c24b0 : decide (16777216 < (y238.length : Int)) = false := decide_eq_false c24
     have c24b1 : decide (16777216 < y238.length) = false := decide_eq_false (by omega)
     clear c24
     have H' := am H
     clear H
     have hnb30 := NB229_233.out
     have hnc30 := NB233_229.out
     obtain ⟨⟨hcz31_0, hcz31_1, hcz31_2⟩, hfz31_0, hfz31_1, hfz31_2⟩ := blkAll3 BK229
     go_wp2_with (first | ((with_reducible refine gate_callee (f := 30) rfl ?_); refine goesL_ (some 49) rfl rfl Tryd.func30 (by kernel_rfl) rfl #[.pointer (some ⟨gbb, 0, none⟩), .pointer (some adT_), .agg #[.slice A0_0 l0_0.length c0_0, .slice A0_1 l0_1.length c0_1, .slice A0_2 l0_2.length c0_2], .int .i64 x23_1] rfl ls ?_; refine (BRr.line w gbb _ _ adT_ gb233 _ _ l0_0 _ _ l0_1 _ _ l0_2 x23_1 t237 (by (with_reducible repeat (first | apply BRr.alloc | apply BRr.drewN | apply BRr.drew)); exact HO_54.out) bs hadT_.out (bu BK233.out) HR0_0.out HC0_0.out HR0_1.out HC0_1.out HR0_2.out HC0_2.out HG.out (by have := LMc23.out; omega) A22.out).mono ?_; rintro e w33 ⟨rfl, ho, hb⟩; refine ⟨_, rfl, ?_⟩; have hg := OK.mk hb; rw [← Ny238.out] at ho; have n0_ := am (blk_kept (g := gb229) (o := .cells #[.slice A0_0 l0_0.length c0_0, .slice A0_1 l0_1.length c0_1, .slice A0_2 l0_2.length c0_2] 26 (0, 0)) (bu BK229.out) hg (BRr.ne HO_54.out BK229.out (by decide))); have n1_ := am (blk_kept (g := gb233) (o := .cells tabC 73 (0, 0)) (bu BK233.out) hg (BRr.ne HO_54.out BK233.out (by decide))); have n2_ := am (lb_below hb); have n3_ := am ho; clear BK229; clear BK233; clear HB; clear HO_54; have BK229 := n0_; have BK233 := n1_; have HB := n2_; have HO240 := n3_; clear n0_ n1_ n2_ n3_; clear ho hb hg) | ((with_reducible refine gate_callee (f := 31) rfl ?_); refine goesL_ (some 50) rfl rfl Tryd.func31 (by kernel_rfl) rfl #[.pointer (some ⟨gbb, 0, none⟩)] rfl ls ?_; refine (BRr.len (by (with_reducible repeat (first | apply BRr.alloc | apply BRr.drewN | apply BRr.drew)); exact HO240.out)).mono ?_; rintro e wL_ ⟨rfl, rfl⟩; refine ⟨_, rfl, ?_⟩))
     repeat (go_quiet (fail); try go_wp2)
     go_roundg kj10
     case measure => have := HK1.out; have := HJ10.out; omega
     case rel => exact ⟨(wrap64 (x23_1 + 1)), (y238), tv, H', ⟨by have := HK1.out; have := HJ10.out; omega⟩, ⟨by (with_reducible repeat (first | apply BRr.alloc | apply BRr.drewN | apply BRr.drew)); exact HO240.out⟩, ⟨by refine bu ?_; exact BK229.out⟩, ⟨by refine bu ?_; exact BK233.out⟩, ⟨bs⟩⟩
end Go.Proofs.YtdkejcadoepnnaaDoor.ECc
