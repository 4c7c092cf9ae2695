/-
  Several texts of this session's own in one: EDpx53 PBase Pa.
-/
import Derived.Test.YtlmijjekaelhcaaDoorExA0
import Derived.Test.YtlmijjekaelhcaaDoorExEDpx0
import Derived.Test.YtlmijjekaelhcaaDoorExEDix24
import Derived.Test.YtlmijjekaelhcaaDoorExEDpx36
import Derived.Test.YtlmijjekaelhcaaDoorExEDpx52
import Derived.Test.YtlmijjekaelhcaaDoorExX
import Derived.WalkKit
import Derived.ProofKit
import Derived.Test.YtlmijjekaelhcaaDoorExEDmx31
import Derived.Laws.BitsAllLaws
section
namespace Go.Proofs.YtlmijjekaelhcaaDoor.EDi
open Go.RowKit Go.Proofs.YtlmijjekaelhcaaDoorW.PrintWords Go.Proofs.YtlmijjekaelhcaaDoorW.PrintLast Go.Proofs.YtlmijjekaelhcaaDoorW.PrintMore
attribute [local go_sem] max2_int min2_int max_two min_two max_three min_three max_four min_four
set_option linter.unusedVariables false
set_option linter.unusedSimpArgs false
open Go.Proofs.YtlmijjekaelhcaaDoor.X
def w_DirectiveExact.l0 : Nat → List (S43) → Int → Option (Bool)
 | 0, _, _ => none
 | k + 1, x0, x3 => if x3 < (x0.length : Int) then (if 0 ≤ x3 then ((w_copied.f ((rd_T43 x0 x3).f3)).bind fun t745 => ((w_right.f k ((rd_T43 x0 x3).f0) ((rd_T43 x0 x3).f1) ((rd_T43 x0 x3).f2.f0) ((rd_T43 x0 x3).f2.f1) ((rd_T43 x0 x3).f2.f2) ((rd_T43 x0 x3).f2.f3) ((rd_T43 x0 x3).f2.f4) ((rd_T43 x0 x3).f2.f5) ((rd_T43 x0 x3).f2.f6) t745 ((rd_T43 x0 x3).f4) ((rd_T43 x0 x3).f5)).bind fun t748 => (if t748 = true then (w_DirectiveExact.l0 k x0 (wrap64 (x3 + 1))) else (some false)))) else (none)) else (some true)
def w_DirectiveExact.f (k : Nat) (l0 : List (S43)) : Option (Bool) := (w_awake.f k).bind fun t742 => (if t742 = true then (w_DirectiveExact.l0 k l0 0) else (some false))
theorem w_DirectiveExact.mono_l : ∀ k, (∀ y0 y1, LeO (w_DirectiveExact.l0 k y0 y1) (w_DirectiveExact.l0 (k + 1) y0 y1))
 | 0 => fun _ _ r h => by simp [w_DirectiveExact.l0] at h
 | k + 1 => by
  have ih0 := w_DirectiveExact.mono_l k
  ·intro y0 y1
   unfold w_DirectiveExact.l0
   repeat' first
   | (with_reducible exact ih0 _ _)
   | (with_reducible exact w_awake.mono _)
   | (with_reducible exact w_right.mono _ _ _ _ _ _ _ _ _ _ _ _ _)
   | (with_reducible exact LeO.refl _)
   | (with_reducible exact LeO.none _)
   | (with_reducible refine LeO.ite ?_ ?_)
   | (with_reducible refine LeO.bind ?_ (fun _ => ?_))
   | exact ih0 _ _
   | exact w_awake.mono _
   | exact w_right.mono _ _ _ _ _ _ _ _ _ _ _ _ _
   | exact LeO.none _
   | refine LeO.ite ?_ ?_
   | refine LeO.bind ?_ (fun _ => ?_)
set_option maxHeartbeats 8000000 in
set_option maxRecDepth 100000 in
theorem w_DirectiveExact.calls (k : Nat) (A0 : Option Addr) (c0 : Nat) (l0 : List (S43)) (w : World) (hr0 : Kd.C k43 w A0 l0.length l0) (hc0 : l0.length ≤ c0) (hG : GW w) (h : w_DirectiveExact.f k l0 = some true) :
  Calls Tryd.prog 7 #[.slice A0 l0.length c0] w fun e w' => e = .returned (.bool true) ∧ Below w.heap.size w w' := by
 have hu43 := Tryd.underlying43
 have HR0 := am hr0
 have HC0 := am hc0
 clear hr0 hc0
 have HB := am (Below.refl w.heap.size w)
 have HG := am hG
 clear hG
 have H : ((w_awake.f k).bind fun t742 => (if t742 = true then (w_DirectiveExact.l0 k l0 0) else (some false))) = some true := h
 clear h
 replace H := Option.bind_eq_some_iff.mp H
 obtain ⟨t742, A20, H⟩ := H
 replace H : (if t742 = true then (w_DirectiveExact.l0 k l0 0) else (some false)) = some true := H
 have A2 := am A20
 clear A20
 by_cases c3 : t742 = true
 rotate_left
 ·replace c3 := Bool.eq_false_iff.mpr c3
  subst c3
  have H1 : (some false) = some true := by rw [if_neg (show ¬ (false = true) by decide)] at H; exact H
  clear H
  have H := H1
  clear H1
  exact absurd H (by simp)
 subst c3
 have H1 : (w_DirectiveExact.l0 k l0 0) = some true := by rw [if_pos rfl] at H; exact H
 clear H
 have H := H1
 clear H1
 have H' := am H
 clear H
 go_enter Tryd.func7, Tryd.ntmps7
 go_wp2_with (first | ((with_reducible refine gate_callee (f := 10) rfl ?_); refine goesL_ (some 5) rfl rfl Tryd.func10 (by kernel_rfl) rfl #[] rfl ls ?_; (with_reducible refine (w_awake.calls k  true _ ?side1 A2.out).mono ?_); (case side1 => exact GW.below HG.out bl); rintro e w4 ⟨rfl, hb⟩; refine ⟨_, rfl, ?_⟩; have n0_ := am (below_step bl hb); clear HB; have HB := n0_; clear n0_; (try clear hb); (try clear hb2); (try clear hk); (try clear hi)))
 go_loopg [3] k (fun kq v3 w' => ∃ (x3_1 : Int), v3 = .int .i64 x3_1 ∧ Aside0 (w_DirectiveExact.l0 kq l0 x3_1 = some true) ∧ Aside0 (kq ≤ k) ∧ Aside0 (Below w.heap.size w w'))
 case atStart => exact ⟨(0), tv, H', ⟨Nat.le_refl _⟩, ⟨bl⟩⟩
 case round =>
  clear H'
  try clear c1
  try clear p2
  try clear c3
  obtain ⟨x3_1, rfl, HA, HK1, HB⟩ := hrel
  cases gk with
  | zero => exact absurd HA.out (by simp [w_DirectiveExact.l0])
  | succ k1 =>
   have H := HA.out
   clear HA
   simp only [w_DirectiveExact.l0] at H
   by_cases c5 : x3_1 < (l0.length : Int)
   rotate_left
   ·rw [if_neg c5] at H
    have c5b0 := decide_eq_false c5
    clear c5
    clear H
    go_wp2
    go_ret
    exact ⟨er, bl⟩
   rw [if_pos c5] at H
   have c5b0 := decide_eq_true c5
   clear c5
   by_cases c6 : 0 ≤ x3_1
   rotate_left
   ·rw [if_neg c6] at H
    exact absurd H (by simp)
   rw [if_pos c6] at H
   have c6b0 := decide_eq_true c6
   clear c6
   replace H := Option.bind_eq_some_iff.mp H
   obtain ⟨t745, A70, H⟩ := H
   replace H : ((w_right.f k1 ((rd_T43 l0 x3_1).f0) ((rd_T43 l0 x3_1).f1) ((rd_T43 l0 x3_1).f2.f0) ((rd_T43 l0 x3_1).f2.f1) ((rd_T43 l0 x3_1).f2.f2) ((rd_T43 l0 x3_1).f2.f3) ((rd_T43 l0 x3_1).f2.f4) ((rd_T43 l0 x3_1).f2.f5) ((rd_T43 l0 x3_1).f2.f6) t745 ((rd_T43 l0 x3_1).f4) ((rd_T43 l0 x3_1).f5)).bind fun t748 => (if t748 = true then (w_DirectiveExact.l0 k1 l0 (wrap64 (x3_1 + 1))) else (some false))) = some true := H
   have A7 := am A70
   clear A70
   replace H := Option.bind_eq_some_iff.mp H
   obtain ⟨t748, A80, H⟩ := H
   replace H : (if t748 = true then (w_DirectiveExact.l0 k1 l0 (wrap64 (x3_1 + 1))) else (some false)) = some true := H
   have A8 := am A80
   clear A80
   by_cases c9 : t748 = true
   rotate_left
   ·replace c9 := Bool.eq_false_iff.mpr c9
    subst c9
    have H1 : (some false) = some true := by rw [if_neg (show ¬ (false = true) by decide)] at H; exact H
    clear H
    have H := H1
    clear H1
    exact absurd H (by simp)
   subst c9
   have H1 : (w_DirectiveExact.l0 k1 l0 (wrap64 (x3_1 + 1))) = some true := by rw [if_pos rfl] at H; exact H
   clear H
   have H := H1
   clear H1
   have H' := am H
   clear H
   have p743 : 0 ≤ (x3_1 : Int) := of_decide_eq_true od
   have q743 : x3_1 < (l0.length : Int) := of_decide_eq_true od
   obtain ⟨ad743, A743_9, c743_9, e743, hx743_0, hx743_1, hx743_2, hx743_3, hx743_4, hx743_5, hx743_6, hx743_7, hx743_8, hx743_9, hx743_10, hx743_11, hl743_9, hi743_9⟩ := at_T43 HR0.out x3_1 p743 q743
   cases e743
   replace hx743_0 := (HB.out.cell (World.block_lt_of_cell? w _ hx743_0)).trans hx743_0
   replace hx743_1 := (HB.out.cell (World.block_lt_of_cell? w _ hx743_1)).trans hx743_1
   replace hx743_2 := (HB.out.cell (World.block_lt_of_cell? w _ hx743_2)).trans hx743_2
   replace hx743_3 := (HB.out.cell (World.block_lt_of_cell? w _ hx743_3)).trans hx743_3
   replace hx743_4 := (HB.out.cell (World.block_lt_of_cell? w _ hx743_4)).trans hx743_4
   replace hx743_5 := (HB.out.cell (World.block_lt_of_cell? w _ hx743_5)).trans hx743_5
   replace hx743_6 := (HB.out.cell (World.block_lt_of_cell? w _ hx743_6)).trans hx743_6
   replace hx743_7 := (HB.out.cell (World.block_lt_of_cell? w _ hx743_7)).trans hx743_7
   replace hx743_8 := (HB.out.cell (World.block_lt_of_cell? w _ hx743_8)).trans hx743_8
   replace hx743_9 := (HB.out.cell (World.block_lt_of_cell? w _ hx743_9)).trans hx743_9
   replace hx743_10 := (HB.out.cell (World.block_lt_of_cell? w _ hx743_10)).trans hx743_10
   replace hx743_11 := (HB.out.cell (World.block_lt_of_cell? w _ hx743_11)).trans hx743_11
   have HR743_9 := am hi743_9
   have HC743_9 := am hl743_9
   clear hi743_9 hl743_9
   replace p743 := eq_true p743
   replace q743 := eq_true q743
   go_wp2_with (first | ((with_reducible refine gate_dst (N := 4) rfl ?_); refine box_event ?hg (N := 4) ?hd (cs := #[.int .i64 0, .string (⟨#[]⟩ : ByteArray), .string (⟨#[]⟩ : ByteArray), .int .u8 0, .int .i64 0, .int .i64 0, .int .i64 0, .int .i64 0, .int .i64 0, .slice none 0 0, .int .i64 0, .int .i64 0]) (t := 43) ?hr ?_; (case hd => rfl); (case hg => rfl); (case hr => first | (go_simp; done) | (go_simp; rfl)); intro gb744 hg w10 hbox hb; have n0_ := am (below_step bl hb); have n1_ := am (hbox); have n2_ := am ((by rw [hg]; exact (below_size bl) : w.heap.size ≤ gb744)); have n3_ := n2_; clear HB; have HB := n0_; have BK744 := n1_; have GW744 := n2_; have GE744 := n3_; clear n0_ n1_ n2_ n3_; clear hb hbox hg; obtain ⟨⟨hcz11_0, hcz11_1, hcz11_2, hcz11_3, hcz11_4, hcz11_5, hcz11_6, hcz11_7, hcz11_8, hcz11_9, hcz11_10, hcz11_11⟩, hfz11_0, hfz11_1, hfz11_2, hfz11_3, hfz11_4, hfz11_5, hfz11_6, hfz11_7, hfz11_8, hfz11_9, hfz11_10, hfz11_11⟩ := blkAll12 BK744) | ((with_reducible refine gate_callee (f := 17) rfl ?_); refine goesL_ (some 19) rfl rfl Tryd.func17 (by kernel_rfl) rfl #[.slice A743_9 ((rd_T43 l0 x3_1).f3).length c743_9] rfl ls ?_; (with_reducible refine (w_copied.calls _ _ ((rd_T43 l0 x3_1).f3) t745 _ ?side1 ?side2 A7.out).mono ?_); (case side1 => exact Kd.C_below HR743_9.out bs); (case side2 => exact HC743_9.out); rintro e w12 ⟨v746, rfl, ho0, hb⟩; refine ⟨_, rfl, ?_⟩; have n0_ := am (Kd.R_lower ho0 (below_size bs)); have n1_ := am (blk_below (g := gb744) (o := .cells #[.int .i64 ((rd_T43 l0 x3_1).f0), .string ((rd_T43 l0 x3_1).f1), .string ((rd_T43 l0 x3_1).f2.f0), .int .u8 ((rd_T43 l0 x3_1).f2.f1), .int .i64 ((rd_T43 l0 x3_1).f2.f2), .int .i64 ((rd_T43 l0 x3_1).f2.f3), .int .i64 ((rd_T43 l0 x3_1).f2.f4), .int .i64 ((rd_T43 l0 x3_1).f2.f5), .int .i64 ((rd_T43 l0 x3_1).f2.f6), .slice A743_9 ((rd_T43 l0 x3_1).f3).length c743_9, .int .i64 ((rd_T43 l0 x3_1).f4), .int .i64 ((rd_T43 l0 x3_1).f5)] 43 (0, 0)) (by refine bu ?_; refine blk_put (cs := #[.int .i64 ((rd_T43 l0 x3_1).f0), .string ((rd_T43 l0 x3_1).f1), .string ((rd_T43 l0 x3_1).f2.f0), .int .u8 ((rd_T43 l0 x3_1).f2.f1), .int .i64 ((rd_T43 l0 x3_1).f2.f2), .int .i64 ((rd_T43 l0 x3_1).f2.f3), .int .i64 ((rd_T43 l0 x3_1).f2.f4), .int .i64 ((rd_T43 l0 x3_1).f2.f5), .int .i64 ((rd_T43 l0 x3_1).f2.f6), .slice A743_9 ((rd_T43 l0 x3_1).f3).length c743_9, .int .i64 ((rd_T43 l0 x3_1).f4), .int .i64 0]) ?_ 11 _ rfl; refine bu ?_; refine blk_put (cs := #[.int .i64 ((rd_T43 l0 x3_1).f0), .string ((rd_T43 l0 x3_1).f1), .string ((rd_T43 l0 x3_1).f2.f0), .int .u8 ((rd_T43 l0 x3_1).f2.f1), .int .i64 ((rd_T43 l0 x3_1).f2.f2), .int .i64 ((rd_T43 l0 x3_1).f2.f3), .int .i64 ((rd_T43 l0 x3_1).f2.f4), .int .i64 ((rd_T43 l0 x3_1).f2.f5), .int .i64 ((rd_T43 l0 x3_1).f2.f6), .slice A743_9 ((rd_T43 l0 x3_1).f3).length c743_9, .int .i64 0, .int .i64 0]) ?_ 10 _ rfl; refine bu ?_; refine blk_put (cs := #[.int .i64 ((rd_T43 l0 x3_1).f0), .string ((rd_T43 l0 x3_1).f1), .string ((rd_T43 l0 x3_1).f2.f0), .int .u8 ((rd_T43 l0 x3_1).f2.f1), .int .i64 ((rd_T43 l0 x3_1).f2.f2), .int .i64 ((rd_T43 l0 x3_1).f2.f3), .int .i64 ((rd_T43 l0 x3_1).f2.f4), .int .i64 ((rd_T43 l0 x3_1).f2.f5), .int .i64 ((rd_T43 l0 x3_1).f2.f6), .slice none 0 0, .int .i64 0, .int .i64 0]) ?_ 9 _ rfl; refine bu ?_; refine blk_put (cs := #[.int .i64 ((rd_T43 l0 x3_1).f0), .string ((rd_T43 l0 x3_1).f1), .string ((rd_T43 l0 x3_1).f2.f0), .int .u8 ((rd_T43 l0 x3_1).f2.f1), .int .i64 ((rd_T43 l0 x3_1).f2.f2), .int .i64 ((rd_T43 l0 x3_1).f2.f3), .int .i64 ((rd_T43 l0 x3_1).f2.f4), .int .i64 ((rd_T43 l0 x3_1).f2.f5), .int .i64 0, .slice none 0 0, .int .i64 0, .int .i64 0]) ?_ 8 _ rfl; refine bu ?_; refine blk_put (cs := #[.int .i64 ((rd_T43 l0 x3_1).f0), .string ((rd_T43 l0 x3_1).f1), .string ((rd_T43 l0 x3_1).f2.f0), .int .u8 ((rd_T43 l0 x3_1).f2.f1), .int .i64 ((rd_T43 l0 x3_1).f2.f2), .int .i64 ((rd_T43 l0 x3_1).f2.f3), .int .i64 ((rd_T43 l0 x3_1).f2.f4), .int .i64 0, .int .i64 0, .slice none 0 0, .int .i64 0, .int .i64 0]) ?_ 7 _ rfl; refine bu ?_; refine blk_put (cs := #[.int .i64 ((rd_T43 l0 x3_1).f0), .string ((rd_T43 l0 x3_1).f1), .string ((rd_T43 l0 x3_1).f2.f0), .int .u8 ((rd_T43 l0 x3_1).f2.f1), .int .i64 ((rd_T43 l0 x3_1).f2.f2), .int .i64 ((rd_T43 l0 x3_1).f2.f3), .int .i64 0, .int .i64 0, .int .i64 0, .slice none 0 0, .int .i64 0, .int .i64 0]) ?_ 6 _ rfl; refine bu ?_; refine blk_put (cs := #[.int .i64 ((rd_T43 l0 x3_1).f0), .string ((rd_T43 l0 x3_1).f1), .string ((rd_T43 l0 x3_1).f2.f0), .int .u8 ((rd_T43 l0 x3_1).f2.f1), .int .i64 ((rd_T43 l0 x3_1).f2.f2), .int .i64 0, .int .i64 0, .int .i64 0, .int .i64 0, .slice none 0 0, .int .i64 0, .int .i64 0]) ?_ 5 _ rfl; refine bu ?_; refine blk_put (cs := #[.int .i64 ((rd_T43 l0 x3_1).f0), .string ((rd_T43 l0 x3_1).f1), .string ((rd_T43 l0 x3_1).f2.f0), .int .u8 ((rd_T43 l0 x3_1).f2.f1), .int .i64 0, .int .i64 0, .int .i64 0, .int .i64 0, .int .i64 0, .slice none 0 0, .int .i64 0, .int .i64 0]) ?_ 4 _ rfl; refine bu ?_; refine blk_put (cs := #[.int .i64 ((rd_T43 l0 x3_1).f0), .string ((rd_T43 l0 x3_1).f1), .string ((rd_T43 l0 x3_1).f2.f0), .int .u8 0, .int .i64 0, .int .i64 0, .int .i64 0, .int .i64 0, .int .i64 0, .slice none 0 0, .int .i64 0, .int .i64 0]) ?_ 3 _ rfl; refine bu ?_; refine blk_put (cs := #[.int .i64 ((rd_T43 l0 x3_1).f0), .string ((rd_T43 l0 x3_1).f1), .string (⟨#[]⟩ : ByteArray), .int .u8 0, .int .i64 0, .int .i64 0, .int .i64 0, .int .i64 0, .int .i64 0, .slice none 0 0, .int .i64 0, .int .i64 0]) ?_ 2 _ rfl; refine bu ?_; refine blk_put (cs := #[.int .i64 ((rd_T43 l0 x3_1).f0), .string (⟨#[]⟩ : ByteArray), .string (⟨#[]⟩ : ByteArray), .int .u8 0, .int .i64 0, .int .i64 0, .int .i64 0, .int .i64 0, .int .i64 0, .slice none 0 0, .int .i64 0, .int .i64 0]) ?_ 1 _ rfl; refine bu ?_; refine blk_put (cs := #[.int .i64 0, .string (⟨#[]⟩ : ByteArray), .string (⟨#[]⟩ : ByteArray), .int .u8 0, .int .i64 0, .int .i64 0, .int .i64 0, .int .i64 0, .int .i64 0, .slice none 0 0, .int .i64 0, .int .i64 0]) ?_ 0 _ rfl; refine bu ?_; exact BK744.out) hb); have n2_ := am (below_step bs hb); clear BK744; clear HB; have HO747 := n0_; have BK744 := n1_; have HB := n2_; clear n0_ n1_ n2_; (try clear hb); (try clear hb2); (try clear hk); (try clear hi); (try clear ho0); obtain ⟨Ao13, co13, eo13⟩ := Kd.R_slice HO747.out; subst eo13; obtain ⟨⟨hcz14_0, hcz14_1, hcz14_2, hcz14_3, hcz14_4, hcz14_5, hcz14_6, hcz14_7, hcz14_8, hcz14_9, hcz14_10, hcz14_11⟩, hfz14_0, hfz14_1, hfz14_2, hfz14_3, hfz14_4, hfz14_5, hfz14_6, hfz14_7, hfz14_8, hfz14_9, hfz14_10, hfz14_11⟩ := blkAll12 BK744) | ((with_reducible refine gate_callee (f := 18) rfl ?_); refine goesL_ (some 22) rfl rfl Tryd.func18 (by kernel_rfl) rfl #[.agg #[.int .i64 ((rd_T43 l0 x3_1).f0), .string ((rd_T43 l0 x3_1).f1), .string ((rd_T43 l0 x3_1).f2.f0), .int .u8 ((rd_T43 l0 x3_1).f2.f1), .int .i64 ((rd_T43 l0 x3_1).f2.f2), .int .i64 ((rd_T43 l0 x3_1).f2.f3), .int .i64 ((rd_T43 l0 x3_1).f2.f4), .int .i64 ((rd_T43 l0 x3_1).f2.f5), .int .i64 ((rd_T43 l0 x3_1).f2.f6), .slice Ao13 t745.length co13, .int .i64 ((rd_T43 l0 x3_1).f4), .int .i64 ((rd_T43 l0 x3_1).f5)]] rfl ls ?_; (with_reducible refine (w_right.calls k1 ((rd_T43 l0 x3_1).f0) ((rd_T43 l0 x3_1).f1) ((rd_T43 l0 x3_1).f2.f0) ((rd_T43 l0 x3_1).f2.f1) ((rd_T43 l0 x3_1).f2.f2) ((rd_T43 l0 x3_1).f2.f3) ((rd_T43 l0 x3_1).f2.f4) ((rd_T43 l0 x3_1).f2.f5) ((rd_T43 l0 x3_1).f2.f6) _ _ t745 ((rd_T43 l0 x3_1).f4) ((rd_T43 l0 x3_1).f5) true _ ?side1 ?side2 ?side3 A8.out).mono ?_); (case side1 => refine (Kd.R_reads' (e := 25) (base := w.heap.size) (ok := fun k_ => True) (n := t745.length) (c := co13) ?_).2.2; exact (by (with_reducible repeat (first | apply Kd.R_alloc | apply Kd.R_drewN | apply Kd.R_drew)); exact (Kd.R_mono (Kd.R_far (p := ⟨gb744, 9, none⟩) (Kd.R_types HO747.out BK744.out (by decide)) (fun _ hk => hk.2) (.slice Ao13 t745.length co13)) (fun _ h_ => h_.1)))); (case side2 => exact (Kd.R_reads' HO747.out).2.1); (case side3 => exact GW.below HG.out bs); rintro e w15 ⟨rfl, hb⟩; refine ⟨_, rfl, ?_⟩; have n0_ := am (Kd.R_below (by (with_reducible repeat (first | apply Kd.R_alloc | apply Kd.R_drewN | apply Kd.R_drew)); exact (Kd.R_mono (Kd.R_far (p := ⟨gb744, 9, none⟩) (Kd.R_types HO747.out BK744.out (by decide)) (fun _ hk => hk.2) (.slice Ao13 t745.length co13)) (fun _ h_ => h_.1))) hb); have n1_ := am (blk_below (g := gb744) (o := .cells #[.int .i64 ((rd_T43 l0 x3_1).f0), .string ((rd_T43 l0 x3_1).f1), .string ((rd_T43 l0 x3_1).f2.f0), .int .u8 ((rd_T43 l0 x3_1).f2.f1), .int .i64 ((rd_T43 l0 x3_1).f2.f2), .int .i64 ((rd_T43 l0 x3_1).f2.f3), .int .i64 ((rd_T43 l0 x3_1).f2.f4), .int .i64 ((rd_T43 l0 x3_1).f2.f5), .int .i64 ((rd_T43 l0 x3_1).f2.f6), .slice Ao13 t745.length co13, .int .i64 ((rd_T43 l0 x3_1).f4), .int .i64 ((rd_T43 l0 x3_1).f5)] 43 (0, 0)) (by refine bu ?_; refine blk_put (cs := #[.int .i64 ((rd_T43 l0 x3_1).f0), .string ((rd_T43 l0 x3_1).f1), .string ((rd_T43 l0 x3_1).f2.f0), .int .u8 ((rd_T43 l0 x3_1).f2.f1), .int .i64 ((rd_T43 l0 x3_1).f2.f2), .int .i64 ((rd_T43 l0 x3_1).f2.f3), .int .i64 ((rd_T43 l0 x3_1).f2.f4), .int .i64 ((rd_T43 l0 x3_1).f2.f5), .int .i64 ((rd_T43 l0 x3_1).f2.f6), .slice A743_9 ((rd_T43 l0 x3_1).f3).length c743_9, .int .i64 ((rd_T43 l0 x3_1).f4), .int .i64 ((rd_T43 l0 x3_1).f5)]) ?_ 9 _ rfl; refine bu ?_; exact BK744.out) hb); have n2_ := am (below_step bs hb); clear HO747; clear BK744; clear HB; have HO747 := n0_; have BK744 := n1_; have HB := n2_; clear n0_ n1_ n2_; (try clear hb); (try clear hb2); (try clear hk); (try clear hi)))
   go_roundg k1
   case measure => have := HK1.out; omega
   case rel => exact ⟨(wrap64 (x3_1 + 1)), tv, H', ⟨by have := HK1.out; omega⟩, ⟨bs⟩⟩
end Go.Proofs.YtlmijjekaelhcaaDoor.EDi
end
section
set_option linter.unusedVariables false
namespace Go.Proofs.YtlmijjekaelhcaaDoor.Pl
open Go.RowKit
def Ans {α : Type} (g : Nat → Option α) (r : α) : Prop := ∃ n, ∀ k, n ≤ k → g k = some r
theorem Ans.of {α : Type} {g : Nat → Option α} {r : α} (h : ∀ k, g k = some r) : Ans g r := ⟨0, fun k _ => h k⟩
theorem Ans.ret {α : Type} (r : α) : Ans (fun _ => some r) r := ⟨0, fun _ _ => rfl⟩
theorem Ans.bind {α β : Type} {g : Nat → Option α} {h : Nat → α → Option β} {a : α} {r : β} (hg : Ans g a) (hh : Ans (fun k => h k a) r) : Ans (fun k => (g k).bind (h k)) r := by
 obtain ⟨n, hn⟩ := hg
 obtain ⟨m, hm⟩ := hh
 refine ⟨max n m, fun k hk => ?_⟩
 show (g k).bind (h k) = some r
 rw [hn k (by omega), Option.bind_some]
 exact hm k (by omega)
theorem Ans.succ {α : Type} {g : Nat → Option α} {r : α} (h : Ans (fun k => g (k + 1)) r) : Ans g r := by
 obtain ⟨n, hn⟩ := h
 refine ⟨n + 1, fun k hk => ?_⟩
 obtain ⟨m, rfl⟩ : ∃ m, k = m + 1 := ⟨k - 1, by omega⟩
 exact hn m (by omega)
theorem Ans.congr {α : Type} {g g' : Nat → Option α} {r : α} (h : Ans g' r) (e : ∀ k, g k = g' k) : Ans g r := by
 obtain ⟨n, hn⟩ := h
 exact ⟨n, fun k hk => (e k).trans (hn k hk)⟩
theorem Ans.some {α : Type} {g : Nat → Option α} {r : α} (h : Ans g r) : ∃ k, g k = Option.some r := by
 obtain ⟨n, hn⟩ := h
 exact ⟨n, hn n (Nat.le_refl _)⟩
theorem Ans.uniq {α : Type} {g : Nat → Option α} {r r' : α} (h : Ans g r) (h' : Ans g r') : r = r' := by
 obtain ⟨n, hn⟩ := h
 obtain ⟨m, hm⟩ := h'
 have := (hn (max n m) (by omega)).symm.trans (hm (max n m) (by omega))
 exact Option.some.inj this
theorem wrap_id {x : Int} (h : -9223372036854775808 ≤ x) (h' : x ≤ 9223372036854775807) : wrap64 x = x := by
 unfold wrap64
 omega
theorem left_ind {n : Int} {P : Int → Prop} (step : ∀ i, i ≤ n → (∀ j, i < j → j ≤ n → P j) → P i) : ∀ i, i ≤ n → P i := by
 intro i hi
 generalize hd : (n - i).toNat = d
 induction d using Nat.strongRecOn generalizing i with
 | _ d ih => exact step i hi fun j hj hjn => ih (n - j).toNat (by omega) j hjn rfl
end Go.Proofs.YtlmijjekaelhcaaDoor.Pl
end
section
set_option linter.unusedVariables false
set_option linter.unusedSimpArgs false
namespace Go.Proofs.YtlmijjekaelhcaaDoor.Pl
open Go.RowKit Go.Proofs.YtlmijjekaelhcaaDoorW.PrintWords Go.Proofs.YtlmijjekaelhcaaDoor.EDi Go.Proofs.YtlmijjekaelhcaaDoor.X
theorem awake_true : w_awake.f 40 = some true := by kernel_rfl
theorem Ans.of_mono {α : Type} {g : Nat → Option α} {r : α} {n : Nat} (h : g n = Option.some r) (hm : ∀ k, LeO (g k) (g (k + 1))) : Ans g r := by
 refine ⟨n, fun k hk => ?_⟩
 obtain ⟨d, rfl⟩ := Nat.exists_eq_add_of_le hk
 induction d with
 | zero => exact h
 | succ d ih => exact hm _ _ (ih (by omega))
theorem awake_ans : Ans (fun k => w_awake.f k) true := Ans.of_mono (g := fun k => w_awake.f k) awake_true fun k => w_awake.mono k
theorem wrap_zero {n : Nat} (h : n < 18446744073709551616) (e : IntKind.i64.wrap (n : Int) = 0) : n = 0 := by
 rw [IntKind.wrap_i64] at e
 omega
theorem flags_in {x : Int} (h0 : -9223372036854775808 ≤ x) (h1 : x ≤ 9223372036854775807) (h : Go.bits .andNot .i64 x 31 = 0) : 0 ≤ x ∧ x ≤ 31 := by
 have hv : (BitVec.ofInt 64 x).toNat < 18446744073709551616 := (BitVec.ofInt 64 x).isLt
 have e : ((BitVec.ofInt 64 x).toNat : Int) = x % 18446744073709551616 := by
  rw [BitVec.toNat_ofInt]
  omega
 have h' : IntKind.i64.wrap (((BitVec.ofInt 64 x &&& ~~~BitVec.ofInt 64 31).toNat : Nat) : Int) = 0 := h
 rw [BitVec.toNat_and] at h'
 have e31 : (~~~BitVec.ofInt 64 31).toNat = 18446744073709551584 := by decide
 rw [e31, nat_hi64_5] at h'
 have := wrap_zero (by omega) h'
 omega
theorem or1_all : ∀ n : Fin 32, Go.bits .or .i64 ((n.val : Nat) : Int) 1 = ((n.val + 1 - n.val % 2 : Nat) : Int) := by decide
theorem or1 {x : Int} (h0 : 0 ≤ x) (h1 : x ≤ 31) : Go.bits .or .i64 x 1 = x + 1 - x % 2 := by
 have := or1_all ⟨x.toNat, by omega⟩
 have e : ((x.toNat : Nat) : Int) = x := by omega
 simp only [e] at this
 rw [this]
 omega
theorem not31_all : ∀ n : Fin 32, Go.bits .andNot .i64 ((n.val : Nat) : Int) 31 = 0 := by decide
theorem not31 {x : Int} (h0 : 0 ≤ x) (h1 : x ≤ 31) : Go.bits .andNot .i64 x 31 = 0 := by
 have := not31_all ⟨x.toNat, by omega⟩
 have e : ((x.toNat : Nat) : Int) = x := by omega
 simp only [e] at this
 exact this
def Cnt (k n least : Int) : Prop := (k = 1 ∧ least ≤ n ∧ n ≤ 4096) ∨ ((k = 0 ∨ k = 2) ∧ n = 0)
theorem counted_yes {k n l : Int} (h : Cnt k n l) : d_counted.f k n l = some true := by
 unfold d_counted.f
 rcases h with ⟨rfl, h1, h2⟩ | ⟨rfl | rfl, rfl⟩
 ·rw [if_pos rfl, if_pos h1, decide_eq_true h2]
 ·rfl
 ·rfl
theorem counted_no {k n l : Int} (h : ¬ Cnt k n l) : d_counted.f k n l = some false := by
 unfold d_counted.f
 by_cases h1 : k = 1
 ·rw [if_pos h1]
  by_cases h2 : n ≥ l
  ·rw [if_pos h2, decide_eq_false (fun h3 => h (.inl ⟨h1, h2, h3⟩))]
  ·rw [if_neg h2]
 ·rw [if_neg h1]
  by_cases h2 : k = 0
  ·rw [if_pos h2]
   have : ¬ n = 0 := fun e => h (.inr ⟨.inl h2, e⟩)
   simp [this]
  ·rw [if_neg h2]
   by_cases h3 : k = 2
   ·rw [if_pos h3]
    have : ¬ n = 0 := fun e => h (.inr ⟨.inr h3, e⟩)
    simp [this]
   ·rw [if_neg h3]
def verbL : List UInt8 := [100, 105, 111, 117, 120, 88, 99, 115, 101, 69, 102, 70, 103, 71]
def InF (t : ByteArray) (v fl wk wd pk pr : Int) : Prop :=
 t.toList = ([] : List UInt8) ∧ v ≠ 0 ∧ 0 ≤ Lib.indexByte verbL v.toNat.toUInt8 ∧ Go.bits .andNot .i64 fl 31 = 0 ∧ Cnt wk wd 1 ∧ Cnt pk pr 0
theorem inForm_yes {t : ByteArray} {v fl wk wd pk pr : Int} (h : InF t v fl wk wd pk pr) : d_inForm.f t v fl wk wd pk pr = some true := by
 obtain ⟨h1, h2, h3, h4, h5, h6⟩ := h
 unfold d_inForm.f
 rw [if_pos h1, if_neg h2]
 show (if Lib.indexByte verbL v.toNat.toUInt8 ≥ 0 then _ else _) = _
 rw [if_pos h3, if_pos h4, counted_yes h5]
 simp only [Option.bind_some, if_true]
 rw [counted_yes h6]
 rfl
theorem inForm_no {t : ByteArray} {v fl wk wd pk pr : Int} (h : ¬ InF t v fl wk wd pk pr) : d_inForm.f t v fl wk wd pk pr = some false := by
 unfold d_inForm.f
 by_cases h1 : t.toList = ([] : List UInt8)
 ·rw [if_pos h1]
  by_cases h2 : v = 0
  ·rw [if_pos h2]
  ·rw [if_neg h2]
   show (if Lib.indexByte verbL v.toNat.toUInt8 ≥ 0 then _ else _) = _
   by_cases h3 : Lib.indexByte verbL v.toNat.toUInt8 ≥ 0
   ·rw [if_pos h3]
    by_cases h4 : Go.bits .andNot .i64 fl 31 = 0
    ·rw [if_pos h4]
     by_cases h5 : Cnt wk wd 1
     ·rw [counted_yes h5]
      simp only [Option.bind_some, if_true]
      rw [counted_no (fun h6 => h ⟨h1, h2, h3, h4, h5, h6⟩)]
      rfl
     ·rw [counted_no h5]
      rfl
    ·rw [if_neg h4]
   ·rw [if_neg h3]
 ·rw [if_neg h1]
theorem inF_not37 {t : ByteArray} {v fl wk wd pk pr : Int} (h : InF t v fl wk wd pk pr) : v ≠ 37 := by
 rintro rfl
 exact absurd h.2.2.1 (by decide)
theorem check_yes {t : ByteArray} {v fl wk wd pk pr : Int} (h : InF t v fl wk wd pk pr) (k : Nat) : d_Check.f (k + 1) t v fl wk wd pk pr = some 0 := by
 unfold d_Check.f
 rw [inForm_yes h]
 rfl
theorem settle_no {t : ByteArray} {v fl wk wd pk pr : Int} (h : ¬ InF t v fl wk wd pk pr) (k : Nat) (a b : Int) : d_Settle.f k t v fl wk wd pk pr a b = some (0, 0, 0, 0, 132) := by
 unfold d_Settle.f
 rw [inForm_no h]
 rfl
def setW (wk wd a : Int) : Int := if wk = 2 then a else wd
def setP (pk pr b : Int) : Int := if pk = 1 then pr else if pk = 2 then mx b (-1) else -1
def settled (v fl W P : Int) : Int × Int × Int × Int × Int :=
 if W > 4096 ∨ W < -4096 ∨ P > 4096 then (0, 0, 0, 0, 6) else if W < 0 then (v, Go.bits .or .i64 fl 1, wrap64 (-W), P, 0) else (v, fl, W, P, 0)
theorem settle_j1 (k : Nat) (v fl W P : Int) : d_Settle.j1 (k + 2) v fl W P = some (settled v fl W P) := by
 unfold settled
 simp only [d_Settle.j1, d_Settle.j2]
 by_cases h1 : W > 4096
 ·simp [h1]
 ·by_cases h2 : W < -4096
  ·simp [h1, h2]
  ·by_cases h3 : P > 4096
   ·simp [h1, h2, h3]
   ·by_cases h4 : W < 0
    ·simp [h1, h2, h3, h4]
    ·simp [h1, h2, h3, h4]
theorem settle_yes {t : ByteArray} {v fl wk wd pk pr : Int} (h : InF t v fl wk wd pk pr) (k : Nat) (a b : Int) : d_Settle.f (k + 3) t v fl wk wd pk pr a b = some (settled v fl (setW wk wd a) (setP pk pr b)) := by
 have j0 : ∀ W, d_Settle.j0 (k + 3) b t v fl wk wd pk pr v fl W (-1) = some (settled v fl W (setP pk pr b)) := by
  intro W
  unfold setP
  simp only [d_Settle.j0, settle_j1]
  by_cases h1 : pk = 1
  ·simp [h1]
  ·by_cases h2 : pk = 2
   ·simp [h2]
   ·simp [h1, h2]
 unfold d_Settle.f
 rw [inForm_yes h]
 simp only [Option.bind_some, if_true, j0]
 unfold setW
 by_cases h1 : wk = 2
 ·simp [h1]
 ·simp [h1]
/-- The bounds that a piece's numbers keep. -/
def I64 (x : Int) : Prop := -9223372036854775808 ≤ x ∧ x ≤ 9223372036854775807
end Go.Proofs.YtlmijjekaelhcaaDoor.Pl
end
