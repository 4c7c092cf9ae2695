/-
 A text of this session's own.
-/
import Derived.Test.YtdkejcadoepnnaaDoorRuA0
import Derived.Test.YtdkejcadoepnnaaDoorRuECcx0
import Derived.Test.YtdkejcadoepnnaaDoorRuECcx8
import Derived.Test.YtdkejcadoepnnaaDoorRuECcx11
import Derived.Test.YtdkejcadoepnnaaDoorRuECcx16
import Derived.Test.YtdkejcadoepnnaaDoorRuECcx17
import Derived.Test.YtdkejcadoepnnaaDoorRuX
namespace Go.Proofs.YtdkejcadoepnnaaDoor.ECc
open Go.RowKit Go.Proofs.YtdkejcadoepnnaaDoorW.PrintWords Go.Proofs.YtdkejcadoepnnaaDoorW.PrintLast Go.Proofs.YtdkejcadoepnnaaDoorW.PrintMore
attribute [local go_sem] max2_int min2_int max_two min_two max_three min_three max_four min_four   -- for this text's walks alone
set_option linter.unusedVariables false
set_option linter.unusedSimpArgs false
open Go.Proofs.YtdkejcadoepnnaaDoor.X
mutual
def abacuslaw26_CodeRuns.l0 : Nat → List Bool → Int → Int → Int → Int → Int → Int → List (S41) → List Int → List ByteArray → Option (Bool)
 | 0, _, _, _, _, _, _, _, _, _, _ => none
 | k + 1, x1, x5, x8, x9, x10, x11, x12, x305000, x305001, x305002 => if x9 < x8 then (if x12 ≥ x8 then (abacuslaw26_CodeRuns.j1 k x1 x5 x8 x9 x10 x11 x12 true x305000 x305001 x305002) else (abacuslaw26_CodeRuns.j1 k x1 x5 x8 x9 x10 x11 x12 (decide (x9 < 0)) x305000 x305001 x305002)) else (if x9 = x8 then (some (x10 == 1)) else (some false))
def abacuslaw26_CodeRuns.j1 : Nat → List Bool → Int → Int → Int → Int → Int → Int → Bool → List (S41) → List Int → List ByteArray → Option (Bool)
 | 0, _, _, _, _, _, _, _, _, _, _, _ => none
 | k + 1, x1, x5, x8, x9, x10, x11, x12, x44, x305000, x305001, x305002 => if x44 = true then (some false) else (if 0 ≤ x9 then (if x9 < (x305000.length : Int) then ((code_Effect.f k ((rd_T41 x305000 x9).f0) ((rd_T41 x305000 x9).f1) ((rd_T41 x305000 x9).f2)).bind fun bt311 => (if bt311.2.2 = true then (if x10 < bt311.1 then (abacuslaw26_CodeRuns.j2 k x1 x5 x8 x9 x10 x11 x12 bt311.1 bt311.2.1 true x305000 x305001 x305002 ((rd_T41 x305000 x9).f0) ((rd_T41 x305000 x9).f1) ((rd_T41 x305000 x9).f2)) else (if ((rd_T41 x305000 x9).f0) = 1 then (if ((rd_T41 x305000 x9).f1) < 0 then (abacuslaw26_CodeRuns.j2 k x1 x5 x8 x9 x10 x11 x12 bt311.1 bt311.2.1 true x305000 x305001 x305002 ((rd_T41 x305000 x9).f0) ((rd_T41 x305000 x9).f1) ((rd_T41 x305000 x9).f2)) else (if ((rd_T41 x305000 x9).f1) ≥ (x305001.length : Int) then (abacuslaw26_CodeRuns.j2 k x1 x5 x8 x9 x10 x11 x12 bt311.1 bt311.2.1 true x305000 x305001 x305002 ((rd_T41 x305000 x9).f0) ((rd_T41 x305000 x9).f1) ((rd_T41 x305000 x9).f2)) else (if ((rd_T41 x305000 x9).f0) = 2 then (abacuslaw26_CodeRuns.j2 k x1 x5 x8 x9 x10 x11 x12 bt311.1 bt311.2.1 (decide (((rd_T41 x305000 x9).f1) ≥ (x305002.length : Int))) x305000 x305001 x305002 ((rd_T41 x305000 x9).f0) ((rd_T41 x305000 x9).f1) ((rd_T41 x305000 x9).f2)) else (abacuslaw26_CodeRuns.j2 k x1 x5 x8 x9 x10 x11 x12 bt311.1 bt311.2.1 false x305000 x305001 x305002 ((rd_T41 x305000 x9).f0) ((rd_T41 x305000 x9).f1) ((rd_T41 x305000 x9).f2))))) else (if ((rd_T41 x305000 x9).f0) = 2 then (if ((rd_T41 x305000 x9).f1) < 0 then (abacuslaw26_CodeRuns.j2 k x1 x5 x8 x9 x10 x11 x12 bt311.1 bt311.2.1 true x305000 x305001 x305002 ((rd_T41 x305000 x9).f0) ((rd_T41 x305000 x9).f1) ((rd_T41 x305000 x9).f2)) else (abacuslaw26_CodeRuns.j2 k x1 x5 x8 x9 x10 x11 x12 bt311.1 bt311.2.1 (decide (((rd_T41 x305000 x9).f1) ≥ (x305002.length : Int))) x305000 x305001 x305002 ((rd_T41 x305000 x9).f0) ((rd_T41 x305000 x9).f1) ((rd_T41 x305000 x9).f2))) else (abacuslaw26_CodeRuns.j2 k x1 x5 x8 x9 x10 x11 x12 bt311.1 bt311.2.1 false x305000 x305001 x305002 ((rd_T41 x305000 x9).f0) ((rd_T41 x305000 x9).f1) ((rd_T41 x305000 x9).f2))))) else (abacuslaw26_CodeRuns.j2 k x1 x5 x8 x9 x10 x11 x12 bt311.1 bt311.2.1 true x305000 x305001 x305002 ((rd_T41 x305000 x9).f0) ((rd_T41 x305000 x9).f1) ((rd_T41 x305000 x9).f2)))) else (none)) else (none))
def abacuslaw26_CodeRuns.j2 : Nat → List Bool → Int → Int → Int → Int → Int → Int → Int → Int → Bool → List (S41) → List Int → List ByteArray → Int → Int → Int → Option (Bool)
 | 0, _, _, _, _, _, _, _, _, _, _, _, _, _, _, _, _ => none
 | k + 1, x1, x5, x8, x9, x10, x11, x12, x14, x15, x98, x305000, x305001, x305002, x311000, x311001, x311002 => if x98 = true then (some false) else (if (wrap64 (x10 + (wrap64 (x15 - x14)))) > x5 then (some false) else ((abacuslaw26_jumps.f x311000).bind fun bt314 => (if bt314.1 = true then (abacuslaw26_CodeRuns.j3 k x1 x5 x8 x9 (wrap64 (x10 + (wrap64 (x15 - x14)))) x11 x12 bt314.1 bt314.2 (!bt314.2) x305000 x305001 x305002 x311000 x311001 x311002) else (abacuslaw26_CodeRuns.j3 k x1 x5 x8 x9 (wrap64 (x10 + (wrap64 (x15 - x14)))) x11 x12 bt314.1 bt314.2 false x305000 x305001 x305002 x311000 x311001 x311002))))
def abacuslaw26_CodeRuns.j3 : Nat → List Bool → Int → Int → Int → Int → Int → Int → Bool → Bool → Bool → List (S41) → List Int → List ByteArray → Int → Int → Int → Option (Bool)
 | 0, _, _, _, _, _, _, _, _, _, _, _, _, _, _, _, _ => none
 | k + 1, x1, x5, x8, x9, x10, x11, x12, x17, x18, x19, x305000, x305001, x305002, x311000, x311001, x311002 => if x17 = true then (abacuslaw26_CodeRuns.j4 k x1 x5 x8 x9 x10 x11 x12 x19 x18 x305000 x305001 x305002 x311000 x311001 x311002) else (abacuslaw26_CodeRuns.j4 k x1 x5 x8 x9 x10 x11 x12 x19 false x305000 x305001 x305002 x311000 x311001 x311002)
def abacuslaw26_CodeRuns.j4 : Nat → List Bool → Int → Int → Int → Int → Int → Int → Bool → Bool → List (S41) → List Int → List ByteArray → Int → Int → Int → Option (Bool)
 | 0, _, _, _, _, _, _, _, _, _, _, _, _, _, _, _ => none
 | k + 1, x1, x5, x8, x9, x10, x11, x12, x19, x121, x305000, x305001, x305002, x311000, x311001, x311002 => if x121 = true then (if x11 < (x1.length : Int) then (if 0 ≤ x11 then (if rdOf false x1 x11 = true then (abacuslaw26_CodeRuns.l0 k x1 x5 x8 x311001 x10 (wrap64 (x11 + 1)) (wrap64 (x12 + 1)) x305000 x305001 x305002) else (abacuslaw26_CodeRuns.l0 k x1 x5 x8 (wrap64 (x9 + 1)) x10 (wrap64 (x11 + 1)) (wrap64 (x12 + 1)) x305000 x305001 x305002)) else (none)) else (if x19 = true then (abacuslaw26_CodeRuns.l0 k x1 x5 x8 x311001 x10 (wrap64 (x11 + 1)) (wrap64 (x12 + 1)) x305000 x305001 x305002) else (abacuslaw26_CodeRuns.l0 k x1 x5 x8 (wrap64 (x9 + 1)) x10 (wrap64 (x11 + 1)) (wrap64 (x12 + 1)) x305000 x305001 x305002))) else (if x19 = true then (abacuslaw26_CodeRuns.l0 k x1 x5 x8 x311001 x10 x11 (wrap64 (x12 + 1)) x305000 x305001 x305002) else (abacuslaw26_CodeRuns.l0 k x1 x5 x8 (wrap64 (x9 + 1)) x10 x11 (wrap64 (x12 + 1)) x305000 x305001 x305002))
end
def abacuslaw26_CodeRuns.f (k : Nat) (l0_0 : List (S41)) (l0_1 : List Int) (l0_2 : List ByteArray) (l1 : List Bool) : Option (Bool) := (abacuslaw26_awake.f k).bind fun t305 => (if t305 = true then ((code_Check.f k l0_0 l0_1 l0_2).bind fun bt306 => (if bt306.2.2 = 0 then (abacuslaw26_CodeRuns.l0 k l1 bt306.1 (l0_0.length : Int) 0 0 0 0 l0_0 l0_1 l0_2) else (some true))) else (some false))
set_option maxHeartbeats 8000000 in
set_option maxRecDepth 100000 in
theorem abacuslaw26_CodeRuns.calls (k : Nat) (A0_0 : Option Addr) (c0_0 : Nat) (l0_0 : List (S41)) (A0_1 : Option Addr) (c0_1 : Nat) (l0_1 : List Int) (A0_2 : Option Addr) (c0_2 : Nat) (l0_2 : List ByteArray) (A1 : Option Addr) (c1 : Nat) (l1 : List Bool) (r : Bool) (w : World) (hr0_0 : Kd.C k41 w A0_0 l0_0.length l0_0) (hc0_0 : l0_0.length ≤ c0_0) (hr0_1 : Kd.C (Kd.int .u64) w A0_1 l0_1.length l0_1) (hc0_1 : l0_1.length ≤ c0_1) (hr0_2 : Kd.C Kd.string w A0_2 l0_2.length l0_2) (hc0_2 : l0_2.length ≤ c0_2) (hr1 : Kd.C Kd.bool w A1 l1.length l1) (hc1 : l1.length ≤ c1) (hG : GW w) (h : abacuslaw26_CodeRuns.f k l0_0 l0_1 l0_2 l1 = some r) :
  Calls Tryd.prog 4 #[.agg #[.slice A0_0 l0_0.length c0_0, .slice A0_1 l0_1.length c0_1, .slice A0_2 l0_2.length c0_2], .slice A1 l1.length c1] w fun e w' => e = .returned (.bool r) ∧ Below w.heap.size w w' := by
 have hu26 := Tryd.underlying26
 have hu41 := Tryd.underlying41
 have HR0_0 := Aside0.mk hr0_0
 have HC0_0 := Aside0.mk hc0_0
 clear hr0_0 hc0_0
 have HR0_1 := Aside0.mk hr0_1
 have HC0_1 := Aside0.mk hc0_1
 clear hr0_1 hc0_1
 have HR0_2 := Aside0.mk hr0_2
 have HC0_2 := Aside0.mk hc0_2
 clear hr0_2 hc0_2
 have HR1 := Aside0.mk hr1
 have HC1 := Aside0.mk hc1
 clear hr1 hc1
 have HB := Aside0.mk (Below.refl w.heap.size w)
 have HG := Aside0.mk hG
 clear hG
 have H : ((abacuslaw26_awake.f k).bind fun t305 => (if t305 = true then ((code_Check.f k l0_0 l0_1 l0_2).bind fun bt306 => (if bt306.2.2 = 0 then (abacuslaw26_CodeRuns.l0 k l1 bt306.1 (l0_0.length : Int) 0 0 0 0 l0_0 l0_1 l0_2) else (some true))) else (some false))) = some r := h
 clear h
 replace H := Option.bind_eq_some_iff.mp H
 obtain ⟨t305, A30, H⟩ := H
 replace H : (if t305 = true then ((code_Check.f k l0_0 l0_1 l0_2).bind fun bt306 => (if bt306.2.2 = 0 then (abacuslaw26_CodeRuns.l0 k l1 bt306.1 (l0_0.length : Int) 0 0 0 0 l0_0 l0_1 l0_2) else (some true))) else (some false)) = some r := H
 have A3 := Aside0.mk A30
 clear A30
 by_cases c4 : t305 = true
 rotate_left
 ·replace c4 := Bool.eq_false_iff.mpr c4
  subst c4
  have H1 : (some false) = some r := by rw [if_neg (show ¬ (false = true) by decide)] at H; exact H
  clear H
  have H := H1
  clear H1
  obtain rfl := Option.some.inj H
  go_enter Tryd.func4, Tryd.ntmps4
  go_wp2_with (first | ((with_reducible refine gate_dst (N := 2) rfl ?_); (try (refine gate_guard (by rfl) ?_; dsimp only)); refine box_event ?hg (N := 2) ?hd (cs := #[.slice A0_0 l0_0.length c0_0, .slice A0_1 l0_1.length c0_1, .slice A0_2 l0_2.length c0_2]) (t := 26) ?hr ?_; (case hd => rfl); (case hg => rfl); (case hr => first | (go_simp; done) | (go_simp; rfl)); intro gb304 hg w78 hbox hb; have n0_ := Aside0.mk (below_step bl hb); have n1_ := Aside0.mk (hbox); have n2_ := Aside0.mk ((by rw [hg]; exact (below_size bl) : w.heap.size ≤ gb304)); have n3_ := Aside0.mk ((by rw [hg]; exact (below_size bl) : w.heap.size ≤ gb304)); clear HB; have HB := n0_; have BK304 := n1_; have GW304 := n2_; have GE304 := n3_; clear n0_ n1_ n2_ n3_; clear hb hbox hg) | ((with_reducible refine gate_callee (f := 11) rfl ?_); refine goesL_ (some 20) rfl rfl Tryd.func11 (by kernel_rfl) rfl #[] rfl ls ?_; (with_reducible refine (abacuslaw26_awake.calls k  false _ ?side1 A3.out).mono ?_); (case side1 => exact GW.below HG.out bs); rintro e w79 ⟨rfl, hb⟩; refine ⟨_, rfl, ?_⟩; have n0_ := Aside0.mk (blk_below (bu BK304.out) hb); have n1_ := Aside0.mk (below_step bs hb); clear BK304; clear HB; have BK304 := n0_; have HB := n1_; clear n0_ n1_; (try clear hb); (try clear hb2); (try clear hk); (try clear hi)))
  go_ret
  exact ⟨er, bs⟩
 subst c4
 have H1 : ((code_Check.f k l0_0 l0_1 l0_2).bind fun bt306 => (if bt306.2.2 = 0 then (abacuslaw26_CodeRuns.l0 k l1 bt306.1 (l0_0.length : Int) 0 0 0 0 l0_0 l0_1 l0_2) else (some true))) = some r := by rw [if_pos rfl] at H; exact H
 clear H
 have H := H1
 clear H1
 replace H := Option.bind_eq_some_iff.mp H
 obtain ⟨⟨t306, t307, t308⟩, A50, H⟩ := H
 replace H : (if t308 = 0 then (abacuslaw26_CodeRuns.l0 k l1 t306 (l0_0.length : Int) 0 0 0 0 l0_0 l0_1 l0_2) else (some true)) = some r := H
 have A5 := Aside0.mk A50
 clear A50
 by_cases c6 : t308 = 0
 rotate_left
 ·rw [if_neg c6] at H
  have c6b0 : (t308 == 0) = false := beq_eq_false_iff_ne.mpr c6
  have c6b1 : (t308 != 0) = true := bne_iff_ne.mpr c6
  obtain rfl := Option.some.inj H
  go_enter Tryd.func4, Tryd.ntmps4
  go_wp2_with (first | ((with_reducible refine gate_dst (N := 2) rfl ?_); (try (refine gate_guard (by rfl) ?_; dsimp only)); refine box_event ?hg (N := 2) ?hd (cs := #[.slice A0_0 l0_0.length c0_0, .slice A0_1 l0_1.length c0_1, .slice A0_2 l0_2.length c0_2]) (t := 26) ?hr ?_; (case hd => rfl); (case hg => rfl); (case hr => first | (go_simp; done) | (go_simp; rfl)); intro gb304 hg w74 hbox hb; have n0_ := Aside0.mk (below_step bl hb); have n1_ := Aside0.mk (hbox); have n2_ := Aside0.mk ((by rw [hg]; exact (below_size bl) : w.heap.size ≤ gb304)); have n3_ := Aside0.mk ((by rw [hg]; exact (below_size bl) : w.heap.size ≤ gb304)); clear HB; have HB := n0_; have BK304 := n1_; have GW304 := n2_; have GE304 := n3_; clear n0_ n1_ n2_ n3_; clear hb hbox hg) | ((with_reducible refine gate_callee (f := 11) rfl ?_); refine goesL_ (some 20) rfl rfl Tryd.func11 (by kernel_rfl) rfl #[] rfl ls ?_; (with_reducible refine (abacuslaw26_awake.calls k  true _ ?side1 A3.out).mono ?_); (case side1 => exact GW.below HG.out bs); rintro e w75 ⟨rfl, hb⟩; refine ⟨_, rfl, ?_⟩; have n0_ := Aside0.mk (blk_below (bu BK304.out) hb); have n1_ := Aside0.mk (below_step bs hb); clear BK304; clear HB; have BK304 := n0_; have HB := n1_; clear n0_ n1_; (try clear hb); (try clear hb2); (try clear hk); (try clear hi); obtain ⟨⟨hcz76_0, hcz76_1, hcz76_2⟩, hfz76_0, hfz76_1, hfz76_2⟩ := blkAll3 BK304) | ((with_reducible refine gate_callee (f := 13) rfl ?_); refine goesL_ (some 24) rfl rfl Tryd.func13 (by kernel_rfl) rfl #[.agg #[.slice A0_0 l0_0.length c0_0, .slice A0_1 l0_1.length c0_1, .slice A0_2 l0_2.length c0_2]] rfl ls ?_; (with_reducible refine (code_Check.calls k _ _ l0_0 _ _ l0_1 _ _ l0_2 t306 t307 t308 _ ?side1 ?side2 ?side3 ?side4 ?side5 ?side6 A5.out).mono ?_); (case side1 => repeat (first | exact (Kd.C_below HR0_0.out HB.out) | (with_reducible refine Kd.C_alloc ?_ _) | (with_reducible refine Kd.C_drewN ?_ _) | (with_reducible refine Kd.C_drew ?_))); (case side2 => exact HC0_0.out); (case side3 => repeat (first | exact (Kd.C_below HR0_1.out HB.out) | (with_reducible refine Kd.C_alloc ?_ _) | (with_reducible refine Kd.C_drewN ?_ _) | (with_reducible refine Kd.C_drew ?_))); (case side4 => exact HC0_1.out); (case side5 => repeat (first | exact (Kd.C_below HR0_2.out HB.out) | (with_reducible refine Kd.C_alloc ?_ _) | (with_reducible refine Kd.C_drewN ?_ _) | (with_reducible refine Kd.C_drew ?_))); (case side6 => exact HC0_2.out); rintro e w77 ⟨rfl, hb⟩; refine ⟨_, rfl, ?_⟩; have n0_ := Aside0.mk (blk_below (bu BK304.out) hb); have n1_ := Aside0.mk (below_step bs hb); clear BK304; clear HB; have BK304 := n0_; have HB := n1_; clear n0_ n1_; (try clear hb); (try clear hb2); (try clear hk); (try clear hi)))
  go_ret
  exact ⟨er, bs⟩
 rw [if_pos c6] at H
 have c6b0 : (t308 == 0) = true := beq_iff_eq.mpr c6
 have c6b1 : (t308 != 0) = false := bne_eq_false_iff_eq.mpr c6
 clear c6
 have H' := Aside0.mk H
 clear H
 go_enter Tryd.func4, Tryd.ntmps4
 go_wp2_with (first | ((with_reducible refine gate_dst (N := 2) rfl ?_); (try (refine gate_guard (by rfl) ?_; dsimp only)); refine box_event ?hg (N := 2) ?hd (cs := #[.slice A0_0 l0_0.length c0_0, .slice A0_1 l0_1.length c0_1, .slice A0_2 l0_2.length c0_2]) (t := 26) ?hr ?_; (case hd => rfl); (case hg => rfl); (case hr => first | (go_simp; done) | (go_simp; rfl)); intro gb304 hg w7 hbox hb; have n0_ := Aside0.mk (below_step bl hb); have n1_ := Aside0.mk (hbox); have n2_ := Aside0.mk ((by rw [hg]; exact (below_size bl) : w.heap.size ≤ gb304)); have n3_ := Aside0.mk ((by rw [hg]; exact (below_size bl) : w.heap.size ≤ gb304)); clear HB; have HB := n0_; have BK304 := n1_; have GW304 := n2_; have GE304 := n3_; clear n0_ n1_ n2_ n3_; clear hb hbox hg) | ((with_reducible refine gate_callee (f := 11) rfl ?_); refine goesL_ (some 20) rfl rfl Tryd.func11 (by kernel_rfl) rfl #[] rfl ls ?_; (with_reducible refine (abacuslaw26_awake.calls k  true _ ?side1 A3.out).mono ?_); (case side1 => exact GW.below HG.out bs); rintro e w8 ⟨rfl, hb⟩; refine ⟨_, rfl, ?_⟩; have n0_ := Aside0.mk (blk_below (bu BK304.out) hb); have n1_ := Aside0.mk (below_step bs hb); clear BK304; clear HB; have BK304 := n0_; have HB := n1_; clear n0_ n1_; (try clear hb); (try clear hb2); (try clear hk); (try clear hi); obtain ⟨⟨hcz9_0, hcz9_1, hcz9_2⟩, hfz9_0, hfz9_1, hfz9_2⟩ := blkAll3 BK304) | ((with_reducible refine gate_callee (f := 13) rfl ?_); refine goesL_ (some 24) rfl rfl Tryd.func13 (by kernel_rfl) rfl #[.agg #[.slice A0_0 l0_0.length c0_0, .slice A0_1 l0_1.length c0_1, .slice A0_2 l0_2.length c0_2]] rfl ls ?_; (with_reducible refine (code_Check.calls k _ _ l0_0 _ _ l0_1 _ _ l0_2 t306 t307 t308 _ ?side1 ?side2 ?side3 ?side4 ?side5 ?side6 A5.out).mono ?_); (case side1 => repeat (first | exact (Kd.C_below HR0_0.out HB.out) | (with_reducible refine Kd.C_alloc ?_ _) | (with_reducible refine Kd.C_drewN ?_ _) | (with_reducible refine Kd.C_drew ?_))); (case side2 => exact HC0_0.out); (case side3 => repeat (first | exact (Kd.C_below HR0_1.out HB.out) | (with_reducible refine Kd.C_alloc ?_ _) | (with_reducible refine Kd.C_drewN ?_ _) | (with_reducible refine Kd.C_drew ?_))); (case side4 => exact HC0_1.out); (case side5 => repeat (first | exact (Kd.C_below HR0_2.out HB.out) | (with_reducible refine Kd.C_alloc ?_ _) | (with_reducible refine Kd.C_drewN ?_ _) | (with_reducible refine Kd.C_drew ?_))); (case side6 => exact HC0_2.out); rintro e w10 ⟨rfl, hb⟩; refine ⟨_, rfl, ?_⟩; have n0_ := Aside0.mk (blk_below (bu BK304.out) hb); have n1_ := Aside0.mk (below_step bs hb); clear BK304; clear HB; have BK304 := n0_; have HB := n1_; clear n0_ n1_; (try clear hb); (try clear hb2); (try clear hk); (try clear hi); obtain ⟨⟨hcz11_0, hcz11_1, hcz11_2⟩, hfz11_0, hfz11_1, hfz11_2⟩ := blkAll3 BK304))
 go_loopg [9, 10, 11, 12] k (fun kq v9 v10 v11 v12 w' => ∃ (x9_1 : Int) (x10_1 : Int) (x11_1 : Int) (x12_1 : Int), v9 = .int .i64 x9_1 ∧ v10 = .int .i64 x10_1 ∧ v11 = .int .i64 x11_1 ∧ v12 = .int .i64 x12_1 ∧ Aside0 (abacuslaw26_CodeRuns.l0 kq l1 t306 (l0_0.length : Int) x9_1 x10_1 x11_1 x12_1 l0_0 l0_1 l0_2 = some r) ∧ Aside0 (kq ≤ k) ∧ Aside0 (w'.heap[gb304]? = some (.cells #[(.slice A0_0 l0_0.length c0_0), (.slice A0_1 l0_1.length c0_1), (.slice A0_2 l0_2.length c0_2)] 26 (0, 0))) ∧ Aside0 (Below w.heap.size w w'))
 case atStart => exact ⟨(0), (0), (0), (0), tv, tv, tv, tv, H', ⟨Nat.le_refl _⟩, ⟨by refine bu ?_; exact BK304.out⟩, ⟨bs⟩⟩
 case round =>
  clear H'
  try clear c1
  try clear p2
  try clear c4
  try clear c6
  try clear c6b0
  try clear c6b1
  try clear c11
  try clear hcz11_0 hcz11_1 hcz11_2
  try clear hcz9_0 hcz9_1 hcz9_2
  try clear hfz11_0 hfz11_1 hfz11_2
  try clear hfz9_0 hfz9_1 hfz9_2
  obtain ⟨x9_1, x10_1, x11_1, x12_1, rfl, rfl, rfl, rfl, HA, HK1, BK304, HB⟩ := hrel
  cases gk with
  | zero => exact absurd HA.out (by simp [abacuslaw26_CodeRuns.l0])
  | succ k1 =>
   have H := HA.out
   clear HA
   simp only [abacuslaw26_CodeRuns.l0] at H
   by_cases c12 : x9_1 < (l0_0.length : Int)
   rotate_left
   ·rw [if_neg c12] at H
    have c12b0 : decide (x9_1 < (l0_0.length : Int)) = false := decide_eq_false c12
    clear c12
    by_cases c73 : x9_1 = (l0_0.length : Int)
    rotate_left
    ·rw [if_neg c73] at H
     have c73b0 : (x9_1 == (l0_0.length : Int)) = false := beq_eq_false_iff_ne.mpr c73
     have c73b1 : (x9_1 != (l0_0.length : Int)) = true := bne_iff_ne.mpr c73
     obtain rfl := Option.some.inj H
     go_wp2
     go_ret
     exact ⟨er, bs⟩
    rw [if_pos c73] at H
    have c73b0 : (x9_1 == (l0_0.length : Int)) = true := beq_iff_eq.mpr c73
    have c73b1 : (x9_1 != (l0_0.length : Int)) = false := bne_eq_false_iff_eq.mpr c73
    clear c73
    obtain rfl := Option.some.inj H
    go_wp2
    go_ret
    exact ⟨er, bs⟩
   rw [if_pos c12] at H
   have c12b0 : decide (x9_1 < (l0_0.length : Int)) = true := decide_eq_true c12
   clear c12
   have HC13 := Aside0.mk H
   clear H
   go_upto_region 13 with (fail)
   go_cut [44] (fun v44 wc => ∃ (kq : Nat) (x44_12 : Bool), v44 = .bool x44_12 ∧ Aside0 (abacuslaw26_CodeRuns.j1 kq l1 t306 (l0_0.length : Int) x9_1 x10_1 x11_1 x12_1 x44_12 l0_0 l0_1 l0_2 = some r) ∧ Aside0 (kq ≤ k1) ∧ Aside0 (wc.heap[gb304]? = some (.cells #[(.slice A0_0 l0_0.length c0_0), (.slice A0_1 l0_1.length c0_1), (.slice A0_2 l0_2.length c0_2)] 26 (0, 0))) ∧ Aside0 (Below w.heap.size w wc))
   case first =>
    have H := HC13.out
    clear HC13
    by_cases c14 : x12_1 ≥ (l0_0.length : Int)
    ·rw [if_pos c14] at H
     have c14b0 : decide ((l0_0.length : Int) ≤ x12_1) = true := decide_eq_true c14
     clear c14
     (first | rw [c14b0] | (simp only [i64_w, i32_w]; rw [c14b0]) | skip)
     have H' := Aside0.mk H
     clear H
     go_wp2
     go_meet
     case rel => exact ⟨_, (true), tv, H', ⟨by have := HK1.out; first | omega | exact Nat.le_refl _⟩, ⟨by refine bu ?_; exact BK304.out⟩, ⟨bs⟩⟩
    rw [if_neg c14] at H
    have c14b0 : decide ((l0_0.length : Int) ≤ x12_1) = false := decide_eq_false c14
    clear c14
    (first | rw [c14b0] | (simp only [i64_w, i32_w]; rw [c14b0]) | skip)
    have H' := Aside0.mk H
    clear H
    go_wp2
    go_meet
    case rel => exact ⟨_, (decide (x9_1 < 0)), tv, H', ⟨by have := HK1.out; first | omega | exact Nat.le_refl _⟩, ⟨by refine bu ?_; exact BK304.out⟩, ⟨bs⟩⟩
   case rest =>
    clear HC13
    try clear c1
    try clear p2
    try clear c4
    try clear c6
    try clear c6b0
    try clear c6b1
    try clear c11
    try clear c12
    try clear c12b0
    try clear c13
    try clear c14
    try clear c14b0
    try clear hcz11_0 hcz11_1 hcz11_2
    try clear hcz9_0 hcz9_1 hcz9_2
    try clear hfz11_0 hfz11_1 hfz11_2
    try clear hfz9_0 hfz9_1 hfz9_2
    try clear p2
    obtain ⟨kq, x44_12, rfl, HA, HJ12, BK304, HB⟩ := hcut
    cases kq with
    | zero => exact absurd HA.out (by simp [abacuslaw26_CodeRuns.j1])
    | succ kj12 =>
     have H := HA.out
     clear HA
     simp only [abacuslaw26_CodeRuns.j1] at H
     by_cases c15 : x44_12 = true
     ·subst c15
      have H1 : (some false) = some r := by rw [if_pos rfl] at H; exact H
      clear H
      have H := H1
      clear H1
      obtain rfl := Option.some.inj H
      go_wp2
      go_ret
      exact ⟨er, bs⟩
     replace c15 := Bool.eq_false_iff.mpr c15
     subst c15
     have H1 : (if 0 ≤ x9_1 then (if x9_1 < (l0_0.length : Int) then ((code_Effect.f kj12 ((rd_T41 l0_0 x9_1).f0) ((rd_T41 l0_0 x9_1).f1) ((rd_T41 l0_0 x9_1).f2)).bind fun bt311 => (if bt311.2.2 = true then (if x10_1 < bt311.1 then (abacuslaw26_CodeRuns.j2 kj12 l1 t306 (l0_0.length : Int) x9_1 x10_1 x11_1 x12_1 bt311.1 bt311.2.1 true l0_0 l0_1 l0_2 ((rd_T41 l0_0 x9_1).f0) ((rd_T41 l0_0 x9_1).f1) ((rd_T41 l0_0 x9_1).f2)) else (if ((rd_T41 l0_0 x9_1).f0) = 1 then (if ((rd_T41 l0_0 x9_1).f1) < 0 then (abacuslaw26_CodeRuns.j2 kj12 l1 t306 (l0_0.length : Int) x9_1 x10_1 x11_1 x12_1 bt311.1 bt311.2.1 true l0_0 l0_1 l0_2 ((rd_T41 l0_0 x9_1).f0) ((rd_T41 l0_0 x9_1).f1) ((rd_T41 l0_0 x9_1).f2)) else (if ((rd_T41 l0_0 x9_1).f1) ≥ (l0_1.length : Int) then (abacuslaw26_CodeRuns.j2 kj12 l1 t306 (l0_0.length : Int) x9_1 x10_1 x11_1 x12_1 bt311.1 bt311.2.1 true l0_0 l0_1 l0_2 ((rd_T41 l0_0 x9_1).f0) ((rd_T41 l0_0 x9_1).f1) ((rd_T41 l0_0 x9_1).f2)) else (if ((rd_T41 l0_0 x9_1).f0) = 2 then (abacuslaw26_CodeRuns.j2 kj12 l1 t306 (l0_0.length : Int) x9_1 x10_1 x11_1 x12_1 bt311.1 bt311.2.1 (decide (((rd_T41 l0_0 x9_1).f1) ≥ (l0_2.length : Int))) l0_0 l0_1 l0_2 ((rd_T41 l0_0 x9_1).f0) ((rd_T41 l0_0 x9_1).f1) ((rd_T41 l0_0 x9_1).f2)) else (abacuslaw26_CodeRuns.j2 kj12 l1 t306 (l0_0.length : Int) x9_1 x10_1 x11_1 x12_1 bt311.1 bt311.2.1 false l0_0 l0_1 l0_2 ((rd_T41 l0_0 x9_1).f0) ((rd_T41 l0_0 x9_1).f1) ((rd_T41 l0_0 x9_1).f2))))) else (if ((rd_T41 l0_0 x9_1).f0) = 2 then (if ((rd_T41 l0_0 x9_1).f1) < 0 then (abacuslaw26_CodeRuns.j2 kj12 l1 t306 (l0_0.length : Int) x9_1 x10_1 x11_1 x12_1 bt311.1 bt311.2.1 true l0_0 l0_1 l0_2 ((rd_T41 l0_0 x9_1).f0) ((rd_T41 l0_0 x9_1).f1) ((rd_T41 l0_0 x9_1).f2)) else (abacuslaw26_CodeRuns.j2 kj12 l1 t306 (l0_0.length : Int) x9_1 x10_1 x11_1 x12_1 bt311.1 bt311.2.1 (decide (((rd_T41 l0_0 x9_1).f1) ≥ (l0_2.length : Int))) l0_0 l0_1 l0_2 ((rd_T41 l0_0 x9_1).f0) ((rd_T41 l0_0 x9_1).f1) ((rd_T41 l0_0 x9_1).f2))) else (abacuslaw26_CodeRuns.j2 kj12 l1 t306 (l0_0.length : Int) x9_1 x10_1 x11_1 x12_1 bt311.1 bt311.2.1 false l0_0 l0_1 l0_2 ((rd_T41 l0_0 x9_1).f0) ((rd_T41 l0_0 x9_1).f1) ((rd_T41 l0_0 x9_1).f2))))) else (abacuslaw26_CodeRuns.j2 kj12 l1 t306 (l0_0.length : Int) x9_1 x10_1 x11_1 x12_1 bt311.1 bt311.2.1 true l0_0 l0_1 l0_2 ((rd_T41 l0_0 x9_1).f0) ((rd_T41 l0_0 x9_1).f1) ((rd_T41 l0_0 x9_1).f2)))) else (none)) else (none)) = some r := by rw [if_neg (show ¬ (false = true) by decide)] at H; exact H
     clear H
     have H := H1
     clear H1
     by_cases c16 : 0 ≤ x9_1
     rotate_left
     ·rw [if_neg c16] at H
      exact absurd H (by simp)
     rw [if_pos c16] at H
     have c16b0 : decide (0 ≤ x9_1) = true := decide_eq_true c16
     clear c16
     by_cases c17 : x9_1 < (l0_0.length : Int)
     rotate_left
     ·rw [if_neg c17] at H
      exact absurd H (by simp)
     rw [if_pos c17] at H
     have c17b0 : decide (x9_1 < (l0_0.length : Int)) = true := decide_eq_true c17
     clear c17
     replace H := Option.bind_eq_some_iff.mp H
     obtain ⟨⟨t311, t312, t313⟩, A180, H⟩ := H
     replace H : (if t313 = true then (if x10_1 < t311 then (abacuslaw26_CodeRuns.j2 kj12 l1 t306 (l0_0.length : Int) x9_1 x10_1 x11_1 x12_1 t311 t312 true l0_0 l0_1 l0_2 ((rd_T41 l0_0 x9_1).f0) ((rd_T41 l0_0 x9_1).f1) ((rd_T41 l0_0 x9_1).f2)) else (if ((rd_T41 l0_0 x9_1).f0) = 1 then (if ((rd_T41 l0_0 x9_1).f1) < 0 then (abacuslaw26_CodeRuns.j2 kj12 l1 t306 (l0_0.length : Int) x9_1 x10_1 x11_1 x12_1 t311 t312 true l0_0 l0_1 l0_2 ((rd_T41 l0_0 x9_1).f0) ((rd_T41 l0_0 x9_1).f1) ((rd_T41 l0_0 x9_1).f2)) else (if ((rd_T41 l0_0 x9_1).f1) ≥ (l0_1.length : Int) then (abacuslaw26_CodeRuns.j2 kj12 l1 t306 (l0_0.length : Int) x9_1 x10_1 x11_1 x12_1 t311 t312 true l0_0 l0_1 l0_2 ((rd_T41 l0_0 x9_1).f0) ((rd_T41 l0_0 x9_1).f1) ((rd_T41 l0_0 x9_1).f2)) else (if ((rd_T41 l0_0 x9_1).f0) = 2 then (abacuslaw26_CodeRuns.j2 kj12 l1 t306 (l0_0.length : Int) x9_1 x10_1 x11_1 x12_1 t311 t312 (decide (((rd_T41 l0_0 x9_1).f1) ≥ (l0_2.length : Int))) l0_0 l0_1 l0_2 ((rd_T41 l0_0 x9_1).f0) ((rd_T41 l0_0 x9_1).f1) ((rd_T41 l0_0 x9_1).f2)) else (abacuslaw26_CodeRuns.j2 kj12 l1 t306 (l0_0.length : Int) x9_1 x10_1 x11_1 x12_1 t311 t312 false l0_0 l0_1 l0_2 ((rd_T41 l0_0 x9_1).f0) ((rd_T41 l0_0 x9_1).f1) ((rd_T41 l0_0 x9_1).f2))))) else (if ((rd_T41 l0_0 x9_1).f0) = 2 then (if ((rd_T41 l0_0 x9_1).f1) < 0 then (abacuslaw26_CodeRuns.j2 kj12 l1 t306 (l0_0.length : Int) x9_1 x10_1 x11_1 x12_1 t311 t312 true l0_0 l0_1 l0_2 ((rd_T41 l0_0 x9_1).f0) ((rd_T41 l0_0 x9_1).f1) ((rd_T41 l0_0 x9_1).f2)) else (abacuslaw26_CodeRuns.j2 kj12 l1 t306 (l0_0.length : Int) x9_1 x10_1 x11_1 x12_1 t311 t312 (decide (((rd_T41 l0_0 x9_1).f1) ≥ (l0_2.length : Int))) l0_0 l0_1 l0_2 ((rd_T41 l0_0 x9_1).f0) ((rd_T41 l0_0 x9_1).f1) ((rd_T41 l0_0 x9_1).f2))) else (abacuslaw26_CodeRuns.j2 kj12 l1 t306 (l0_0.length : Int) x9_1 x10_1 x11_1 x12_1 t311 t312 false l0_0 l0_1 l0_2 ((rd_T41 l0_0 x9_1).f0) ((rd_T41 l0_0 x9_1).f1) ((rd_T41 l0_0 x9_1).f2))))) else (abacuslaw26_CodeRuns.j2 kj12 l1 t306 (l0_0.length : Int) x9_1 x10_1 x11_1 x12_1 t311 t312 true l0_0 l0_1 l0_2 ((rd_T41 l0_0 x9_1).f0) ((rd_T41 l0_0 x9_1).f1) ((rd_T41 l0_0 x9_1).f2))) = some r := H
     have A18 := Aside0.mk A180
     clear A180
     have HC19 := Aside0.mk H
     clear H
     obtain ⟨⟨hcz20_0, hcz20_1, hcz20_2⟩, hfz20_0, hfz20_1, hfz20_2⟩ := blkAll3 BK304
     have p309 : 0 ≤ (x9_1 : Int) := of_decide_eq_true od
     have q309 : x9_1 < (l0_0.length : Int) := of_decide_eq_true od
     obtain ⟨ad309, e309, hx309_0, hx309_1, hx309_2⟩ := at_T41 HR0_0.out x9_1 p309 q309
     cases e309
     replace hx309_0 := (HB.out.cell (World.block_lt_of_cell? w _ hx309_0)).trans hx309_0
     replace hx309_1 := (HB.out.cell (World.block_lt_of_cell? w _ hx309_1)).trans hx309_1
     replace hx309_2 := (HB.out.cell (World.block_lt_of_cell? w _ hx309_2)).trans hx309_2
     replace p309 := eq_true p309
     replace q309 := eq_true q309
     go_upto_region 17 with (first | ((with_reducible refine gate_dst (N := 13) rfl ?_); (try (refine gate_guard (by rfl) ?_; dsimp only)); refine box_event ?hg (N := 13) ?hd (cs := #[.int .i64 0, .int .i64 0, .int .i64 0]) (t := 41) ?hr ?_; (case hd => rfl); (case hg => rfl); (case hr => first | (go_simp; done) | (go_simp; rfl)); intro gb310 hg w21 hbox hb; have n0_ := Aside0.mk (blk_below (bu BK304.out) hb); have n1_ := Aside0.mk (below_step bs hb); have n2_ := Aside0.mk (hbox); have n3_ := Aside0.mk ((by rw [hg]; exact (below_size bs) : w.heap.size ≤ gb310)); have n4_ := Aside0.mk ((by rw [hg]; exact (below_size bs) : w.heap.size ≤ gb310)); have n5_ := Aside0.mk ((by rw [hg]; exact Nat.ne_of_lt (blk_lt (bu BK304.out)) : gb304 ≠ gb310)); have n6_ := Aside0.mk ((by rw [hg]; exact Nat.ne_of_gt (blk_lt (bu BK304.out)) : gb310 ≠ gb304)); clear BK304; clear HB; have BK304 := n0_; have HB := n1_; have BK310 := n2_; have GW310 := n3_; have GE310 := n4_; have NB304_310 := n5_; have NB310_304 := n6_; clear n0_ n1_ n2_ n3_ n4_ n5_ n6_; clear hb hbox hg; have hnb22 := NB310_304.out; have hnc22 := NB304_310.out; obtain ⟨⟨hcz23_0, hcz23_1, hcz23_2⟩, hfz23_0, hfz23_1, hfz23_2⟩ := blkAll3 BK310) | ((with_reducible refine gate_callee (f := 16) rfl ?_); refine goesL_ (some 52) rfl rfl Tryd.func16 (by kernel_rfl) rfl #[.agg #[.int .i64 ((rd_T41 l0_0 x9_1).f0), .int .i64 ((rd_T41 l0_0 x9_1).f1), .int .i64 ((rd_T41 l0_0 x9_1).f2)]] rfl ls ?_; (with_reducible refine (code_Effect.calls kj12 ((rd_T41 l0_0 x9_1).f0) ((rd_T41 l0_0 x9_1).f1) ((rd_T41 l0_0 x9_1).f2) t311 t312 t313 _ A18.out).mono ?_); rintro e w24 ⟨rfl, hb⟩; refine ⟨_, rfl, ?_⟩; have n0_ := Aside0.mk (blk_below (g := gb304) (o := .cells #[.slice (some ad309) l0_0.length c0_0, .slice A0_1 l0_1.length c0_1, .slice A0_2 l0_2.length c0_2] 26 (0, 0)) (by refine bu ?_; refine blk_far ?_ NB304_310.out _; refine bu ?_; refine blk_far ?_ NB304_310.out _; refine bu ?_; refine blk_far ?_ NB304_310.out _; refine bu ?_; exact BK304.out) hb); have n1_ := Aside0.mk (blk_below (g := gb310) (o := .cells #[.int .i64 ((rd_T41 l0_0 x9_1).f0), .int .i64 ((rd_T41 l0_0 x9_1).f1), .int .i64 ((rd_T41 l0_0 x9_1).f2)] 41 (0, 0)) (by refine bu ?_; refine blk_put (cs := #[.int .i64 ((rd_T41 l0_0 x9_1).f0), .int .i64 ((rd_T41 l0_0 x9_1).f1), .int .i64 0]) ?_ 2 _ rfl; refine bu ?_; refine blk_put (cs := #[.int .i64 ((rd_T41 l0_0 x9_1).f0), .int .i64 0, .int .i64 0]) ?_ 1 _ rfl; refine bu ?_; refine blk_put (cs := #[.int .i64 0, .int .i64 0, .int .i64 0]) ?_ 0 _ rfl; refine bu ?_; exact BK310.out) hb); have n2_ := Aside0.mk (below_step bs hb); clear BK304; clear BK310; clear HB; have BK304 := n0_; have BK310 := n1_; have HB := n2_; clear n0_ n1_ n2_; (try clear hb); (try clear hb2); (try clear hk); (try clear hi)))
     (try simp only [Act.put, List.setIfInBounds_toArray, List.set_cons_zero, List.set_cons_succ])
     go_cut [98] (fun v98 wc => ∃ (kq : Nat) (x98_18 : Bool), v98 = .bool x98_18 ∧ Aside0 (abacuslaw26_CodeRuns.j2 kq l1 t306 (l0_0.length : Int) x9_1 x10_1 x11_1 x12_1 t311 t312 x98_18 l0_0 l0_1 l0_2 ((rd_T41 l0_0 x9_1).f0) ((rd_T41 l0_0 x9_1).f1) ((rd_T41 l0_0 x9_1).f2) = some r) ∧ Aside0 (kq ≤ kj12) ∧ Aside0 (wc.heap[gb304]? = some (.cells #[(.slice (some ad309) l0_0.length c0_0), (.slice A0_1 l0_1.length c0_1), (.slice A0_2 l0_2.length c0_2)] 26 (0, 0))) ∧ Aside0 (wc.heap[gb310]? = some (.cells #[.int .i64 ((rd_T41 l0_0 x9_1).f0), .int .i64 ((rd_T41 l0_0 x9_1).f1), .int .i64 ((rd_T41 l0_0 x9_1).f2)] 41 (0, 0))) ∧ Aside0 (Below w.heap.size w wc))
     case first =>
      have H := HC19.out
      clear HC19
      by_cases c25 : t313 = true
      rotate_left
      ·replace c25 := Bool.eq_false_iff.mpr c25
       subst c25
       have H1 : (abacuslaw26_CodeRuns.j2 kj12 l1 t306 (l0_0.length : Int) x9_1 x10_1 x11_1 x12_1 t311 t312 true l0_0 l0_1 l0_2 ((rd_T41 l0_0 x9_1).f0) ((rd_T41 l0_0 x9_1).f1) ((rd_T41 l0_0 x9_1).f2)) = some r := by rw [if_neg (show ¬ (false = true) by decide)] at H; exact H
       clear H
       have H := H1
       clear H1
       have H' := Aside0.mk H
       clear H
       go_wp2
       go_meet
       case rel => exact ⟨_, (true), tv, H', ⟨by have := HK1.out; have := HJ12.out; first | omega | exact Nat.le_refl _⟩, ⟨by refine bu ?_; exact BK304.out⟩, ⟨by refine bu ?_; exact BK310.out⟩, ⟨bs⟩⟩
      subst c25
      have H1 : (if x10_1 < t311 then (abacuslaw26_CodeRuns.j2 kj12 l1 t306 (l0_0.length : Int) x9_1 x10_1 x11_1 x12_1 t311 t312 true l0_0 l0_1 l0_2 ((rd_T41 l0_0 x9_1).f0) ((rd_T41 l0_0 x9_1).f1) ((rd_T41 l0_0 x9_1).f2)) else (if ((rd_T41 l0_0 x9_1).f0) = 1 then (if ((rd_T41 l0_0 x9_1).f1) < 0 then (abacuslaw26_CodeRuns.j2 kj12 l1 t306 (l0_0.length : Int) x9_1 x10_1 x11_1 x12_1 t311 t312 true l0_0 l0_1 l0_2 ((rd_T41 l0_0 x9_1).f0) ((rd_T41 l0_0 x9_1).f1) ((rd_T41 l0_0 x9_1).f2)) else (if ((rd_T41 l0_0 x9_1).f1) ≥ (l0_1.length : Int) then (abacuslaw26_CodeRuns.j2 kj12 l1 t306 (l0_0.length : Int) x9_1 x10_1 x11_1 x12_1 t311 t312 true l0_0 l0_1 l0_2 ((rd_T41 l0_0 x9_1).f0) ((rd_T41 l0_0 x9_1).f1) ((rd_T41 l0_0 x9_1).f2)) else (if ((rd_T41 l0_0 x9_1).f0) = 2 then (abacuslaw26_CodeRuns.j2 kj12 l1 t306 (l0_0.length : Int) x9_1 x10_1 x11_1 x12_1 t311 t312 (decide (((rd_T41 l0_0 x9_1).f1) ≥ (l0_2.length : Int))) l0_0 l0_1 l0_2 ((rd_T41 l0_0 x9_1).f0) ((rd_T41 l0_0 x9_1).f1) ((rd_T41 l0_0 x9_1).f2)) else (abacuslaw26_CodeRuns.j2 kj12 l1 t306 (l0_0.length : Int) x9_1 x10_1 x11_1 x12_1 t311 t312 false l0_0 l0_1 l0_2 ((rd_T41 l0_0 x9_1).f0) ((rd_T41 l0_0 x9_1).f1) ((rd_T41 l0_0 x9_1).f2))))) else (if ((rd_T41 l0_0 x9_1).f0) = 2 then (if ((rd_T41 l0_0 x9_1).f1) < 0 then (abacuslaw26_CodeRuns.j2 kj12 l1 t306 (l0_0.length : Int) x9_1 x10_1 x11_1 x12_1 t311 t312 true l0_0 l0_1 l0_2 ((rd_T41 l0_0 x9_1).f0) ((rd_T41 l0_0 x9_1).f1) ((rd_T41 l0_0 x9_1).f2)) else (abacuslaw26_CodeRuns.j2 kj12 l1 t306 (l0_0.length : Int) x9_1 x10_1 x11_1 x12_1 t311 t312 (decide (((rd_T41 l0_0 x9_1).f1) ≥ (l0_2.length : Int))) l0_0 l0_1 l0_2 ((rd_T41 l0_0 x9_1).f0) ((rd_T41 l0_0 x9_1).f1) ((rd_T41 l0_0 x9_1).f2))) else (abacuslaw26_CodeRuns.j2 kj12 l1 t306 (l0_0.length : Int) x9_1 x10_1 x11_1 x12_1 t311 t312 false l0_0 l0_1 l0_2 ((rd_T41 l0_0 x9_1).f0) ((rd_T41 l0_0 x9_1).f1) ((rd_T41 l0_0 x9_1).f2))))) = some r := by rw [if_pos rfl] at H; exact H
      clear H
      have H := H1
      clear H1
      by_cases c26 : x10_1 < t311
      ·rw [if_pos c26] at H
       have c26b0 : decide (x10_1 < t311) = true := decide_eq_true c26
       clear c26
       (first | rw [c26b0] | (simp only [i64_w, i32_w]; rw [c26b0]) | skip)
       have H' := Aside0.mk H
       clear H
       go_wp2
       go_meet
       case rel => exact ⟨_, (true), tv, H', ⟨by have := HK1.out; have := HJ12.out; first | omega | exact Nat.le_refl _⟩, ⟨by refine bu ?_; exact BK304.out⟩, ⟨by refine bu ?_; exact BK310.out⟩, ⟨bs⟩⟩
      rw [if_neg c26] at H
      have c26b0 : decide (x10_1 < t311) = false := decide_eq_false c26
      clear c26
      (first | rw [c26b0] | (simp only [i64_w, i32_w]; rw [c26b0]) | skip)
      by_cases c27 : ((rd_T41 l0_0 x9_1).f0) = 1
      rotate_left
      ·rw [if_neg c27] at H
       have c27b0 : (((rd_T41 l0_0 x9_1).f0) == 1) = false := beq_eq_false_iff_ne.mpr c27
       have c27b1 : (((rd_T41 l0_0 x9_1).f0) != 1) = true := bne_iff_ne.mpr c27
       by_cases c42 : ((rd_T41 l0_0 x9_1).f0) = 2
       rotate_left
       ·rw [if_neg c42] at H
        have c42b0 : (((rd_T41 l0_0 x9_1).f0) == 2) = false := beq_eq_false_iff_ne.mpr c42
        have c42b1 : (((rd_T41 l0_0 x9_1).f0) != 2) = true := bne_iff_ne.mpr c42
        have H' := Aside0.mk H
        clear H
        have hnb49 := NB310_304.out
        have hnc49 := NB304_310.out
        obtain ⟨⟨hcz50_0, hcz50_1, hcz50_2⟩, hfz50_0, hfz50_1, hfz50_2⟩ := blkAll3 BK310
        go_wp2
        go_meet
        case rel => exact ⟨_, (false), tv, H', ⟨by have := HK1.out; have := HJ12.out; first | omega | exact Nat.le_refl _⟩, ⟨by refine bu ?_; exact BK304.out⟩, ⟨by refine bu ?_; exact BK310.out⟩, ⟨bs⟩⟩
       rw [if_pos c42] at H
       have c42b0 : (((rd_T41 l0_0 x9_1).f0) == 2) = true := beq_iff_eq.mpr c42
       have c42b1 : (((rd_T41 l0_0 x9_1).f0) != 2) = false := bne_eq_false_iff_eq.mpr c42
       clear c42
       by_cases c43 : ((rd_T41 l0_0 x9_1).f1) < 0
       ·rw [if_pos c43] at H
        have c43b0 : decide (((rd_T41 l0_0 x9_1).f1) < 0) = true := decide_eq_true c43
        clear c43
        have H' := Aside0.mk H
        clear H
        have hnb44 := NB310_304.out
        have hnc44 := NB304_310.out
        obtain ⟨⟨hcz45_0, hcz45_1, hcz45_2⟩, hfz45_0, hfz45_1, hfz45_2⟩ := blkAll3 BK310
        go_wp2
        go_meet
        case rel => exact ⟨_, (true), tv, H', ⟨by have := HK1.out; have := HJ12.out; first | omega | exact Nat.le_refl _⟩, ⟨by refine bu ?_; exact BK304.out⟩, ⟨by refine bu ?_; exact BK310.out⟩, ⟨bs⟩⟩
       rw [if_neg c43] at H
       have c43b0 : decide (((rd_T41 l0_0 x9_1).f1) < 0) = false := decide_eq_false c43
       clear c43
       have H' := Aside0.mk H
       clear H
       have hnb46 := NB310_304.out
       have hnc46 := NB304_310.out
       obtain ⟨⟨hcz47_0, hcz47_1, hcz47_2⟩, hfz47_0, hfz47_1, hfz47_2⟩ := blkAll3 BK310
       obtain ⟨⟨hcz48_0, hcz48_1, hcz48_2⟩, hfz48_0, hfz48_1, hfz48_2⟩ := blkAll3 BK304
       go_wp2
       go_meet
       case rel => exact ⟨_, (decide (((rd_T41 l0_0 x9_1).f1) ≥ (l0_2.length : Int))), tv, H', ⟨by have := HK1.out; have := HJ12.out; first | omega | exact Nat.le_refl _⟩, ⟨by refine bu ?_; exact BK304.out⟩, ⟨by refine bu ?_; exact BK310.out⟩, ⟨bs⟩⟩
      rw [if_pos c27] at H
      have c27b0 : (((rd_T41 l0_0 x9_1).f0) == 1) = true := beq_iff_eq.mpr c27
      have c27b1 : (((rd_T41 l0_0 x9_1).f0) != 1) = false := bne_eq_false_iff_eq.mpr c27
      clear c27
      by_cases c28 : ((rd_T41 l0_0 x9_1).f1) < 0
      ·rw [if_pos c28] at H
       have c28b0 : decide (((rd_T41 l0_0 x9_1).f1) < 0) = true := decide_eq_true c28
       clear c28
       have H' := Aside0.mk H
       clear H
       have hnb29 := NB310_304.out
       have hnc29 := NB304_310.out
       obtain ⟨⟨hcz30_0, hcz30_1, hcz30_2⟩, hfz30_0, hfz30_1, hfz30_2⟩ := blkAll3 BK310
       go_wp2
       go_meet
       case rel => exact ⟨_, (true), tv, H', ⟨by have := HK1.out; have := HJ12.out; first | omega | exact Nat.le_refl _⟩, ⟨by refine bu ?_; exact BK304.out⟩, ⟨by refine bu ?_; exact BK310.out⟩, ⟨bs⟩⟩
      rw [if_neg c28] at H
      have c28b0 : decide (((rd_T41 l0_0 x9_1).f1) < 0) = false := decide_eq_false c28
      clear c28
      by_cases c31 : ((rd_T41 l0_0 x9_1).f1) ≥ (l0_1.length : Int)
      ·rw [if_pos c31] at H
       have c31b0 : decide ((l0_1.length : Int) ≤ ((rd_T41 l0_0 x9_1).f1)) = true := decide_eq_true c31
       clear c31
       have H' := Aside0.mk H
       clear H
       have hnb32 := NB310_304.out
       have hnc32 := NB304_310.out
       obtain ⟨⟨hcz33_0, hcz33_1, hcz33_2⟩, hfz33_0, hfz33_1, hfz33_2⟩ := blkAll3 BK310
       obtain ⟨⟨hcz34_0, hcz34_1, hcz34_2⟩, hfz34_0, hfz34_1, hfz34_2⟩ := blkAll3 BK304
       go_wp2
       go_meet
       case rel => exact ⟨_, (true), tv, H', ⟨by have := HK1.out; have := HJ12.out; first | omega | exact Nat.le_refl _⟩, ⟨by refine bu ?_; exact BK304.out⟩, ⟨by refine bu ?_; exact BK310.out⟩, ⟨bs⟩⟩
      rw [if_neg c31] at H
      have c31b0 : decide ((l0_1.length : Int) ≤ ((rd_T41 l0_0 x9_1).f1)) = false := decide_eq_false c31
      clear c31
      by_cases c35 : ((rd_T41 l0_0 x9_1).f0) = 2
      rotate_left
      ·rw [if_neg c35] at H
       have c35b0 : (((rd_T41 l0_0 x9_1).f0) == 2) = false := beq_eq_false_iff_ne.mpr c35
       have c35b1 : (((rd_T41 l0_0 x9_1).f0) != 2) = true := bne_iff_ne.mpr c35
       have H' := Aside0.mk H
       clear H
       have hnb39 := NB310_304.out
       have hnc39 := NB304_310.out
       obtain ⟨⟨hcz40_0, hcz40_1, hcz40_2⟩, hfz40_0, hfz40_1, hfz40_2⟩ := blkAll3 BK310
       obtain ⟨⟨hcz41_0, hcz41_1, hcz41_2⟩, hfz41_0, hfz41_1, hfz41_2⟩ := blkAll3 BK304
       go_wp2
       go_meet
       case rel => exact ⟨_, (false), tv, H', ⟨by have := HK1.out; have := HJ12.out; first | omega | exact Nat.le_refl _⟩, ⟨by refine bu ?_; exact BK304.out⟩, ⟨by refine bu ?_; exact BK310.out⟩, ⟨bs⟩⟩
      rw [if_pos c35] at H
      have c35b0 : (((rd_T41 l0_0 x9_1).f0) == 2) = true := beq_iff_eq.mpr c35
      have c35b1 : (((rd_T41 l0_0 x9_1).f0) != 2) = false := bne_eq_false_iff_eq.mpr c35
      clear c35
      have H' := Aside0.mk H
      clear H
      have hnb36 := NB310_304.out
      have hnc36 := NB304_310.out
      obtain ⟨⟨hcz37_0, hcz37_1, hcz37_2⟩, hfz37_0, hfz37_1, hfz37_2⟩ := blkAll3 BK310
      obtain ⟨⟨hcz38_0, hcz38_1, hcz38_2⟩, hfz38_0, hfz38_1, hfz38_2⟩ := blkAll3 BK304
      go_wp2
      go_meet
      case rel => exact ⟨_, (decide (((rd_T41 l0_0 x9_1).f1) ≥ (l0_2.length : Int))), tv, H', ⟨by have := HK1.out; have := HJ12.out; first | omega | exact Nat.le_refl _⟩, ⟨by refine bu ?_; exact BK304.out⟩, ⟨by refine bu ?_; exact BK310.out⟩, ⟨bs⟩⟩
     case rest =>
      clear HC19
      try clear c1
      try clear c2
      try clear p2
      try clear c3
      try clear p3
      try clear q3
      try clear hx3
      try clear c4
      try clear c6
      try clear c6b0
      try clear c6b1
      try clear c11
      try clear c12
      try clear c12b0
      try clear c13
      try clear c14
      try clear c14b0
      try clear c15
      try clear c16
      try clear c16b0
      try clear c17
      try clear c17b0
      try clear c22
      try clear c25
      try clear c26
      try clear c26b0
      try clear c27
      try clear c27b0
      try clear c27b1
      try clear c28
      try clear c28b0
      try clear c29
      try clear p30
      try clear q30
      try clear hx30
      try clear c31
      try clear c31b0
      try clear c32
      try clear c35
      try clear c35b0
      try clear c35b1
      try clear c36
      try clear c39
      try clear c42
      try clear c42b0
      try clear c42b1
      try clear c43
      try clear c43b0
      try clear c44
      try clear c46
      try clear c49
      try clear hcz11_0 hcz11_1 hcz11_2
      try clear hcz20_0 hcz20_1 hcz20_2
      try clear hcz23_0 hcz23_1 hcz23_2
      try clear hcz30_0 hcz30_1 hcz30_2
      try clear hcz33_0 hcz33_1 hcz33_2
      try clear hcz34_0 hcz34_1 hcz34_2
      try clear hcz37_0 hcz37_1 hcz37_2
      try clear hcz38_0 hcz38_1 hcz38_2
      try clear hcz40_0 hcz40_1 hcz40_2
      try clear hcz41_0 hcz41_1 hcz41_2
      try clear hcz45_0 hcz45_1 hcz45_2
      try clear hcz47_0 hcz47_1 hcz47_2
      try clear hcz48_0 hcz48_1 hcz48_2
      try clear hcz50_0 hcz50_1 hcz50_2
      try clear hcz9_0 hcz9_1 hcz9_2
      try clear hfz11_0 hfz11_1 hfz11_2
      try clear hfz20_0 hfz20_1 hfz20_2
      try clear hfz23_0 hfz23_1 hfz23_2
      try clear hfz30_0 hfz30_1 hfz30_2
      try clear hfz33_0 hfz33_1 hfz33_2
      try clear hfz34_0 hfz34_1 hfz34_2
      try clear hfz37_0 hfz37_1 hfz37_2
      try clear hfz38_0 hfz38_1 hfz38_2
      try clear hfz40_0 hfz40_1 hfz40_2
      try clear hfz41_0 hfz41_1 hfz41_2
      try clear hfz45_0 hfz45_1 hfz45_2
      try clear hfz47_0 hfz47_1 hfz47_2
      try clear hfz48_0 hfz48_1 hfz48_2
      try clear hfz50_0 hfz50_1 hfz50_2
      try clear hfz9_0 hfz9_1 hfz9_2
      try clear hx309_0
      try clear hx309_1
      try clear hx309_2
      try clear p2
      try clear p309
      try clear q309
      obtain ⟨kq, x98_18, rfl, HA, HJ18, BK304, BK310, HB⟩ := hcut
      cases kq with
      | zero => exact absurd HA.out (by simp [abacuslaw26_CodeRuns.j2])
      | succ kj18 =>
       have H := HA.out
       clear HA
       simp only [abacuslaw26_CodeRuns.j2] at H
       by_cases c51 : x98_18 = true
       ·subst c51
        have H1 : (some false) = some r := by rw [if_pos rfl] at H; exact H
        clear H
        have H := H1
        clear H1
        obtain rfl := Option.some.inj H
        go_wp2
        go_ret
        exact ⟨er, bs⟩
       replace c51 := Bool.eq_false_iff.mpr c51
       subst c51
       have H1 : (if (wrap64 (x10_1 + (wrap64 (t312 - t311)))) > t306 then (some false) else ((abacuslaw26_jumps.f ((rd_T41 l0_0 x9_1).f0)).bind fun bt314 => (if bt314.1 = true then (abacuslaw26_CodeRuns.j3 kj18 l1 t306 (l0_0.length : Int) x9_1 (wrap64 (x10_1 + (wrap64 (t312 - t311)))) x11_1 x12_1 bt314.1 bt314.2 (!bt314.2) l0_0 l0_1 l0_2 ((rd_T41 l0_0 x9_1).f0) ((rd_T41 l0_0 x9_1).f1) ((rd_T41 l0_0 x9_1).f2)) else (abacuslaw26_CodeRuns.j3 kj18 l1 t306 (l0_0.length : Int) x9_1 (wrap64 (x10_1 + (wrap64 (t312 - t311)))) x11_1 x12_1 bt314.1 bt314.2 false l0_0 l0_1 l0_2 ((rd_T41 l0_0 x9_1).f0) ((rd_T41 l0_0 x9_1).f1) ((rd_T41 l0_0 x9_1).f2))))) = some r := by rw [if_neg (show ¬ (false = true) by decide)] at H; exact H
       clear H
       have H := H1
       clear H1
       by_cases c52 : (wrap64 (x10_1 + (wrap64 (t312 - t311)))) > t306
       ·rw [if_pos c52] at H
        have c52b0 : decide (t306 < (wrap64 (x10_1 + (wrap64 (t312 - t311))))) = true := decide_eq_true c52
        clear c52
        obtain rfl := Option.some.inj H
        go_wp2
        go_ret
        exact ⟨er, bs⟩
       rw [if_neg c52] at H
       have c52b0 : decide (t306 < (wrap64 (x10_1 + (wrap64 (t312 - t311))))) = false := decide_eq_false c52
       clear c52
       replace H := Option.bind_eq_some_iff.mp H
       obtain ⟨⟨t314, t315⟩, A530, H⟩ := H
       replace H : (if t314 = true then (abacuslaw26_CodeRuns.j3 kj18 l1 t306 (l0_0.length : Int) x9_1 (wrap64 (x10_1 + (wrap64 (t312 - t311)))) x11_1 x12_1 t314 t315 (!t315) l0_0 l0_1 l0_2 ((rd_T41 l0_0 x9_1).f0) ((rd_T41 l0_0 x9_1).f1) ((rd_T41 l0_0 x9_1).f2)) else (abacuslaw26_CodeRuns.j3 kj18 l1 t306 (l0_0.length : Int) x9_1 (wrap64 (x10_1 + (wrap64 (t312 - t311)))) x11_1 x12_1 t314 t315 false l0_0 l0_1 l0_2 ((rd_T41 l0_0 x9_1).f0) ((rd_T41 l0_0 x9_1).f1) ((rd_T41 l0_0 x9_1).f2))) = some r := H
       have A53 := Aside0.mk A530
       clear A530
       have HC54 := Aside0.mk H
       clear H
       have hnb55 := NB310_304.out
       have hnc55 := NB304_310.out
       obtain ⟨⟨hcz56_0, hcz56_1, hcz56_2⟩, hfz56_0, hfz56_1, hfz56_2⟩ := blkAll3 BK310
       go_upto_region 23 with (first | ((with_reducible refine gate_callee (f := 17) rfl ?_); refine goesL_ (some 110) rfl rfl Tryd.func17 (by kernel_rfl) rfl #[.int .i64 ((rd_T41 l0_0 x9_1).f0)] rfl ls ?_; (with_reducible refine (abacuslaw26_jumps.calls ((rd_T41 l0_0 x9_1).f0) t314 t315 _ A53.out).mono ?_); rintro e w' ⟨rfl, ⟨nd, rfl⟩⟩; refine ⟨_, rfl, ?_⟩))
       (try simp only [Act.put, List.setIfInBounds_toArray, List.set_cons_zero, List.set_cons_succ])
       go_cut [19] (fun v19 wc => ∃ (kq : Nat) (x19_53 : Bool), v19 = .bool x19_53 ∧ Aside0 (abacuslaw26_CodeRuns.j3 kq l1 t306 (l0_0.length : Int) x9_1 (wrap64 (x10_1 + (wrap64 (t312 - t311)))) x11_1 x12_1 t314 t315 x19_53 l0_0 l0_1 l0_2 ((rd_T41 l0_0 x9_1).f0) ((rd_T41 l0_0 x9_1).f1) ((rd_T41 l0_0 x9_1).f2) = some r) ∧ Aside0 (kq ≤ kj18) ∧ Aside0 (wc.heap[gb304]? = some (.cells #[(.slice (some ad309) l0_0.length c0_0), (.slice A0_1 l0_1.length c0_1), (.slice A0_2 l0_2.length c0_2)] 26 (0, 0))) ∧ Aside0 (wc.heap[gb310]? = some (.cells #[.int .i64 ((rd_T41 l0_0 x9_1).f0), .int .i64 ((rd_T41 l0_0 x9_1).f1), .int .i64 ((rd_T41 l0_0 x9_1).f2)] 41 (0, 0))) ∧ Aside0 (Below w.heap.size w wc))
       case first =>
        have H := HC54.out
        clear HC54
        by_cases c57 : t314 = true
        ·subst c57
         have H1 : (abacuslaw26_CodeRuns.j3 kj18 l1 t306 (l0_0.length : Int) x9_1 (wrap64 (x10_1 + (wrap64 (t312 - t311)))) x11_1 x12_1 true t315 (!t315) l0_0 l0_1 l0_2 ((rd_T41 l0_0 x9_1).f0) ((rd_T41 l0_0 x9_1).f1) ((rd_T41 l0_0 x9_1).f2)) = some r := by rw [if_pos rfl] at H; exact H
         clear H
         have H := H1
         clear H1
         have H' := Aside0.mk H
         clear H
         go_wp2
         go_meet
         case rel => exact ⟨_, (!t315), tv, H', ⟨by have := HK1.out; have := HJ12.out; have := HJ18.out; first | omega | exact Nat.le_refl _⟩, ⟨by refine bu ?_; exact BK304.out⟩, ⟨by refine bu ?_; exact BK310.out⟩, ⟨bs⟩⟩
        replace c57 := Bool.eq_false_iff.mpr c57
        subst c57
        have H1 : (abacuslaw26_CodeRuns.j3 kj18 l1 t306 (l0_0.length : Int) x9_1 (wrap64 (x10_1 + (wrap64 (t312 - t311)))) x11_1 x12_1 false t315 false l0_0 l0_1 l0_2 ((rd_T41 l0_0 x9_1).f0) ((rd_T41 l0_0 x9_1).f1) ((rd_T41 l0_0 x9_1).f2)) = some r := by rw [if_neg (show ¬ (false = true) by decide)] at H; exact H
        clear H
        have H := H1
        clear H1
        have H' := Aside0.mk H
        clear H
        go_wp2
        go_meet
        case rel => exact ⟨_, (false), tv, H', ⟨by have := HK1.out; have := HJ12.out; have := HJ18.out; first | omega | exact Nat.le_refl _⟩, ⟨by refine bu ?_; exact BK304.out⟩, ⟨by refine bu ?_; exact BK310.out⟩, ⟨bs⟩⟩
       case rest =>
        clear HC54
        try clear c1
        try clear c2
        try clear p2
        try clear c3
        try clear p3
        try clear q3
        try clear hx3
        try clear c4
        try clear c5
        try clear c6
        try clear c6b0
        try clear c6b1
        try clear p6
        try clear c11
        try clear c12
        try clear c12b0
        try clear c13
        try clear c14
        try clear c14b0
        try clear c15
        try clear c16
        try clear c16b0
        try clear c17
        try clear c17b0
        try clear c22
        try clear c25
        try clear c26
        try clear c26b0
        try clear c27
        try clear c27b0
        try clear c27b1
        try clear c28
        try clear c28b0
        try clear c29
        try clear p30
        try clear q30
        try clear hx30
        try clear c31
        try clear c31b0
        try clear c32
        try clear c35
        try clear c35b0
        try clear c35b1
        try clear c36
        try clear c39
        try clear c42
        try clear c42b0
        try clear c42b1
        try clear c43
        try clear c43b0
        try clear c44
        try clear c46
        try clear c49
        try clear c51
        try clear c52
        try clear c52b0
        try clear c55
        try clear c57
        try clear hcz11_0 hcz11_1 hcz11_2
        try clear hcz20_0 hcz20_1 hcz20_2
        try clear hcz23_0 hcz23_1 hcz23_2
        try clear hcz30_0 hcz30_1 hcz30_2
        try clear hcz33_0 hcz33_1 hcz33_2
        try clear hcz34_0 hcz34_1 hcz34_2
        try clear hcz37_0 hcz37_1 hcz37_2
        try clear hcz38_0 hcz38_1 hcz38_2
        try clear hcz40_0 hcz40_1 hcz40_2
        try clear hcz41_0 hcz41_1 hcz41_2
        try clear hcz45_0 hcz45_1 hcz45_2
        try clear hcz47_0 hcz47_1 hcz47_2
        try clear hcz48_0 hcz48_1 hcz48_2
        try clear hcz50_0 hcz50_1 hcz50_2
        try clear hcz56_0 hcz56_1 hcz56_2
        try clear hcz9_0 hcz9_1 hcz9_2
        try clear hfz11_0 hfz11_1 hfz11_2
        try clear hfz20_0 hfz20_1 hfz20_2
        try clear hfz23_0 hfz23_1 hfz23_2
        try clear hfz30_0 hfz30_1 hfz30_2
        try clear hfz33_0 hfz33_1 hfz33_2
        try clear hfz34_0 hfz34_1 hfz34_2
        try clear hfz37_0 hfz37_1 hfz37_2
        try clear hfz38_0 hfz38_1 hfz38_2
        try clear hfz40_0 hfz40_1 hfz40_2
        try clear hfz41_0 hfz41_1 hfz41_2
        try clear hfz45_0 hfz45_1 hfz45_2
        try clear hfz47_0 hfz47_1 hfz47_2
        try clear hfz48_0 hfz48_1 hfz48_2
        try clear hfz50_0 hfz50_1 hfz50_2
        try clear hfz56_0 hfz56_1 hfz56_2
        try clear hfz9_0 hfz9_1 hfz9_2
        try clear hx309_0
        try clear hx309_1
        try clear hx309_2
        try clear p2
        try clear p3
        try clear p30
        try clear p309
        try clear q3
        try clear q30
        try clear q309
        obtain ⟨kq, x19_53, rfl, HA, HJ53, BK304, BK310, HB⟩ := hcut
        cases kq with
        | zero => exact absurd HA.out (by simp [abacuslaw26_CodeRuns.j3])
        | succ kj53 =>
         have H := HA.out
         clear HA
         simp only [abacuslaw26_CodeRuns.j3] at H
         have HC58 := Aside0.mk H
         clear H
         go_upto_region 24 with (fail)
         go_cut [121] (fun v121 wc => ∃ (kq : Nat) (x121_57 : Bool), v121 = .bool x121_57 ∧ Aside0 (abacuslaw26_CodeRuns.j4 kq l1 t306 (l0_0.length : Int) x9_1 (wrap64 (x10_1 + (wrap64 (t312 - t311)))) x11_1 x12_1 x19_53 x121_57 l0_0 l0_1 l0_2 ((rd_T41 l0_0 x9_1).f0) ((rd_T41 l0_0 x9_1).f1) ((rd_T41 l0_0 x9_1).f2) = some r) ∧ Aside0 (kq ≤ kj53) ∧ Aside0 (wc.heap[gb304]? = some (.cells #[(.slice (some ad309) l0_0.length c0_0), (.slice A0_1 l0_1.length c0_1), (.slice A0_2 l0_2.length c0_2)] 26 (0, 0))) ∧ Aside0 (wc.heap[gb310]? = some (.cells #[.int .i64 ((rd_T41 l0_0 x9_1).f0), .int .i64 ((rd_T41 l0_0 x9_1).f1), .int .i64 ((rd_T41 l0_0 x9_1).f2)] 41 (0, 0))) ∧ Aside0 (Below w.heap.size w wc))
         case first =>
          have H := HC58.out
          clear HC58
          by_cases c59 : t314 = true
          ·subst c59
           have H1 : (abacuslaw26_CodeRuns.j4 kj53 l1 t306 (l0_0.length : Int) x9_1 (wrap64 (x10_1 + (wrap64 (t312 - t311)))) x11_1 x12_1 x19_53 t315 l0_0 l0_1 l0_2 ((rd_T41 l0_0 x9_1).f0) ((rd_T41 l0_0 x9_1).f1) ((rd_T41 l0_0 x9_1).f2)) = some r := by rw [if_pos rfl] at H; exact H
           clear H
           have H := H1
           clear H1
           have H' := Aside0.mk H
           clear H
           go_wp2
           go_meet
           case rel => exact ⟨_, (t315), tv, H', ⟨by have := HK1.out; have := HJ12.out; have := HJ18.out; have := HJ53.out; first | omega | exact Nat.le_refl _⟩, ⟨by refine bu ?_; exact BK304.out⟩, ⟨by refine bu ?_; exact BK310.out⟩, ⟨bs⟩⟩
          replace c59 := Bool.eq_false_iff.mpr c59
          subst c59
          have H1 : (abacuslaw26_CodeRuns.j4 kj53 l1 t306 (l0_0.length : Int) x9_1 (wrap64 (x10_1 + (wrap64 (t312 - t311)))) x11_1 x12_1 x19_53 false l0_0 l0_1 l0_2 ((rd_T41 l0_0 x9_1).f0) ((rd_T41 l0_0 x9_1).f1) ((rd_T41 l0_0 x9_1).f2)) = some r := by rw [if_neg (show ¬ (false = true) by decide)] at H; exact H
          clear H
          have H := H1
          clear H1
          have H' := Aside0.mk H
          clear H
          go_wp2
          go_meet
          case rel => exact ⟨_, (false), tv, H', ⟨by have := HK1.out; have := HJ12.out; have := HJ18.out; have := HJ53.out; first | omega | exact Nat.le_refl _⟩, ⟨by refine bu ?_; exact BK304.out⟩, ⟨by refine bu ?_; exact BK310.out⟩, ⟨bs⟩⟩
         case rest =>
          clear HC58
          try clear c1
          try clear c2
          try clear p2
          try clear c3
          try clear p3
          try clear q3
          try clear hx3
          try clear c4
          try clear c5
          try clear c6
          try clear c6b0
          try clear c6b1
          try clear p6
          try clear c11
          try clear c12
          try clear c12b0
          try clear c13
          try clear c14
          try clear c14b0
          try clear c15
          try clear c16
          try clear c16b0
          try clear c17
          try clear c17b0
          try clear c22
          try clear c25
          try clear c26
          try clear c26b0
          try clear c27
          try clear c27b0
          try clear c27b1
          try clear c28
          try clear c28b0
          try clear c29
          try clear p30
          try clear q30
          try clear hx30
          try clear c31
          try clear c31b0
          try clear c32
          try clear c35
          try clear c35b0
          try clear c35b1
          try clear c36
          try clear c39
          try clear c42
          try clear c42b0
          try clear c42b1
          try clear c43
          try clear c43b0
          try clear c44
          try clear c46
          try clear c49
          try clear c51
          try clear c52
          try clear c52b0
          try clear c55
          try clear c57
          try clear c59
          try clear hcz11_0 hcz11_1 hcz11_2
          try clear hcz20_0 hcz20_1 hcz20_2
          try clear hcz23_0 hcz23_1 hcz23_2
          try clear hcz30_0 hcz30_1 hcz30_2
          try clear hcz33_0 hcz33_1 hcz33_2
          try clear hcz34_0 hcz34_1 hcz34_2
          try clear hcz37_0 hcz37_1 hcz37_2
          try clear hcz38_0 hcz38_1 hcz38_2
          try clear hcz40_0 hcz40_1 hcz40_2
          try clear hcz41_0 hcz41_1 hcz41_2
          try clear hcz45_0 hcz45_1 hcz45_2
          try clear hcz47_0 hcz47_1 hcz47_2
          try clear hcz48_0 hcz48_1 hcz48_2
          try clear hcz50_0 hcz50_1 hcz50_2
          try clear hcz56_0 hcz56_1 hcz56_2
          try clear hcz9_0 hcz9_1 hcz9_2
          try clear hfz11_0 hfz11_1 hfz11_2
          try clear hfz20_0 hfz20_1 hfz20_2
          try clear hfz23_0 hfz23_1 hfz23_2
          try clear hfz30_0 hfz30_1 hfz30_2
          try clear hfz33_0 hfz33_1 hfz33_2
          try clear hfz34_0 hfz34_1 hfz34_2
          try clear hfz37_0 hfz37_1 hfz37_2
          try clear hfz38_0 hfz38_1 hfz38_2
          try clear hfz40_0 hfz40_1 hfz40_2
          try clear hfz41_0 hfz41_1 hfz41_2
          try clear hfz45_0 hfz45_1 hfz45_2
          try clear hfz47_0 hfz47_1 hfz47_2
          try clear hfz48_0 hfz48_1 hfz48_2
          try clear hfz50_0 hfz50_1 hfz50_2
          try clear hfz56_0 hfz56_1 hfz56_2
          try clear hfz9_0 hfz9_1 hfz9_2
          try clear hx309_0
          try clear hx309_1
          try clear hx309_2
          try clear p2
          try clear p3
          try clear p30
          try clear p309
          try clear p6
          try clear q3
          try clear q30
          try clear q309
          obtain ⟨kq, x121_57, rfl, HA, HJ57, BK304, BK310, HB⟩ := hcut
          cases kq with
          | zero => exact absurd HA.out (by simp [abacuslaw26_CodeRuns.j4])
          | succ kj57 =>
           have H := HA.out
           clear HA
           simp only [abacuslaw26_CodeRuns.j4] at H
           by_cases c60 : x121_57 = true
           rotate_left
           ·replace c60 := Bool.eq_false_iff.mpr c60
            subst c60
            have H1 : (if x19_53 = true then (abacuslaw26_CodeRuns.l0 kj57 l1 t306 (l0_0.length : Int) ((rd_T41 l0_0 x9_1).f1) (wrap64 (x10_1 + (wrap64 (t312 - t311)))) x11_1 (wrap64 (x12_1 + 1)) l0_0 l0_1 l0_2) else (abacuslaw26_CodeRuns.l0 kj57 l1 t306 (l0_0.length : Int) (wrap64 (x9_1 + 1)) (wrap64 (x10_1 + (wrap64 (t312 - t311)))) x11_1 (wrap64 (x12_1 + 1)) l0_0 l0_1 l0_2)) = some r := by rw [if_neg (show ¬ (false = true) by decide)] at H; exact H
            clear H
            have H := H1
            clear H1
            by_cases c70 : x19_53 = true
            rotate_left
            ·replace c70 := Bool.eq_false_iff.mpr c70
             subst c70
             have H1 : (abacuslaw26_CodeRuns.l0 kj57 l1 t306 (l0_0.length : Int) (wrap64 (x9_1 + 1)) (wrap64 (x10_1 + (wrap64 (t312 - t311)))) x11_1 (wrap64 (x12_1 + 1)) l0_0 l0_1 l0_2) = some r := by rw [if_neg (show ¬ (false = true) by decide)] at H; exact H
             clear H
             have H := H1
             clear H1
             have H' := Aside0.mk H
             clear H
             go_wp2
             go_roundg kj57
             case measure => have := HK1.out; have := HJ12.out; have := HJ18.out; have := HJ53.out; have := HJ57.out; omega
             case rel => exact ⟨(wrap64 (x9_1 + 1)), ((wrap64 (x10_1 + (wrap64 (t312 - t311))))), (x11_1), (wrap64 (x12_1 + 1)), tv, tv, tv, tv, H', ⟨by have := HK1.out; have := HJ12.out; have := HJ18.out; have := HJ53.out; have := HJ57.out; omega⟩, ⟨by refine bu ?_; exact BK304.out⟩, ⟨bs⟩⟩
            subst c70
            have H1 : (abacuslaw26_CodeRuns.l0 kj57 l1 t306 (l0_0.length : Int) ((rd_T41 l0_0 x9_1).f1) (wrap64 (x10_1 + (wrap64 (t312 - t311)))) x11_1 (wrap64 (x12_1 + 1)) l0_0 l0_1 l0_2) = some r := by rw [if_pos rfl] at H; exact H
            clear H
            have H := H1
            clear H1
            have H' := Aside0.mk H
            clear H
            have hnb71 := NB310_304.out
            have hnc71 := NB304_310.out
            obtain ⟨⟨hcz72_0, hcz72_1, hcz72_2⟩, hfz72_0, hfz72_1, hfz72_2⟩ := blkAll3 BK310
            go_wp2
            go_roundg kj57
            case measure => have := HK1.out; have := HJ12.out; have := HJ18.out; have := HJ53.out; have := HJ57.out; omega
            case rel => exact ⟨(((rd_T41 l0_0 x9_1).f1)), ((wrap64 (x10_1 + (wrap64 (t312 - t311))))), (x11_1), (wrap64 (x12_1 + 1)), tv, tv, tv, tv, H', ⟨by have := HK1.out; have := HJ12.out; have := HJ18.out; have := HJ53.out; have := HJ57.out; omega⟩, ⟨by refine bu ?_; exact BK304.out⟩, ⟨bs⟩⟩
           subst c60
           have H1 : (if x11_1 < (l1.length : Int) then (if 0 ≤ x11_1 then (if rdOf false l1 x11_1 = true then (abacuslaw26_CodeRuns.l0 kj57 l1 t306 (l0_0.length : Int) ((rd_T41 l0_0 x9_1).f1) (wrap64 (x10_1 + (wrap64 (t312 - t311)))) (wrap64 (x11_1 + 1)) (wrap64 (x12_1 + 1)) l0_0 l0_1 l0_2) else (abacuslaw26_CodeRuns.l0 kj57 l1 t306 (l0_0.length : Int) (wrap64 (x9_1 + 1)) (wrap64 (x10_1 + (wrap64 (t312 - t311)))) (wrap64 (x11_1 + 1)) (wrap64 (x12_1 + 1)) l0_0 l0_1 l0_2)) else (none)) else (if x19_53 = true then (abacuslaw26_CodeRuns.l0 kj57 l1 t306 (l0_0.length : Int) ((rd_T41 l0_0 x9_1).f1) (wrap64 (x10_1 + (wrap64 (t312 - t311)))) (wrap64 (x11_1 + 1)) (wrap64 (x12_1 + 1)) l0_0 l0_1 l0_2) else (abacuslaw26_CodeRuns.l0 kj57 l1 t306 (l0_0.length : Int) (wrap64 (x9_1 + 1)) (wrap64 (x10_1 + (wrap64 (t312 - t311)))) (wrap64 (x11_1 + 1)) (wrap64 (x12_1 + 1)) l0_0 l0_1 l0_2))) = some r := by rw [if_pos rfl] at H; exact H
           clear H
           have H := H1
           clear H1
           by_cases c61 : x11_1 < (l1.length : Int)
           rotate_left
           ·rw [if_neg c61] at H
            have c61b0 : decide (x11_1 < (l1.length : Int)) = false := decide_eq_false c61
            clear c61
            by_cases c67 : x19_53 = true
            rotate_left
            ·replace c67 := Bool.eq_false_iff.mpr c67
             subst c67
             have H1 : (abacuslaw26_CodeRuns.l0 kj57 l1 t306 (l0_0.length : Int) (wrap64 (x9_1 + 1)) (wrap64 (x10_1 + (wrap64 (t312 - t311)))) (wrap64 (x11_1 + 1)) (wrap64 (x12_1 + 1)) l0_0 l0_1 l0_2) = some r := by rw [if_neg (show ¬ (false = true) by decide)] at H; exact H
             clear H
             have H := H1
             clear H1
             have H' := Aside0.mk H
             clear H
             go_wp2
             go_roundg kj57
             case measure => have := HK1.out; have := HJ12.out; have := HJ18.out; have := HJ53.out; have := HJ57.out; omega
             case rel => exact ⟨(wrap64 (x9_1 + 1)), ((wrap64 (x10_1 + (wrap64 (t312 - t311))))), (wrap64 (x11_1 + 1)), (wrap64 (x12_1 + 1)), tv, tv, tv, tv, H', ⟨by have := HK1.out; have := HJ12.out; have := HJ18.out; have := HJ53.out; have := HJ57.out; omega⟩, ⟨by refine bu ?_; exact BK304.out⟩, ⟨bs⟩⟩
            subst c67
            have H1 : (abacuslaw26_CodeRuns.l0 kj57 l1 t306 (l0_0.length : Int) ((rd_T41 l0_0 x9_1).f1) (wrap64 (x10_1 + (wrap64 (t312 - t311)))) (wrap64 (x11_1 + 1)) (wrap64 (x12_1 + 1)) l0_0 l0_1 l0_2) = some r := by rw [if_pos rfl] at H; exact H
            clear H
            have H := H1
            clear H1
            have H' := Aside0.mk H
            clear H
            have hnb68 := NB310_304.out
            have hnc68 := NB304_310.out
            obtain ⟨⟨hcz69_0, hcz69_1, hcz69_2⟩, hfz69_0, hfz69_1, hfz69_2⟩ := blkAll3 BK310
            go_wp2
            go_roundg kj57
            case measure => have := HK1.out; have := HJ12.out; have := HJ18.out; have := HJ53.out; have := HJ57.out; omega
            case rel => exact ⟨(((rd_T41 l0_0 x9_1).f1)), ((wrap64 (x10_1 + (wrap64 (t312 - t311))))), (wrap64 (x11_1 + 1)), (wrap64 (x12_1 + 1)), tv, tv, tv, tv, H', ⟨by have := HK1.out; have := HJ12.out; have := HJ18.out; have := HJ53.out; have := HJ57.out; omega⟩, ⟨by refine bu ?_; exact BK304.out⟩, ⟨bs⟩⟩
           rw [if_pos c61] at H
           have c61b0 : decide (x11_1 < (l1.length : Int)) = true := decide_eq_true c61
           clear c61
           by_cases c62 : 0 ≤ x11_1
           rotate_left
           ·rw [if_neg c62] at H
            exact absurd H (by simp)
           rw [if_pos c62] at H
           have c62b0 : decide (0 ≤ x11_1) = true := decide_eq_true c62
           clear c62
           obtain ⟨bq63, hbq63⟩ : ∃ b_ : Bool, b_ = (rdOf false l1 x11_1) := ⟨_, rfl⟩
           replace H : (if bq63 = true then (abacuslaw26_CodeRuns.l0 kj57 l1 t306 (l0_0.length : Int) ((rd_T41 l0_0 x9_1).f1) (wrap64 (x10_1 + (wrap64 (t312 - t311)))) (wrap64 (x11_1 + 1)) (wrap64 (x12_1 + 1)) l0_0 l0_1 l0_2) else (abacuslaw26_CodeRuns.l0 kj57 l1 t306 (l0_0.length : Int) (wrap64 (x9_1 + 1)) (wrap64 (x10_1 + (wrap64 (t312 - t311)))) (wrap64 (x11_1 + 1)) (wrap64 (x12_1 + 1)) l0_0 l0_1 l0_2)) = some r := by rw [← hbq63] at H; exact H
           have Nbq63 := Aside0.mk hbq63
           clear hbq63
           by_cases c64 : bq63 = true
           rotate_left
           ·replace c64 := Bool.eq_false_iff.mpr c64
            subst c64
            have H1 : (abacuslaw26_CodeRuns.l0 kj57 l1 t306 (l0_0.length : Int) (wrap64 (x9_1 + 1)) (wrap64 (x10_1 + (wrap64 (t312 - t311)))) (wrap64 (x11_1 + 1)) (wrap64 (x12_1 + 1)) l0_0 l0_1 l0_2) = some r := by rw [if_neg (show ¬ (false = true) by decide)] at H; exact H
            clear H
            have H := H1
            clear H1
            have H' := Aside0.mk H
            clear H
            have p316 : 0 ≤ (x11_1 : Int) := of_decide_eq_true od
            have q316 : x11_1 < (l1.length : Int) := of_decide_eq_true od
            obtain ⟨ad316, e316, hx316_0⟩ := Kd.at_bool HR1.out x11_1 p316 q316
            (try rw [← Nbq63.out] at hx316_0)
            cases e316
            replace hx316_0 := (HB.out.cell (World.block_lt_of_cell? w _ hx316_0)).trans hx316_0
            replace p316 := eq_true p316
            replace q316 := eq_true q316
            go_wp2
            go_roundg kj57
            case measure => have := HK1.out; have := HJ12.out; have := HJ18.out; have := HJ53.out; have := HJ57.out; omega
            case rel => exact ⟨(wrap64 (x9_1 + 1)), ((wrap64 (x10_1 + (wrap64 (t312 - t311))))), (wrap64 (x11_1 + 1)), (wrap64 (x12_1 + 1)), tv, tv, tv, tv, H', ⟨by have := HK1.out; have := HJ12.out; have := HJ18.out; have := HJ53.out; have := HJ57.out; omega⟩, ⟨by refine bu ?_; exact BK304.out⟩, ⟨bs⟩⟩
           subst c64
           have H1 : (abacuslaw26_CodeRuns.l0 kj57 l1 t306 (l0_0.length : Int) ((rd_T41 l0_0 x9_1).f1) (wrap64 (x10_1 + (wrap64 (t312 - t311)))) (wrap64 (x11_1 + 1)) (wrap64 (x12_1 + 1)) l0_0 l0_1 l0_2) = some r := by rw [if_pos rfl] at H; exact H
           clear H
           have H := H1
           clear H1
           have H' := Aside0.mk H
           clear H
           have p316 : 0 ≤ (x11_1 : Int) := of_decide_eq_true od
           have q316 : x11_1 < (l1.length : Int) := of_decide_eq_true od
           obtain ⟨ad316, e316, hx316_0⟩ := Kd.at_bool HR1.out x11_1 p316 q316
           (try rw [← Nbq63.out] at hx316_0)
           cases e316
           replace hx316_0 := (HB.out.cell (World.block_lt_of_cell? w _ hx316_0)).trans hx316_0
           replace p316 := eq_true p316
           replace q316 := eq_true q316
           have hnb65 := NB310_304.out
           have hnc65 := NB304_310.out
           obtain ⟨⟨hcz66_0, hcz66_1, hcz66_2⟩, hfz66_0, hfz66_1, hfz66_2⟩ := blkAll3 BK310
           go_wp2
           go_roundg kj57
           case measure => have := HK1.out; have := HJ12.out; have := HJ18.out; have := HJ53.out; have := HJ57.out; omega
           case rel => exact ⟨(((rd_T41 l0_0 x9_1).f1)), ((wrap64 (x10_1 + (wrap64 (t312 - t311))))), (wrap64 (x11_1 + 1)), (wrap64 (x12_1 + 1)), tv, tv, tv, tv, H', ⟨by have := HK1.out; have := HJ12.out; have := HJ18.out; have := HJ53.out; have := HJ57.out; omega⟩, ⟨by refine bu ?_; exact BK304.out⟩, ⟨bs⟩⟩
end Go.Proofs.YtdkejcadoepnnaaDoor.ECc
