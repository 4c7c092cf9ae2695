/-
 A text of this session's own.
-/
import Derived.Test.YtdkejcadoepnnaaDoorBkA0
import Derived.Test.YtdkejcadoepnnaaDoorBkECcx0
import Derived.Test.YtdkejcadoepnnaaDoorBkXDec
import Derived.Test.YtdkejcadoepnnaaDoorBkECcx12
import Derived.Test.YtdkejcadoepnnaaDoorBkECcx16
import Derived.Test.YtdkejcadoepnnaaDoorBkECzx17
import Derived.Test.YtdkejcadoepnnaaDoorBkX
import Derived.Test.YtdkejcadoepnnaaDoorBkECcx8
set_option linter.unusedSimpArgs false
namespace Go.Proofs.YtdkejcadoepnnaaDoor.ECc
open Go.RowKit Go.Proofs.YtdkejcadoepnnaaDoorW.PrintWords Go.Proofs.YtdkejcadoepnnaaDoorW.PrintLast Go.Proofs.YtdkejcadoepnnaaDoorW.PrintMore
attribute [local go_sem] max2_int min2_int max_two min_two max_three min_three max_four min_four
set_option linter.unusedVariables false
open Go.Proofs.YtdkejcadoepnnaaDoor.X
noncomputable def w_CodeBack.j0 : Nat → Int → Int → List Int → Bool → Option (Bool)
 | 0, _, _, _, _ => none
 | k + 1, x1, x2, x7, x67 => if x67 = true then (some false) else (if (IntKind.u64.wrap ((x7.length : Int))) = 0 then (none) else (if 0 ≤ (wrap64 (Int.tmod (IntKind.u64.wrap (x1)) (IntKind.u64.wrap ((x7.length : Int))))) then (if (wrap64 (Int.tmod (IntKind.u64.wrap (x1)) (IntKind.u64.wrap ((x7.length : Int))))) ≤ (x7.length : Int) then ((xDecode.f (x7.take ((wrap64 (Int.tmod (IntKind.u64.wrap (x1)) (IntKind.u64.wrap ((x7.length : Int))))) : Int).toNat)).bind fun bt295 => (if bt295.2.2.2.2 = 261 then (if bt295.2.2.2.1 = (wrap64 (Int.tmod (IntKind.u64.wrap (x1)) (IntKind.u64.wrap ((x7.length : Int))))) then (if ([] : List Int).length + x7.length < 140737488355328 then ((some (([] : List Int) ++ x7 : List Int)).bind fun y306 => (if y306.length < 140737488355328 then ((xDecode.f (y306 ++ [x2])).bind fun bt312 => (if bt312.2.2.2.2 = 261 then (some (bt312.2.2.2.1 == (x7.length : Int))) else (some false))) else (none))) else (none)) else (some false)) else (some false))) else (none)) else (none)))
noncomputable def w_CodeBack.f (k : Nat) (l0_0 : List (S41)) (l0_1 : List Int) (l0_2 : List ByteArray) (a1 : Int) (a2 : Int) : Option (Bool) := (w_awake.f k).bind fun t270 => (if t270 = true then ((c_Encode.f k l0_0 l0_1 l0_2).bind fun bt271 => (if bt271.2 = 0 then ((xDecode.f bt271.1).bind fun bt278 => (if bt278.2.2.2.2 = 0 then (if bt278.2.2.2.1 = 0 then ((w_same.f k l0_0 l0_1 l0_2 bt278.1 bt278.2.1 bt278.2.2.1).bind fun t290 => (w_CodeBack.j0 k a1 a2 bt271.1 (!t290))) else (w_CodeBack.j0 k a1 a2 bt271.1 true)) else (w_CodeBack.j0 k a1 a2 bt271.1 true))) else ((c_Check.f k l0_0 l0_1 l0_2).bind fun bt275 => (if (bt271.1.length : Int) = 0 then (if bt271.2 = 260 then (if bt275.2.2 = 260 then (some true) else (if bt271.2 = 3 then (some (bt275.2.2 == 0)) else (some false))) else (if bt271.2 = 3 then (some (bt275.2.2 == 0)) else (some false))) else (some false))))) else (some false))
set_option maxHeartbeats 8000000 in
set_option maxRecDepth 100000 in
theorem w_CodeBack.calls (k : Nat) (A0_0 : Option Addr) (c0_0 : Nat) (l0_0 : List (S41)) (A0_1 : Option Addr) (c0_1 : Nat) (l0_1 : List Int) (A0_2 : Option Addr) (c0_2 : Nat) (l0_2 : List ByteArray) (a1 : Int) (a2 : Int) (w : World) (hr0_0 : Kd.C k41 w A0_0 l0_0.length l0_0) (hc0_0 : l0_0.length ≤ c0_0) (hr0_1 : Kd.C (Kd.int .u64) w A0_1 l0_1.length l0_1) (hc0_1 : l0_1.length ≤ c0_1) (hr0_2 : Kd.C Kd.string w A0_2 l0_2.length l0_2) (hc0_2 : l0_2.length ≤ c0_2) (hG : GW w) (h : w_CodeBack.f k l0_0 l0_1 l0_2 a1 a2 = some true) :
  Calls Tryd.prog 9 #[.agg #[.slice A0_0 l0_0.length c0_0, .slice A0_1 l0_1.length c0_1, .slice A0_2 l0_2.length c0_2], .int .i64 a1, .int .u8 a2] w fun e w' => e = .returned (.bool true) ∧ Below w.heap.size w w' := by
 have hu26 := Tryd.underlying26
 have HR0_0 := am hr0_0
 have HC0_0 := am hc0_0
 clear hr0_0 hc0_0
 have HR0_1 := am hr0_1
 have HC0_1 := am hc0_1
 clear hr0_1 hc0_1
 have HR0_2 := am hr0_2
 have HC0_2 := am hc0_2
 clear hr0_2 hc0_2
 have HB := am (Below.refl w.heap.size w)
 have HG := am hG
 clear hG
 have H : ((w_awake.f k).bind fun t270 => (if t270 = true then ((c_Encode.f k l0_0 l0_1 l0_2).bind fun bt271 => (if bt271.2 = 0 then ((xDecode.f bt271.1).bind fun bt278 => (if bt278.2.2.2.2 = 0 then (if bt278.2.2.2.1 = 0 then ((w_same.f k l0_0 l0_1 l0_2 bt278.1 bt278.2.1 bt278.2.2.1).bind fun t290 => (w_CodeBack.j0 k a1 a2 bt271.1 (!t290))) else (w_CodeBack.j0 k a1 a2 bt271.1 true)) else (w_CodeBack.j0 k a1 a2 bt271.1 true))) else ((c_Check.f k l0_0 l0_1 l0_2).bind fun bt275 => (if (bt271.1.length : Int) = 0 then (if bt271.2 = 260 then (if bt275.2.2 = 260 then (some true) else (if bt271.2 = 3 then (some (bt275.2.2 == 0)) else (some false))) else (if bt271.2 = 3 then (some (bt275.2.2 == 0)) else (some false))) else (some false))))) else (some false))) = some true := h
 clear h
 replace H := Option.bind_eq_some_iff.mp H
 obtain ⟨t270, A40, H⟩ := H
 replace H : (if t270 = true then ((c_Encode.f k l0_0 l0_1 l0_2).bind fun bt271 => (if bt271.2 = 0 then ((xDecode.f bt271.1).bind fun bt278 => (if bt278.2.2.2.2 = 0 then (if bt278.2.2.2.1 = 0 then ((w_same.f k l0_0 l0_1 l0_2 bt278.1 bt278.2.1 bt278.2.2.1).bind fun t290 => (w_CodeBack.j0 k a1 a2 bt271.1 (!t290))) else (w_CodeBack.j0 k a1 a2 bt271.1 true)) else (w_CodeBack.j0 k a1 a2 bt271.1 true))) else ((c_Check.f k l0_0 l0_1 l0_2).bind fun bt275 => (if (bt271.1.length : Int) = 0 then (if bt271.2 = 260 then (if bt275.2.2 = 260 then (some true) else (if bt271.2 = 3 then (some (bt275.2.2 == 0)) else (some false))) else (if bt271.2 = 3 then (some (bt275.2.2 == 0)) else (some false))) else (some false))))) else (some false)) = some true := H
 have A4 := am A40
 clear A40
 by_cases c5 : t270 = true
 rotate_left
 ·replace c5 := Bool.eq_false_iff.mpr c5
  subst c5
  have H1 : (some false) = some true := by rw [if_neg (show ¬ (false = true) by decide)] at H; exact H
  clear H
  have H := H1
  clear H1
  exact absurd H (by simp)
 subst c5
 have H1 : ((c_Encode.f k l0_0 l0_1 l0_2).bind fun bt271 => (if bt271.2 = 0 then ((xDecode.f bt271.1).bind fun bt278 => (if bt278.2.2.2.2 = 0 then (if bt278.2.2.2.1 = 0 then ((w_same.f k l0_0 l0_1 l0_2 bt278.1 bt278.2.1 bt278.2.2.1).bind fun t290 => (w_CodeBack.j0 k a1 a2 bt271.1 (!t290))) else (w_CodeBack.j0 k a1 a2 bt271.1 true)) else (w_CodeBack.j0 k a1 a2 bt271.1 true))) else ((c_Check.f k l0_0 l0_1 l0_2).bind fun bt275 => (if (bt271.1.length : Int) = 0 then (if bt271.2 = 260 then (if bt275.2.2 = 260 then (some true) else (if bt271.2 = 3 then (some (bt275.2.2 == 0)) else (some false))) else (if bt271.2 = 3 then (some (bt275.2.2 == 0)) else (some false))) else (some false))))) = some true := by rw [if_pos rfl] at H; exact H
 clear H
 have H := H1
 clear H1
 replace H := Option.bind_eq_some_iff.mp H
 obtain ⟨⟨t271, t274⟩, A60, H⟩ := H
 replace H : (if t274 = 0 then ((xDecode.f t271).bind fun bt278 => (if bt278.2.2.2.2 = 0 then (if bt278.2.2.2.1 = 0 then ((w_same.f k l0_0 l0_1 l0_2 bt278.1 bt278.2.1 bt278.2.2.1).bind fun t290 => (w_CodeBack.j0 k a1 a2 t271 (!t290))) else (w_CodeBack.j0 k a1 a2 t271 true)) else (w_CodeBack.j0 k a1 a2 t271 true))) else ((c_Check.f k l0_0 l0_1 l0_2).bind fun bt275 => (if (t271.length : Int) = 0 then (if t274 = 260 then (if bt275.2.2 = 260 then (some true) else (if t274 = 3 then (some (bt275.2.2 == 0)) else (some false))) else (if t274 = 3 then (some (bt275.2.2 == 0)) else (some false))) else (some false)))) = some true := H
 have A6 := am A60
 clear A60
 by_cases c7 : t274 = 0
 rotate_left
 ·rw [if_neg c7] at H
  have c7b0 : (t274 == 0) = false := beq_eq_false_iff_ne.mpr c7
  have c7b1 : (t274 != 0) = true := bne_iff_ne.mpr c7
  replace H := Option.bind_eq_some_iff.mp H
  obtain ⟨⟨t275, t276, t277⟩, A470, H⟩ := H
  replace H : (if (t271.length : Int) = 0 then (if t274 = 260 then (if t277 = 260 then (some true) else (if t274 = 3 then (some (t277 == 0)) else (some false))) else (if t274 = 3 then (some (t277 == 0)) else (some false))) else (some false)) = some true := H
  have A47 := am A470
  clear A470
  by_cases c48 : (t271.length : Int) = 0
  rotate_left
  ·rw [if_neg c48] at H
   have c48b0 : ((t271.length : Int) == 0) = false := beq_eq_false_iff_ne.mpr c48
   have c48b1 : ((t271.length : Int) != 0) = true := bne_iff_ne.mpr c48
   have c48b2 : ¬ (t271 = []) := fun h_ => c48 (by rw [h_]; rfl)
   exact absurd H (by simp)
  rw [if_pos c48] at H
  have c48b0 : ((t271.length : Int) == 0) = true := beq_iff_eq.mpr c48
  have c48b1 : ((t271.length : Int) != 0) = false := bne_eq_false_iff_eq.mpr c48
  clear c48
  by_cases c49 : t274 = 260
  rotate_left
  ·rw [if_neg c49] at H
   have c49b0 : (t274 == 260) = false := beq_eq_false_iff_ne.mpr c49
   have c49b1 : (t274 != 260) = true := bne_iff_ne.mpr c49
   by_cases c66 : t274 = 3
   rotate_left
   ·rw [if_neg c66] at H
    have c66b0 : (t274 == 3) = false := beq_eq_false_iff_ne.mpr c66
    have c66b1 : (t274 != 3) = true := bne_iff_ne.mpr c66
    exact absurd H (by simp)
   rw [if_pos c66] at H
   have c66b0 : (t274 == 3) = true := beq_iff_eq.mpr c66
   have c66b1 : (t274 != 3) = false := bne_eq_false_iff_eq.mpr c66
   clear c66
   have HX := am (Option.some.inj H)
   clear H
   go_enter Tryd.func9, Tryd.ntmps9
   go_wp2_with (first | ((with_reducible refine gate_dst (N := 3) rfl ?_); (try (refine gate_guard (by rfl) ?_; dsimp only)); refine box_event ?hg (N := 3) ?hd (cs := #[.slice A0_0 l0_0.length c0_0, .slice A0_1 l0_1.length c0_1, .slice A0_2 l0_2.length c0_2]) (t := 26) ?hr ?_; (case hd => rfl); (case hg => rfl); (case hr => first | (go_simp; done) | (go_simp; rfl)); intro gb269 hg w67 hbox hb; have n0_ := am (below_step bl hb); have n1_ := am (hbox); have n2_ := am ((by rw [hg]; exact (below_size bl) : w.heap.size ≤ gb269)); have n3_ := n2_; clear HB; have HB := n0_; have BK269 := n1_; have GW269 := n2_; have GE269 := n3_; clear n0_ n1_ n2_ n3_; clear hb hbox hg) | ((with_reducible refine gate_callee (f := 11) rfl ?_); refine goesL_ (some 16) rfl rfl Tryd.func11 (by kernel_rfl) rfl #[] rfl ls ?_; (with_reducible refine (w_awake.calls k  true _ ?side1 A4.out).mono ?_); (case side1 => exact GW.below HG.out bs); rintro e w68 ⟨rfl, hb⟩; refine ⟨_, rfl, ?_⟩; have n0_ := am (blk_below (bu BK269.out) hb); have n1_ := am (below_step bs hb); clear BK269; clear HB; have BK269 := n0_; have HB := n1_; clear n0_ n1_; (try clear hb); (try clear hb2); (try clear hk); (try clear hi); obtain ⟨⟨hcz69_0, hcz69_1, hcz69_2⟩, hfz69_0, hfz69_1, hfz69_2⟩ := blkAll3 BK269) | ((with_reducible refine gate_callee (f := 14) rfl ?_); refine goesL_ (some 20) rfl rfl Tryd.func14 (by kernel_rfl) rfl #[.agg #[.slice A0_0 l0_0.length c0_0, .slice A0_1 l0_1.length c0_1, .slice A0_2 l0_2.length c0_2]] rfl ls ?_; (with_reducible refine (c_Encode.calls k _ _ l0_0 _ _ l0_1 _ _ l0_2 t271 t274 _ ?side1 ?side2 ?side3 ?side4 ?side5 ?side6 A6.out).mono ?_); (case side1 => repeat (first | exact (Kd.C_below HR0_0.out HB.out) | (with_reducible refine Kd.C_alloc ?_ _) | (with_reducible refine Kd.C_drewN ?_ _) | (with_reducible refine Kd.C_drew ?_))); (case side2 => exact HC0_0.out); (case side3 => repeat (first | exact (Kd.C_below HR0_1.out HB.out) | (with_reducible refine Kd.C_alloc ?_ _) | (with_reducible refine Kd.C_drewN ?_ _) | (with_reducible refine Kd.C_drew ?_))); (case side4 => exact HC0_1.out); (case side5 => repeat (first | exact (Kd.C_below HR0_2.out HB.out) | (with_reducible refine Kd.C_alloc ?_ _) | (with_reducible refine Kd.C_drewN ?_ _) | (with_reducible refine Kd.C_drew ?_))); (case side6 => exact HC0_2.out); rintro e w70 ⟨v272, rfl, ho0, hb⟩; refine ⟨_, rfl, ?_⟩; have n0_ := am (Kd.R_lower ho0 (below_size bs)); have n1_ := am (blk_below (bu BK269.out) hb); have n2_ := am (below_step bs hb); clear BK269; clear HB; have HO273 := n0_; have BK269 := n1_; have HB := n2_; clear n0_ n1_ n2_; (try clear hb); (try clear hb2); (try clear hk); (try clear hi); (try clear ho0); obtain ⟨⟨hcz71_0, hcz71_1, hcz71_2⟩, hfz71_0, hfz71_1, hfz71_2⟩ := blkAll3 BK269) | ((with_reducible refine gate_callee (f := 13) rfl ?_); refine goesL_ (some 27) rfl rfl Tryd.func13 (by kernel_rfl) rfl #[.agg #[.slice A0_0 l0_0.length c0_0, .slice A0_1 l0_1.length c0_1, .slice A0_2 l0_2.length c0_2]] rfl ls ?_; (with_reducible refine (c_Check.calls k _ _ l0_0 _ _ l0_1 _ _ l0_2 t275 t276 t277 _ ?side1 ?side2 ?side3 ?side4 ?side5 ?side6 A47.out).mono ?_); (case side1 => repeat (first | exact (Kd.C_below HR0_0.out HB.out) | (with_reducible refine Kd.C_alloc ?_ _) | (with_reducible refine Kd.C_drewN ?_ _) | (with_reducible refine Kd.C_drew ?_))); (case side2 => exact HC0_0.out); (case side3 => repeat (first | exact (Kd.C_below HR0_1.out HB.out) | (with_reducible refine Kd.C_alloc ?_ _) | (with_reducible refine Kd.C_drewN ?_ _) | (with_reducible refine Kd.C_drew ?_))); (case side4 => exact HC0_1.out); (case side5 => repeat (first | exact (Kd.C_below HR0_2.out HB.out) | (with_reducible refine Kd.C_alloc ?_ _) | (with_reducible refine Kd.C_drewN ?_ _) | (with_reducible refine Kd.C_drew ?_))); (case side6 => exact HC0_2.out); rintro e w72 ⟨rfl, hb⟩; refine ⟨_, rfl, ?_⟩; have n0_ := am (Kd.R_below (by (with_reducible repeat (first | apply Kd.R_alloc | apply Kd.R_drewN | apply Kd.R_drew)); exact HO273.out) hb); have n1_ := am (blk_below (bu BK269.out) hb); have n2_ := am (below_step bs hb); clear HO273; clear BK269; clear HB; have HO273 := n0_; have BK269 := n1_; have HB := n2_; clear n0_ n1_ n2_; (try clear hb); (try clear hb2); (try clear hk); (try clear hi); obtain ⟨Ao73, co73, eo73⟩ := Kd.R_slice HO273.out; subst eo73))
   go_ret
   exact ⟨by first | exact congrArg (fun b_ => Ending.returned (Value.bool b_)) HX.out | (have hx_ := HX.out; simp at hx_ ⊢; done) | (have hx_ := HX.out; simp at hx_ ⊢; exact hx_) | (have hx_ := HX.out; simp_all) | (simp [*, errW_none, errW_some] <;> rfl), bs⟩
  rw [if_pos c49] at H
  have c49b0 : (t274 == 260) = true := beq_iff_eq.mpr c49
  have c49b1 : (t274 != 260) = false := bne_eq_false_iff_eq.mpr c49
  clear c49
  by_cases c50 : t277 = 260
  ·rw [if_pos c50] at H
   have c50b0 : (t277 == 260) = true := beq_iff_eq.mpr c50
   have c50b1 : (t277 != 260) = false := bne_eq_false_iff_eq.mpr c50
   clear c50
   clear H
   go_enter Tryd.func9, Tryd.ntmps9
   go_wp2_with (first | ((with_reducible refine gate_dst (N := 3) rfl ?_); (try (refine gate_guard (by rfl) ?_; dsimp only)); refine box_event ?hg (N := 3) ?hd (cs := #[.slice A0_0 l0_0.length c0_0, .slice A0_1 l0_1.length c0_1, .slice A0_2 l0_2.length c0_2]) (t := 26) ?hr ?_; (case hd => rfl); (case hg => rfl); (case hr => first | (go_simp; done) | (go_simp; rfl)); intro gb269 hg w51 hbox hb; have n0_ := am (below_step bl hb); have n1_ := am (hbox); have n2_ := am ((by rw [hg]; exact (below_size bl) : w.heap.size ≤ gb269)); have n3_ := n2_; clear HB; have HB := n0_; have BK269 := n1_; have GW269 := n2_; have GE269 := n3_; clear n0_ n1_ n2_ n3_; clear hb hbox hg) | ((with_reducible refine gate_callee (f := 11) rfl ?_); refine goesL_ (some 16) rfl rfl Tryd.func11 (by kernel_rfl) rfl #[] rfl ls ?_; (with_reducible refine (w_awake.calls k  true _ ?side1 A4.out).mono ?_); (case side1 => exact GW.below HG.out bs); rintro e w52 ⟨rfl, hb⟩; refine ⟨_, rfl, ?_⟩; have n0_ := am (blk_below (bu BK269.out) hb); have n1_ := am (below_step bs hb); clear BK269; clear HB; have BK269 := n0_; have HB := n1_; clear n0_ n1_; (try clear hb); (try clear hb2); (try clear hk); (try clear hi); obtain ⟨⟨hcz53_0, hcz53_1, hcz53_2⟩, hfz53_0, hfz53_1, hfz53_2⟩ := blkAll3 BK269) | ((with_reducible refine gate_callee (f := 14) rfl ?_); refine goesL_ (some 20) rfl rfl Tryd.func14 (by kernel_rfl) rfl #[.agg #[.slice A0_0 l0_0.length c0_0, .slice A0_1 l0_1.length c0_1, .slice A0_2 l0_2.length c0_2]] rfl ls ?_; (with_reducible refine (c_Encode.calls k _ _ l0_0 _ _ l0_1 _ _ l0_2 t271 t274 _ ?side1 ?side2 ?side3 ?side4 ?side5 ?side6 A6.out).mono ?_); (case side1 => repeat (first | exact (Kd.C_below HR0_0.out HB.out) | (with_reducible refine Kd.C_alloc ?_ _) | (with_reducible refine Kd.C_drewN ?_ _) | (with_reducible refine Kd.C_drew ?_))); (case side2 => exact HC0_0.out); (case side3 => repeat (first | exact (Kd.C_below HR0_1.out HB.out) | (with_reducible refine Kd.C_alloc ?_ _) | (with_reducible refine Kd.C_drewN ?_ _) | (with_reducible refine Kd.C_drew ?_))); (case side4 => exact HC0_1.out); (case side5 => repeat (first | exact (Kd.C_below HR0_2.out HB.out) | (with_reducible refine Kd.C_alloc ?_ _) | (with_reducible refine Kd.C_drewN ?_ _) | (with_reducible refine Kd.C_drew ?_))); (case side6 => exact HC0_2.out); rintro e w54 ⟨v272, rfl, ho0, hb⟩; refine ⟨_, rfl, ?_⟩; have n0_ := am (Kd.R_lower ho0 (below_size bs)); have n1_ := am (blk_below (bu BK269.out) hb); have n2_ := am (below_step bs hb); clear BK269; clear HB; have HO273 := n0_; have BK269 := n1_; have HB := n2_; clear n0_ n1_ n2_; (try clear hb); (try clear hb2); (try clear hk); (try clear hi); (try clear ho0); obtain ⟨⟨hcz55_0, hcz55_1, hcz55_2⟩, hfz55_0, hfz55_1, hfz55_2⟩ := blkAll3 BK269) | ((with_reducible refine gate_callee (f := 13) rfl ?_); refine goesL_ (some 27) rfl rfl Tryd.func13 (by kernel_rfl) rfl #[.agg #[.slice A0_0 l0_0.length c0_0, .slice A0_1 l0_1.length c0_1, .slice A0_2 l0_2.length c0_2]] rfl ls ?_; (with_reducible refine (c_Check.calls k _ _ l0_0 _ _ l0_1 _ _ l0_2 t275 t276 t277 _ ?side1 ?side2 ?side3 ?side4 ?side5 ?side6 A47.out).mono ?_); (case side1 => repeat (first | exact (Kd.C_below HR0_0.out HB.out) | (with_reducible refine Kd.C_alloc ?_ _) | (with_reducible refine Kd.C_drewN ?_ _) | (with_reducible refine Kd.C_drew ?_))); (case side2 => exact HC0_0.out); (case side3 => repeat (first | exact (Kd.C_below HR0_1.out HB.out) | (with_reducible refine Kd.C_alloc ?_ _) | (with_reducible refine Kd.C_drewN ?_ _) | (with_reducible refine Kd.C_drew ?_))); (case side4 => exact HC0_1.out); (case side5 => repeat (first | exact (Kd.C_below HR0_2.out HB.out) | (with_reducible refine Kd.C_alloc ?_ _) | (with_reducible refine Kd.C_drewN ?_ _) | (with_reducible refine Kd.C_drew ?_))); (case side6 => exact HC0_2.out); rintro e w56 ⟨rfl, hb⟩; refine ⟨_, rfl, ?_⟩; have n0_ := am (Kd.R_below (by (with_reducible repeat (first | apply Kd.R_alloc | apply Kd.R_drewN | apply Kd.R_drew)); exact HO273.out) hb); have n1_ := am (blk_below (bu BK269.out) hb); have n2_ := am (below_step bs hb); clear HO273; clear BK269; clear HB; have HO273 := n0_; have BK269 := n1_; have HB := n2_; clear n0_ n1_ n2_; (try clear hb); (try clear hb2); (try clear hk); (try clear hi); obtain ⟨Ao57, co57, eo57⟩ := Kd.R_slice HO273.out; subst eo57))
   go_ret
   exact ⟨er, bs⟩
  rw [if_neg c50] at H
  have c50b0 : (t277 == 260) = false := beq_eq_false_iff_ne.mpr c50
  have c50b1 : (t277 != 260) = true := bne_iff_ne.mpr c50
  by_cases c58 : t274 = 3
  rotate_left
  ·rw [if_neg c58] at H
   have c58b0 : (t274 == 3) = false := beq_eq_false_iff_ne.mpr c58
   have c58b1 : (t274 != 3) = true := bne_iff_ne.mpr c58
   exact absurd H (by simp)
  rw [if_pos c58] at H
  have c58b0 : (t274 == 3) = true := beq_iff_eq.mpr c58
  have c58b1 : (t274 != 3) = false := bne_eq_false_iff_eq.mpr c58
  clear c58
  have HX := am (Option.some.inj H)
  clear H
  go_enter Tryd.func9, Tryd.ntmps9
  go_wp2_with (first | ((with_reducible refine gate_dst (N := 3) rfl ?_); (try (refine gate_guard (by rfl) ?_; dsimp only)); refine box_event ?hg (N := 3) ?hd (cs := #[.slice A0_0 l0_0.length c0_0, .slice A0_1 l0_1.length c0_1, .slice A0_2 l0_2.length c0_2]) (t := 26) ?hr ?_; (case hd => rfl); (case hg => rfl); (case hr => first | (go_simp; done) | (go_simp; rfl)); intro gb269 hg w59 hbox hb; have n0_ := am (below_step bl hb); have n1_ := am (hbox); have n2_ := am ((by rw [hg]; exact (below_size bl) : w.heap.size ≤ gb269)); have n3_ := n2_; clear HB; have HB := n0_; have BK269 := n1_; have GW269 := n2_; have GE269 := n3_; clear n0_ n1_ n2_ n3_; clear hb hbox hg) | ((with_reducible refine gate_callee (f := 11) rfl ?_); refine goesL_ (some 16) rfl rfl Tryd.func11 (by kernel_rfl) rfl #[] rfl ls ?_; (with_reducible refine (w_awake.calls k  true _ ?side1 A4.out).mono ?_); (case side1 => exact GW.below HG.out bs); rintro e w60 ⟨rfl, hb⟩; refine ⟨_, rfl, ?_⟩; have n0_ := am (blk_below (bu BK269.out) hb); have n1_ := am (below_step bs hb); clear BK269; clear HB; have BK269 := n0_; have HB := n1_; clear n0_ n1_; (try clear hb); (try clear hb2); (try clear hk); (try clear hi); obtain ⟨⟨hcz61_0, hcz61_1, hcz61_2⟩, hfz61_0, hfz61_1, hfz61_2⟩ := blkAll3 BK269) | ((with_reducible refine gate_callee (f := 14) rfl ?_); refine goesL_ (some 20) rfl rfl Tryd.func14 (by kernel_rfl) rfl #[.agg #[.slice A0_0 l0_0.length c0_0, .slice A0_1 l0_1.length c0_1, .slice A0_2 l0_2.length c0_2]] rfl ls ?_; (with_reducible refine (c_Encode.calls k _ _ l0_0 _ _ l0_1 _ _ l0_2 t271 t274 _ ?side1 ?side2 ?side3 ?side4 ?side5 ?side6 A6.out).mono ?_); (case side1 => repeat (first | exact (Kd.C_below HR0_0.out HB.out) | (with_reducible refine Kd.C_alloc ?_ _) | (with_reducible refine Kd.C_drewN ?_ _) | (with_reducible refine Kd.C_drew ?_))); (case side2 => exact HC0_0.out); (case side3 => repeat (first | exact (Kd.C_below HR0_1.out HB.out) | (with_reducible refine Kd.C_alloc ?_ _) | (with_reducible refine Kd.C_drewN ?_ _) | (with_reducible refine Kd.C_drew ?_))); (case side4 => exact HC0_1.out); (case side5 => repeat (first | exact (Kd.C_below HR0_2.out HB.out) | (with_reducible refine Kd.C_alloc ?_ _) | (with_reducible refine Kd.C_drewN ?_ _) | (with_reducible refine Kd.C_drew ?_))); (case side6 => exact HC0_2.out); rintro e w62 ⟨v272, rfl, ho0, hb⟩; refine ⟨_, rfl, ?_⟩; have n0_ := am (Kd.R_lower ho0 (below_size bs)); have n1_ := am (blk_below (bu BK269.out) hb); have n2_ := am (below_step bs hb); clear BK269; clear HB; have HO273 := n0_; have BK269 := n1_; have HB := n2_; clear n0_ n1_ n2_; (try clear hb); (try clear hb2); (try clear hk); (try clear hi); (try clear ho0); obtain ⟨⟨hcz63_0, hcz63_1, hcz63_2⟩, hfz63_0, hfz63_1, hfz63_2⟩ := blkAll3 BK269) | ((with_reducible refine gate_callee (f := 13) rfl ?_); refine goesL_ (some 27) rfl rfl Tryd.func13 (by kernel_rfl) rfl #[.agg #[.slice A0_0 l0_0.length c0_0, .slice A0_1 l0_1.length c0_1, .slice A0_2 l0_2.length c0_2]] rfl ls ?_; (with_reducible refine (c_Check.calls k _ _ l0_0 _ _ l0_1 _ _ l0_2 t275 t276 t277 _ ?side1 ?side2 ?side3 ?side4 ?side5 ?side6 A47.out).mono ?_); (case side1 => repeat (first | exact (Kd.C_below HR0_0.out HB.out) | (with_reducible refine Kd.C_alloc ?_ _) | (with_reducible refine Kd.C_drewN ?_ _) | (with_reducible refine Kd.C_drew ?_))); (case side2 => exact HC0_0.out); (case side3 => repeat (first | exact (Kd.C_below HR0_1.out HB.out) | (with_reducible refine Kd.C_alloc ?_ _) | (with_reducible refine Kd.C_drewN ?_ _) | (with_reducible refine Kd.C_drew ?_))); (case side4 => exact HC0_1.out); (case side5 => repeat (first | exact (Kd.C_below HR0_2.out HB.out) | (with_reducible refine Kd.C_alloc ?_ _) | (with_reducible refine Kd.C_drewN ?_ _) | (with_reducible refine Kd.C_drew ?_))); (case side6 => exact HC0_2.out); rintro e w64 ⟨rfl, hb⟩; refine ⟨_, rfl, ?_⟩; have n0_ := am (Kd.R_below (by (with_reducible repeat (first | apply Kd.R_alloc | apply Kd.R_drewN | apply Kd.R_drew)); exact HO273.out) hb); have n1_ := am (blk_below (bu BK269.out) hb); have n2_ := am (below_step bs hb); clear HO273; clear BK269; clear HB; have HO273 := n0_; have BK269 := n1_; have HB := n2_; clear n0_ n1_ n2_; (try clear hb); (try clear hb2); (try clear hk); (try clear hi); obtain ⟨Ao65, co65, eo65⟩ := Kd.R_slice HO273.out; subst eo65))
  go_ret
  exact ⟨by first | exact congrArg (fun b_ => Ending.returned (Value.bool b_)) HX.out | (have hx_ := HX.out; simp at hx_ ⊢; done) | (have hx_ := HX.out; simp at hx_ ⊢; exact hx_) | (have hx_ := HX.out; simp_all) | (simp [*, errW_none, errW_some] <;> rfl), bs⟩
 rw [if_pos c7] at H
 have c7b0 : (t274 == 0) = true := beq_iff_eq.mpr c7
 have c7b1 : (t274 != 0) = false := bne_eq_false_iff_eq.mpr c7
 clear c7
 replace H := Option.bind_eq_some_iff.mp H
 obtain ⟨⟨t278, t281, t284, t287, t288⟩, A80, H⟩ := H
 replace H : (if t288 = 0 then (if t287 = 0 then ((w_same.f k l0_0 l0_1 l0_2 t278 t281 t284).bind fun t290 => (w_CodeBack.j0 k a1 a2 t271 (!t290))) else (w_CodeBack.j0 k a1 a2 t271 true)) else (w_CodeBack.j0 k a1 a2 t271 true)) = some true := H
 have A8 := am A80
 clear A80
 have HC9 := am H
 clear H
 go_enter Tryd.func9, Tryd.ntmps9
 go_upto_region 8 with (first | ((with_reducible refine gate_dst (N := 3) rfl ?_); (try (refine gate_guard (by rfl) ?_; dsimp only)); refine box_event ?hg (N := 3) ?hd (cs := #[.slice A0_0 l0_0.length c0_0, .slice A0_1 l0_1.length c0_1, .slice A0_2 l0_2.length c0_2]) (t := 26) ?hr ?_; (case hd => rfl); (case hg => rfl); (case hr => first | (go_simp; done) | (go_simp; rfl)); intro gb269 hg w10 hbox hb; have n0_ := am (below_step bl hb); have n1_ := am (hbox); have n2_ := am ((by rw [hg]; exact (below_size bl) : w.heap.size ≤ gb269)); have n3_ := n2_; clear HB; have HB := n0_; have BK269 := n1_; have GW269 := n2_; have GE269 := n3_; clear n0_ n1_ n2_ n3_; clear hb hbox hg) | ((with_reducible refine gate_callee (f := 11) rfl ?_); refine goesL_ (some 16) rfl rfl Tryd.func11 (by kernel_rfl) rfl #[] rfl ls ?_; (with_reducible refine (w_awake.calls k  true _ ?side1 A4.out).mono ?_); (case side1 => exact GW.below HG.out bs); rintro e w11 ⟨rfl, hb⟩; refine ⟨_, rfl, ?_⟩; have n0_ := am (blk_below (bu BK269.out) hb); have n1_ := am (below_step bs hb); clear BK269; clear HB; have BK269 := n0_; have HB := n1_; clear n0_ n1_; (try clear hb); (try clear hb2); (try clear hk); (try clear hi); obtain ⟨⟨hcz12_0, hcz12_1, hcz12_2⟩, hfz12_0, hfz12_1, hfz12_2⟩ := blkAll3 BK269) | ((with_reducible refine gate_callee (f := 14) rfl ?_); refine goesL_ (some 20) rfl rfl Tryd.func14 (by kernel_rfl) rfl #[.agg #[.slice A0_0 l0_0.length c0_0, .slice A0_1 l0_1.length c0_1, .slice A0_2 l0_2.length c0_2]] rfl ls ?_; (with_reducible refine (c_Encode.calls k _ _ l0_0 _ _ l0_1 _ _ l0_2 t271 t274 _ ?side1 ?side2 ?side3 ?side4 ?side5 ?side6 A6.out).mono ?_); (case side1 => repeat (first | exact (Kd.C_below HR0_0.out HB.out) | (with_reducible refine Kd.C_alloc ?_ _) | (with_reducible refine Kd.C_drewN ?_ _) | (with_reducible refine Kd.C_drew ?_))); (case side2 => exact HC0_0.out); (case side3 => repeat (first | exact (Kd.C_below HR0_1.out HB.out) | (with_reducible refine Kd.C_alloc ?_ _) | (with_reducible refine Kd.C_drewN ?_ _) | (with_reducible refine Kd.C_drew ?_))); (case side4 => exact HC0_1.out); (case side5 => repeat (first | exact (Kd.C_below HR0_2.out HB.out) | (with_reducible refine Kd.C_alloc ?_ _) | (with_reducible refine Kd.C_drewN ?_ _) | (with_reducible refine Kd.C_drew ?_))); (case side6 => exact HC0_2.out); rintro e w13 ⟨v272, rfl, ho0, hb⟩; refine ⟨_, rfl, ?_⟩; have n0_ := am (Kd.R_lower ho0 (below_size bs)); have n1_ := am (blk_below (bu BK269.out) hb); have n2_ := am (below_step bs hb); clear BK269; clear HB; have HO273 := n0_; have BK269 := n1_; have HB := n2_; clear n0_ n1_ n2_; (try clear hb); (try clear hb2); (try clear hk); (try clear hi); (try clear ho0); obtain ⟨Ao14, co14, eo14⟩ := Kd.R_slice HO273.out; subst eo14) | ((with_reducible refine gate_callee (f := 22) rfl ?_); refine goesL_ (some 52) rfl rfl Tryd.func22 (by kernel_rfl) rfl #[.slice Ao14 t271.length co14] rfl ls ?_; (with_reducible refine (xDecode.calls _ _ t271 t278 t281 t284 t287 t288 _ ?side1 ?side2 A8.out).mono ?_); (case side1 => repeat (first | exact (Kd.R_reads' HO273.out).2.2 | (with_reducible refine Kd.C_alloc ?_ _) | (with_reducible refine Kd.C_drewN ?_ _) | (with_reducible refine Kd.C_drew ?_))); (case side2 => exact (Kd.R_reads' HO273.out).2.1); rintro e w15 ⟨v279, v282, v285, rfl, ho0, ho1, ho2, hb⟩; refine ⟨_, rfl, ?_⟩; have n0_ := am (Kd.R_below (by (with_reducible repeat (first | apply Kd.R_alloc | apply Kd.R_drewN | apply Kd.R_drew)); exact HO273.out) hb); have n1_ := am (Kd.R_lower ho0 (below_size bs)); have n2_ := am (Kd.R_lower ho1 (below_size bs)); have n3_ := am (Kd.R_lower ho2 (below_size bs)); have n4_ := am (blk_below (bu BK269.out) hb); have n5_ := am (below_step bs hb); clear HO273; clear BK269; clear HB; have HO273 := n0_; have HO280 := n1_; have HO283 := n2_; have HO286 := n3_; have BK269 := n4_; have HB := n5_; clear n0_ n1_ n2_ n3_ n4_ n5_; (try clear hb); (try clear hb2); (try clear hk); (try clear hi); (try clear ho0); (try clear ho1); (try clear ho2)) | ((with_reducible refine gate_dst (N := 12) rfl ?_); (try (refine gate_guard (by rfl) ?_; dsimp only)); refine box_event ?hg (N := 12) ?hd (cs := #[.slice none 0 0, .slice none 0 0, .slice none 0 0]) (t := 26) ?hr ?_; (case hd => rfl); (case hg => rfl); (case hr => first | (go_simp; done) | (go_simp; rfl)); intro gb289 hg w16 hbox hb; have n0_ := am (Kd.R_below (by (with_reducible repeat (first | apply Kd.R_alloc | apply Kd.R_drewN | apply Kd.R_drew)); exact HO273.out) hb); have n1_ := am (Kd.R_below (by (with_reducible repeat (first | apply Kd.R_alloc | apply Kd.R_drewN | apply Kd.R_drew)); exact HO280.out) hb); have n2_ := am (Kd.R_below (by (with_reducible repeat (first | apply Kd.R_alloc | apply Kd.R_drewN | apply Kd.R_drew)); exact HO283.out) hb); have n3_ := am (Kd.R_below (by (with_reducible repeat (first | apply Kd.R_alloc | apply Kd.R_drewN | apply Kd.R_drew)); exact HO286.out) hb); have n4_ := am (blk_below (bu BK269.out) hb); have n5_ := am (below_step bs hb); have n6_ := am (hbox); have n7_ := am ((by rw [hg]; exact (below_size bs) : w.heap.size ≤ gb289)); have n8_ := am ((by rw [hg]; exact (below_size bs) : w.heap.size ≤ gb289)); have n9_ := am ((by rw [hg]; exact Nat.ne_of_lt (blk_lt (bu BK269.out)) : gb269 ≠ gb289)); have n10_ := am ((by rw [hg]; exact Nat.ne_of_gt (blk_lt (bu BK269.out)) : gb289 ≠ gb269)); clear HO273; clear HO280; clear HO283; clear HO286; clear BK269; clear HB; have HO273 := n0_; have HO280 := n1_; have HO283 := n2_; have HO286 := n3_; have BK269 := n4_; have HB := n5_; have BK289 := n6_; have GW289 := n7_; have GE289 := n8_; have NB269_289 := n9_; have NB289_269 := n10_; clear n0_ n1_ n2_ n3_ n4_ n5_ n6_ n7_ n8_ n9_ n10_; clear hb hbox hg; obtain ⟨Ao17, co17, eo17⟩ := Kd.R_slice HO280.out; subst eo17; have hnb18 := NB289_269.out; have hnc18 := NB269_289.out; obtain ⟨⟨hcz19_0, hcz19_1, hcz19_2⟩, hfz19_0, hfz19_1, hfz19_2⟩ := blkAll3 BK289; obtain ⟨Ao20, co20, eo20⟩ := Kd.R_slice HO283.out; subst eo20; obtain ⟨Ao21, co21, eo21⟩ := Kd.R_slice HO286.out; subst eo21))
 (try simp only [Act.put, List.setIfInBounds_toArray, List.set_cons_zero, List.set_cons_succ])
 go_cut [67] (fun v67 wc => ∃ (kq : Nat) (x67_8 : Bool), v67 = .bool x67_8 ∧ Aside0 (w_CodeBack.j0 kq a1 a2 t271 x67_8 = some true) ∧ Aside0 (kq ≤ k) ∧ Aside0 (Kd.R (Kd.int .u8) 5 wc w.heap.size (fun _ => True) (.slice Ao14 t271.length co14) t271) ∧ Aside0 (Kd.R k41 41 wc w.heap.size (fun _ => True) (.slice Ao17 t278.length co17) t278) ∧ Aside0 (Kd.R (Kd.int .u64) 66 wc w.heap.size (fun _ => True) (.slice Ao20 t281.length co20) t281) ∧ Aside0 (Kd.R Kd.string 9 wc w.heap.size (fun _ => True) (.slice Ao21 t284.length co21) t284) ∧ Aside0 (wc.heap[gb269]? = some (.cells #[(.slice A0_0 l0_0.length c0_0), (.slice A0_1 l0_1.length c0_1), (.slice A0_2 l0_2.length c0_2)] 26 (0, 0))) ∧ Aside0 (wc.heap[gb289]? = some (.cells #[(.slice Ao17 t278.length co17), (.slice Ao20 t281.length co20), (.slice Ao21 t284.length co21)] 26 (0, 0))) ∧ Aside0 (Below w.heap.size w wc))
 case first =>
  have H := HC9.out
  clear HC9
  by_cases c22 : t288 = 0
  rotate_left
  ·rw [if_neg c22] at H
   have c22b0 : (t288 == 0) = false := beq_eq_false_iff_ne.mpr c22
   have c22b1 : (t288 != 0) = true := bne_iff_ne.mpr c22
   (first | rw [c22b0] | (simp only [i64_w, i32_w]; rw [c22b0]) | skip)
   have H' := am H
   clear H
   go_wp2
   go_meet
   case rel => exact ⟨_, (true), tv, H', ⟨by first | omega | exact Nat.le_refl _⟩, ⟨by (with_reducible repeat (first | apply Kd.R_alloc | apply Kd.R_drewN | apply Kd.R_drew)); exact Kd.R_mono (Kd.R_far (p := ⟨gb289, 2, none⟩) (Kd.R_far (p := ⟨gb289, 1, none⟩) (Kd.R_far (p := ⟨gb289, 0, none⟩) (Kd.R_types HO273.out BK289.out (by decide)) (fun _ hk => hk.2) (.slice Ao17 t278.length co17)) (fun _ hk => hk.2) (.slice Ao20 t281.length co20)) (fun _ hk => hk.2) (.slice Ao21 t284.length co21)) (fun _ hk => trivial)⟩, ⟨by (with_reducible repeat (first | apply Kd.R_alloc | apply Kd.R_drewN | apply Kd.R_drew)); exact Kd.R_mono (Kd.R_far (p := ⟨gb289, 2, none⟩) (Kd.R_far (p := ⟨gb289, 1, none⟩) (Kd.R_far (p := ⟨gb289, 0, none⟩) (Kd.R_types HO280.out BK289.out (by decide)) (fun _ hk => hk.2) (.slice Ao17 t278.length co17)) (fun _ hk => hk.2) (.slice Ao20 t281.length co20)) (fun _ hk => hk.2) (.slice Ao21 t284.length co21)) (fun _ hk => trivial)⟩, ⟨by (with_reducible repeat (first | apply Kd.R_alloc | apply Kd.R_drewN | apply Kd.R_drew)); exact Kd.R_mono (Kd.R_far (p := ⟨gb289, 2, none⟩) (Kd.R_far (p := ⟨gb289, 1, none⟩) (Kd.R_far (p := ⟨gb289, 0, none⟩) (Kd.R_types HO283.out BK289.out (by decide)) (fun _ hk => hk.2) (.slice Ao17 t278.length co17)) (fun _ hk => hk.2) (.slice Ao20 t281.length co20)) (fun _ hk => hk.2) (.slice Ao21 t284.length co21)) (fun _ hk => trivial)⟩, ⟨by (with_reducible repeat (first | apply Kd.R_alloc | apply Kd.R_drewN | apply Kd.R_drew)); exact Kd.R_mono (Kd.R_far (p := ⟨gb289, 2, none⟩) (Kd.R_far (p := ⟨gb289, 1, none⟩) (Kd.R_far (p := ⟨gb289, 0, none⟩) (Kd.R_types HO286.out BK289.out (by decide)) (fun _ hk => hk.2) (.slice Ao17 t278.length co17)) (fun _ hk => hk.2) (.slice Ao20 t281.length co20)) (fun _ hk => hk.2) (.slice Ao21 t284.length co21)) (fun _ hk => trivial)⟩, ⟨by refine bu ?_; refine blk_far ?_ NB269_289.out _; refine bu ?_; refine blk_far ?_ NB269_289.out _; refine bu ?_; refine blk_far ?_ NB269_289.out _; refine bu ?_; exact BK269.out⟩, ⟨by refine bu ?_; refine blk_put (cs := #[.slice Ao17 t278.length co17, .slice Ao20 t281.length co20, .slice none 0 0]) ?_ 2 _ rfl; refine bu ?_; refine blk_put (cs := #[.slice Ao17 t278.length co17, .slice none 0 0, .slice none 0 0]) ?_ 1 _ rfl; refine bu ?_; refine blk_put (cs := #[.slice none 0 0, .slice none 0 0, .slice none 0 0]) ?_ 0 _ rfl; refine bu ?_; exact BK289.out⟩, ⟨bs⟩⟩
  rw [if_pos c22] at H
  have c22b0 : (t288 == 0) = true := beq_iff_eq.mpr c22
  have c22b1 : (t288 != 0) = false := bne_eq_false_iff_eq.mpr c22
  clear c22
  (first | rw [c22b0] | (simp only [i64_w, i32_w]; rw [c22b0]) | skip)
  by_cases c23 : t287 = 0
  rotate_left
  ·rw [if_neg c23] at H
   have c23b0 : (t287 == 0) = false := beq_eq_false_iff_ne.mpr c23
   have c23b1 : (t287 != 0) = true := bne_iff_ne.mpr c23
   have H' := am H
   clear H
   go_wp2
   go_meet
   case rel => exact ⟨_, (true), tv, H', ⟨by first | omega | exact Nat.le_refl _⟩, ⟨by (with_reducible repeat (first | apply Kd.R_alloc | apply Kd.R_drewN | apply Kd.R_drew)); exact Kd.R_mono (Kd.R_far (p := ⟨gb289, 2, none⟩) (Kd.R_far (p := ⟨gb289, 1, none⟩) (Kd.R_far (p := ⟨gb289, 0, none⟩) (Kd.R_types HO273.out BK289.out (by decide)) (fun _ hk => hk.2) (.slice Ao17 t278.length co17)) (fun _ hk => hk.2) (.slice Ao20 t281.length co20)) (fun _ hk => hk.2) (.slice Ao21 t284.length co21)) (fun _ hk => trivial)⟩, ⟨by (with_reducible repeat (first | apply Kd.R_alloc | apply Kd.R_drewN | apply Kd.R_drew)); exact Kd.R_mono (Kd.R_far (p := ⟨gb289, 2, none⟩) (Kd.R_far (p := ⟨gb289, 1, none⟩) (Kd.R_far (p := ⟨gb289, 0, none⟩) (Kd.R_types HO280.out BK289.out (by decide)) (fun _ hk => hk.2) (.slice Ao17 t278.length co17)) (fun _ hk => hk.2) (.slice Ao20 t281.length co20)) (fun _ hk => hk.2) (.slice Ao21 t284.length co21)) (fun _ hk => trivial)⟩, ⟨by (with_reducible repeat (first | apply Kd.R_alloc | apply Kd.R_drewN | apply Kd.R_drew)); exact Kd.R_mono (Kd.R_far (p := ⟨gb289, 2, none⟩) (Kd.R_far (p := ⟨gb289, 1, none⟩) (Kd.R_far (p := ⟨gb289, 0, none⟩) (Kd.R_types HO283.out BK289.out (by decide)) (fun _ hk => hk.2) (.slice Ao17 t278.length co17)) (fun _ hk => hk.2) (.slice Ao20 t281.length co20)) (fun _ hk => hk.2) (.slice Ao21 t284.length co21)) (fun _ hk => trivial)⟩, ⟨by (with_reducible repeat (first | apply Kd.R_alloc | apply Kd.R_drewN | apply Kd.R_drew)); exact Kd.R_mono (Kd.R_far (p := ⟨gb289, 2, none⟩) (Kd.R_far (p := ⟨gb289, 1, none⟩) (Kd.R_far (p := ⟨gb289, 0, none⟩) (Kd.R_types HO286.out BK289.out (by decide)) (fun _ hk => hk.2) (.slice Ao17 t278.length co17)) (fun _ hk => hk.2) (.slice Ao20 t281.length co20)) (fun _ hk => hk.2) (.slice Ao21 t284.length co21)) (fun _ hk => trivial)⟩, ⟨by refine bu ?_; refine blk_far ?_ NB269_289.out _; refine bu ?_; refine blk_far ?_ NB269_289.out _; refine bu ?_; refine blk_far ?_ NB269_289.out _; refine bu ?_; exact BK269.out⟩, ⟨by refine bu ?_; refine blk_put (cs := #[.slice Ao17 t278.length co17, .slice Ao20 t281.length co20, .slice none 0 0]) ?_ 2 _ rfl; refine bu ?_; refine blk_put (cs := #[.slice Ao17 t278.length co17, .slice none 0 0, .slice none 0 0]) ?_ 1 _ rfl; refine bu ?_; refine blk_put (cs := #[.slice none 0 0, .slice none 0 0, .slice none 0 0]) ?_ 0 _ rfl; refine bu ?_; exact BK289.out⟩, ⟨bs⟩⟩
  rw [if_pos c23] at H
  have c23b0 : (t287 == 0) = true := beq_iff_eq.mpr c23
  have c23b1 : (t287 != 0) = false := bne_eq_false_iff_eq.mpr c23
  clear c23
  replace H := Option.bind_eq_some_iff.mp H
  obtain ⟨t290, A240, H⟩ := H
  replace H : (w_CodeBack.j0 k a1 a2 t271 (!t290)) = some true := H
  have A24 := am A240
  clear A240
  have H' := am H
  clear H
  have hnb25 := NB269_289.out
  have hnc25 := NB289_269.out
  obtain ⟨⟨hcz26_0, hcz26_1, hcz26_2⟩, hfz26_0, hfz26_1, hfz26_2⟩ := blkAll3 BK269
  obtain ⟨⟨hcz27_0, hcz27_1, hcz27_2⟩, hfz27_0, hfz27_1, hfz27_2⟩ := blkAll3 BK289
  go_wp2_with (first | (go_at_call 23; (with_reducible refine (w_same.calls k _ _ l0_0 _ _ l0_1 _ _ l0_2 _ _ t278 _ _ t281 _ _ t284 t290 _ ?side1 ?side2 ?side3 ?side4 ?side5 ?side6 ?side7 ?side8 ?side9 ?side10 ?side11 ?side12 A24.out).mono ?_); (case side1 => exact Kd.C_below HR0_0.out bs); (case side2 => exact HC0_0.out); (case side3 => exact Kd.C_below HR0_1.out bs); (case side4 => exact HC0_1.out); (case side5 => exact Kd.C_below HR0_2.out bs); (case side6 => exact HC0_2.out); (case side7 => refine (Kd.R_reads' (e := 41) (base := w.heap.size) (ok := fun k_ => True) (n := t278.length) (c := co17) ?_).2.2; exact (by (with_reducible repeat (first | apply Kd.R_alloc | apply Kd.R_drewN | apply Kd.R_drew)); exact (Kd.R_mono (Kd.R_far (p := ⟨gb289, 2, none⟩) (Kd.R_far (p := ⟨gb289, 1, none⟩) (Kd.R_far (p := ⟨gb289, 0, none⟩) (Kd.R_types HO280.out BK289.out (by decide)) (fun _ hk => hk.2) (.slice Ao17 t278.length co17)) (fun _ hk => hk.2) (.slice Ao20 t281.length co20)) (fun _ hk => hk.2) (.slice Ao21 t284.length co21)) (fun _ h_ => h_.1)))); (case side8 => exact (Kd.R_reads' HO280.out).2.1); (case side9 => refine (Kd.R_reads' (e := 66) (base := w.heap.size) (ok := fun k_ => True) (n := t281.length) (c := co20) ?_).2.2; exact (by (with_reducible repeat (first | apply Kd.R_alloc | apply Kd.R_drewN | apply Kd.R_drew)); exact (Kd.R_mono (Kd.R_far (p := ⟨gb289, 2, none⟩) (Kd.R_far (p := ⟨gb289, 1, none⟩) (Kd.R_far (p := ⟨gb289, 0, none⟩) (Kd.R_types HO283.out BK289.out (by decide)) (fun _ hk => hk.2) (.slice Ao17 t278.length co17)) (fun _ hk => hk.2) (.slice Ao20 t281.length co20)) (fun _ hk => hk.2) (.slice Ao21 t284.length co21)) (fun _ h_ => h_.1)))); (case side10 => exact (Kd.R_reads' HO283.out).2.1); (case side11 => refine (Kd.R_reads' (e := 9) (base := w.heap.size) (ok := fun k_ => True) (n := t284.length) (c := co21) ?_).2.2; exact (by (with_reducible repeat (first | apply Kd.R_alloc | apply Kd.R_drewN | apply Kd.R_drew)); exact (Kd.R_mono (Kd.R_far (p := ⟨gb289, 2, none⟩) (Kd.R_far (p := ⟨gb289, 1, none⟩) (Kd.R_far (p := ⟨gb289, 0, none⟩) (Kd.R_types HO286.out BK289.out (by decide)) (fun _ hk => hk.2) (.slice Ao17 t278.length co17)) (fun _ hk => hk.2) (.slice Ao20 t281.length co20)) (fun _ hk => hk.2) (.slice Ao21 t284.length co21)) (fun _ h_ => h_.1)))); (case side12 => exact (Kd.R_reads' HO286.out).2.1); rintro e w28 ⟨rfl, hb⟩; have n0_ := am (Kd.R_below (by (with_reducible repeat (first | apply Kd.R_alloc | apply Kd.R_drewN | apply Kd.R_drew)); exact (Kd.R_mono (Kd.R_far (p := ⟨gb289, 2, none⟩) (Kd.R_far (p := ⟨gb289, 1, none⟩) (Kd.R_far (p := ⟨gb289, 0, none⟩) (Kd.R_types HO273.out BK289.out (by decide)) (fun _ hk => hk.2) (.slice Ao17 t278.length co17)) (fun _ hk => hk.2) (.slice Ao20 t281.length co20)) (fun _ hk => hk.2) (.slice Ao21 t284.length co21)) (fun _ h_ => h_.1))) hb); have n1_ := am (Kd.R_below (by (with_reducible repeat (first | apply Kd.R_alloc | apply Kd.R_drewN | apply Kd.R_drew)); exact (Kd.R_mono (Kd.R_far (p := ⟨gb289, 2, none⟩) (Kd.R_far (p := ⟨gb289, 1, none⟩) (Kd.R_far (p := ⟨gb289, 0, none⟩) (Kd.R_types HO280.out BK289.out (by decide)) (fun _ hk => hk.2) (.slice Ao17 t278.length co17)) (fun _ hk => hk.2) (.slice Ao20 t281.length co20)) (fun _ hk => hk.2) (.slice Ao21 t284.length co21)) (fun _ h_ => h_.1))) hb); have n2_ := am (Kd.R_below (by (with_reducible repeat (first | apply Kd.R_alloc | apply Kd.R_drewN | apply Kd.R_drew)); exact (Kd.R_mono (Kd.R_far (p := ⟨gb289, 2, none⟩) (Kd.R_far (p := ⟨gb289, 1, none⟩) (Kd.R_far (p := ⟨gb289, 0, none⟩) (Kd.R_types HO283.out BK289.out (by decide)) (fun _ hk => hk.2) (.slice Ao17 t278.length co17)) (fun _ hk => hk.2) (.slice Ao20 t281.length co20)) (fun _ hk => hk.2) (.slice Ao21 t284.length co21)) (fun _ h_ => h_.1))) hb); have n3_ := am (Kd.R_below (by (with_reducible repeat (first | apply Kd.R_alloc | apply Kd.R_drewN | apply Kd.R_drew)); exact (Kd.R_mono (Kd.R_far (p := ⟨gb289, 2, none⟩) (Kd.R_far (p := ⟨gb289, 1, none⟩) (Kd.R_far (p := ⟨gb289, 0, none⟩) (Kd.R_types HO286.out BK289.out (by decide)) (fun _ hk => hk.2) (.slice Ao17 t278.length co17)) (fun _ hk => hk.2) (.slice Ao20 t281.length co20)) (fun _ hk => hk.2) (.slice Ao21 t284.length co21)) (fun _ h_ => h_.1))) hb); have n4_ := am (blk_below (g := gb269) (o := .cells #[.slice A0_0 l0_0.length c0_0, .slice A0_1 l0_1.length c0_1, .slice A0_2 l0_2.length c0_2] 26 (0, 0)) (by refine bu ?_; refine blk_far ?_ NB269_289.out _; refine bu ?_; refine blk_far ?_ NB269_289.out _; refine bu ?_; refine blk_far ?_ NB269_289.out _; refine bu ?_; exact BK269.out) hb); have n5_ := am (blk_below (g := gb289) (o := .cells #[.slice Ao17 t278.length co17, .slice Ao20 t281.length co20, .slice Ao21 t284.length co21] 26 (0, 0)) (by refine bu ?_; refine blk_put (cs := #[.slice Ao17 t278.length co17, .slice Ao20 t281.length co20, .slice none 0 0]) ?_ 2 _ rfl; refine bu ?_; refine blk_put (cs := #[.slice Ao17 t278.length co17, .slice none 0 0, .slice none 0 0]) ?_ 1 _ rfl; refine bu ?_; refine blk_put (cs := #[.slice none 0 0, .slice none 0 0, .slice none 0 0]) ?_ 0 _ rfl; refine bu ?_; exact BK289.out) hb); have n6_ := am (below_step bs hb); clear HO273; clear HO280; clear HO283; clear HO286; clear BK269; clear BK289; clear HB; have HO273 := n0_; have HO280 := n1_; have HO283 := n2_; have HO286 := n3_; have BK269 := n4_; have BK289 := n5_; have HB := n6_; clear n0_ n1_ n2_ n3_ n4_ n5_ n6_; (try clear hb); (try clear hb2); (try clear hk); (try clear hi)))
  go_meet
  case rel => exact ⟨_, (!t290), tv, H', ⟨by first | omega | exact Nat.le_refl _⟩, ⟨by (with_reducible repeat (first | apply Kd.R_alloc | apply Kd.R_drewN | apply Kd.R_drew)); exact HO273.out⟩, ⟨by (with_reducible repeat (first | apply Kd.R_alloc | apply Kd.R_drewN | apply Kd.R_drew)); exact HO280.out⟩, ⟨by (with_reducible repeat (first | apply Kd.R_alloc | apply Kd.R_drewN | apply Kd.R_drew)); exact HO283.out⟩, ⟨by (with_reducible repeat (first | apply Kd.R_alloc | apply Kd.R_drewN | apply Kd.R_drew)); exact HO286.out⟩, ⟨by refine bu ?_; exact BK269.out⟩, ⟨by refine bu ?_; exact BK289.out⟩, ⟨bs⟩⟩
 case rest =>
  clear HC9
  try clear c1
  try clear c2
  try clear p2
  try clear c5
  try clear c7
  try clear c7b0
  try clear c7b1
  try clear c9
  try clear c11
  try clear c14
  try clear c18
  try clear c22
  try clear c22b0
  try clear c22b1
  try clear c23
  try clear c23b0
  try clear c23b1
  try clear c25
  try clear hcz12_0 hcz12_1 hcz12_2
  try clear hcz19_0 hcz19_1 hcz19_2
  try clear hcz26_0 hcz26_1 hcz26_2
  try clear hcz27_0 hcz27_1 hcz27_2
  try clear hfz12_0 hfz12_1 hfz12_2
  try clear hfz19_0 hfz19_1 hfz19_2
  try clear hfz26_0 hfz26_1 hfz26_2
  try clear hfz27_0 hfz27_1 hfz27_2
  obtain ⟨kq, x67_8, rfl, HA, HJ8, HO_7, HO_290000, HO_290001, HO_290002, BK269, BK289, HB⟩ := hcut
  cases kq with
  | zero => exact absurd HA.out (by simp [w_CodeBack.j0])
  | succ kj8 =>
   have H := HA.out
   clear HA
   simp only [w_CodeBack.j0] at H
   by_cases c29 : x67_8 = true
   ·subst c29
    have H1 : (some false) = some true := by rw [if_pos rfl] at H; exact H
    clear H
    have H := H1
    clear H1
    exact absurd H (by simp)
   replace c29 := Bool.eq_false_iff.mpr c29
   subst c29
   have H1 : (if (IntKind.u64.wrap ((t271.length : Int))) = 0 then (none) else (if 0 ≤ (wrap64 (Int.tmod (IntKind.u64.wrap (a1)) (IntKind.u64.wrap ((t271.length : Int))))) then (if (wrap64 (Int.tmod (IntKind.u64.wrap (a1)) (IntKind.u64.wrap ((t271.length : Int))))) ≤ (t271.length : Int) then ((xDecode.f (t271.take ((wrap64 (Int.tmod (IntKind.u64.wrap (a1)) (IntKind.u64.wrap ((t271.length : Int))))) : Int).toNat)).bind fun bt295 => (if bt295.2.2.2.2 = 261 then (if bt295.2.2.2.1 = (wrap64 (Int.tmod (IntKind.u64.wrap (a1)) (IntKind.u64.wrap ((t271.length : Int))))) then (if ([] : List Int).length + t271.length < 140737488355328 then ((some (([] : List Int) ++ t271 : List Int)).bind fun y306 => (if y306.length < 140737488355328 then ((xDecode.f (y306 ++ [a2])).bind fun bt312 => (if bt312.2.2.2.2 = 261 then (some (bt312.2.2.2.1 == (t271.length : Int))) else (some false))) else (none))) else (none)) else (some false)) else (some false))) else (none)) else (none))) = some true := by rw [if_neg (show ¬ (false = true) by decide)] at H; exact H
   clear H
   have H := H1
   clear H1
   by_cases c30 : (IntKind.u64.wrap ((t271.length : Int))) = 0
   ·rw [if_pos c30] at H
    exact absurd H (by simp)
   rw [if_neg c30] at H
   have c30b0 : ((IntKind.u64.wrap ((t271.length : Int))) == 0) = false := beq_eq_false_iff_ne.mpr c30
   have c30b1 : ((IntKind.u64.wrap ((t271.length : Int))) != 0) = true := bne_iff_ne.mpr c30
   obtain ⟨ji31, hji31⟩ : ∃ j_ : Int, (wrap64 (Int.tmod (IntKind.u64.wrap (a1)) (IntKind.u64.wrap ((t271.length : Int))))) = j_ := ⟨_, rfl⟩
   replace H : (if 0 ≤ (ji31) then (if (ji31) ≤ (t271.length : Int) then ((xDecode.f (t271.take ((ji31) : Int).toNat)).bind fun bt295 => (if bt295.2.2.2.2 = 261 then (if bt295.2.2.2.1 = (ji31) then (if ([] : List Int).length + t271.length < 140737488355328 then ((some (([] : List Int) ++ t271 : List Int)).bind fun y306 => (if y306.length < 140737488355328 then ((xDecode.f (y306 ++ [a2])).bind fun bt312 => (if bt312.2.2.2.2 = 261 then (some (bt312.2.2.2.1 == (t271.length : Int))) else (some false))) else (none))) else (none)) else (some false)) else (some false))) else (none)) else (none)) = some true := by first | (rw [hji31] at H; exact H) | (simp only [hji31] at H ⊢; exact H)
   have hji31w : (IntKind.i64.wrap (Int.tmod (IntKind.u64.wrap (a1)) (IntKind.u64.wrap ((t271.length : Int))))) = ji31 := (i64_w _).trans hji31
   by_cases c32 : 0 ≤ (ji31)
   rotate_left
   ·rw [if_neg c32] at H
    exact absurd H (by simp)
   rw [if_pos c32] at H
   have c32b0 := eq_true c32
   have c32b1 := decide_eq_true c32
   clear c32
   by_cases c33 : (ji31) ≤ (t271.length : Int)
   rotate_left
   ·rw [if_neg c33] at H
    exact absurd H (by simp)
   rw [if_pos c33] at H
   have c33b0 := eq_true c33
   have c33b1 := decide_eq_true c33
   clear c33
   obtain ⟨y291, hy291⟩ : ∃ y_ : List Int, y_ = (t271.take ((ji31) : Int).toNat) := ⟨_, rfl⟩
   replace H : ((xDecode.f y291).bind fun bt295 => (if bt295.2.2.2.2 = 261 then (if bt295.2.2.2.1 = (ji31) then (if ([] : List Int).length + t271.length < 140737488355328 then ((some (([] : List Int) ++ t271 : List Int)).bind fun y306 => (if y306.length < 140737488355328 then ((xDecode.f (y306 ++ [a2])).bind fun bt312 => (if bt312.2.2.2.2 = 261 then (some (bt312.2.2.2.1 == (t271.length : Int))) else (some false))) else (none))) else (none)) else (some false)) else (some false))) = some true := by first | (rw [hy291]; with_reducible exact H) | (have H2_ := (Option.bind_some _ _).symm.trans H; rw [hy291]; with_reducible exact H2_) | (have H2_ := (Option.bind_some _ _).symm.trans H; with_reducible exact H2_) | with_reducible exact H | (rw [hy291]; exact H) | exact H
   have Ny291 := am hy291
   clear hy291
   replace H := Option.bind_eq_some_iff.mp H
   obtain ⟨⟨t295, t298, t301, t304, t305⟩, A340, H⟩ := H
   replace H : (if t305 = 261 then (if t304 = (ji31) then (if ([] : List Int).length + t271.length < 140737488355328 then ((some (([] : List Int) ++ t271 : List Int)).bind fun y306 => (if y306.length < 140737488355328 then ((xDecode.f (y306 ++ [a2])).bind fun bt312 => (if bt312.2.2.2.2 = 261 then (some (bt312.2.2.2.1 == (t271.length : Int))) else (some false))) else (none))) else (none)) else (some false)) else (some false)) = some true := H
   have A34 := am A340
   clear A340
   by_cases c35 : t305 = 261
   rotate_left
   ·rw [if_neg c35] at H
    have c35b0 : (t305 == 261) = false := beq_eq_false_iff_ne.mpr c35
    have c35b1 : (t305 != 261) = true := bne_iff_ne.mpr c35
    exact absurd H (by simp)
   rw [if_pos c35] at H
   have c35b0 : (t305 == 261) = true := beq_iff_eq.mpr c35
   have c35b1 : (t305 != 261) = false := bne_eq_false_iff_eq.mpr c35
   clear c35
   by_cases c36 : t304 = (ji31)
   rotate_left
   ·rw [if_neg c36] at H
    have c36b0 : (t304 == (ji31)) = false := beq_eq_false_iff_ne.mpr c36
    have c36b1 : (t304 != (ji31)) = true := bne_iff_ne.mpr c36
    exact absurd H (by simp)
   rw [if_pos c36] at H
   have c36b0 : (t304 == (ji31)) = true := beq_iff_eq.mpr c36
   have c36b1 : (t304 != (ji31)) = false := bne_eq_false_iff_eq.mpr c36
   clear c36
   by_cases c37 : ([] : List Int).length + t271.length < 140737488355328
   rotate_left
   ·rw [if_neg c37] at H
    exact absurd H (by simp)
   rw [if_pos c37] at H
   have LMc37 := am c37
   clear c37
   obtain ⟨y306, hy306⟩ : ∃ y_ : List Int, y_ = (([] : List Int) ++ t271) := ⟨_, rfl⟩
   replace H : (if y306.length < 140737488355328 then ((xDecode.f (y306 ++ [a2])).bind fun bt312 => (if bt312.2.2.2.2 = 261 then (some (bt312.2.2.2.1 == (t271.length : Int))) else (some false))) else (none)) = some true := by first | (rw [hy306]; with_reducible exact H) | (have H2_ := (Option.bind_some _ _).symm.trans H; rw [hy306]; with_reducible exact H2_) | (have H2_ := (Option.bind_some _ _).symm.trans H; with_reducible exact H2_) | with_reducible exact H | (rw [hy306]; exact H) | exact H
   have Ny306 := am hy306
   clear hy306
   by_cases c38 : y306.length < 140737488355328
   rotate_left
   ·rw [if_neg c38] at H
    exact absurd H (by simp)
   rw [if_pos c38] at H
   have LMc38 := am c38
   clear c38
   obtain ⟨y309, hy309⟩ : ∃ y_ : List Int, y_ = (y306 ++ [a2]) := ⟨_, rfl⟩
   replace H : ((xDecode.f y309).bind fun bt312 => (if bt312.2.2.2.2 = 261 then (some (bt312.2.2.2.1 == (t271.length : Int))) else (some false))) = some true := by first | (rw [hy309]; with_reducible exact H) | (have H2_ := (Option.bind_some _ _).symm.trans H; rw [hy309]; with_reducible exact H2_) | (have H2_ := (Option.bind_some _ _).symm.trans H; with_reducible exact H2_) | with_reducible exact H | (rw [hy309]; exact H) | exact H
   have Ny309 := am hy309
   clear hy309
   replace H := Option.bind_eq_some_iff.mp H
   obtain ⟨⟨t312, t315, t318, t321, t322⟩, A390, H⟩ := H
   replace H : (if t322 = 261 then (some (t321 == (t271.length : Int))) else (some false)) = some true := H
   have A39 := am A390
   clear A390
   by_cases c40 : t322 = 261
   rotate_left
   ·rw [if_neg c40] at H
    have c40b0 : (t322 == 261) = false := beq_eq_false_iff_ne.mpr c40
    have c40b1 : (t322 != 261) = true := bne_iff_ne.mpr c40
    exact absurd H (by simp)
   rw [if_pos c40] at H
   have c40b0 : (t322 == 261) = true := beq_iff_eq.mpr c40
   have c40b1 : (t322 != 261) = false := bne_eq_false_iff_eq.mpr c40
   clear c40
   have HX := am (Option.some.inj H)
   clear H
   have q41 : ((ji31) : Int) ≤ ((t271.length : Int) : Int) := of_decide_eq_true od
   obtain ⟨i041, hi041, _, hsz41, _⟩ := info_parts info5
   have hroom41 : t271.length ≤ co14 := (Kd.R_reads' HO_7.out).2.1
   have hC41 : Kd.C (Kd.int .u8) _ Ao14 t271.length t271 := (Kd.R_reads' HO_7.out).2.2
   have hcut41 := cut_to (P := Tryd.prog) 34 5 .i64 Tryd.underlying34 hi041 Ao14 t271.length co14 (ji31) (of_decide_eq_true od) q41 hroom41
   have hr41 := Kd.C_take (m := ((ji31) : Int).toNat) hC41 (by omega)
   have hy41 : y291.length = ((ji31) : Int).toNat := (by rw [Ny291.out, List.length_take]; omega)
   rw [← Ny291.out] at hr41
   rw [← hy41] at hcut41
   have HR294 := am hr41
   have HC294 := am (show y291.length ≤ co14 from by omega)
   clear hr41 hC41 hroom41 hi041 hsz41
   have KY41 := am hy41
   clear hy41
   have KL41 := am (show ((ji31) : Int).toNat ≤ t271.length from by omega)
   replace q41 := eq_true q41
   go_wp2_with (first | ((with_reducible refine gate_callee (f := 22) rfl ?_); refine goesL_ (some 79) rfl rfl Tryd.func22 (by kernel_rfl) rfl #[.slice Ao14 y291.length co14] rfl ls ?_; (with_reducible refine (xDecode.calls _ _ y291 t295 t298 t301 t304 t305 _ ?side1 ?side2 A34.out).mono ?_); (case side1 => repeat (first | exact (by repeat (first | (with_reducible exact HR294.out) | (with_reducible refine Kd.C_alloc ?_ _) | (with_reducible refine Kd.C_drewN ?_ _) | (with_reducible refine Kd.C_drew ?_) | exact HR294.out)) | (with_reducible refine Kd.C_alloc ?_ _) | (with_reducible refine Kd.C_drewN ?_ _) | (with_reducible refine Kd.C_drew ?_))); (case side2 => exact HC294.out); rintro e w42 ⟨v296, v299, v302, rfl, ho0, ho1, ho2, hb⟩; refine ⟨_, rfl, ?_⟩; have n0_ := am (Kd.R_below (by (with_reducible repeat (first | apply Kd.R_alloc | apply Kd.R_drewN | apply Kd.R_drew)); exact HO_7.out) hb); have n1_ := am (Kd.R_elder' (by (with_reducible repeat (first | apply Kd.R_alloc | apply Kd.R_drewN | apply Kd.R_drew)); exact HO_290000.out) (Kd.R_base ho0) hb); have n2_ := am (Kd.R_elder' (by (with_reducible repeat (first | apply Kd.R_alloc | apply Kd.R_drewN | apply Kd.R_drew)); exact HO_290001.out) (Kd.R_base ho1) hb); have n3_ := am (Kd.R_elder' (by (with_reducible repeat (first | apply Kd.R_alloc | apply Kd.R_drewN | apply Kd.R_drew)); exact HO_290002.out) (Kd.R_base ho2) hb); have n4_ := am (Kd.R_lower (Kd.R_new' ho0 (Kd.R_lt (by (with_reducible repeat (first | apply Kd.R_alloc | apply Kd.R_drewN | apply Kd.R_drew)); exact HO_290000.out))) (below_size bs)); have n5_ := am (Kd.R_lower (Kd.R_new' ho1 (Kd.R_lt (by (with_reducible repeat (first | apply Kd.R_alloc | apply Kd.R_drewN | apply Kd.R_drew)); exact HO_290001.out))) (below_size bs)); have n6_ := am (Kd.R_lower (Kd.R_new' ho2 (Kd.R_lt (by (with_reducible repeat (first | apply Kd.R_alloc | apply Kd.R_drewN | apply Kd.R_drew)); exact HO_290002.out))) (below_size bs)); have n7_ := am (blk_below (bu BK269.out) hb); have n8_ := am (blk_below (bu BK289.out) hb); have n9_ := am (Kd.C_below (by repeat (first | (with_reducible exact HR294.out) | (with_reducible refine Kd.C_alloc ?_ _) | (with_reducible refine Kd.C_drewN ?_ _) | (with_reducible refine Kd.C_drew ?_) | exact HR294.out)) hb); have n10_ := am (below_step bs hb); clear HO_7; clear HO_290000; clear HO_290001; clear HO_290002; clear BK269; clear BK289; clear HR294; clear HB; have HO_7 := n0_; have HO_290000 := n1_; have HO_290001 := n2_; have HO_290002 := n3_; have HO297 := n4_; have HO300 := n5_; have HO303 := n6_; have BK269 := n7_; have BK289 := n8_; have HR294 := n9_; have HB := n10_; clear n0_ n1_ n2_ n3_ n4_ n5_ n6_ n7_ n8_ n9_ n10_; (try clear hb); (try clear hb2); (try clear hk); (try clear hi); (try clear ho0); (try clear ho1); (try clear ho2)) | ((with_reducible refine gate_dst (N := 93) rfl ?_); refine R_make1 (Kd.int .u8) (w0 := w) w.heap.size 5 rfl (N := 93) rfl 34 (.const (.int .i64 0)) (.tmp 92) rfl (wrap64 ((t271.length : Int) + 1)) rfl rfl Tryd.underlying34 (.int .u8 0) 1 info5 rfl (by decide) (ok := fun k_ => some k_ ≠ (.slice Ao14 t271.length co14 : Value).ownBlock) ?mF ?m0 ?mL ?mB ?mS ?_; (case mF => exact Kd.fresh' (Kd.R_lt HO_7.out) _ (Nat.le_refl _)); (case m0 => have h_ := LMc37.out; simp only [List.length_nil, Nat.zero_add] at h_; have e_ : wrap64 ((t271.length : Int) + 1) = (t271.length : Int) + 1 := (by unfold wrap64; omega); omega); (case mL => have h_ := LMc37.out; simp only [List.length_nil, Nat.zero_add] at h_; have e_ : wrap64 ((t271.length : Int) + 1) = (t271.length : Int) + 1 := (by unfold wrap64; omega); rw [e_]; omega); (case mB => exact bs); (case mS => exact (below_size bs)); intro vM_ wM_ hoM_ hbM_ hb2M_ hatM_) | ((with_reducible refine gate_builtin (b := .append) (xs := #[.tmp 93, .tmp 94]) rfl ?_); (try (refine gate_guard (by rfl) ?_; dsimp only)); at_builtin; refine Kd.R_append_rows (Kd.int .u8) (w0 := w) w.heap.size rfl (.tmp 93) (.tmp 94) 34 5 (.int .u8 0) 1 rfl Tryd.underlying34 info5 rfl (by decide) (by omega) vM_ ([] : List Int) t271 _ _ _ (fun k_ => some k_ ≠ (.slice Ao14 t271.length co14 : Value).ownBlock) (fun _ => False) rfl rfl ?aO ?aR (fun _ _ h => h) (fun _ h => h.elim) ?aF ?aB ?aS ?aL ?_; (case aR => exact Kd.C_below (Kd.R_reads' HO_7.out).2.2 hb2M_); (case aB => exact hbM_); (case aF => exact (fun k_ hk => Kd.fresh' (Kd.R_lt (Kd.R_below HO_7.out hb2M_)) k_ hk)); (case aO => exact hoM_); (case aS => exact (below_size hbM_)); (case aL => have := LMc37.out; omega); intro v307 w43 ho hb hg hat; have hq_ := below_grown hb2M_ hatM_ hg; rw [← Ny306.out] at ho; have n0_ := am (Kd.R_after (Kd.R_elder' (by (with_reducible repeat (first | apply Kd.R_alloc | apply Kd.R_drewN | apply Kd.R_drew)); exact HO_7.out) (base_at hatM_) hb2M_) hg hat); have n1_ := am (Kd.R_below (by (with_reducible repeat (first | apply Kd.R_alloc | apply Kd.R_drewN | apply Kd.R_drew)); exact HO_290000.out) hq_); have n2_ := am (Kd.R_below (by (with_reducible repeat (first | apply Kd.R_alloc | apply Kd.R_drewN | apply Kd.R_drew)); exact HO_290001.out) hq_); have n3_ := am (Kd.R_below (by (with_reducible repeat (first | apply Kd.R_alloc | apply Kd.R_drewN | apply Kd.R_drew)); exact HO_290002.out) hq_); have n4_ := am (blk_below (bu BK269.out) hq_); have n5_ := am (blk_below (bu BK289.out) hq_); have n6_ := am (Kd.R_below (by (with_reducible repeat (first | apply Kd.R_alloc | apply Kd.R_drewN | apply Kd.R_drew)); exact HO297.out) hq_); have n7_ := am (Kd.R_below (by (with_reducible repeat (first | apply Kd.R_alloc | apply Kd.R_drewN | apply Kd.R_drew)); exact HO300.out) hq_); have n8_ := am (Kd.R_below (by (with_reducible repeat (first | apply Kd.R_alloc | apply Kd.R_drewN | apply Kd.R_drew)); exact HO303.out) hq_); have n9_ := am (hb); have n10_ := am ((show Kd.C (Kd.int .u8) w43 Ao14 y291.length y291 from by rw [Ny291.out]; exact Kd.C_take (m := ((ji31) : Int).toNat) ((Kd.R_reads' (Kd.R_after (Kd.R_elder' (by (with_reducible repeat (first | apply Kd.R_alloc | apply Kd.R_drewN | apply Kd.R_drew)); exact HO_7.out) (base_at hatM_) hb2M_) hg hat)).2.2) KL41.out)); have n11_ := am (ho); clear HO_7; clear HO_290000; clear HO_290001; clear HO_290002; clear BK269; clear BK289; clear HO297; clear HO300; clear HO303; clear HB; clear HR294; have HO_7 := n0_; have HO_290000 := n1_; have HO_290001 := n2_; have HO_290002 := n3_; have BK269 := n4_; have BK289 := n5_; have HO297 := n6_; have HO300 := n7_; have HO303 := n8_; have HB := n9_; have HR294 := n10_; have HO308 := n11_; clear n0_ n1_ n2_ n3_ n4_ n5_ n6_ n7_ n8_ n9_ n10_ n11_; clear ho hb hg hat hq_ hoM_ hbM_ hb2M_ hatM_) | ((with_reducible refine gate_builtin (b := .append) (xs := #[.tmp 96, .tmp 98]) rfl ?_); (try (refine gate_guard (by rfl) ?_; dsimp only)); at_builtin; refine Kd.R_append (Kd.int .u8) (w0 := w) w.heap.size rfl (.tmp 96) (.tmp 98) 34 5 (.int .u8 0) 1 rfl Tryd.underlying34 info5 rfl (by decide) (by omega) v307 y306 a2 [.int .u8 a2] (fun k_ => some k_ ≠ (.slice Ao14 t271.length co14 : Value).ownBlock) (fun _ => False) rfl rfl ?aP (fun _ hk => hk.elim) ?aF ?aO ?aB ?aS ?aL ?_; (case aP => exact rfl); (case aB => exact bs); (case aF => exact (fun k_ hk => Kd.fresh' (Kd.R_lt (by (with_reducible repeat (first | apply Kd.R_alloc | apply Kd.R_drewN | apply Kd.R_drew)); exact HO_7.out)) k_ hk)); (case aO => exact (by (with_reducible repeat (first | apply Kd.R_alloc | apply Kd.R_drewN | apply Kd.R_drew)); exact HO308.out)); (case aS => exact (below_size bs)); (case aL => have := LMc38.out; omega); intro v310 w44 ho hb hg hat; rw [← Ny309.out] at ho; have n0_ := am (Kd.R_after (ok := (fun _ => True)) (by (with_reducible repeat (first | apply Kd.R_alloc | apply Kd.R_drewN | apply Kd.R_drew)); exact HO_7.out) hg hat); have n1_ := am (Kd.R_over' (by (with_reducible repeat (first | apply Kd.R_alloc | apply Kd.R_drewN | apply Kd.R_drew)); exact HO_290000.out) (Kd.R_typed (by (with_reducible repeat (first | apply Kd.R_alloc | apply Kd.R_drewN | apply Kd.R_drew)); exact HO308.out)) (by decide) hg); have n2_ := am (Kd.R_over' (by (with_reducible repeat (first | apply Kd.R_alloc | apply Kd.R_drewN | apply Kd.R_drew)); exact HO_290001.out) (Kd.R_typed (by (with_reducible repeat (first | apply Kd.R_alloc | apply Kd.R_drewN | apply Kd.R_drew)); exact HO308.out)) (by decide) hg); have n3_ := am (Kd.R_over' (by (with_reducible repeat (first | apply Kd.R_alloc | apply Kd.R_drewN | apply Kd.R_drew)); exact HO_290002.out) (Kd.R_typed (by (with_reducible repeat (first | apply Kd.R_alloc | apply Kd.R_drewN | apply Kd.R_drew)); exact HO308.out)) (by decide) hg); have n4_ := am (blk_grown (g := gb269) (o := .cells #[.slice A0_0 l0_0.length c0_0, .slice A0_1 l0_1.length c0_1, .slice A0_2 l0_2.length c0_2] 26 (0, 0)) (bu BK269.out) hg (Kd.R_ne HO308.out BK269.out (by decide))); have n5_ := am (blk_grown (g := gb289) (o := .cells #[.slice Ao17 t278.length co17, .slice Ao20 t281.length co20, .slice Ao21 t284.length co21] 26 (0, 0)) (bu BK289.out) hg (Kd.R_ne HO308.out BK289.out (by decide))); have n6_ := am (Kd.R_over' (by (with_reducible repeat (first | apply Kd.R_alloc | apply Kd.R_drewN | apply Kd.R_drew)); exact HO297.out) (Kd.R_typed (by (with_reducible repeat (first | apply Kd.R_alloc | apply Kd.R_drewN | apply Kd.R_drew)); exact HO308.out)) (by decide) hg); have n7_ := am (Kd.R_over' (by (with_reducible repeat (first | apply Kd.R_alloc | apply Kd.R_drewN | apply Kd.R_drew)); exact HO300.out) (Kd.R_typed (by (with_reducible repeat (first | apply Kd.R_alloc | apply Kd.R_drewN | apply Kd.R_drew)); exact HO308.out)) (by decide) hg); have n8_ := am (Kd.R_over' (by (with_reducible repeat (first | apply Kd.R_alloc | apply Kd.R_drewN | apply Kd.R_drew)); exact HO303.out) (Kd.R_typed (by (with_reducible repeat (first | apply Kd.R_alloc | apply Kd.R_drewN | apply Kd.R_drew)); exact HO308.out)) (by decide) hg); have n9_ := am (hb); have n10_ := am ((show Kd.C (Kd.int .u8) w44 Ao14 y291.length y291 from by rw [Ny291.out]; exact Kd.C_take (m := ((ji31) : Int).toNat) ((Kd.R_reads' (Kd.R_after (ok := (fun _ => True)) (by (with_reducible repeat (first | apply Kd.R_alloc | apply Kd.R_drewN | apply Kd.R_drew)); exact HO_7.out) hg hat)).2.2) KL41.out)); have n11_ := am (ho); clear HO_7; clear HO_290000; clear HO_290001; clear HO_290002; clear BK269; clear BK289; clear HO297; clear HO300; clear HO303; clear HB; clear HR294; clear HO308; have HO_7 := n0_; have HO_290000 := n1_; have HO_290001 := n2_; have HO_290002 := n3_; have BK269 := n4_; have BK289 := n5_; have HO297 := n6_; have HO300 := n7_; have HO303 := n8_; have HB := n9_; have HR294 := n10_; have HO311 := n11_; clear n0_ n1_ n2_ n3_ n4_ n5_ n6_ n7_ n8_ n9_ n10_ n11_; clear ho hb hg hat; obtain ⟨Ao45, co45, eo45⟩ := Kd.R_slice HO311.out; subst eo45) | ((with_reducible refine gate_callee (f := 22) rfl ?_); refine goesL_ (some 102) rfl rfl Tryd.func22 (by kernel_rfl) rfl #[.slice Ao45 y309.length co45] rfl ls ?_; (with_reducible refine (xDecode.calls _ _ y309 t312 t315 t318 t321 t322 _ ?side1 ?side2 A39.out).mono ?_); (case side1 => repeat (first | exact (Kd.R_reads' HO311.out).2.2 | (with_reducible refine Kd.C_alloc ?_ _) | (with_reducible refine Kd.C_drewN ?_ _) | (with_reducible refine Kd.C_drew ?_))); (case side2 => exact (Kd.R_reads' HO311.out).2.1); rintro e w46 ⟨v313, v316, v319, rfl, ho0, ho1, ho2, hb⟩; refine ⟨_, rfl, ?_⟩; have n0_ := am (Kd.R_below (by (with_reducible repeat (first | apply Kd.R_alloc | apply Kd.R_drewN | apply Kd.R_drew)); exact HO_7.out) hb); have n1_ := am (Kd.R_elder' (by (with_reducible repeat (first | apply Kd.R_alloc | apply Kd.R_drewN | apply Kd.R_drew)); exact HO_290000.out) (Kd.R_base ho0) hb); have n2_ := am (Kd.R_elder' (by (with_reducible repeat (first | apply Kd.R_alloc | apply Kd.R_drewN | apply Kd.R_drew)); exact HO_290001.out) (Kd.R_base ho1) hb); have n3_ := am (Kd.R_elder' (by (with_reducible repeat (first | apply Kd.R_alloc | apply Kd.R_drewN | apply Kd.R_drew)); exact HO_290002.out) (Kd.R_base ho2) hb); have n4_ := am (Kd.R_elder' (by (with_reducible repeat (first | apply Kd.R_alloc | apply Kd.R_drewN | apply Kd.R_drew)); exact HO297.out) (Kd.R_base ho0) hb); have n5_ := am (Kd.R_elder' (by (with_reducible repeat (first | apply Kd.R_alloc | apply Kd.R_drewN | apply Kd.R_drew)); exact HO300.out) (Kd.R_base ho1) hb); have n6_ := am (Kd.R_elder' (by (with_reducible repeat (first | apply Kd.R_alloc | apply Kd.R_drewN | apply Kd.R_drew)); exact HO303.out) (Kd.R_base ho2) hb); have n7_ := am (Kd.R_below (by (with_reducible repeat (first | apply Kd.R_alloc | apply Kd.R_drewN | apply Kd.R_drew)); exact HO311.out) hb); have n8_ := am (Kd.R_lower (Kd.R_new' (Kd.R_new' ho0 (Kd.R_lt (by (with_reducible repeat (first | apply Kd.R_alloc | apply Kd.R_drewN | apply Kd.R_drew)); exact HO_290000.out))) (Kd.R_lt (by (with_reducible repeat (first | apply Kd.R_alloc | apply Kd.R_drewN | apply Kd.R_drew)); exact HO297.out))) (below_size bs)); have n9_ := am (Kd.R_lower (Kd.R_new' (Kd.R_new' ho1 (Kd.R_lt (by (with_reducible repeat (first | apply Kd.R_alloc | apply Kd.R_drewN | apply Kd.R_drew)); exact HO_290001.out))) (Kd.R_lt (by (with_reducible repeat (first | apply Kd.R_alloc | apply Kd.R_drewN | apply Kd.R_drew)); exact HO300.out))) (below_size bs)); have n10_ := am (Kd.R_lower (Kd.R_new' (Kd.R_new' ho2 (Kd.R_lt (by (with_reducible repeat (first | apply Kd.R_alloc | apply Kd.R_drewN | apply Kd.R_drew)); exact HO_290002.out))) (Kd.R_lt (by (with_reducible repeat (first | apply Kd.R_alloc | apply Kd.R_drewN | apply Kd.R_drew)); exact HO303.out))) (below_size bs)); have n11_ := am (blk_below (bu BK269.out) hb); have n12_ := am (blk_below (bu BK289.out) hb); have n13_ := am (Kd.C_below (by repeat (first | (with_reducible exact HR294.out) | (with_reducible refine Kd.C_alloc ?_ _) | (with_reducible refine Kd.C_drewN ?_ _) | (with_reducible refine Kd.C_drew ?_) | exact HR294.out)) hb); have n14_ := am (below_step bs hb); clear HO_7; clear HO_290000; clear HO_290001; clear HO_290002; clear HO297; clear HO300; clear HO303; clear HO311; clear BK269; clear BK289; clear HR294; clear HB; have HO_7 := n0_; have HO_290000 := n1_; have HO_290001 := n2_; have HO_290002 := n3_; have HO297 := n4_; have HO300 := n5_; have HO303 := n6_; have HO311 := n7_; have HO314 := n8_; have HO317 := n9_; have HO320 := n10_; have BK269 := n11_; have BK289 := n12_; have HR294 := n13_; have HB := n14_; clear n0_ n1_ n2_ n3_ n4_ n5_ n6_ n7_ n8_ n9_ n10_ n11_ n12_ n13_ n14_; (try clear hb); (try clear hb2); (try clear hk); (try clear hi); (try clear ho0); (try clear ho1); (try clear ho2)))
   go_ret
   exact ⟨by first | exact congrArg (fun b_ => Ending.returned (Value.bool b_)) HX.out | (have hx_ := HX.out; simp at hx_ ⊢; done) | (have hx_ := HX.out; simp at hx_ ⊢; exact hx_) | (have hx_ := HX.out; simp_all) | (simp only [← hji31]; first | rfl | (simp [errW_none, errW_some] <;> rfl)) | (simp [*, errW_none, errW_some] <;> rfl), bs⟩
end Go.Proofs.YtdkejcadoepnnaaDoor.ECc
