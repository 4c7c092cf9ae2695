/-
  A text of this session's own.
-/
import Derived.Test.YtdkejcadoepnnaaDoorHeA0
import Derived.Test.YtdkejcadoepnnaaDoorHeECcx18h
namespace Go.Proofs.YtdkejcadoepnnaaDoor.ECc
open Go.RowKit Go.Proofs.YtdkejcadoepnnaaDoorW.PrintWords Go.Proofs.YtdkejcadoepnnaaDoorW.PrintLast Go.Proofs.YtdkejcadoepnnaaDoorW.PrintMore
attribute [local go_sem] max2_int min2_int max_two min_two max_three min_three max_four min_four   -- for this text's walks alone
open Go.Proofs.YtdkejcadoepnnaaDoor.X
set_option linter.unusedVariables false
set_option linter.unusedSimpArgs false
set_option maxHeartbeats 8000000 in
set_option maxRecDepth 100000 in
theorem w_CodeHeights.calls (k : Nat) (A0_0 : Option Addr) (c0_0 : Nat) (l0_0 : List (S41)) (A0_1 : Option Addr) (c0_1 : Nat) (l0_1 : List Int) (A0_2 : Option Addr) (c0_2 : Nat) (l0_2 : List ByteArray) (r : Bool) (w : World) (hr0_0 : Kd.C k41 w A0_0 l0_0.length l0_0) (hc0_0 : l0_0.length ≤ c0_0) (hr0_1 : Kd.C (Kd.int .u64) w A0_1 l0_1.length l0_1) (hc0_1 : l0_1.length ≤ c0_1) (hr0_2 : Kd.C Kd.string w A0_2 l0_2.length l0_2) (hc0_2 : l0_2.length ≤ c0_2) (hG : GW w) (h : w_CodeHeights.f k l0_0 l0_1 l0_2 = some r) :
  Calls Tryd.prog 3 #[.agg #[.slice A0_0 l0_0.length c0_0, .slice A0_1 l0_1.length c0_1, .slice A0_2 l0_2.length c0_2]] w fun e w' => e = .returned (.bool r) ∧ Below w.heap.size w w' := by
 have hu26 := Tryd.underlying26
 have hu41 := Tryd.underlying41
 have HR0_0 := Aside0.mk hr0_0
 have HC0_0 := Aside0.mk hc0_0
 clear hr0_0 hc0_0
 have HR0_1 := Aside0.mk hr0_1
 have HC0_1 := Aside0.mk hc0_1
 clear hr0_1 hc0_1
 have HR0_2 := Aside0.mk hr0_2
 have HC0_2 := Aside0.mk hc0_2
 clear hr0_2 hc0_2
 have HB := Aside0.mk (Below.refl w.heap.size w)
 have HG := Aside0.mk hG
 clear hG
 have H : ((abacuslaw26_awake.f k).bind fun t262 => (if t262 = true then ((code_Heights.f k l0_0 l0_1 l0_2).bind fun bt263 => ((code_Check.f k l0_0 l0_1 l0_2).bind fun bt268 => ((code_Encode.f k l0_0 l0_1 l0_2).bind fun bt271 => ((code_List.f k l0_0 l0_1 l0_2).bind fun bt275 => (if bt263.2.2 = bt268.2.2 then (w_CodeHeights.j0 k (l0_0.length : Int) bt263.1 bt263.2.1 bt263.2.2 bt268.1 bt271.2 bt275.2 (bt263.2.1 != bt268.2.1) l0_0 l0_1 l0_2) else (w_CodeHeights.j0 k (l0_0.length : Int) bt263.1 bt263.2.1 bt263.2.2 bt268.1 bt271.2 bt275.2 true l0_0 l0_1 l0_2)))))) else (some false))) = some r := h
 clear h
 replace H := Option.bind_eq_some_iff.mp H
 obtain ⟨t262, A20, H⟩ := H
 replace H : (if t262 = true then ((code_Heights.f k l0_0 l0_1 l0_2).bind fun bt263 => ((code_Check.f k l0_0 l0_1 l0_2).bind fun bt268 => ((code_Encode.f k l0_0 l0_1 l0_2).bind fun bt271 => ((code_List.f k l0_0 l0_1 l0_2).bind fun bt275 => (if bt263.2.2 = bt268.2.2 then (w_CodeHeights.j0 k (l0_0.length : Int) bt263.1 bt263.2.1 bt263.2.2 bt268.1 bt271.2 bt275.2 (bt263.2.1 != bt268.2.1) l0_0 l0_1 l0_2) else (w_CodeHeights.j0 k (l0_0.length : Int) bt263.1 bt263.2.1 bt263.2.2 bt268.1 bt271.2 bt275.2 true l0_0 l0_1 l0_2)))))) else (some false)) = some r := H
 have A2 := Aside0.mk A20
 clear A20
 by_cases c3 : t262 = true
 ·subst c3
  have H1 : ((code_Heights.f k l0_0 l0_1 l0_2).bind fun bt263 => ((code_Check.f k l0_0 l0_1 l0_2).bind fun bt268 => ((code_Encode.f k l0_0 l0_1 l0_2).bind fun bt271 => ((code_List.f k l0_0 l0_1 l0_2).bind fun bt275 => (if bt263.2.2 = bt268.2.2 then (w_CodeHeights.j0 k (l0_0.length : Int) bt263.1 bt263.2.1 bt263.2.2 bt268.1 bt271.2 bt275.2 (bt263.2.1 != bt268.2.1) l0_0 l0_1 l0_2) else (w_CodeHeights.j0 k (l0_0.length : Int) bt263.1 bt263.2.1 bt263.2.2 bt268.1 bt271.2 bt275.2 true l0_0 l0_1 l0_2)))))) = some r := by rw [if_pos rfl] at H; exact H
  clear H
  have H := H1
  clear H1
  replace H := Option.bind_eq_some_iff.mp H
  obtain ⟨⟨t263, t266, t267⟩, A40, H⟩ := H
  replace H : ((code_Check.f k l0_0 l0_1 l0_2).bind fun bt268 => ((code_Encode.f k l0_0 l0_1 l0_2).bind fun bt271 => ((code_List.f k l0_0 l0_1 l0_2).bind fun bt275 => (if t267 = bt268.2.2 then (w_CodeHeights.j0 k (l0_0.length : Int) t263 t266 t267 bt268.1 bt271.2 bt275.2 (t266 != bt268.2.1) l0_0 l0_1 l0_2) else (w_CodeHeights.j0 k (l0_0.length : Int) t263 t266 t267 bt268.1 bt271.2 bt275.2 true l0_0 l0_1 l0_2))))) = some r := H
  have A4 := Aside0.mk A40
  clear A40
  replace H := Option.bind_eq_some_iff.mp H
  obtain ⟨⟨t268, t269, t270⟩, A50, H⟩ := H
  replace H : ((code_Encode.f k l0_0 l0_1 l0_2).bind fun bt271 => ((code_List.f k l0_0 l0_1 l0_2).bind fun bt275 => (if t267 = t270 then (w_CodeHeights.j0 k (l0_0.length : Int) t263 t266 t267 t268 bt271.2 bt275.2 (t266 != t269) l0_0 l0_1 l0_2) else (w_CodeHeights.j0 k (l0_0.length : Int) t263 t266 t267 t268 bt271.2 bt275.2 true l0_0 l0_1 l0_2)))) = some r := H
  have A5 := Aside0.mk A50
  clear A50
  replace H := Option.bind_eq_some_iff.mp H
  obtain ⟨⟨t271, t274⟩, A60, H⟩ := H
  replace H : ((code_List.f k l0_0 l0_1 l0_2).bind fun bt275 => (if t267 = t270 then (w_CodeHeights.j0 k (l0_0.length : Int) t263 t266 t267 t268 t274 bt275.2 (t266 != t269) l0_0 l0_1 l0_2) else (w_CodeHeights.j0 k (l0_0.length : Int) t263 t266 t267 t268 t274 bt275.2 true l0_0 l0_1 l0_2))) = some r := H
  have A6 := Aside0.mk A60
  clear A60
  replace H := Option.bind_eq_some_iff.mp H
  obtain ⟨⟨t275, t276⟩, A70, H⟩ := H
  replace H : (if t267 = t270 then (w_CodeHeights.j0 k (l0_0.length : Int) t263 t266 t267 t268 t274 t276 (t266 != t269) l0_0 l0_1 l0_2) else (w_CodeHeights.j0 k (l0_0.length : Int) t263 t266 t267 t268 t274 t276 true l0_0 l0_1 l0_2)) = some r := H
  have A7 := Aside0.mk A70
  clear A70
  have HC8 := Aside0.mk H
  clear H
  go_enter Tryd.func3, Tryd.ntmps3
  go_upto_region 8 with (first | ((with_reducible refine gate_dst (N := 1) rfl ?_); (try (refine gate_guard (by rfl) ?_; dsimp only)); refine box_event ?hg (N := 1) ?hd (cs := #[.slice A0_0 l0_0.length c0_0, .slice A0_1 l0_1.length c0_1, .slice A0_2 l0_2.length c0_2]) (t := 26) ?hr ?_; (case hd => rfl); (case hg => rfl); (case hr => first | (go_simp; done) | (go_simp; rfl)); intro gb261 hg w9 hbox hb; have n0_ := Aside0.mk (below_step bl hb); have n1_ := Aside0.mk (hbox); have n2_ := Aside0.mk ((by rw [hg]; exact (below_size bl) : w.heap.size ≤ gb261)); have n3_ := Aside0.mk ((by rw [hg]; exact (below_size bl) : w.heap.size ≤ gb261)); clear HB; have HB := n0_; have BK261 := n1_; have GW261 := n2_; have GE261 := n3_; clear n0_ n1_ n2_ n3_; clear hb hbox hg) | (go_at_call 11; (with_reducible refine (abacuslaw26_awake.calls k  true _ ?side1 A2.out).mono ?_); (case side1 => exact GW.below HG.out bs); rintro e w10 ⟨rfl, hb⟩; have n0_ := Aside0.mk (blk_below (bu BK261.out) hb); have n1_ := Aside0.mk (below_step bs hb); clear BK261; clear HB; have BK261 := n0_; have HB := n1_; clear n0_ n1_; (try clear hb); (try clear hb2); (try clear hk); (try clear hi); obtain ⟨⟨hcz11_0, hcz11_1, hcz11_2⟩, hfz11_0, hfz11_1, hfz11_2⟩ := blkAll3 BK261) | (go_at_call 12; (with_reducible refine (code_Heights.calls k _ _ l0_0 _ _ l0_1 _ _ l0_2 t263 t266 t267 _ ?side1 ?side2 ?side3 ?side4 ?side5 ?side6 A4.out).mono ?_); (case side1 => repeat (first | exact (Kd.C_below HR0_0.out HB.out) | (with_reducible refine Kd.C_alloc ?_ _) | (with_reducible refine Kd.C_drewN ?_ _) | (with_reducible refine Kd.C_drew ?_))); (case side2 => exact HC0_0.out); (case side3 => repeat (first | exact (Kd.C_below HR0_1.out HB.out) | (with_reducible refine Kd.C_alloc ?_ _) | (with_reducible refine Kd.C_drewN ?_ _) | (with_reducible refine Kd.C_drew ?_))); (case side4 => exact HC0_1.out); (case side5 => repeat (first | exact (Kd.C_below HR0_2.out HB.out) | (with_reducible refine Kd.C_alloc ?_ _) | (with_reducible refine Kd.C_drewN ?_ _) | (with_reducible refine Kd.C_drew ?_))); (case side6 => exact HC0_2.out); rintro e w12 ⟨v264, rfl, ho0, hb⟩; have n0_ := Aside0.mk (Kd.R_lower ho0 (below_size bs)); have n1_ := Aside0.mk (blk_below (bu BK261.out) hb); have n2_ := Aside0.mk (below_step bs hb); clear BK261; clear HB; have HO265 := n0_; have BK261 := n1_; have HB := n2_; clear n0_ n1_ n2_; (try clear hb); (try clear hb2); (try clear hk); (try clear hi); (try clear ho0); obtain ⟨⟨hcz13_0, hcz13_1, hcz13_2⟩, hfz13_0, hfz13_1, hfz13_2⟩ := blkAll3 BK261) | (go_at_call 13; (with_reducible refine (code_Check.calls k _ _ l0_0 _ _ l0_1 _ _ l0_2 t268 t269 t270 _ ?side1 ?side2 ?side3 ?side4 ?side5 ?side6 A5.out).mono ?_); (case side1 => repeat (first | exact (Kd.C_below HR0_0.out HB.out) | (with_reducible refine Kd.C_alloc ?_ _) | (with_reducible refine Kd.C_drewN ?_ _) | (with_reducible refine Kd.C_drew ?_))); (case side2 => exact HC0_0.out); (case side3 => repeat (first | exact (Kd.C_below HR0_1.out HB.out) | (with_reducible refine Kd.C_alloc ?_ _) | (with_reducible refine Kd.C_drewN ?_ _) | (with_reducible refine Kd.C_drew ?_))); (case side4 => exact HC0_1.out); (case side5 => repeat (first | exact (Kd.C_below HR0_2.out HB.out) | (with_reducible refine Kd.C_alloc ?_ _) | (with_reducible refine Kd.C_drewN ?_ _) | (with_reducible refine Kd.C_drew ?_))); (case side6 => exact HC0_2.out); rintro e w14 ⟨rfl, hb⟩; have n0_ := Aside0.mk (Kd.R_below (by (with_reducible repeat (first | apply Kd.R_alloc | apply Kd.R_drewN | apply Kd.R_drew)); exact HO265.out) hb); have n1_ := Aside0.mk (blk_below (bu BK261.out) hb); have n2_ := Aside0.mk (below_step bs hb); clear HO265; clear BK261; clear HB; have HO265 := n0_; have BK261 := n1_; have HB := n2_; clear n0_ n1_ n2_; (try clear hb); (try clear hb2); (try clear hk); (try clear hi); obtain ⟨⟨hcz15_0, hcz15_1, hcz15_2⟩, hfz15_0, hfz15_1, hfz15_2⟩ := blkAll3 BK261) | (go_at_call 14; (with_reducible refine (code_Encode.calls k _ _ l0_0 _ _ l0_1 _ _ l0_2 t271 t274 _ ?side1 ?side2 ?side3 ?side4 ?side5 ?side6 A6.out).mono ?_); (case side1 => repeat (first | exact (Kd.C_below HR0_0.out HB.out) | (with_reducible refine Kd.C_alloc ?_ _) | (with_reducible refine Kd.C_drewN ?_ _) | (with_reducible refine Kd.C_drew ?_))); (case side2 => exact HC0_0.out); (case side3 => repeat (first | exact (Kd.C_below HR0_1.out HB.out) | (with_reducible refine Kd.C_alloc ?_ _) | (with_reducible refine Kd.C_drewN ?_ _) | (with_reducible refine Kd.C_drew ?_))); (case side4 => exact HC0_1.out); (case side5 => repeat (first | exact (Kd.C_below HR0_2.out HB.out) | (with_reducible refine Kd.C_alloc ?_ _) | (with_reducible refine Kd.C_drewN ?_ _) | (with_reducible refine Kd.C_drew ?_))); (case side6 => exact HC0_2.out); rintro e w16 ⟨v272, rfl, ho0, hb⟩; have n0_ := Aside0.mk (Kd.R_below (by (with_reducible repeat (first | apply Kd.R_alloc | apply Kd.R_drewN | apply Kd.R_drew)); exact HO265.out) hb); have n1_ := Aside0.mk (Kd.R_lower ho0 (below_size bs)); have n2_ := Aside0.mk (blk_below (bu BK261.out) hb); have n3_ := Aside0.mk (below_step bs hb); clear HO265; clear BK261; clear HB; have HO265 := n0_; have HO273 := n1_; have BK261 := n2_; have HB := n3_; clear n0_ n1_ n2_ n3_; (try clear hb); (try clear hb2); (try clear hk); (try clear hi); (try clear ho0); obtain ⟨⟨hcz17_0, hcz17_1, hcz17_2⟩, hfz17_0, hfz17_1, hfz17_2⟩ := blkAll3 BK261) | (go_at_call 15; (with_reducible refine (code_List.calls k _ _ l0_0 _ _ l0_1 _ _ l0_2 t275 t276 _ ?side1 ?side2 ?side3 ?side4 ?side5 ?side6 ?side7 A7.out).mono ?_); (case side1 => repeat (first | exact (Kd.C_below HR0_0.out HB.out) | (with_reducible refine Kd.C_alloc ?_ _) | (with_reducible refine Kd.C_drewN ?_ _) | (with_reducible refine Kd.C_drew ?_))); (case side2 => exact HC0_0.out); (case side3 => repeat (first | exact (Kd.C_below HR0_1.out HB.out) | (with_reducible refine Kd.C_alloc ?_ _) | (with_reducible refine Kd.C_drewN ?_ _) | (with_reducible refine Kd.C_drew ?_))); (case side4 => exact HC0_1.out); (case side5 => repeat (first | exact (Kd.C_below HR0_2.out HB.out) | (with_reducible refine Kd.C_alloc ?_ _) | (with_reducible refine Kd.C_drewN ?_ _) | (with_reducible refine Kd.C_drew ?_))); (case side6 => exact HC0_2.out); (case side7 => exact GW.below HG.out bs); rintro e w18 ⟨rfl, hb⟩; have n0_ := Aside0.mk (Kd.R_below (by (with_reducible repeat (first | apply Kd.R_alloc | apply Kd.R_drewN | apply Kd.R_drew)); exact HO265.out) hb); have n1_ := Aside0.mk (Kd.R_below (by (with_reducible repeat (first | apply Kd.R_alloc | apply Kd.R_drewN | apply Kd.R_drew)); exact HO273.out) hb); have n2_ := Aside0.mk (blk_below (bu BK261.out) hb); have n3_ := Aside0.mk (below_step bs hb); clear HO265; clear HO273; clear BK261; clear HB; have HO265 := n0_; have HO273 := n1_; have BK261 := n2_; have HB := n3_; clear n0_ n1_ n2_ n3_; (try clear hb); (try clear hb2); (try clear hk); (try clear hi)))
  repeat (go_quiet (first | ((with_reducible refine gate_dst (N := 1) rfl ?_); (try (refine gate_guard (by rfl) ?_; dsimp only)); refine box_event ?hg (N := 1) ?hd (cs := #[.slice A0_0 l0_0.length c0_0, .slice A0_1 l0_1.length c0_1, .slice A0_2 l0_2.length c0_2]) (t := 26) ?hr ?_; (case hd => rfl); (case hg => rfl); (case hr => first | (go_simp; done) | (go_simp; rfl)); intro gb261 hg w9 hbox hb; have n0_ := Aside0.mk (below_step bl hb); have n1_ := Aside0.mk (hbox); have n2_ := Aside0.mk ((by rw [hg]; exact (below_size bl) : w.heap.size ≤ gb261)); have n3_ := Aside0.mk ((by rw [hg]; exact (below_size bl) : w.heap.size ≤ gb261)); clear HB; have HB := n0_; have BK261 := n1_; have GW261 := n2_; have GE261 := n3_; clear n0_ n1_ n2_ n3_; clear hb hbox hg) | (go_at_call 11; (with_reducible refine (abacuslaw26_awake.calls k  true _ ?side1 A2.out).mono ?_); (case side1 => exact GW.below HG.out bs); rintro e w10 ⟨rfl, hb⟩; have n0_ := Aside0.mk (blk_below (bu BK261.out) hb); have n1_ := Aside0.mk (below_step bs hb); clear BK261; clear HB; have BK261 := n0_; have HB := n1_; clear n0_ n1_; (try clear hb); (try clear hb2); (try clear hk); (try clear hi); obtain ⟨⟨hcz11_0, hcz11_1, hcz11_2⟩, hfz11_0, hfz11_1, hfz11_2⟩ := blkAll3 BK261) | (go_at_call 12; (with_reducible refine (code_Heights.calls k _ _ l0_0 _ _ l0_1 _ _ l0_2 t263 t266 t267 _ ?side1 ?side2 ?side3 ?side4 ?side5 ?side6 A4.out).mono ?_); (case side1 => repeat (first | exact (Kd.C_below HR0_0.out HB.out) | (with_reducible refine Kd.C_alloc ?_ _) | (with_reducible refine Kd.C_drewN ?_ _) | (with_reducible refine Kd.C_drew ?_))); (case side2 => exact HC0_0.out); (case side3 => repeat (first | exact (Kd.C_below HR0_1.out HB.out) | (with_reducible refine Kd.C_alloc ?_ _) | (with_reducible refine Kd.C_drewN ?_ _) | (with_reducible refine Kd.C_drew ?_))); (case side4 => exact HC0_1.out); (case side5 => repeat (first | exact (Kd.C_below HR0_2.out HB.out) | (with_reducible refine Kd.C_alloc ?_ _) | (with_reducible refine Kd.C_drewN ?_ _) | (with_reducible refine Kd.C_drew ?_))); (case side6 => exact HC0_2.out); rintro e w12 ⟨v264, rfl, ho0, hb⟩; have n0_ := Aside0.mk (Kd.R_lower ho0 (below_size bs)); have n1_ := Aside0.mk (blk_below (bu BK261.out) hb); have n2_ := Aside0.mk (below_step bs hb); clear BK261; clear HB; have HO265 := n0_; have BK261 := n1_; have HB := n2_; clear n0_ n1_ n2_; (try clear hb); (try clear hb2); (try clear hk); (try clear hi); (try clear ho0); obtain ⟨⟨hcz13_0, hcz13_1, hcz13_2⟩, hfz13_0, hfz13_1, hfz13_2⟩ := blkAll3 BK261) | (go_at_call 13; (with_reducible refine (code_Check.calls k _ _ l0_0 _ _ l0_1 _ _ l0_2 t268 t269 t270 _ ?side1 ?side2 ?side3 ?side4 ?side5 ?side6 A5.out).mono ?_); (case side1 => repeat (first | exact (Kd.C_below HR0_0.out HB.out) | (with_reducible refine Kd.C_alloc ?_ _) | (with_reducible refine Kd.C_drewN ?_ _) | (with_reducible refine Kd.C_drew ?_))); (case side2 => exact HC0_0.out); (case side3 => repeat (first | exact (Kd.C_below HR0_1.out HB.out) | (with_reducible refine Kd.C_alloc ?_ _) | (with_reducible refine Kd.C_drewN ?_ _) | (with_reducible refine Kd.C_drew ?_))); (case side4 => exact HC0_1.out); (case side5 => repeat (first | exact (Kd.C_below HR0_2.out HB.out) | (with_reducible refine Kd.C_alloc ?_ _) | (with_reducible refine Kd.C_drewN ?_ _) | (with_reducible refine Kd.C_drew ?_))); (case side6 => exact HC0_2.out); rintro e w14 ⟨rfl, hb⟩; have n0_ := Aside0.mk (Kd.R_below (by (with_reducible repeat (first | apply Kd.R_alloc | apply Kd.R_drewN | apply Kd.R_drew)); exact HO265.out) hb); have n1_ := Aside0.mk (blk_below (bu BK261.out) hb); have n2_ := Aside0.mk (below_step bs hb); clear HO265; clear BK261; clear HB; have HO265 := n0_; have BK261 := n1_; have HB := n2_; clear n0_ n1_ n2_; (try clear hb); (try clear hb2); (try clear hk); (try clear hi); obtain ⟨⟨hcz15_0, hcz15_1, hcz15_2⟩, hfz15_0, hfz15_1, hfz15_2⟩ := blkAll3 BK261) | (go_at_call 14; (with_reducible refine (code_Encode.calls k _ _ l0_0 _ _ l0_1 _ _ l0_2 t271 t274 _ ?side1 ?side2 ?side3 ?side4 ?side5 ?side6 A6.out).mono ?_); (case side1 => repeat (first | exact (Kd.C_below HR0_0.out HB.out) | (with_reducible refine Kd.C_alloc ?_ _) | (with_reducible refine Kd.C_drewN ?_ _) | (with_reducible refine Kd.C_drew ?_))); (case side2 => exact HC0_0.out); (case side3 => repeat (first | exact (Kd.C_below HR0_1.out HB.out) | (with_reducible refine Kd.C_alloc ?_ _) | (with_reducible refine Kd.C_drewN ?_ _) | (with_reducible refine Kd.C_drew ?_))); (case side4 => exact HC0_1.out); (case side5 => repeat (first | exact (Kd.C_below HR0_2.out HB.out) | (with_reducible refine Kd.C_alloc ?_ _) | (with_reducible refine Kd.C_drewN ?_ _) | (with_reducible refine Kd.C_drew ?_))); (case side6 => exact HC0_2.out); rintro e w16 ⟨v272, rfl, ho0, hb⟩; have n0_ := Aside0.mk (Kd.R_below (by (with_reducible repeat (first | apply Kd.R_alloc | apply Kd.R_drewN | apply Kd.R_drew)); exact HO265.out) hb); have n1_ := Aside0.mk (Kd.R_lower ho0 (below_size bs)); have n2_ := Aside0.mk (blk_below (bu BK261.out) hb); have n3_ := Aside0.mk (below_step bs hb); clear HO265; clear BK261; clear HB; have HO265 := n0_; have HO273 := n1_; have BK261 := n2_; have HB := n3_; clear n0_ n1_ n2_ n3_; (try clear hb); (try clear hb2); (try clear hk); (try clear hi); (try clear ho0); obtain ⟨⟨hcz17_0, hcz17_1, hcz17_2⟩, hfz17_0, hfz17_1, hfz17_2⟩ := blkAll3 BK261) | (go_at_call 15; (with_reducible refine (code_List.calls k _ _ l0_0 _ _ l0_1 _ _ l0_2 t275 t276 _ ?side1 ?side2 ?side3 ?side4 ?side5 ?side6 ?side7 A7.out).mono ?_); (case side1 => repeat (first | exact (Kd.C_below HR0_0.out HB.out) | (with_reducible refine Kd.C_alloc ?_ _) | (with_reducible refine Kd.C_drewN ?_ _) | (with_reducible refine Kd.C_drew ?_))); (case side2 => exact HC0_0.out); (case side3 => repeat (first | exact (Kd.C_below HR0_1.out HB.out) | (with_reducible refine Kd.C_alloc ?_ _) | (with_reducible refine Kd.C_drewN ?_ _) | (with_reducible refine Kd.C_drew ?_))); (case side4 => exact HC0_1.out); (case side5 => repeat (first | exact (Kd.C_below HR0_2.out HB.out) | (with_reducible refine Kd.C_alloc ?_ _) | (with_reducible refine Kd.C_drewN ?_ _) | (with_reducible refine Kd.C_drew ?_))); (case side6 => exact HC0_2.out); (case side7 => exact GW.below HG.out bs); rintro e w18 ⟨rfl, hb⟩; have n0_ := Aside0.mk (Kd.R_below (by (with_reducible repeat (first | apply Kd.R_alloc | apply Kd.R_drewN | apply Kd.R_drew)); exact HO265.out) hb); have n1_ := Aside0.mk (Kd.R_below (by (with_reducible repeat (first | apply Kd.R_alloc | apply Kd.R_drewN | apply Kd.R_drew)); exact HO273.out) hb); have n2_ := Aside0.mk (blk_below (bu BK261.out) hb); have n3_ := Aside0.mk (below_step bs hb); clear HO265; clear HO273; clear BK261; clear HB; have HO265 := n0_; have HO273 := n1_; have BK261 := n2_; have HB := n3_; clear n0_ n1_ n2_ n3_; (try clear hb); (try clear hb2); (try clear hk); (try clear hi))); go_upto_region 8 with (first | ((with_reducible refine gate_dst (N := 1) rfl ?_); (try (refine gate_guard (by rfl) ?_; dsimp only)); refine box_event ?hg (N := 1) ?hd (cs := #[.slice A0_0 l0_0.length c0_0, .slice A0_1 l0_1.length c0_1, .slice A0_2 l0_2.length c0_2]) (t := 26) ?hr ?_; (case hd => rfl); (case hg => rfl); (case hr => first | (go_simp; done) | (go_simp; rfl)); intro gb261 hg w9 hbox hb; have n0_ := Aside0.mk (below_step bl hb); have n1_ := Aside0.mk (hbox); have n2_ := Aside0.mk ((by rw [hg]; exact (below_size bl) : w.heap.size ≤ gb261)); have n3_ := Aside0.mk ((by rw [hg]; exact (below_size bl) : w.heap.size ≤ gb261)); clear HB; have HB := n0_; have BK261 := n1_; have GW261 := n2_; have GE261 := n3_; clear n0_ n1_ n2_ n3_; clear hb hbox hg) | (go_at_call 11; (with_reducible refine (abacuslaw26_awake.calls k  true _ ?side1 A2.out).mono ?_); (case side1 => exact GW.below HG.out bs); rintro e w10 ⟨rfl, hb⟩; have n0_ := Aside0.mk (blk_below (bu BK261.out) hb); have n1_ := Aside0.mk (below_step bs hb); clear BK261; clear HB; have BK261 := n0_; have HB := n1_; clear n0_ n1_; (try clear hb); (try clear hb2); (try clear hk); (try clear hi); obtain ⟨⟨hcz11_0, hcz11_1, hcz11_2⟩, hfz11_0, hfz11_1, hfz11_2⟩ := blkAll3 BK261) | (go_at_call 12; (with_reducible refine (code_Heights.calls k _ _ l0_0 _ _ l0_1 _ _ l0_2 t263 t266 t267 _ ?side1 ?side2 ?side3 ?side4 ?side5 ?side6 A4.out).mono ?_); (case side1 => repeat (first | exact (Kd.C_below HR0_0.out HB.out) | (with_reducible refine Kd.C_alloc ?_ _) | (with_reducible refine Kd.C_drewN ?_ _) | (with_reducible refine Kd.C_drew ?_))); (case side2 => exact HC0_0.out); (case side3 => repeat (first | exact (Kd.C_below HR0_1.out HB.out) | (with_reducible refine Kd.C_alloc ?_ _) | (with_reducible refine Kd.C_drewN ?_ _) | (with_reducible refine Kd.C_drew ?_))); (case side4 => exact HC0_1.out); (case side5 => repeat (first | exact (Kd.C_below HR0_2.out HB.out) | (with_reducible refine Kd.C_alloc ?_ _) | (with_reducible refine Kd.C_drewN ?_ _) | (with_reducible refine Kd.C_drew ?_))); (case side6 => exact HC0_2.out); rintro e w12 ⟨v264, rfl, ho0, hb⟩; have n0_ := Aside0.mk (Kd.R_lower ho0 (below_size bs)); have n1_ := Aside0.mk (blk_below (bu BK261.out) hb); have n2_ := Aside0.mk (below_step bs hb); clear BK261; clear HB; have HO265 := n0_; have BK261 := n1_; have HB := n2_; clear n0_ n1_ n2_; (try clear hb); (try clear hb2); (try clear hk); (try clear hi); (try clear ho0); obtain ⟨⟨hcz13_0, hcz13_1, hcz13_2⟩, hfz13_0, hfz13_1, hfz13_2⟩ := blkAll3 BK261) | (go_at_call 13; (with_reducible refine (code_Check.calls k _ _ l0_0 _ _ l0_1 _ _ l0_2 t268 t269 t270 _ ?side1 ?side2 ?side3 ?side4 ?side5 ?side6 A5.out).mono ?_); (case side1 => repeat (first | exact (Kd.C_below HR0_0.out HB.out) | (with_reducible refine Kd.C_alloc ?_ _) | (with_reducible refine Kd.C_drewN ?_ _) | (with_reducible refine Kd.C_drew ?_))); (case side2 => exact HC0_0.out); (case side3 => repeat (first | exact (Kd.C_below HR0_1.out HB.out) | (with_reducible refine Kd.C_alloc ?_ _) | (with_reducible refine Kd.C_drewN ?_ _) | (with_reducible refine Kd.C_drew ?_))); (case side4 => exact HC0_1.out); (case side5 => repeat (first | exact (Kd.C_below HR0_2.out HB.out) | (with_reducible refine Kd.C_alloc ?_ _) | (with_reducible refine Kd.C_drewN ?_ _) | (with_reducible refine Kd.C_drew ?_))); (case side6 => exact HC0_2.out); rintro e w14 ⟨rfl, hb⟩; have n0_ := Aside0.mk (Kd.R_below (by (with_reducible repeat (first | apply Kd.R_alloc | apply Kd.R_drewN | apply Kd.R_drew)); exact HO265.out) hb); have n1_ := Aside0.mk (blk_below (bu BK261.out) hb); have n2_ := Aside0.mk (below_step bs hb); clear HO265; clear BK261; clear HB; have HO265 := n0_; have BK261 := n1_; have HB := n2_; clear n0_ n1_ n2_; (try clear hb); (try clear hb2); (try clear hk); (try clear hi); obtain ⟨⟨hcz15_0, hcz15_1, hcz15_2⟩, hfz15_0, hfz15_1, hfz15_2⟩ := blkAll3 BK261) | (go_at_call 14; (with_reducible refine (code_Encode.calls k _ _ l0_0 _ _ l0_1 _ _ l0_2 t271 t274 _ ?side1 ?side2 ?side3 ?side4 ?side5 ?side6 A6.out).mono ?_); (case side1 => repeat (first | exact (Kd.C_below HR0_0.out HB.out) | (with_reducible refine Kd.C_alloc ?_ _) | (with_reducible refine Kd.C_drewN ?_ _) | (with_reducible refine Kd.C_drew ?_))); (case side2 => exact HC0_0.out); (case side3 => repeat (first | exact (Kd.C_below HR0_1.out HB.out) | (with_reducible refine Kd.C_alloc ?_ _) | (with_reducible refine Kd.C_drewN ?_ _) | (with_reducible refine Kd.C_drew ?_))); (case side4 => exact HC0_1.out); (case side5 => repeat (first | exact (Kd.C_below HR0_2.out HB.out) | (with_reducible refine Kd.C_alloc ?_ _) | (with_reducible refine Kd.C_drewN ?_ _) | (with_reducible refine Kd.C_drew ?_))); (case side6 => exact HC0_2.out); rintro e w16 ⟨v272, rfl, ho0, hb⟩; have n0_ := Aside0.mk (Kd.R_below (by (with_reducible repeat (first | apply Kd.R_alloc | apply Kd.R_drewN | apply Kd.R_drew)); exact HO265.out) hb); have n1_ := Aside0.mk (Kd.R_lower ho0 (below_size bs)); have n2_ := Aside0.mk (blk_below (bu BK261.out) hb); have n3_ := Aside0.mk (below_step bs hb); clear HO265; clear BK261; clear HB; have HO265 := n0_; have HO273 := n1_; have BK261 := n2_; have HB := n3_; clear n0_ n1_ n2_ n3_; (try clear hb); (try clear hb2); (try clear hk); (try clear hi); (try clear ho0); obtain ⟨⟨hcz17_0, hcz17_1, hcz17_2⟩, hfz17_0, hfz17_1, hfz17_2⟩ := blkAll3 BK261) | (go_at_call 15; (with_reducible refine (code_List.calls k _ _ l0_0 _ _ l0_1 _ _ l0_2 t275 t276 _ ?side1 ?side2 ?side3 ?side4 ?side5 ?side6 ?side7 A7.out).mono ?_); (case side1 => repeat (first | exact (Kd.C_below HR0_0.out HB.out) | (with_reducible refine Kd.C_alloc ?_ _) | (with_reducible refine Kd.C_drewN ?_ _) | (with_reducible refine Kd.C_drew ?_))); (case side2 => exact HC0_0.out); (case side3 => repeat (first | exact (Kd.C_below HR0_1.out HB.out) | (with_reducible refine Kd.C_alloc ?_ _) | (with_reducible refine Kd.C_drewN ?_ _) | (with_reducible refine Kd.C_drew ?_))); (case side4 => exact HC0_1.out); (case side5 => repeat (first | exact (Kd.C_below HR0_2.out HB.out) | (with_reducible refine Kd.C_alloc ?_ _) | (with_reducible refine Kd.C_drewN ?_ _) | (with_reducible refine Kd.C_drew ?_))); (case side6 => exact HC0_2.out); (case side7 => exact GW.below HG.out bs); rintro e w18 ⟨rfl, hb⟩; have n0_ := Aside0.mk (Kd.R_below (by (with_reducible repeat (first | apply Kd.R_alloc | apply Kd.R_drewN | apply Kd.R_drew)); exact HO265.out) hb); have n1_ := Aside0.mk (Kd.R_below (by (with_reducible repeat (first | apply Kd.R_alloc | apply Kd.R_drewN | apply Kd.R_drew)); exact HO273.out) hb); have n2_ := Aside0.mk (blk_below (bu BK261.out) hb); have n3_ := Aside0.mk (below_step bs hb); clear HO265; clear HO273; clear BK261; clear HB; have HO265 := n0_; have HO273 := n1_; have BK261 := n2_; have HB := n3_; clear n0_ n1_ n2_ n3_; (try clear hb); (try clear hb2); (try clear hk); (try clear hi))))
  (try simp only [Act.put, List.setIfInBounds_toArray, List.set_cons_zero, List.set_cons_succ])
  go_cut [57] (fun v57 wc => ∃ (kq : Nat) (x57_7 : Bool), v57 = .bool x57_7 ∧ Aside0 (w_CodeHeights.j0 kq (l0_0.length : Int) t263 t266 t267 t268 t274 t276 x57_7 l0_0 l0_1 l0_2 = some r) ∧ Aside0 (kq ≤ k) ∧ Aside0 (Kd.R (Kd.int .i64) 3 wc w.heap.size (fun _ => True) v264 t263) ∧ Aside0 (wc.heap[gb261]? = some (.cells #[(.slice A0_0 l0_0.length c0_0), (.slice A0_1 l0_1.length c0_1), (.slice A0_2 l0_2.length c0_2)] 26 (0, 0))) ∧ Aside0 (Below w.heap.size w wc))
  case first => as_aux_lemma =>
   have H := HC8.out
   clear HC8
   by_cases c19 : t267 = t270
   ·rw [if_pos c19] at H
    have c19b0 : (t267 == t270) = true := beq_iff_eq.mpr c19
    have c19b1 : (t267 != t270) = false := bne_eq_false_iff_eq.mpr c19
    clear c19
    (first | rw [c19b0] | (simp only [i64_w, i32_w]; rw [c19b0]) | skip)
    have H' := Aside0.mk H
    clear H
    go_wp2
    repeat (go_quiet (fail); try go_wp2)
    go_meet
    case rel => exact ⟨_, ((t266 != t269)), tv, H', ⟨by first | omega | exact Nat.le_refl _⟩, ⟨by (with_reducible repeat (first | apply Kd.R_alloc | apply Kd.R_drewN | apply Kd.R_drew)); exact HO265.out⟩, ⟨by refine bu ?_; exact BK261.out⟩, ⟨bs⟩⟩
   ·rw [if_neg c19] at H
    have c19b0 : (t267 == t270) = false := beq_eq_false_iff_ne.mpr c19
    have c19b1 : (t267 != t270) = true := bne_iff_ne.mpr c19
    (first | rw [c19b0] | (simp only [i64_w, i32_w]; rw [c19b0]) | skip)
    have H' := Aside0.mk H
    clear H
    go_wp2
    repeat (go_quiet (fail); try go_wp2)
    go_meet
    case rel => exact ⟨_, (true), tv, H', ⟨by first | omega | exact Nat.le_refl _⟩, ⟨by (with_reducible repeat (first | apply Kd.R_alloc | apply Kd.R_drewN | apply Kd.R_drew)); exact HO265.out⟩, ⟨by refine bu ?_; exact BK261.out⟩, ⟨bs⟩⟩
  case rest => as_aux_lemma =>
   clear HC8
   try clear c1
   try clear p2
   try clear c3
   try clear c19
   try clear c19b0
   try clear c19b1
   try clear hcz11_0 hcz11_1 hcz11_2
   try clear hcz13_0 hcz13_1 hcz13_2
   try clear hcz15_0 hcz15_1 hcz15_2
   try clear hcz17_0 hcz17_1 hcz17_2
   try clear hfz11_0 hfz11_1 hfz11_2
   try clear hfz13_0 hfz13_1 hfz13_2
   try clear hfz15_0 hfz15_1 hfz15_2
   try clear hfz17_0 hfz17_1 hfz17_2
   obtain ⟨kq, x57_7, rfl, HA, HJ7, HO_4, BK261, HB⟩ := hcut
   cases kq with
   | zero => exact absurd HA.out (by simp [w_CodeHeights.j0])
   | succ kj7 =>
    have H := HA.out
    clear HA
    simp only [w_CodeHeights.j0] at H
    by_cases c20 : x57_7 = true
    ·subst c20
     have H1 : (some false) = some r := by rw [if_pos rfl] at H; exact H
     clear H
     have H := H1
     clear H1
     obtain rfl := Option.some.inj H
     go_wp2
     repeat (go_quiet (fail); try go_wp2)
     go_ret
     exact ⟨er, bs⟩
    ·replace c20 := Bool.eq_false_iff.mpr c20
     subst c20
     have H1 : (if t267 = 0 then (if t266 = 0 then (if (t263.length : Int) = (wrap64 ((l0_0.length : Int) + 1)) then (if 0 < (t263.length : Int) then (if (rd t263 0) = 0 then (if 0 ≤ (l0_0.length : Int) then (if (l0_0.length : Int) < (t263.length : Int) then (if (rd t263 (l0_0.length : Int)) = 1 then (if t268 > 32768 then (w_CodeHeights.j1 kj7 (l0_0.length : Int) t263 t268 true l0_0 l0_1 l0_2) else (if t274 = 0 then (if t276 = 0 then (w_CodeHeights.j1 kj7 (l0_0.length : Int) t263 t268 false l0_0 l0_1 l0_2) else (w_CodeHeights.j1 kj7 (l0_0.length : Int) t263 t268 (t276 != 3) l0_0 l0_1 l0_2)) else (if t274 = 3 then (if t276 = 0 then (w_CodeHeights.j1 kj7 (l0_0.length : Int) t263 t268 false l0_0 l0_1 l0_2) else (w_CodeHeights.j1 kj7 (l0_0.length : Int) t263 t268 (t276 != 3) l0_0 l0_1 l0_2)) else (w_CodeHeights.j1 kj7 (l0_0.length : Int) t263 t268 true l0_0 l0_1 l0_2)))) else (w_CodeHeights.j1 kj7 (l0_0.length : Int) t263 t268 true l0_0 l0_1 l0_2)) else (none)) else (none)) else (w_CodeHeights.j1 kj7 (l0_0.length : Int) t263 t268 true l0_0 l0_1 l0_2)) else (none)) else (w_CodeHeights.j1 kj7 (l0_0.length : Int) t263 t268 true l0_0 l0_1 l0_2)) else (w_CodeHeights.j1 kj7 (l0_0.length : Int) t263 t268 true l0_0 l0_1 l0_2)) else (if t267 = 260 then (if (t263.length : Int) = 0 then (if t268 = 0 then (if t274 = 260 then (if t276 = 260 then (if t266 ≥ 0 then (if t266 ≤ (l0_0.length : Int) then (if (l0_0.length : Int) ≤ 131072 then (some true) else (if t266 = 131072 then (some (decide ((l0_0.length : Int) > 131072))) else (some false))) else (if t266 = 131072 then (some (decide ((l0_0.length : Int) > 131072))) else (some false))) else (some false)) else (some false)) else (some false)) else (some false)) else (some false)) else (some false))) = some r := by rw [if_neg (show ¬ (false = true) by decide)] at H; exact H
     clear H
     have H := H1
     clear H1
     by_cases c21 : t267 = 0
     ·rw [if_pos c21] at H
      have c21b0 : (t267 == 0) = true := beq_iff_eq.mpr c21
      have c21b1 : (t267 != 0) = false := bne_eq_false_iff_eq.mpr c21
      clear c21
      have HC22 := Aside0.mk H
      clear H
      go_upto_region 12 with (fail)
      repeat (go_quiet (fail); go_upto_region 12 with (fail))
      go_cut [141] (fun v141 wc => ∃ (kq : Nat) (x141_21 : Bool), v141 = .bool x141_21 ∧ Aside0 (w_CodeHeights.j1 kq (l0_0.length : Int) t263 t268 x141_21 l0_0 l0_1 l0_2 = some r) ∧ Aside0 (kq ≤ kj7) ∧ Aside0 (Kd.R (Kd.int .i64) 3 wc w.heap.size (fun _ => True) v264 t263) ∧ Aside0 (wc.heap[gb261]? = some (.cells #[(.slice A0_0 l0_0.length c0_0), (.slice A0_1 l0_1.length c0_1), (.slice A0_2 l0_2.length c0_2)] 26 (0, 0))) ∧ Aside0 (Below w.heap.size w wc))
      case first => as_aux_lemma =>
       have H := HC22.out
       clear HC22
       by_cases c23 : t266 = 0
       ·rw [if_pos c23] at H
        have c23b0 : (t266 == 0) = true := beq_iff_eq.mpr c23
        have c23b1 : (t266 != 0) = false := bne_eq_false_iff_eq.mpr c23
        clear c23
        (first | rw [c23b0] | (simp only [i64_w, i32_w]; rw [c23b0]) | skip)
        by_cases c24 : (t263.length : Int) = (wrap64 ((l0_0.length : Int) + 1))
        ·rw [if_pos c24] at H
         have c24b0 : ((t263.length : Int) == (wrap64 ((l0_0.length : Int) + 1))) = true := beq_iff_eq.mpr c24
         have c24b1 : ((t263.length : Int) != (wrap64 ((l0_0.length : Int) + 1))) = false := bne_eq_false_iff_eq.mpr c24
         clear c24
         by_cases c25 : 0 < (t263.length : Int)
         ·rw [if_pos c25] at H
          have c25b0 : decide (0 < (t263.length : Int)) = true := decide_eq_true c25
          have c25b1 : decide (0 < t263.length) = true := decide_eq_true (by omega)
          clear c25
          by_cases c26 : (rd t263 0) = 0
          ·rw [if_pos c26] at H
           have c26b0 : ((rd t263 0) == 0) = true := beq_iff_eq.mpr c26
           have c26b1 : ((rd t263 0) != 0) = false := bne_eq_false_iff_eq.mpr c26
           clear c26
           by_cases c27 : 0 ≤ (l0_0.length : Int)
           ·rw [if_pos c27] at H
            have c27b0 : decide (0 ≤ (l0_0.length : Int)) = true := decide_eq_true c27
            have c27b1 : decide (0 ≤ l0_0.length) = true := decide_eq_true (by omega)
            clear c27
            by_cases c28 : (l0_0.length : Int) < (t263.length : Int)
            ·rw [if_pos c28] at H
             have c28b0 : decide ((l0_0.length : Int) < (t263.length : Int)) = true := decide_eq_true c28
             have c28b1 : decide (l0_0.length < t263.length) = true := decide_eq_true (Int.ofNat_lt.mp c28)
             clear c28
             by_cases c29 : (rd t263 (l0_0.length : Int)) = 1
             ·rw [if_pos c29] at H
              have c29b0 : ((rd t263 (l0_0.length : Int)) == 1) = true := beq_iff_eq.mpr c29
              have c29b1 : ((rd t263 (l0_0.length : Int)) != 1) = false := bne_eq_false_iff_eq.mpr c29
              clear c29
              by_cases c30 : t268 > 32768
              ·rw [if_pos c30] at H
               have c30b0 : decide (32768 < t268) = true := decide_eq_true c30
               clear c30
               have H' := Aside0.mk H
               clear H
               obtain ⟨Ao31, co31, eo31⟩ := Kd.R_slice HO_4.out
               subst eo31
               have p277 : 0 ≤ (0 : Int) := (by omega)
               have q277 : 0 < (t263.length : Int) := of_decide_eq_true od
               obtain ⟨ad277, e277, hx277_0⟩ := Kd.at_int (Kd.R_reads' HO_4.out).2.2 0 p277 q277
               cases e277
               have qi277 : (0 < t263.length) = True := eq_true (by omega)
               (try rw [show ((0 : Int)).toNat = 0 from rfl] at hx277_0)
               (try rw [Addr.add_zero'] at hx277_0)
               replace p277 := eq_true p277
               replace q277 := eq_true q277
               have p278 : 0 ≤ ((l0_0.length : Int) : Int) := of_decide_eq_true od
               have q278 : (l0_0.length : Int) < (t263.length : Int) := of_decide_eq_true od
               obtain ⟨ad278, e278, hx278_0⟩ := Kd.at_int (Kd.R_reads' HO_4.out).2.2 (l0_0.length : Int) p278 q278
               obtain rfl : ad277 = ad278 := (by injection e278)
               (try simp only [Go.IntWalk.toNatUp] at hx278_0)
               replace p278 := eq_true p278
               replace q278 := eq_true q278
               go_wp2
               repeat (go_quiet (fail); try go_wp2)
               go_meet
               case rel => exact ⟨_, (true), tv, H', ⟨by have := HJ7.out; first | omega | exact Nat.le_refl _⟩, ⟨by (with_reducible repeat (first | apply Kd.R_alloc | apply Kd.R_drewN | apply Kd.R_drew)); exact HO_4.out⟩, ⟨by refine bu ?_; exact BK261.out⟩, ⟨bs⟩⟩
              ·rw [if_neg c30] at H
               have c30b0 : decide (32768 < t268) = false := decide_eq_false c30
               clear c30
               by_cases c32 : t274 = 0
               ·rw [if_pos c32] at H
                have c32b0 : (t274 == 0) = true := beq_iff_eq.mpr c32
                have c32b1 : (t274 != 0) = false := bne_eq_false_iff_eq.mpr c32
                clear c32
                by_cases c33 : t276 = 0
                ·rw [if_pos c33] at H
                 have c33b0 : (t276 == 0) = true := beq_iff_eq.mpr c33
                 have c33b1 : (t276 != 0) = false := bne_eq_false_iff_eq.mpr c33
                 clear c33
                 have H' := Aside0.mk H
                 clear H
                 obtain ⟨Ao34, co34, eo34⟩ := Kd.R_slice HO_4.out
                 subst eo34
                 have p277 : 0 ≤ (0 : Int) := (by omega)
                 have q277 : 0 < (t263.length : Int) := of_decide_eq_true od
                 obtain ⟨ad277, e277, hx277_0⟩ := Kd.at_int (Kd.R_reads' HO_4.out).2.2 0 p277 q277
                 cases e277
                 have qi277 : (0 < t263.length) = True := eq_true (by omega)
                 (try rw [show ((0 : Int)).toNat = 0 from rfl] at hx277_0)
                 (try rw [Addr.add_zero'] at hx277_0)
                 replace p277 := eq_true p277
                 replace q277 := eq_true q277
                 have p278 : 0 ≤ ((l0_0.length : Int) : Int) := of_decide_eq_true od
                 have q278 : (l0_0.length : Int) < (t263.length : Int) := of_decide_eq_true od
                 obtain ⟨ad278, e278, hx278_0⟩ := Kd.at_int (Kd.R_reads' HO_4.out).2.2 (l0_0.length : Int) p278 q278
                 obtain rfl : ad277 = ad278 := (by injection e278)
                 (try simp only [Go.IntWalk.toNatUp] at hx278_0)
                 replace p278 := eq_true p278
                 replace q278 := eq_true q278
                 go_wp2
                 repeat (go_quiet (fail); try go_wp2)
                 go_meet
                 case rel => exact ⟨_, (false), tv, H', ⟨by have := HJ7.out; first | omega | exact Nat.le_refl _⟩, ⟨by (with_reducible repeat (first | apply Kd.R_alloc | apply Kd.R_drewN | apply Kd.R_drew)); exact HO_4.out⟩, ⟨by refine bu ?_; exact BK261.out⟩, ⟨bs⟩⟩
                ·rw [if_neg c33] at H
                 have c33b0 : (t276 == 0) = false := beq_eq_false_iff_ne.mpr c33
                 have c33b1 : (t276 != 0) = true := bne_iff_ne.mpr c33
                 have H' := Aside0.mk H
                 clear H
                 obtain ⟨Ao35, co35, eo35⟩ := Kd.R_slice HO_4.out
                 subst eo35
                 have p277 : 0 ≤ (0 : Int) := (by omega)
                 have q277 : 0 < (t263.length : Int) := of_decide_eq_true od
                 obtain ⟨ad277, e277, hx277_0⟩ := Kd.at_int (Kd.R_reads' HO_4.out).2.2 0 p277 q277
                 cases e277
                 have qi277 : (0 < t263.length) = True := eq_true (by omega)
                 (try rw [show ((0 : Int)).toNat = 0 from rfl] at hx277_0)
                 (try rw [Addr.add_zero'] at hx277_0)
                 replace p277 := eq_true p277
                 replace q277 := eq_true q277
                 have p278 : 0 ≤ ((l0_0.length : Int) : Int) := of_decide_eq_true od
                 have q278 : (l0_0.length : Int) < (t263.length : Int) := of_decide_eq_true od
                 obtain ⟨ad278, e278, hx278_0⟩ := Kd.at_int (Kd.R_reads' HO_4.out).2.2 (l0_0.length : Int) p278 q278
                 obtain rfl : ad277 = ad278 := (by injection e278)
                 (try simp only [Go.IntWalk.toNatUp] at hx278_0)
                 replace p278 := eq_true p278
                 replace q278 := eq_true q278
                 go_wp2
                 repeat (go_quiet (fail); try go_wp2)
                 go_meet
                 case rel => exact ⟨_, ((t276 != 3)), tv, H', ⟨by have := HJ7.out; first | omega | exact Nat.le_refl _⟩, ⟨by (with_reducible repeat (first | apply Kd.R_alloc | apply Kd.R_drewN | apply Kd.R_drew)); exact HO_4.out⟩, ⟨by refine bu ?_; exact BK261.out⟩, ⟨bs⟩⟩
               ·rw [if_neg c32] at H
                have c32b0 : (t274 == 0) = false := beq_eq_false_iff_ne.mpr c32
                have c32b1 : (t274 != 0) = true := bne_iff_ne.mpr c32
                by_cases c36 : t274 = 3
                ·rw [if_pos c36] at H
                 have c36b0 : (t274 == 3) = true := beq_iff_eq.mpr c36
                 have c36b1 : (t274 != 3) = false := bne_eq_false_iff_eq.mpr c36
                 clear c36
                 by_cases c37 : t276 = 0
                 ·rw [if_pos c37] at H
                  have c37b0 : (t276 == 0) = true := beq_iff_eq.mpr c37
                  have c37b1 : (t276 != 0) = false := bne_eq_false_iff_eq.mpr c37
                  clear c37
                  have H' := Aside0.mk H
                  clear H
                  obtain ⟨Ao38, co38, eo38⟩ := Kd.R_slice HO_4.out
                  subst eo38
                  have p277 : 0 ≤ (0 : Int) := (by omega)
                  have q277 : 0 < (t263.length : Int) := of_decide_eq_true od
                  obtain ⟨ad277, e277, hx277_0⟩ := Kd.at_int (Kd.R_reads' HO_4.out).2.2 0 p277 q277
                  cases e277
                  have qi277 : (0 < t263.length) = True := eq_true (by omega)
                  (try rw [show ((0 : Int)).toNat = 0 from rfl] at hx277_0)
                  (try rw [Addr.add_zero'] at hx277_0)
                  replace p277 := eq_true p277
                  replace q277 := eq_true q277
                  have p278 : 0 ≤ ((l0_0.length : Int) : Int) := of_decide_eq_true od
                  have q278 : (l0_0.length : Int) < (t263.length : Int) := of_decide_eq_true od
                  obtain ⟨ad278, e278, hx278_0⟩ := Kd.at_int (Kd.R_reads' HO_4.out).2.2 (l0_0.length : Int) p278 q278
                  obtain rfl : ad277 = ad278 := (by injection e278)
                  (try simp only [Go.IntWalk.toNatUp] at hx278_0)
                  replace p278 := eq_true p278
                  replace q278 := eq_true q278
                  go_wp2
                  repeat (go_quiet (fail); try go_wp2)
                  go_meet
                  case rel => exact ⟨_, (false), tv, H', ⟨by have := HJ7.out; first | omega | exact Nat.le_refl _⟩, ⟨by (with_reducible repeat (first | apply Kd.R_alloc | apply Kd.R_drewN | apply Kd.R_drew)); exact HO_4.out⟩, ⟨by refine bu ?_; exact BK261.out⟩, ⟨bs⟩⟩
                 ·rw [if_neg c37] at H
                  have c37b0 : (t276 == 0) = false := beq_eq_false_iff_ne.mpr c37
                  have c37b1 : (t276 != 0) = true := bne_iff_ne.mpr c37
                  have H' := Aside0.mk H
                  clear H
                  obtain ⟨Ao39, co39, eo39⟩ := Kd.R_slice HO_4.out
                  subst eo39
                  have p277 : 0 ≤ (0 : Int) := (by omega)
                  have q277 : 0 < (t263.length : Int) := of_decide_eq_true od
                  obtain ⟨ad277, e277, hx277_0⟩ := Kd.at_int (Kd.R_reads' HO_4.out).2.2 0 p277 q277
                  cases e277
                  have qi277 : (0 < t263.length) = True := eq_true (by omega)
                  (try rw [show ((0 : Int)).toNat = 0 from rfl] at hx277_0)
                  (try rw [Addr.add_zero'] at hx277_0)
                  replace p277 := eq_true p277
                  replace q277 := eq_true q277
                  have p278 : 0 ≤ ((l0_0.length : Int) : Int) := of_decide_eq_true od
                  have q278 : (l0_0.length : Int) < (t263.length : Int) := of_decide_eq_true od
                  obtain ⟨ad278, e278, hx278_0⟩ := Kd.at_int (Kd.R_reads' HO_4.out).2.2 (l0_0.length : Int) p278 q278
                  obtain rfl : ad277 = ad278 := (by injection e278)
                  (try simp only [Go.IntWalk.toNatUp] at hx278_0)
                  replace p278 := eq_true p278
                  replace q278 := eq_true q278
                  go_wp2
                  repeat (go_quiet (fail); try go_wp2)
                  go_meet
                  case rel => exact ⟨_, ((t276 != 3)), tv, H', ⟨by have := HJ7.out; first | omega | exact Nat.le_refl _⟩, ⟨by (with_reducible repeat (first | apply Kd.R_alloc | apply Kd.R_drewN | apply Kd.R_drew)); exact HO_4.out⟩, ⟨by refine bu ?_; exact BK261.out⟩, ⟨bs⟩⟩
                ·rw [if_neg c36] at H
                 have c36b0 : (t274 == 3) = false := beq_eq_false_iff_ne.mpr c36
                 have c36b1 : (t274 != 3) = true := bne_iff_ne.mpr c36
                 have H' := Aside0.mk H
                 clear H
                 obtain ⟨Ao40, co40, eo40⟩ := Kd.R_slice HO_4.out
                 subst eo40
                 have p277 : 0 ≤ (0 : Int) := (by omega)
                 have q277 : 0 < (t263.length : Int) := of_decide_eq_true od
                 obtain ⟨ad277, e277, hx277_0⟩ := Kd.at_int (Kd.R_reads' HO_4.out).2.2 0 p277 q277
                 cases e277
                 have qi277 : (0 < t263.length) = True := eq_true (by omega)
                 (try rw [show ((0 : Int)).toNat = 0 from rfl] at hx277_0)
                 (try rw [Addr.add_zero'] at hx277_0)
                 replace p277 := eq_true p277
                 replace q277 := eq_true q277
                 have p278 : 0 ≤ ((l0_0.length : Int) : Int) := of_decide_eq_true od
                 have q278 : (l0_0.length : Int) < (t263.length : Int) := of_decide_eq_true od
                 obtain ⟨ad278, e278, hx278_0⟩ := Kd.at_int (Kd.R_reads' HO_4.out).2.2 (l0_0.length : Int) p278 q278
                 obtain rfl : ad277 = ad278 := (by injection e278)
                 (try simp only [Go.IntWalk.toNatUp] at hx278_0)
                 replace p278 := eq_true p278
                 replace q278 := eq_true q278
                 go_wp2
                 repeat (go_quiet (fail); try go_wp2)
                 go_meet
                 case rel => exact ⟨_, (true), tv, H', ⟨by have := HJ7.out; first | omega | exact Nat.le_refl _⟩, ⟨by (with_reducible repeat (first | apply Kd.R_alloc | apply Kd.R_drewN | apply Kd.R_drew)); exact HO_4.out⟩, ⟨by refine bu ?_; exact BK261.out⟩, ⟨bs⟩⟩
             ·rw [if_neg c29] at H
              have c29b0 : ((rd t263 (l0_0.length : Int)) == 1) = false := beq_eq_false_iff_ne.mpr c29
              have c29b1 : ((rd t263 (l0_0.length : Int)) != 1) = true := bne_iff_ne.mpr c29
              have H' := Aside0.mk H
              clear H
              obtain ⟨Ao41, co41, eo41⟩ := Kd.R_slice HO_4.out
              subst eo41
              have p277 : 0 ≤ (0 : Int) := (by omega)
              have q277 : 0 < (t263.length : Int) := of_decide_eq_true od
              obtain ⟨ad277, e277, hx277_0⟩ := Kd.at_int (Kd.R_reads' HO_4.out).2.2 0 p277 q277
              cases e277
              have qi277 : (0 < t263.length) = True := eq_true (by omega)
              (try rw [show ((0 : Int)).toNat = 0 from rfl] at hx277_0)
              (try rw [Addr.add_zero'] at hx277_0)
              replace p277 := eq_true p277
              replace q277 := eq_true q277
              have p278 : 0 ≤ ((l0_0.length : Int) : Int) := of_decide_eq_true od
              have q278 : (l0_0.length : Int) < (t263.length : Int) := of_decide_eq_true od
              obtain ⟨ad278, e278, hx278_0⟩ := Kd.at_int (Kd.R_reads' HO_4.out).2.2 (l0_0.length : Int) p278 q278
              obtain rfl : ad277 = ad278 := (by injection e278)
              (try simp only [Go.IntWalk.toNatUp] at hx278_0)
              replace p278 := eq_true p278
              replace q278 := eq_true q278
              go_wp2
              repeat (go_quiet (fail); try go_wp2)
              go_meet
              case rel => exact ⟨_, (true), tv, H', ⟨by have := HJ7.out; first | omega | exact Nat.le_refl _⟩, ⟨by (with_reducible repeat (first | apply Kd.R_alloc | apply Kd.R_drewN | apply Kd.R_drew)); exact HO_4.out⟩, ⟨by refine bu ?_; exact BK261.out⟩, ⟨bs⟩⟩
            ·rw [if_neg c28] at H
             exact absurd H (by simp)
           ·rw [if_neg c27] at H
            exact absurd H (by simp)
          ·rw [if_neg c26] at H
           have c26b0 : ((rd t263 0) == 0) = false := beq_eq_false_iff_ne.mpr c26
           have c26b1 : ((rd t263 0) != 0) = true := bne_iff_ne.mpr c26
           have H' := Aside0.mk H
           clear H
           obtain ⟨Ao42, co42, eo42⟩ := Kd.R_slice HO_4.out
           subst eo42
           have p277 : 0 ≤ (0 : Int) := (by omega)
           have q277 : 0 < (t263.length : Int) := of_decide_eq_true od
           obtain ⟨ad277, e277, hx277_0⟩ := Kd.at_int (Kd.R_reads' HO_4.out).2.2 0 p277 q277
           cases e277
           have qi277 : (0 < t263.length) = True := eq_true (by omega)
           (try rw [show ((0 : Int)).toNat = 0 from rfl] at hx277_0)
           (try rw [Addr.add_zero'] at hx277_0)
           replace p277 := eq_true p277
           replace q277 := eq_true q277
           go_wp2
           repeat (go_quiet (fail); try go_wp2)
           go_meet
           case rel => exact ⟨_, (true), tv, H', ⟨by have := HJ7.out; first | omega | exact Nat.le_refl _⟩, ⟨by (with_reducible repeat (first | apply Kd.R_alloc | apply Kd.R_drewN | apply Kd.R_drew)); exact HO_4.out⟩, ⟨by refine bu ?_; exact BK261.out⟩, ⟨bs⟩⟩
         ·rw [if_neg c25] at H
          exact absurd H (by simp)
        ·rw [if_neg c24] at H
         have c24b0 : ((t263.length : Int) == (wrap64 ((l0_0.length : Int) + 1))) = false := beq_eq_false_iff_ne.mpr c24
         have c24b1 : ((t263.length : Int) != (wrap64 ((l0_0.length : Int) + 1))) = true := bne_iff_ne.mpr c24
         have H' := Aside0.mk H
         clear H
         obtain ⟨Ao43, co43, eo43⟩ := Kd.R_slice HO_4.out
         subst eo43
         go_wp2
         repeat (go_quiet (fail); try go_wp2)
         go_meet
         case rel => exact ⟨_, (true), tv, H', ⟨by have := HJ7.out; first | omega | exact Nat.le_refl _⟩, ⟨by (with_reducible repeat (first | apply Kd.R_alloc | apply Kd.R_drewN | apply Kd.R_drew)); exact HO_4.out⟩, ⟨by refine bu ?_; exact BK261.out⟩, ⟨bs⟩⟩
       ·rw [if_neg c23] at H
        have c23b0 : (t266 == 0) = false := beq_eq_false_iff_ne.mpr c23
        have c23b1 : (t266 != 0) = true := bne_iff_ne.mpr c23
        (first | rw [c23b0] | (simp only [i64_w, i32_w]; rw [c23b0]) | skip)
        have H' := Aside0.mk H
        clear H
        go_wp2
        repeat (go_quiet (fail); try go_wp2)
        go_meet
        case rel => exact ⟨_, (true), tv, H', ⟨by have := HJ7.out; first | omega | exact Nat.le_refl _⟩, ⟨by (with_reducible repeat (first | apply Kd.R_alloc | apply Kd.R_drewN | apply Kd.R_drew)); exact HO_4.out⟩, ⟨by refine bu ?_; exact BK261.out⟩, ⟨bs⟩⟩
      case rest => as_aux_lemma =>
       clear HC22
       try clear c1
       try clear c2
       try clear p2
       try clear q2
       try clear hx2
       try clear qi2
       try clear c3
       try clear p6
       try clear c19
       try clear c19b0
       try clear c19b1
       try clear c20
       try clear c21
       try clear c21b0
       try clear c21b1
       try clear c23
       try clear c23b0
       try clear c23b1
       try clear c24
       try clear c24b0
       try clear c24b1
       try clear c25
       try clear c25b0
       try clear c25b1
       try clear c26
       try clear c26b0
       try clear c26b1
       try clear c27
       try clear c27b0
       try clear c27b1
       try clear p27
       try clear q27
       try clear hx27
       try clear qi27
       try clear c28
       try clear c28b0
       try clear c28b1
       try clear c29
       try clear c29b0
       try clear c29b1
       try clear c30
       try clear c30b0
       try clear c32
       try clear c32b0
       try clear c32b1
       try clear c33
       try clear c33b0
       try clear c33b1
       try clear c36
       try clear c36b0
       try clear c36b1
       try clear c37
       try clear c37b0
       try clear c37b1
       try clear hcz11_0 hcz11_1 hcz11_2
       try clear hcz13_0 hcz13_1 hcz13_2
       try clear hcz15_0 hcz15_1 hcz15_2
       try clear hcz17_0 hcz17_1 hcz17_2
       try clear hfz11_0 hfz11_1 hfz11_2
       try clear hfz13_0 hfz13_1 hfz13_2
       try clear hfz15_0 hfz15_1 hfz15_2
       try clear hfz17_0 hfz17_1 hfz17_2
       try clear hx277_0
       try clear hx278_0
       try clear p2
       try clear p277
       try clear p278
       try clear q277
       try clear q278
       obtain ⟨kq, x141_21, rfl, HA, HJ21, HO_4, BK261, HB⟩ := hcut
       cases kq with
       | zero => exact absurd HA.out (by simp [w_CodeHeights.j1])
       | succ kj21 =>
        have H := HA.out
        clear HA
        simp only [w_CodeHeights.j1] at H
        by_cases c44 : x141_21 = true
        ·subst c44
         have H1 : (some false) = some r := by rw [if_pos rfl] at H; exact H
         clear H
         have H := H1
         clear H1
         obtain rfl := Option.some.inj H
         go_wp2
         repeat (go_quiet (fail); try go_wp2)
         go_ret
         exact ⟨er, bs⟩
        ·replace c44 := Bool.eq_false_iff.mpr c44
         subst c44
         have H1 : (if 0 ≤ (wrap64 ((l0_0.length : Int) + 1)) then (if (wrap64 ((l0_0.length : Int) + 1) : Int).toNat ≤ 281474976710656 then ((some (List.replicate (wrap64 ((l0_0.length : Int) + 1) : Int).toNat false : List Bool)).bind fun y279 => (if 0 < (y279.length : Int) then (w_CodeHeights.l0 kj21 (l0_0.length : Int) t263 t268 (y279.set (0 : Int).toNat true) 0 0 l0_0 l0_1 l0_2) else (none))) else (none)) else (none)) = some r := by rw [if_neg (show ¬ (false = true) by decide)] at H; exact H
         clear H
         have H := H1
         clear H1
         obtain ⟨ji45, hji45⟩ : ∃ j_ : Int, (wrap64 ((l0_0.length : Int) + 1)) = j_ := ⟨_, rfl⟩
         replace H : (if 0 ≤ (ji45) then (if (ji45 : Int).toNat ≤ 281474976710656 then ((some (List.replicate (ji45 : Int).toNat false : List Bool)).bind fun y279 => (if 0 < (y279.length : Int) then (w_CodeHeights.l0 kj21 (l0_0.length : Int) t263 t268 (y279.set (0 : Int).toNat true) 0 0 l0_0 l0_1 l0_2) else (none))) else (none)) else (none)) = some r := by first | (rw [hji45] at H; exact H) | (simp only [hji45] at H ⊢; exact H)
         have hji45w : (IntKind.i64.wrap ((l0_0.length : Int) + 1)) = ji45 := (i64_w _).trans hji45
         by_cases c46 : 0 ≤ (ji45)
         ·rw [if_pos c46] at H
          have c46b0 := eq_true c46
          have c46b1 : decide (0 ≤ (ji45)) = true := decide_eq_true c46
          clear c46
          by_cases c47 : (ji45 : Int).toNat ≤ 281474976710656
          ·rw [if_pos c47] at H
           have c47b0 := eq_true c47
           have c47b1 : decide ((ji45 : Int).toNat ≤ 281474976710656) = true := decide_eq_true c47
           clear c47
           obtain ⟨y279, hy279⟩ : ∃ y_ : List Bool, y_ = (List.replicate (ji45 : Int).toNat false) := ⟨_, rfl⟩
           replace H : (if 0 < (y279.length : Int) then (w_CodeHeights.l0 kj21 (l0_0.length : Int) t263 t268 (y279.set (0 : Int).toNat true) 0 0 l0_0 l0_1 l0_2) else (none)) = some r := by first | (rw [hy279]; with_reducible exact H) | (have H2_ := (Option.bind_some _ _).symm.trans H; rw [hy279]; with_reducible exact H2_) | (have H2_ := (Option.bind_some _ _).symm.trans H; with_reducible exact H2_) | with_reducible exact H | (rw [hy279]; exact H) | exact H
           have Ny279 := Aside0.mk hy279
           clear hy279
           by_cases c48 : 0 < (y279.length : Int)
           ·rw [if_pos c48] at H
            have c48b0 : decide (0 < (y279.length : Int)) = true := decide_eq_true c48
            have c48b1 : decide (0 < y279.length) = true := decide_eq_true (by omega)
            clear c48
            obtain ⟨y282, hy282⟩ : ∃ y_ : List Bool, y_ = (y279.set (0 : Int).toNat true) := ⟨_, rfl⟩
            replace H : (w_CodeHeights.l0 kj21 (l0_0.length : Int) t263 t268 y282 0 0 l0_0 l0_1 l0_2) = some r := by first | (rw [hy282]; with_reducible exact H) | (have H2_ := (Option.bind_some _ _).symm.trans H; rw [hy282]; with_reducible exact H2_) | (have H2_ := (Option.bind_some _ _).symm.trans H; with_reducible exact H2_) | with_reducible exact H | (rw [hy282]; exact H) | exact H
            have Ny282 := Aside0.mk hy282
            clear hy282
            have H' := Aside0.mk H
            clear H
            go_wp2_with (first | ((with_reducible refine gate_dst (N := 144) rfl ?_); (try (refine gate_guard (by rfl) ?_; dsimp only)); refine Kd.R_make Kd.bool _ 4 rfl (N := 144) rfl 39 _ _ rfl ji45 rfl rfl Tryd.underlying39 (.bool false) 1 info4 rfl (by decide) (by omega) false (ok := fun _ => True) (okp := fun _ => True) rfl (fun _ hk => hk) trivial (of_decide_eq_true od) (Nat.le_trans (Nat.mul_le_mul_right _ (of_decide_eq_true od : ji45.toNat ≤ 281474976710656)) (by omega)) (Below.refl _ _) (Nat.le_refl _) ?_; intro v280 w50 ho51 hb hg_ hnew_; clear hg_ hnew_; (first | rw [← Ny279.out] at ho51 | (simp only [Int.reduceToNat] at ho51; rw [← Ny279.out] at ho51)); have n0_ := Aside0.mk (Kd.R_below (by (with_reducible repeat (first | apply Kd.R_alloc | apply Kd.R_drewN | apply Kd.R_drew)); exact HO_4.out) hb); have n1_ := Aside0.mk (Kd.R_lower ho51 (below_size bs)); have n2_ := Aside0.mk (blk_below (bu BK261.out) hb); have n3_ := Aside0.mk (below_step bs hb); clear HO_4; clear BK261; clear HB; have HO_4 := n0_; have HO281 := n1_; have BK261 := n2_; have HB := n3_; clear n0_ n1_ n2_ n3_; clear hb ho51; have p49 : 0 ≤ (0 : Int) := (by omega); have q49 : (0 : Int) < ((y279.length : Int) : Int) := of_decide_eq_true od; have qi49 : (0 < y279.length) = True := eq_true (by omega); obtain ⟨go49, co49, eo49, gb49, gl49, cl49, HG49⟩ := Kd.R_form HO281.out (by omega); (first | cases eo49 | (injection eo49 with ea_ en_ ec_; (first | subst ea_ | (injection ea_ with ea_; subst ea_)); subst ec_; clear en_)); have GB49 := Aside0.mk gb49; have GG49 := Aside0.mk HG49; clear gb49 gl49 HG49; obtain ⟨hx49_0, hf49_0⟩ := Kd.R_celln false HO281.out (0 : Int) p49 q49; (try rw [show ((0 : Int)).toNat = 0 from rfl] at hx49_0); (try simp only [Nat.reduceMul, Nat.zero_mul, Nat.zero_add, Nat.reduceAdd] at hx49_0); (try rw [show ((0 : Int)).toNat = 0 from rfl] at hf49_0); (try simp only [Nat.reduceMul, Nat.zero_mul, Nat.zero_add, Nat.reduceAdd] at hf49_0); replace p49 := eq_true p49; replace q49 := eq_true q49; obtain ⟨hy52_, hz52_⟩ := Kd.R_celln false HO281.out (0 : Int) (by omega) (of_decide_eq_true od); (try simp only [Int.reduceToNat, Int.toNat_zero, Int.toNat_ofNat, Nat.reduceMul, Nat.zero_mul, Nat.zero_add] at hy52_ hz52_); (try rw [show ((0 : Int)).toNat = 0 from rfl] at hy52_); (try rw [show ((0 : Int)).toNat = 0 from rfl] at hz52_); have HP52 := Kd.R_putg HO281.out (0 : Int) true) | ((with_reducible refine gate_store (t := 4) (p := 146) rfl ?_); (try (rw [drewN_self w50]; generalize hq_ : World.drewN w50 _ = w50; have n0_ := Aside0.mk (Kd.R_at hq_ HO_4.out); have n1_ := Aside0.mk (Kd.R_at hq_ HO281.out); have n2_ := Aside0.mk (blk_at hq_ BK261.out); have n3_ := Aside0.mk (below_at hq_ HB.out); clear hq_ HO_4 HO281 BK261 HB; have HO_4 := n0_; have HO281 := n1_; have BK261 := n2_; have HB := n3_; clear n0_ n1_ n2_ n3_; (try (obtain ⟨hy52_, hz52_⟩ := Kd.R_celln false HO281.out (0 : Int) (by omega) (of_decide_eq_true od))); (try (try simp only [Int.reduceToNat, Int.toNat_zero, Int.toNat_ofNat, Nat.reduceMul, Nat.zero_mul, Nat.zero_add] at hy52_ hz52_)); (try (try rw [show ((0 : Int)).toNat = 0 from rfl] at hy52_)); (try (try rw [show ((0 : Int)).toNat = 0 from rfl] at hz52_)); (try (have HP52 := Kd.R_putg HO281.out (0 : Int) true)))); refine store_event (t := 4) (p := 146) (v := ?vo_w53) (w1 := (w50.setCell ⟨go49, (0 : Int).toNat, none⟩ (.bool true))) ?hg ?ho ?hn ?hr ?_; (case ho => rfl); (case hg => rfl); (case hn => rfl); (case hr => first | (go_simp; done) | (go_simp; rfl)); intro w53 hw; have hg : w50.grownBy w53 (some go49) := (by rw [hw]; exact HP52.2); have hp_ : Kd.R Kd.bool 4 w53 w.heap.size (fun _ => True) (.slice (some ⟨go49, 0, none⟩) y279.length co49) y282 := (by rw [hw, Ny282.out]; exact HP52.1); clear HP52; have n0_ := Aside0.mk (Kd.R_over' (v := (.slice (some ⟨go49, 0, none⟩) y279.length co49)) (by (with_reducible repeat (first | apply Kd.R_alloc | apply Kd.R_drewN | apply Kd.R_drew)); exact HO_4.out) (Kd.R_typed HO281.out) (by decide) hg); have n1_ := Aside0.mk (blk_grown (g := gb261) (o := .cells #[.slice A0_0 l0_0.length c0_0, .slice A0_1 l0_1.length c0_1, .slice A0_2 l0_2.length c0_2] 26 (0, 0)) (bu BK261.out) hg (Kd.R_ne HO281.out BK261.out (by decide))); have n2_ := Aside0.mk (hp_); have n3_ := Aside0.mk ((by rw [hw]; exact below_set (HB.out) GB49.out : Below w.heap.size w w53)); clear HO_4; clear BK261; clear HO281; clear HB; have HO_4 := n0_; have BK261 := n1_; have HO281 := n2_; have HB := n3_; clear n0_ n1_ n2_ n3_; clear hg hw hp_))
            repeat (go_quiet (first | ((with_reducible refine gate_dst (N := 144) rfl ?_); (try (refine gate_guard (by rfl) ?_; dsimp only)); refine Kd.R_make Kd.bool _ 4 rfl (N := 144) rfl 39 _ _ rfl ji45 rfl rfl Tryd.underlying39 (.bool false) 1 info4 rfl (by decide) (by omega) false (ok := fun _ => True) (okp := fun _ => True) rfl (fun _ hk => hk) trivial (of_decide_eq_true od) (Nat.le_trans (Nat.mul_le_mul_right _ (of_decide_eq_true od : ji45.toNat ≤ 281474976710656)) (by omega)) (Below.refl _ _) (Nat.le_refl _) ?_; intro v280 w50 ho51 hb hg_ hnew_; clear hg_ hnew_; (first | rw [← Ny279.out] at ho51 | (simp only [Int.reduceToNat] at ho51; rw [← Ny279.out] at ho51)); have n0_ := Aside0.mk (Kd.R_below (by (with_reducible repeat (first | apply Kd.R_alloc | apply Kd.R_drewN | apply Kd.R_drew)); exact HO_4.out) hb); have n1_ := Aside0.mk (Kd.R_lower ho51 (below_size bs)); have n2_ := Aside0.mk (blk_below (bu BK261.out) hb); have n3_ := Aside0.mk (below_step bs hb); clear HO_4; clear BK261; clear HB; have HO_4 := n0_; have HO281 := n1_; have BK261 := n2_; have HB := n3_; clear n0_ n1_ n2_ n3_; clear hb ho51; have p49 : 0 ≤ (0 : Int) := (by omega); have q49 : (0 : Int) < ((y279.length : Int) : Int) := of_decide_eq_true od; have qi49 : (0 < y279.length) = True := eq_true (by omega); obtain ⟨go49, co49, eo49, gb49, gl49, cl49, HG49⟩ := Kd.R_form HO281.out (by omega); (first | cases eo49 | (injection eo49 with ea_ en_ ec_; (first | subst ea_ | (injection ea_ with ea_; subst ea_)); subst ec_; clear en_)); have GB49 := Aside0.mk gb49; have GG49 := Aside0.mk HG49; clear gb49 gl49 HG49; obtain ⟨hx49_0, hf49_0⟩ := Kd.R_celln false HO281.out (0 : Int) p49 q49; (try rw [show ((0 : Int)).toNat = 0 from rfl] at hx49_0); (try simp only [Nat.reduceMul, Nat.zero_mul, Nat.zero_add, Nat.reduceAdd] at hx49_0); (try rw [show ((0 : Int)).toNat = 0 from rfl] at hf49_0); (try simp only [Nat.reduceMul, Nat.zero_mul, Nat.zero_add, Nat.reduceAdd] at hf49_0); replace p49 := eq_true p49; replace q49 := eq_true q49; obtain ⟨hy52_, hz52_⟩ := Kd.R_celln false HO281.out (0 : Int) (by omega) (of_decide_eq_true od); (try simp only [Int.reduceToNat, Int.toNat_zero, Int.toNat_ofNat, Nat.reduceMul, Nat.zero_mul, Nat.zero_add] at hy52_ hz52_); (try rw [show ((0 : Int)).toNat = 0 from rfl] at hy52_); (try rw [show ((0 : Int)).toNat = 0 from rfl] at hz52_); have HP52 := Kd.R_putg HO281.out (0 : Int) true) | ((with_reducible refine gate_store (t := 4) (p := 146) rfl ?_); (try (rw [drewN_self w50]; generalize hq_ : World.drewN w50 _ = w50; have n0_ := Aside0.mk (Kd.R_at hq_ HO_4.out); have n1_ := Aside0.mk (Kd.R_at hq_ HO281.out); have n2_ := Aside0.mk (blk_at hq_ BK261.out); have n3_ := Aside0.mk (below_at hq_ HB.out); clear hq_ HO_4 HO281 BK261 HB; have HO_4 := n0_; have HO281 := n1_; have BK261 := n2_; have HB := n3_; clear n0_ n1_ n2_ n3_; (try (obtain ⟨hy52_, hz52_⟩ := Kd.R_celln false HO281.out (0 : Int) (by omega) (of_decide_eq_true od))); (try (try simp only [Int.reduceToNat, Int.toNat_zero, Int.toNat_ofNat, Nat.reduceMul, Nat.zero_mul, Nat.zero_add] at hy52_ hz52_)); (try (try rw [show ((0 : Int)).toNat = 0 from rfl] at hy52_)); (try (try rw [show ((0 : Int)).toNat = 0 from rfl] at hz52_)); (try (have HP52 := Kd.R_putg HO281.out (0 : Int) true)))); refine store_event (t := 4) (p := 146) (v := ?vo_w53) (w1 := (w50.setCell ⟨go49, (0 : Int).toNat, none⟩ (.bool true))) ?hg ?ho ?hn ?hr ?_; (case ho => rfl); (case hg => rfl); (case hn => rfl); (case hr => first | (go_simp; done) | (go_simp; rfl)); intro w53 hw; have hg : w50.grownBy w53 (some go49) := (by rw [hw]; exact HP52.2); have hp_ : Kd.R Kd.bool 4 w53 w.heap.size (fun _ => True) (.slice (some ⟨go49, 0, none⟩) y279.length co49) y282 := (by rw [hw, Ny282.out]; exact HP52.1); clear HP52; have n0_ := Aside0.mk (Kd.R_over' (v := (.slice (some ⟨go49, 0, none⟩) y279.length co49)) (by (with_reducible repeat (first | apply Kd.R_alloc | apply Kd.R_drewN | apply Kd.R_drew)); exact HO_4.out) (Kd.R_typed HO281.out) (by decide) hg); have n1_ := Aside0.mk (blk_grown (g := gb261) (o := .cells #[.slice A0_0 l0_0.length c0_0, .slice A0_1 l0_1.length c0_1, .slice A0_2 l0_2.length c0_2] 26 (0, 0)) (bu BK261.out) hg (Kd.R_ne HO281.out BK261.out (by decide))); have n2_ := Aside0.mk (hp_); have n3_ := Aside0.mk ((by rw [hw]; exact below_set (HB.out) GB49.out : Below w.heap.size w w53)); clear HO_4; clear BK261; clear HO281; clear HB; have HO_4 := n0_; have BK261 := n1_; have HO281 := n2_; have HB := n3_; clear n0_ n1_ n2_ n3_; clear hg hw hp_)); try go_wp2_with (first | ((with_reducible refine gate_dst (N := 144) rfl ?_); (try (refine gate_guard (by rfl) ?_; dsimp only)); refine Kd.R_make Kd.bool _ 4 rfl (N := 144) rfl 39 _ _ rfl ji45 rfl rfl Tryd.underlying39 (.bool false) 1 info4 rfl (by decide) (by omega) false (ok := fun _ => True) (okp := fun _ => True) rfl (fun _ hk => hk) trivial (of_decide_eq_true od) (Nat.le_trans (Nat.mul_le_mul_right _ (of_decide_eq_true od : ji45.toNat ≤ 281474976710656)) (by omega)) (Below.refl _ _) (Nat.le_refl _) ?_; intro v280 w50 ho51 hb hg_ hnew_; clear hg_ hnew_; (first | rw [← Ny279.out] at ho51 | (simp only [Int.reduceToNat] at ho51; rw [← Ny279.out] at ho51)); have n0_ := Aside0.mk (Kd.R_below (by (with_reducible repeat (first | apply Kd.R_alloc | apply Kd.R_drewN | apply Kd.R_drew)); exact HO_4.out) hb); have n1_ := Aside0.mk (Kd.R_lower ho51 (below_size bs)); have n2_ := Aside0.mk (blk_below (bu BK261.out) hb); have n3_ := Aside0.mk (below_step bs hb); clear HO_4; clear BK261; clear HB; have HO_4 := n0_; have HO281 := n1_; have BK261 := n2_; have HB := n3_; clear n0_ n1_ n2_ n3_; clear hb ho51; have p49 : 0 ≤ (0 : Int) := (by omega); have q49 : (0 : Int) < ((y279.length : Int) : Int) := of_decide_eq_true od; have qi49 : (0 < y279.length) = True := eq_true (by omega); obtain ⟨go49, co49, eo49, gb49, gl49, cl49, HG49⟩ := Kd.R_form HO281.out (by omega); (first | cases eo49 | (injection eo49 with ea_ en_ ec_; (first | subst ea_ | (injection ea_ with ea_; subst ea_)); subst ec_; clear en_)); have GB49 := Aside0.mk gb49; have GG49 := Aside0.mk HG49; clear gb49 gl49 HG49; obtain ⟨hx49_0, hf49_0⟩ := Kd.R_celln false HO281.out (0 : Int) p49 q49; (try rw [show ((0 : Int)).toNat = 0 from rfl] at hx49_0); (try simp only [Nat.reduceMul, Nat.zero_mul, Nat.zero_add, Nat.reduceAdd] at hx49_0); (try rw [show ((0 : Int)).toNat = 0 from rfl] at hf49_0); (try simp only [Nat.reduceMul, Nat.zero_mul, Nat.zero_add, Nat.reduceAdd] at hf49_0); replace p49 := eq_true p49; replace q49 := eq_true q49; obtain ⟨hy52_, hz52_⟩ := Kd.R_celln false HO281.out (0 : Int) (by omega) (of_decide_eq_true od); (try simp only [Int.reduceToNat, Int.toNat_zero, Int.toNat_ofNat, Nat.reduceMul, Nat.zero_mul, Nat.zero_add] at hy52_ hz52_); (try rw [show ((0 : Int)).toNat = 0 from rfl] at hy52_); (try rw [show ((0 : Int)).toNat = 0 from rfl] at hz52_); have HP52 := Kd.R_putg HO281.out (0 : Int) true) | ((with_reducible refine gate_store (t := 4) (p := 146) rfl ?_); (try (rw [drewN_self w50]; generalize hq_ : World.drewN w50 _ = w50; have n0_ := Aside0.mk (Kd.R_at hq_ HO_4.out); have n1_ := Aside0.mk (Kd.R_at hq_ HO281.out); have n2_ := Aside0.mk (blk_at hq_ BK261.out); have n3_ := Aside0.mk (below_at hq_ HB.out); clear hq_ HO_4 HO281 BK261 HB; have HO_4 := n0_; have HO281 := n1_; have BK261 := n2_; have HB := n3_; clear n0_ n1_ n2_ n3_; (try (obtain ⟨hy52_, hz52_⟩ := Kd.R_celln false HO281.out (0 : Int) (by omega) (of_decide_eq_true od))); (try (try simp only [Int.reduceToNat, Int.toNat_zero, Int.toNat_ofNat, Nat.reduceMul, Nat.zero_mul, Nat.zero_add] at hy52_ hz52_)); (try (try rw [show ((0 : Int)).toNat = 0 from rfl] at hy52_)); (try (try rw [show ((0 : Int)).toNat = 0 from rfl] at hz52_)); (try (have HP52 := Kd.R_putg HO281.out (0 : Int) true)))); refine store_event (t := 4) (p := 146) (v := ?vo_w53) (w1 := (w50.setCell ⟨go49, (0 : Int).toNat, none⟩ (.bool true))) ?hg ?ho ?hn ?hr ?_; (case ho => rfl); (case hg => rfl); (case hn => rfl); (case hr => first | (go_simp; done) | (go_simp; rfl)); intro w53 hw; have hg : w50.grownBy w53 (some go49) := (by rw [hw]; exact HP52.2); have hp_ : Kd.R Kd.bool 4 w53 w.heap.size (fun _ => True) (.slice (some ⟨go49, 0, none⟩) y279.length co49) y282 := (by rw [hw, Ny282.out]; exact HP52.1); clear HP52; have n0_ := Aside0.mk (Kd.R_over' (v := (.slice (some ⟨go49, 0, none⟩) y279.length co49)) (by (with_reducible repeat (first | apply Kd.R_alloc | apply Kd.R_drewN | apply Kd.R_drew)); exact HO_4.out) (Kd.R_typed HO281.out) (by decide) hg); have n1_ := Aside0.mk (blk_grown (g := gb261) (o := .cells #[.slice A0_0 l0_0.length c0_0, .slice A0_1 l0_1.length c0_1, .slice A0_2 l0_2.length c0_2] 26 (0, 0)) (bu BK261.out) hg (Kd.R_ne HO281.out BK261.out (by decide))); have n2_ := Aside0.mk (hp_); have n3_ := Aside0.mk ((by rw [hw]; exact below_set (HB.out) GB49.out : Below w.heap.size w w53)); clear HO_4; clear BK261; clear HO281; clear HB; have HO_4 := n0_; have BK261 := n1_; have HO281 := n2_; have HB := n3_; clear n0_ n1_ n2_ n3_; clear hg hw hp_)))
            go_loopg [15, 16] kj21 (fun kq v15 v16 w' => ∃ (x14_3 : List Bool) (x15_3 : Int) (x16_3 : Int), v15 = .int .i64 x15_3 ∧ v16 = .int .i64 x16_3 ∧ Aside0 (w_CodeHeights.l0 kq (l0_0.length : Int) t263 t268 x14_3 x15_3 x16_3 l0_0 l0_1 l0_2 = some r) ∧ Aside0 (kq ≤ kj21) ∧ Aside0 (Kd.R (Kd.int .i64) 3 w' w.heap.size (fun _ => True) v264 t263) ∧ Aside0 (Kd.R Kd.bool 4 w' w.heap.size (fun _ => True) (.slice (some ⟨go49, 0, none⟩) y279.length co49) x14_3) ∧ Aside0 (w'.heap[gb261]? = some (.cells #[(.slice A0_0 l0_0.length c0_0), (.slice A0_1 l0_1.length c0_1), (.slice A0_2 l0_2.length c0_2)] 26 (0, 0))) ∧ Aside0 (Below w.heap.size w w'))
            case atStart => exact ⟨(y282), (0), (0), tv, tv, H', ⟨Nat.le_refl _⟩, ⟨by (with_reducible repeat (first | apply Kd.R_alloc | apply Kd.R_drewN | apply Kd.R_drew)); exact HO_4.out⟩, ⟨by (with_reducible repeat (first | apply Kd.R_alloc | apply Kd.R_drewN | apply Kd.R_drew)); exact HO281.out⟩, ⟨by refine bu ?_; exact BK261.out⟩, ⟨bs⟩⟩
            case round =>
             clear H'
             try clear c1
             try clear c2
             try clear p2
             try clear q2
             try clear hx2
             try clear qi2
             try clear c3
             try clear c4
             try clear p4
             try clear q4
             try clear hx4
             try clear qi4
             try clear hf4
             try clear p6
             try clear c19
             try clear c19b0
             try clear c19b1
             try clear c20
             try clear c21
             try clear c21b0
             try clear c21b1
             try clear c23
             try clear c23b0
             try clear c23b1
             try clear c24
             try clear c24b0
             try clear c24b1
             try clear c25
             try clear c25b0
             try clear c25b1
             try clear c26
             try clear c26b0
             try clear c26b1
             try clear c27
             try clear c27b0
             try clear c27b1
             try clear p27
             try clear q27
             try clear hx27
             try clear qi27
             try clear c28
             try clear c28b0
             try clear c28b1
             try clear c29
             try clear c29b0
             try clear c29b1
             try clear c30
             try clear c30b0
             try clear c32
             try clear c32b0
             try clear c32b1
             try clear c33
             try clear c33b0
             try clear c33b1
             try clear c36
             try clear c36b0
             try clear c36b1
             try clear c37
             try clear c37b0
             try clear c37b1
             try clear c44
             try clear c46
             try clear c46b0
             try clear c46b1
             try clear c47
             try clear c47b0
             try clear c47b1
             try clear c48
             try clear c48b0
             try clear c48b1
             try clear p49
             try clear q49
             try clear hx49
             try clear qi49
             try clear hf49
             try clear hcz11_0 hcz11_1 hcz11_2
             try clear hcz13_0 hcz13_1 hcz13_2
             try clear hcz15_0 hcz15_1 hcz15_2
             try clear hcz17_0 hcz17_1 hcz17_2
             try clear hfz11_0 hfz11_1 hfz11_2
             try clear hfz13_0 hfz13_1 hfz13_2
             try clear hfz15_0 hfz15_1 hfz15_2
             try clear hfz17_0 hfz17_1 hfz17_2
             try clear hx277_0
             try clear hx278_0
             try clear hx49_0
             try clear p2
             try clear p27
             try clear p277
             try clear p278
             try clear p49
             try clear p6
             try clear q2
             try clear q27
             try clear q277
             try clear q278
             try clear q49
             obtain ⟨x14_3, x15_3, x16_3, rfl, rfl, HA, HK3, HO_4, HO_14, BK261, HB⟩ := hrel
             have hl14_3 := (Kd.R_reads' HO_14.out).1
             rw [hl14_3] at HO_14
             (try simp only [hl14_3])
             (try simp only [hl14_3] at BK261)
             (try simp only [hl14_3] at HO_4)
             cases gk with
             | zero => exact absurd HA.out (by simp [w_CodeHeights.l0])
             | succ k3 =>
              have H := HA.out
              clear HA
              simp only [w_CodeHeights.l0] at H
              by_cases c54 : x16_3 ≤ (l0_0.length : Int)
              ·rw [if_pos c54] at H
               have c54b0 : decide (x16_3 ≤ (l0_0.length : Int)) = true := decide_eq_true c54
               clear c54
               have HC55 := Aside0.mk H
               clear H
               go_upto_region 20 with (fail)
               repeat (go_quiet (fail); go_upto_region 20 with (fail))
               go_cut [176] (fun v176 wc => ∃ (kq : Nat) (x176_54 : Bool), v176 = .bool x176_54 ∧ Aside0 (w_CodeHeights.j3 kq (l0_0.length : Int) t263 t268 x14_3 x15_3 x16_3 x176_54 l0_0 l0_1 l0_2 = some r) ∧ Aside0 (kq ≤ k3) ∧ Aside0 (Kd.R (Kd.int .i64) 3 wc w.heap.size (fun _ => True) v264 t263) ∧ Aside0 (Kd.R Kd.bool 4 wc w.heap.size (fun _ => True) (.slice (some ⟨go49, 0, none⟩) x14_3.length co49) x14_3) ∧ Aside0 (wc.heap[gb261]? = some (.cells #[(.slice A0_0 l0_0.length c0_0), (.slice A0_1 l0_1.length c0_1), (.slice A0_2 l0_2.length c0_2)] 26 (0, 0))) ∧ Aside0 (Below w.heap.size w wc))
               case first => as_aux_lemma =>
                have H := HC55.out
                clear HC55
                by_cases c56 : 0 ≤ x16_3
                ·rw [if_pos c56] at H
                 have c56b0 : decide (0 ≤ x16_3) = true := decide_eq_true c56
                 clear c56
                 (first | rw [c56b0] | (simp only [i64_w, i32_w]; rw [c56b0]) | skip)
                 by_cases c57 : x16_3 < (x14_3.length : Int)
                 ·rw [if_pos c57] at H
                  have c57b0 : decide (x16_3 < (x14_3.length : Int)) = true := decide_eq_true c57
                  clear c57
                  by_cases c58 : x16_3 < (t263.length : Int)
                  ·rw [if_pos c58] at H
                   have c58b0 : decide (x16_3 < (t263.length : Int)) = true := decide_eq_true c58
                   clear c58
                   by_cases c59 : ((rdOf false x14_3 x16_3) != (decide ((rd t263 x16_3) ≥ 0))) = true
                   ·rw [if_pos c59] at H
                    have c59b0 : ((rdOf false x14_3 x16_3) != (decide ((rd t263 x16_3) ≥ 0))) = true := c59
                    (try (have c59b1 : decide ((rdOf false x14_3 x16_3) = (decide ((rd t263 x16_3) ≥ 0))) = false := by simpa using c59))
                    (try (have c59b2 : ((rdOf false x14_3 x16_3) == (decide ((rd t263 x16_3) ≥ 0))) = false := by simpa using c59))
                    (try (have c59b3 : ¬ ((rdOf false x14_3 x16_3) = (decide ((rd t263 x16_3) ≥ 0))) := by simpa using c59))
                    clear c59
                    have H' := Aside0.mk H
                    clear H
                    have p283 : 0 ≤ (x16_3 : Int) := of_decide_eq_true od
                    have q283 : x16_3 < (x14_3.length : Int) := of_decide_eq_true od
                    obtain ⟨ad283, e283, hx283_0⟩ := Kd.at_bool (Kd.R_reads' HO_14.out).2.2 x16_3 p283 q283
                    obtain rfl : (⟨go49, 0, none⟩ : Addr) = ad283 := (by injection e283)
                    (first | simp only [add_plain] at hx283_0 | simp only [add_at] at hx283_0 | simp only [Addr.add, Nat.zero_add] at hx283_0 | skip)
                    replace p283 := eq_true p283
                    replace q283 := eq_true q283
                    obtain ⟨Ao60, co60, eo60⟩ := Kd.R_slice HO_4.out
                    subst eo60
                    have p284 : 0 ≤ (x16_3 : Int) := of_decide_eq_true od
                    have q284 : x16_3 < (t263.length : Int) := of_decide_eq_true od
                    obtain ⟨ad284, e284, hx284_0⟩ := Kd.at_int (Kd.R_reads' HO_4.out).2.2 x16_3 p284 q284
                    cases e284
                    replace p284 := eq_true p284
                    replace q284 := eq_true q284
                    go_wp2
                    repeat (go_quiet (fail); try go_wp2)
                    go_meet
                    case rel => exact ⟨_, (true), tv, H', ⟨by have := HJ7.out; have := HJ21.out; have := HK3.out; first | omega | exact Nat.le_refl _⟩, ⟨by (try simp only [hl14_3]); (with_reducible repeat (first | apply Kd.R_alloc | apply Kd.R_drewN | apply Kd.R_drew)); exact HO_4.out⟩, ⟨by (try simp only [hl14_3]); (with_reducible repeat (first | apply Kd.R_alloc | apply Kd.R_drewN | apply Kd.R_drew)); exact HO_14.out⟩, ⟨by (try simp only [hl14_3]); refine bu ?_; exact BK261.out⟩, ⟨bs⟩⟩
                   ·rw [if_neg c59] at H
                    have c59b0 : ((rdOf false x14_3 x16_3) != (decide ((rd t263 x16_3) ≥ 0))) = false := by simpa using c59
                    (try (have c59b1 : decide ((rdOf false x14_3 x16_3) = (decide ((rd t263 x16_3) ≥ 0))) = true := by simpa using c59))
                    (try (have c59b2 : ((rdOf false x14_3 x16_3) == (decide ((rd t263 x16_3) ≥ 0))) = true := by simpa using c59))
                    clear c59
                    by_cases c61 : (rd t263 x16_3) < (-1)
                    ·rw [if_pos c61] at H
                     have c61b0 : decide ((rd t263 x16_3) < (-1)) = true := decide_eq_true c61
                     clear c61
                     have H' := Aside0.mk H
                     clear H
                     have p283 : 0 ≤ (x16_3 : Int) := of_decide_eq_true od
                     have q283 : x16_3 < (x14_3.length : Int) := of_decide_eq_true od
                     obtain ⟨ad283, e283, hx283_0⟩ := Kd.at_bool (Kd.R_reads' HO_14.out).2.2 x16_3 p283 q283
                     obtain rfl : (⟨go49, 0, none⟩ : Addr) = ad283 := (by injection e283)
                     (first | simp only [add_plain] at hx283_0 | simp only [add_at] at hx283_0 | simp only [Addr.add, Nat.zero_add] at hx283_0 | skip)
                     replace p283 := eq_true p283
                     replace q283 := eq_true q283
                     obtain ⟨Ao62, co62, eo62⟩ := Kd.R_slice HO_4.out
                     subst eo62
                     have p284 : 0 ≤ (x16_3 : Int) := of_decide_eq_true od
                     have q284 : x16_3 < (t263.length : Int) := of_decide_eq_true od
                     obtain ⟨ad284, e284, hx284_0⟩ := Kd.at_int (Kd.R_reads' HO_4.out).2.2 x16_3 p284 q284
                     cases e284
                     replace p284 := eq_true p284
                     replace q284 := eq_true q284
                     have p285 : 0 ≤ (x16_3 : Int) := of_decide_eq_true od
                     have q285 : x16_3 < (t263.length : Int) := of_decide_eq_true od
                     obtain ⟨ad285, e285, hx285_0⟩ := Kd.at_int (Kd.R_reads' HO_4.out).2.2 x16_3 p285 q285
                     obtain rfl : ad284 = ad285 := (by injection e285)
                     replace p285 := eq_true p285
                     replace q285 := eq_true q285
                     go_wp2
                     repeat (go_quiet (fail); try go_wp2)
                     go_meet
                     case rel => exact ⟨_, (true), tv, H', ⟨by have := HJ7.out; have := HJ21.out; have := HK3.out; first | omega | exact Nat.le_refl _⟩, ⟨by (try simp only [hl14_3]); (with_reducible repeat (first | apply Kd.R_alloc | apply Kd.R_drewN | apply Kd.R_drew)); exact HO_4.out⟩, ⟨by (try simp only [hl14_3]); (with_reducible repeat (first | apply Kd.R_alloc | apply Kd.R_drewN | apply Kd.R_drew)); exact HO_14.out⟩, ⟨by (try simp only [hl14_3]); refine bu ?_; exact BK261.out⟩, ⟨bs⟩⟩
                    ·rw [if_neg c61] at H
                     have c61b0 : decide ((rd t263 x16_3) < (-1)) = false := decide_eq_false c61
                     clear c61
                     have H' := Aside0.mk H
                     clear H
                     have p283 : 0 ≤ (x16_3 : Int) := of_decide_eq_true od
                     have q283 : x16_3 < (x14_3.length : Int) := of_decide_eq_true od
                     obtain ⟨ad283, e283, hx283_0⟩ := Kd.at_bool (Kd.R_reads' HO_14.out).2.2 x16_3 p283 q283
                     obtain rfl : (⟨go49, 0, none⟩ : Addr) = ad283 := (by injection e283)
                     (first | simp only [add_plain] at hx283_0 | simp only [add_at] at hx283_0 | simp only [Addr.add, Nat.zero_add] at hx283_0 | skip)
                     replace p283 := eq_true p283
                     replace q283 := eq_true q283
                     obtain ⟨Ao63, co63, eo63⟩ := Kd.R_slice HO_4.out
                     subst eo63
                     have p284 : 0 ≤ (x16_3 : Int) := of_decide_eq_true od
                     have q284 : x16_3 < (t263.length : Int) := of_decide_eq_true od
                     obtain ⟨ad284, e284, hx284_0⟩ := Kd.at_int (Kd.R_reads' HO_4.out).2.2 x16_3 p284 q284
                     cases e284
                     replace p284 := eq_true p284
                     replace q284 := eq_true q284
                     have p285 : 0 ≤ (x16_3 : Int) := of_decide_eq_true od
                     have q285 : x16_3 < (t263.length : Int) := of_decide_eq_true od
                     obtain ⟨ad285, e285, hx285_0⟩ := Kd.at_int (Kd.R_reads' HO_4.out).2.2 x16_3 p285 q285
                     obtain rfl : ad284 = ad285 := (by injection e285)
                     replace p285 := eq_true p285
                     replace q285 := eq_true q285
                     have p286 : 0 ≤ (x16_3 : Int) := of_decide_eq_true od
                     have q286 : x16_3 < (t263.length : Int) := of_decide_eq_true od
                     obtain ⟨ad286, e286, hx286_0⟩ := Kd.at_int (Kd.R_reads' HO_4.out).2.2 x16_3 p286 q286
                     obtain rfl : ad284 = ad286 := (by injection e286)
                     replace p286 := eq_true p286
                     replace q286 := eq_true q286
                     go_wp2
                     repeat (go_quiet (fail); try go_wp2)
                     go_meet
                     case rel => exact ⟨_, (decide ((rd t263 x16_3) > t268)), tv, H', ⟨by have := HJ7.out; have := HJ21.out; have := HK3.out; first | omega | exact Nat.le_refl _⟩, ⟨by (try simp only [hl14_3]); (with_reducible repeat (first | apply Kd.R_alloc | apply Kd.R_drewN | apply Kd.R_drew)); exact HO_4.out⟩, ⟨by (try simp only [hl14_3]); (with_reducible repeat (first | apply Kd.R_alloc | apply Kd.R_drewN | apply Kd.R_drew)); exact HO_14.out⟩, ⟨by (try simp only [hl14_3]); refine bu ?_; exact BK261.out⟩, ⟨bs⟩⟩
                  ·rw [if_neg c58] at H
                   exact absurd H (by simp)
                 ·rw [if_neg c57] at H
                  exact absurd H (by simp)
                ·rw [if_neg c56] at H
                 exact absurd H (by simp)
               case rest => as_aux_lemma =>
                clear HC55
                try clear c1
                try clear c2
                try clear p2
                try clear q2
                try clear hx2
                try clear qi2
                try clear c3
                try clear c4
                try clear p4
                try clear q4
                try clear hx4
                try clear qi4
                try clear hf4
                try clear c5
                try clear c6
                try clear p6
                try clear c19
                try clear c19b0
                try clear c19b1
                try clear c20
                try clear c21
                try clear c21b0
                try clear c21b1
                try clear c23
                try clear c23b0
                try clear c23b1
                try clear c24
                try clear c24b0
                try clear c24b1
                try clear c25
                try clear c25b0
                try clear c25b1
                try clear c26
                try clear c26b0
                try clear c26b1
                try clear c27
                try clear c27b0
                try clear c27b1
                try clear p27
                try clear q27
                try clear hx27
                try clear qi27
                try clear c28
                try clear c28b0
                try clear c28b1
                try clear p28
                try clear q28
                try clear hx28
                try clear c29
                try clear c29b0
                try clear c29b1
                try clear c30
                try clear c30b0
                try clear c32
                try clear c32b0
                try clear c32b1
                try clear c33
                try clear c33b0
                try clear c33b1
                try clear c36
                try clear c36b0
                try clear c36b1
                try clear c37
                try clear c37b0
                try clear c37b1
                try clear c44
                try clear c46
                try clear c46b0
                try clear c46b1
                try clear c47
                try clear c47b0
                try clear c47b1
                try clear c48
                try clear c48b0
                try clear c48b1
                try clear p49
                try clear q49
                try clear hx49
                try clear qi49
                try clear hf49
                try clear c54
                try clear c54b0
                try clear c56
                try clear c56b0
                try clear c57
                try clear c57b0
                try clear c58
                try clear c58b0
                try clear c59
                try clear c59b0
                try clear c59b1
                try clear c59b2
                try clear c61
                try clear c61b0
                try clear hcz11_0 hcz11_1 hcz11_2
                try clear hcz13_0 hcz13_1 hcz13_2
                try clear hcz15_0 hcz15_1 hcz15_2
                try clear hcz17_0 hcz17_1 hcz17_2
                try clear hfz11_0 hfz11_1 hfz11_2
                try clear hfz13_0 hfz13_1 hfz13_2
                try clear hfz15_0 hfz15_1 hfz15_2
                try clear hfz17_0 hfz17_1 hfz17_2
                try clear hx277_0
                try clear hx278_0
                try clear hx283_0
                try clear hx284_0
                try clear hx285_0
                try clear hx286_0
                try clear hx49_0
                try clear p2
                try clear p27
                try clear p277
                try clear p278
                try clear p283
                try clear p284
                try clear p285
                try clear p286
                try clear p4
                try clear p49
                try clear p6
                try clear q2
                try clear q27
                try clear q277
                try clear q278
                try clear q283
                try clear q284
                try clear q285
                try clear q286
                try clear q4
                try clear q49
                obtain ⟨kq, x176_54, rfl, HA, HJ54, HO_4, HO_14, BK261, HB⟩ := hcut
                cases kq with
                | zero => exact absurd HA.out (by simp [w_CodeHeights.j3])
                | succ kj54 =>
                 have H := HA.out
                 clear HA
                 simp only [w_CodeHeights.j3] at H
                 by_cases c64 : x176_54 = true
                 ·subst c64
                  have H1 : (some false) = some r := by rw [if_pos rfl] at H; exact H
                  clear H
                  have H := H1
                  clear H1
                  obtain rfl := Option.some.inj H
                  go_wp2
                  repeat (go_quiet (fail); try go_wp2)
                  go_ret
                  exact ⟨by first | rfl | (simp [errW_none, errW_some] <;> rfl) | (simp only [← hji45]; first | rfl | (simp [errW_none, errW_some] <;> rfl)) | (simp [*, errW_none, errW_some] <;> rfl), bs⟩
                 ·replace c64 := Bool.eq_false_iff.mpr c64
                  subst c64
                  have H1 : (if 0 ≤ x16_3 then (if x16_3 < (t263.length : Int) then (if (rd t263 x16_3) > x15_3 then (w_CodeHeights.j4 kj54 (l0_0.length : Int) t263 t268 x14_3 (rd t263 x16_3) x16_3 l0_0 l0_1 l0_2) else (w_CodeHeights.j4 kj54 (l0_0.length : Int) t263 t268 x14_3 x15_3 x16_3 l0_0 l0_1 l0_2)) else (none)) else (none)) = some r := by rw [if_neg (show ¬ (false = true) by decide)] at H; exact H
                  clear H
                  have H := H1
                  clear H1
                  by_cases c65 : 0 ≤ x16_3
                  ·rw [if_pos c65] at H
                   have c65b0 : decide (0 ≤ x16_3) = true := decide_eq_true c65
                   clear c65
                   by_cases c66 : x16_3 < (t263.length : Int)
                   ·rw [if_pos c66] at H
                    have c66b0 : decide (x16_3 < (t263.length : Int)) = true := decide_eq_true c66
                    clear c66
                    have HC67 := Aside0.mk H
                    clear H
                    obtain ⟨Ao68, co68, eo68⟩ := Kd.R_slice HO_4.out
                    subst eo68
                    have p287 : 0 ≤ (x16_3 : Int) := of_decide_eq_true od
                    have q287 : x16_3 < (t263.length : Int) := of_decide_eq_true od
                    obtain ⟨ad287, e287, hx287_0⟩ := Kd.at_int (Kd.R_reads' HO_4.out).2.2 x16_3 p287 q287
                    cases e287
                    replace p287 := eq_true p287
                    replace q287 := eq_true q287
                    go_upto_if 182 with (fail)
                    repeat (go_quiet (fail); go_upto_if 182 with (fail))
                    go_cut [15] (fun v15 wc => ∃ (kq : Nat) (x15_66 : Int), v15 = .int .i64 x15_66 ∧ Aside0 (w_CodeHeights.j4 kq (l0_0.length : Int) t263 t268 x14_3 x15_66 x16_3 l0_0 l0_1 l0_2 = some r) ∧ Aside0 (kq ≤ kj54) ∧ Aside0 (Kd.R (Kd.int .i64) 3 wc w.heap.size (fun _ => True) (.slice (some ad287) t263.length co68) t263) ∧ Aside0 (Kd.R Kd.bool 4 wc w.heap.size (fun _ => True) (.slice (some ⟨go49, 0, none⟩) x14_3.length co49) x14_3) ∧ Aside0 (wc.heap[gb261]? = some (.cells #[(.slice A0_0 l0_0.length c0_0), (.slice A0_1 l0_1.length c0_1), (.slice A0_2 l0_2.length c0_2)] 26 (0, 0))) ∧ Aside0 (Below w.heap.size w wc))
                    case first => as_aux_lemma =>
                     have H := HC67.out
                     clear HC67
                     by_cases c69 : (rd t263 x16_3) > x15_3
                     ·rw [if_pos c69] at H
                      have c69b0 : decide (x15_3 < (rd t263 x16_3)) = true := decide_eq_true c69
                      clear c69
                      (first | rw [c69b0] | (simp only [i64_w, i32_w]; rw [c69b0]) | skip)
                      have H' := Aside0.mk H
                      clear H
                      have p288 : 0 ≤ (x16_3 : Int) := of_decide_eq_true od
                      have q288 : x16_3 < (t263.length : Int) := of_decide_eq_true od
                      obtain ⟨ad288, e288, hx288_0⟩ := Kd.at_int (Kd.R_reads' HO_4.out).2.2 x16_3 p288 q288
                      obtain rfl : ad287 = ad288 := (by injection e288)
                      replace p288 := eq_true p288
                      replace q288 := eq_true q288
                      go_wp2
                      repeat (go_quiet (fail); try go_wp2)
                      go_meet
                      case rel => exact ⟨_, (rd t263 x16_3), tv, H', ⟨by have := HJ7.out; have := HJ21.out; have := HK3.out; have := HJ54.out; first | omega | exact Nat.le_refl _⟩, ⟨by (try simp only [hl14_3]); (with_reducible repeat (first | apply Kd.R_alloc | apply Kd.R_drewN | apply Kd.R_drew)); exact HO_4.out⟩, ⟨by (try simp only [hl14_3]); (with_reducible repeat (first | apply Kd.R_alloc | apply Kd.R_drewN | apply Kd.R_drew)); exact HO_14.out⟩, ⟨by (try simp only [hl14_3]); refine bu ?_; exact BK261.out⟩, ⟨bs⟩⟩
                     ·rw [if_neg c69] at H
                      have c69b0 : decide (x15_3 < (rd t263 x16_3)) = false := decide_eq_false c69
                      clear c69
                      (first | rw [c69b0] | (simp only [i64_w, i32_w]; rw [c69b0]) | skip)
                      have H' := Aside0.mk H
                      clear H
                      go_wp2
                      repeat (go_quiet (fail); try go_wp2)
                      go_meet
                      case rel => exact ⟨_, (x15_3), tv, H', ⟨by have := HJ7.out; have := HJ21.out; have := HK3.out; have := HJ54.out; first | omega | exact Nat.le_refl _⟩, ⟨by (try simp only [hl14_3]); (with_reducible repeat (first | apply Kd.R_alloc | apply Kd.R_drewN | apply Kd.R_drew)); exact HO_4.out⟩, ⟨by (try simp only [hl14_3]); (with_reducible repeat (first | apply Kd.R_alloc | apply Kd.R_drewN | apply Kd.R_drew)); exact HO_14.out⟩, ⟨by (try simp only [hl14_3]); refine bu ?_; exact BK261.out⟩, ⟨bs⟩⟩
                    case rest => as_aux_lemma =>
                     clear HC67
                     try clear c1
                     try clear c2
                     try clear p2
                     try clear q2
                     try clear hx2
                     try clear qi2
                     try clear c3
                     try clear c4
                     try clear p4
                     try clear q4
                     try clear hx4
                     try clear qi4
                     try clear hf4
                     try clear c5
                     try clear c6
                     try clear p6
                     try clear c19
                     try clear c19b0
                     try clear c19b1
                     try clear c20
                     try clear c21
                     try clear c21b0
                     try clear c21b1
                     try clear c23
                     try clear c23b0
                     try clear c23b1
                     try clear c24
                     try clear c24b0
                     try clear c24b1
                     try clear c25
                     try clear c25b0
                     try clear c25b1
                     try clear c26
                     try clear c26b0
                     try clear c26b1
                     try clear c27
                     try clear c27b0
                     try clear c27b1
                     try clear p27
                     try clear q27
                     try clear hx27
                     try clear qi27
                     try clear c28
                     try clear c28b0
                     try clear c28b1
                     try clear p28
                     try clear q28
                     try clear hx28
                     try clear c29
                     try clear c29b0
                     try clear c29b1
                     try clear c30
                     try clear c30b0
                     try clear c32
                     try clear c32b0
                     try clear c32b1
                     try clear c33
                     try clear c33b0
                     try clear c33b1
                     try clear c36
                     try clear c36b0
                     try clear c36b1
                     try clear c37
                     try clear c37b0
                     try clear c37b1
                     try clear c44
                     try clear c46
                     try clear c46b0
                     try clear c46b1
                     try clear c47
                     try clear c47b0
                     try clear c47b1
                     try clear c48
                     try clear c48b0
                     try clear c48b1
                     try clear p49
                     try clear q49
                     try clear hx49
                     try clear qi49
                     try clear hf49
                     try clear c54
                     try clear c54b0
                     try clear c56
                     try clear c56b0
                     try clear c57
                     try clear c57b0
                     try clear c58
                     try clear c58b0
                     try clear c59
                     try clear c59b0
                     try clear c59b1
                     try clear c59b2
                     try clear c61
                     try clear c61b0
                     try clear c64
                     try clear p64
                     try clear c65
                     try clear c65b0
                     try clear c66
                     try clear c66b0
                     try clear c69
                     try clear c69b0
                     try clear hcz11_0 hcz11_1 hcz11_2
                     try clear hcz13_0 hcz13_1 hcz13_2
                     try clear hcz15_0 hcz15_1 hcz15_2
                     try clear hcz17_0 hcz17_1 hcz17_2
                     try clear hfz11_0 hfz11_1 hfz11_2
                     try clear hfz13_0 hfz13_1 hfz13_2
                     try clear hfz15_0 hfz15_1 hfz15_2
                     try clear hfz17_0 hfz17_1 hfz17_2
                     try clear hx277_0
                     try clear hx278_0
                     try clear hx283_0
                     try clear hx284_0
                     try clear hx285_0
                     try clear hx286_0
                     try clear hx287_0
                     try clear hx288_0
                     try clear hx49_0
                     try clear p2
                     try clear p27
                     try clear p277
                     try clear p278
                     try clear p28
                     try clear p283
                     try clear p284
                     try clear p285
                     try clear p286
                     try clear p287
                     try clear p288
                     try clear p4
                     try clear p49
                     try clear p6
                     try clear q2
                     try clear q27
                     try clear q277
                     try clear q278
                     try clear q28
                     try clear q283
                     try clear q284
                     try clear q285
                     try clear q286
                     try clear q287
                     try clear q288
                     try clear q4
                     try clear q49
                     obtain ⟨kq, x15_66, rfl, HA, HJ66, HO_4, HO_14, BK261, HB⟩ := hcut
                     cases kq with
                     | zero => exact absurd HA.out (by simp [w_CodeHeights.j4])
                     | succ kj66 =>
                      have H := HA.out
                      clear HA
                      simp only [w_CodeHeights.j4] at H
                      have HC70 := Aside0.mk H
                      clear H
                      go_upto_region 24 with (fail)
                      repeat (go_quiet (fail); go_upto_region 24 with (fail))
                      go_cut [196] (fun v196 wc => ∃ (kq : Nat) (x196_69 : Bool), v196 = .bool x196_69 ∧ Aside0 (w_CodeHeights.j5 kq (l0_0.length : Int) t263 t268 x14_3 x15_66 x16_3 x196_69 l0_0 l0_1 l0_2 = some r) ∧ Aside0 (kq ≤ kj66) ∧ Aside0 (Kd.R (Kd.int .i64) 3 wc w.heap.size (fun _ => True) (.slice (some ad287) t263.length co68) t263) ∧ Aside0 (Kd.R Kd.bool 4 wc w.heap.size (fun _ => True) (.slice (some ⟨go49, 0, none⟩) x14_3.length co49) x14_3) ∧ Aside0 (wc.heap[gb261]? = some (.cells #[(.slice A0_0 l0_0.length c0_0), (.slice A0_1 l0_1.length c0_1), (.slice A0_2 l0_2.length c0_2)] 26 (0, 0))) ∧ Aside0 (Below w.heap.size w wc))
                      case first => as_aux_lemma =>
                       have H := HC70.out
                       clear HC70
                       by_cases c71 : x16_3 = (l0_0.length : Int)
                       ·rw [if_pos c71] at H
                        have c71b0 : (x16_3 == (l0_0.length : Int)) = true := beq_iff_eq.mpr c71
                        have c71b1 : (x16_3 != (l0_0.length : Int)) = false := bne_eq_false_iff_eq.mpr c71
                        clear c71
                        (first | rw [c71b0] | (simp only [i64_w, i32_w]; rw [c71b0]) | skip)
                        have H' := Aside0.mk H
                        clear H
                        go_wp2
                        repeat (go_quiet (fail); try go_wp2)
                        go_meet
                        case rel => exact ⟨_, (true), tv, H', ⟨by have := HJ7.out; have := HJ21.out; have := HK3.out; have := HJ54.out; have := HJ66.out; first | omega | exact Nat.le_refl _⟩, ⟨by (try simp only [hl14_3]); (with_reducible repeat (first | apply Kd.R_alloc | apply Kd.R_drewN | apply Kd.R_drew)); exact HO_4.out⟩, ⟨by (try simp only [hl14_3]); (with_reducible repeat (first | apply Kd.R_alloc | apply Kd.R_drewN | apply Kd.R_drew)); exact HO_14.out⟩, ⟨by (try simp only [hl14_3]); refine bu ?_; exact BK261.out⟩, ⟨bs⟩⟩
                       ·rw [if_neg c71] at H
                        have c71b0 : (x16_3 == (l0_0.length : Int)) = false := beq_eq_false_iff_ne.mpr c71
                        have c71b1 : (x16_3 != (l0_0.length : Int)) = true := bne_iff_ne.mpr c71
                        (first | rw [c71b0] | (simp only [i64_w, i32_w]; rw [c71b0]) | skip)
                        by_cases c72 : 0 ≤ x16_3
                        ·rw [if_pos c72] at H
                         have c72b0 : decide (0 ≤ x16_3) = true := decide_eq_true c72
                         clear c72
                         by_cases c73 : x16_3 < (x14_3.length : Int)
                         ·rw [if_pos c73] at H
                          have c73b0 : decide (x16_3 < (x14_3.length : Int)) = true := decide_eq_true c73
                          clear c73
                          have H' := Aside0.mk H
                          clear H
                          have p289 : 0 ≤ (x16_3 : Int) := of_decide_eq_true od
                          have q289 : x16_3 < (x14_3.length : Int) := of_decide_eq_true od
                          obtain ⟨ad289, e289, hx289_0⟩ := Kd.at_bool (Kd.R_reads' HO_14.out).2.2 x16_3 p289 q289
                          obtain rfl : (⟨go49, 0, none⟩ : Addr) = ad289 := (by injection e289)
                          (first | simp only [add_plain] at hx289_0 | simp only [add_at] at hx289_0 | simp only [Addr.add, Nat.zero_add] at hx289_0 | skip)
                          replace p289 := eq_true p289
                          replace q289 := eq_true q289
                          go_wp2
                          repeat (go_quiet (fail); try go_wp2)
                          go_meet
                          case rel => exact ⟨_, (!(rdOf false x14_3 x16_3)), tv, H', ⟨by have := HJ7.out; have := HJ21.out; have := HK3.out; have := HJ54.out; have := HJ66.out; first | omega | exact Nat.le_refl _⟩, ⟨by (try simp only [hl14_3]); (with_reducible repeat (first | apply Kd.R_alloc | apply Kd.R_drewN | apply Kd.R_drew)); exact HO_4.out⟩, ⟨by (try simp only [hl14_3]); (with_reducible repeat (first | apply Kd.R_alloc | apply Kd.R_drewN | apply Kd.R_drew)); exact HO_14.out⟩, ⟨by (try simp only [hl14_3]); refine bu ?_; exact BK261.out⟩, ⟨bs⟩⟩
                         ·rw [if_neg c73] at H
                          exact absurd H (by simp)
                        ·rw [if_neg c72] at H
                         exact absurd H (by simp)
                      case rest => as_aux_lemma =>
                       clear HC70
                       try clear c1
                       try clear c2
                       try clear p2
                       try clear q2
                       try clear hx2
                       try clear qi2
                       try clear c3
                       try clear c4
                       try clear p4
                       try clear q4
                       try clear hx4
                       try clear qi4
                       try clear hf4
                       try clear c5
                       try clear c6
                       try clear p6
                       try clear c7
                       try clear c19
                       try clear c19b0
                       try clear c19b1
                       try clear c20
                       try clear c21
                       try clear c21b0
                       try clear c21b1
                       try clear c23
                       try clear c23b0
                       try clear c23b1
                       try clear c24
                       try clear c24b0
                       try clear c24b1
                       try clear c25
                       try clear c25b0
                       try clear c25b1
                       try clear c26
                       try clear c26b0
                       try clear c26b1
                       try clear c27
                       try clear c27b0
                       try clear c27b1
                       try clear p27
                       try clear q27
                       try clear hx27
                       try clear qi27
                       try clear c28
                       try clear c28b0
                       try clear c28b1
                       try clear p28
                       try clear q28
                       try clear hx28
                       try clear c29
                       try clear c29b0
                       try clear c29b1
                       try clear c30
                       try clear c30b0
                       try clear c32
                       try clear c32b0
                       try clear c32b1
                       try clear c33
                       try clear c33b0
                       try clear c33b1
                       try clear c36
                       try clear c36b0
                       try clear c36b1
                       try clear c37
                       try clear c37b0
                       try clear c37b1
                       try clear c44
                       try clear c46
                       try clear c46b0
                       try clear c46b1
                       try clear c47
                       try clear c47b0
                       try clear c47b1
                       try clear c48
                       try clear c48b0
                       try clear c48b1
                       try clear p49
                       try clear q49
                       try clear hx49
                       try clear qi49
                       try clear hf49
                       try clear c54
                       try clear c54b0
                       try clear c56
                       try clear c56b0
                       try clear c57
                       try clear c57b0
                       try clear c58
                       try clear c58b0
                       try clear c59
                       try clear c59b0
                       try clear c59b1
                       try clear c59b2
                       try clear c61
                       try clear c61b0
                       try clear c64
                       try clear p64
                       try clear c65
                       try clear c65b0
                       try clear c66
                       try clear c66b0
                       try clear c69
                       try clear c69b0
                       try clear c71
                       try clear c71b0
                       try clear c71b1
                       try clear c72
                       try clear c72b0
                       try clear c73
                       try clear c73b0
                       try clear hcz11_0 hcz11_1 hcz11_2
                       try clear hcz13_0 hcz13_1 hcz13_2
                       try clear hcz15_0 hcz15_1 hcz15_2
                       try clear hcz17_0 hcz17_1 hcz17_2
                       try clear hfz11_0 hfz11_1 hfz11_2
                       try clear hfz13_0 hfz13_1 hfz13_2
                       try clear hfz15_0 hfz15_1 hfz15_2
                       try clear hfz17_0 hfz17_1 hfz17_2
                       try clear hx277_0
                       try clear hx278_0
                       try clear hx283_0
                       try clear hx284_0
                       try clear hx285_0
                       try clear hx286_0
                       try clear hx287_0
                       try clear hx288_0
                       try clear hx289_0
                       try clear hx49_0
                       try clear p2
                       try clear p27
                       try clear p277
                       try clear p278
                       try clear p28
                       try clear p283
                       try clear p284
                       try clear p285
                       try clear p286
                       try clear p287
                       try clear p288
                       try clear p289
                       try clear p4
                       try clear p49
                       try clear p6
                       try clear p64
                       try clear q2
                       try clear q27
                       try clear q277
                       try clear q278
                       try clear q28
                       try clear q283
                       try clear q284
                       try clear q285
                       try clear q286
                       try clear q287
                       try clear q288
                       try clear q289
                       try clear q4
                       try clear q49
                       obtain ⟨kq, x196_69, rfl, HA, HJ69, HO_4, HO_14, BK261, HB⟩ := hcut
                       cases kq with
                       | zero => exact absurd HA.out (by simp [w_CodeHeights.j5])
                       | succ kj69 =>
                        have H := HA.out
                        clear HA
                        simp only [w_CodeHeights.j5] at H
                        by_cases c74 : x196_69 = true
                        ·subst c74
                         have H1 : (w_CodeHeights.l0 kj69 (l0_0.length : Int) t263 t268 x14_3 x15_66 (wrap64 (x16_3 + 1)) l0_0 l0_1 l0_2) = some r := by rw [if_pos rfl] at H; exact H
                         clear H
                         have H := H1
                         clear H1
                         have H' := Aside0.mk H
                         clear H
                         go_wp2
                         repeat (go_quiet (fail); try go_wp2)
                         (try simp only [← hl14_3])
                         go_roundg kj69
                         case measure => have := HJ7.out; have := HJ21.out; have := HK3.out; have := HJ54.out; have := HJ66.out; have := HJ69.out; omega
                         case rel => exact ⟨(x14_3), (x15_66), (wrap64 (x16_3 + 1)), tv, tv, H', ⟨by have := HJ7.out; have := HJ21.out; have := HK3.out; have := HJ54.out; have := HJ66.out; have := HJ69.out; omega⟩, ⟨by (try simp only [hl14_3]); (with_reducible repeat (first | apply Kd.R_alloc | apply Kd.R_drewN | apply Kd.R_drew)); exact HO_4.out⟩, ⟨by (try simp only [hl14_3]); (with_reducible repeat (first | apply Kd.R_alloc | apply Kd.R_drewN | apply Kd.R_drew)); exact HO_14.out⟩, ⟨by (try simp only [hl14_3]); refine bu ?_; exact BK261.out⟩, ⟨bs⟩⟩
                        ·replace c74 := Bool.eq_false_iff.mpr c74
                         subst c74
                         have H1 : (if 0 ≤ x16_3 then (if x16_3 < (l0_0.length : Int) then ((code_Effect.f kj69 ((rd_T41 l0_0 x16_3).f0) ((rd_T41 l0_0 x16_3).f1) ((rd_T41 l0_0 x16_3).f2)).bind fun bt292 => ((abacuslaw26_jumps.f ((rd_T41 l0_0 x16_3).f0)).bind fun bt295 => (if bt292.2.2 = true then (if x16_3 < (t263.length : Int) then (if (rd t263 x16_3) < bt292.1 then (w_CodeHeights.j6 kj69 (l0_0.length : Int) t263 t268 x14_3 x15_66 x16_3 bt292.1 bt292.2.1 bt295.1 bt295.2 true l0_0 l0_1 l0_2 ((rd_T41 l0_0 x16_3).f0) ((rd_T41 l0_0 x16_3).f1) ((rd_T41 l0_0 x16_3).f2)) else (if bt295.1 = true then (if ((rd_T41 l0_0 x16_3).f1) ≤ x16_3 then (w_CodeHeights.j6 kj69 (l0_0.length : Int) t263 t268 x14_3 x15_66 x16_3 bt292.1 bt292.2.1 bt295.1 bt295.2 true l0_0 l0_1 l0_2 ((rd_T41 l0_0 x16_3).f0) ((rd_T41 l0_0 x16_3).f1) ((rd_T41 l0_0 x16_3).f2)) else (w_CodeHeights.j6 kj69 (l0_0.length : Int) t263 t268 x14_3 x15_66 x16_3 bt292.1 bt292.2.1 bt295.1 bt295.2 (decide (((rd_T41 l0_0 x16_3).f1) > (l0_0.length : Int))) l0_0 l0_1 l0_2 ((rd_T41 l0_0 x16_3).f0) ((rd_T41 l0_0 x16_3).f1) ((rd_T41 l0_0 x16_3).f2))) else (w_CodeHeights.j6 kj69 (l0_0.length : Int) t263 t268 x14_3 x15_66 x16_3 bt292.1 bt292.2.1 bt295.1 bt295.2 false l0_0 l0_1 l0_2 ((rd_T41 l0_0 x16_3).f0) ((rd_T41 l0_0 x16_3).f1) ((rd_T41 l0_0 x16_3).f2)))) else (none)) else (w_CodeHeights.j6 kj69 (l0_0.length : Int) t263 t268 x14_3 x15_66 x16_3 bt292.1 bt292.2.1 bt295.1 bt295.2 true l0_0 l0_1 l0_2 ((rd_T41 l0_0 x16_3).f0) ((rd_T41 l0_0 x16_3).f1) ((rd_T41 l0_0 x16_3).f2))))) else (none)) else (none)) = some r := by rw [if_neg (show ¬ (false = true) by decide)] at H; exact H
                         clear H
                         have H := H1
                         clear H1
                         by_cases c75 : 0 ≤ x16_3
                         ·rw [if_pos c75] at H
                          have c75b0 : decide (0 ≤ x16_3) = true := decide_eq_true c75
                          clear c75
                          by_cases c76 : x16_3 < (l0_0.length : Int)
                          ·rw [if_pos c76] at H
                           have c76b0 : decide (x16_3 < (l0_0.length : Int)) = true := decide_eq_true c76
                           clear c76
                           replace H := Option.bind_eq_some_iff.mp H
                           obtain ⟨⟨t292, t293, t294⟩, A770, H⟩ := H
                           replace H : ((abacuslaw26_jumps.f ((rd_T41 l0_0 x16_3).f0)).bind fun bt295 => (if t294 = true then (if x16_3 < (t263.length : Int) then (if (rd t263 x16_3) < t292 then (w_CodeHeights.j6 kj69 (l0_0.length : Int) t263 t268 x14_3 x15_66 x16_3 t292 t293 bt295.1 bt295.2 true l0_0 l0_1 l0_2 ((rd_T41 l0_0 x16_3).f0) ((rd_T41 l0_0 x16_3).f1) ((rd_T41 l0_0 x16_3).f2)) else (if bt295.1 = true then (if ((rd_T41 l0_0 x16_3).f1) ≤ x16_3 then (w_CodeHeights.j6 kj69 (l0_0.length : Int) t263 t268 x14_3 x15_66 x16_3 t292 t293 bt295.1 bt295.2 true l0_0 l0_1 l0_2 ((rd_T41 l0_0 x16_3).f0) ((rd_T41 l0_0 x16_3).f1) ((rd_T41 l0_0 x16_3).f2)) else (w_CodeHeights.j6 kj69 (l0_0.length : Int) t263 t268 x14_3 x15_66 x16_3 t292 t293 bt295.1 bt295.2 (decide (((rd_T41 l0_0 x16_3).f1) > (l0_0.length : Int))) l0_0 l0_1 l0_2 ((rd_T41 l0_0 x16_3).f0) ((rd_T41 l0_0 x16_3).f1) ((rd_T41 l0_0 x16_3).f2))) else (w_CodeHeights.j6 kj69 (l0_0.length : Int) t263 t268 x14_3 x15_66 x16_3 t292 t293 bt295.1 bt295.2 false l0_0 l0_1 l0_2 ((rd_T41 l0_0 x16_3).f0) ((rd_T41 l0_0 x16_3).f1) ((rd_T41 l0_0 x16_3).f2)))) else (none)) else (w_CodeHeights.j6 kj69 (l0_0.length : Int) t263 t268 x14_3 x15_66 x16_3 t292 t293 bt295.1 bt295.2 true l0_0 l0_1 l0_2 ((rd_T41 l0_0 x16_3).f0) ((rd_T41 l0_0 x16_3).f1) ((rd_T41 l0_0 x16_3).f2)))) = some r := H
                           have A77 := Aside0.mk A770
                           clear A770
                           replace H := Option.bind_eq_some_iff.mp H
                           obtain ⟨⟨t295, t296⟩, A780, H⟩ := H
                           replace H : (if t294 = true then (if x16_3 < (t263.length : Int) then (if (rd t263 x16_3) < t292 then (w_CodeHeights.j6 kj69 (l0_0.length : Int) t263 t268 x14_3 x15_66 x16_3 t292 t293 t295 t296 true l0_0 l0_1 l0_2 ((rd_T41 l0_0 x16_3).f0) ((rd_T41 l0_0 x16_3).f1) ((rd_T41 l0_0 x16_3).f2)) else (if t295 = true then (if ((rd_T41 l0_0 x16_3).f1) ≤ x16_3 then (w_CodeHeights.j6 kj69 (l0_0.length : Int) t263 t268 x14_3 x15_66 x16_3 t292 t293 t295 t296 true l0_0 l0_1 l0_2 ((rd_T41 l0_0 x16_3).f0) ((rd_T41 l0_0 x16_3).f1) ((rd_T41 l0_0 x16_3).f2)) else (w_CodeHeights.j6 kj69 (l0_0.length : Int) t263 t268 x14_3 x15_66 x16_3 t292 t293 t295 t296 (decide (((rd_T41 l0_0 x16_3).f1) > (l0_0.length : Int))) l0_0 l0_1 l0_2 ((rd_T41 l0_0 x16_3).f0) ((rd_T41 l0_0 x16_3).f1) ((rd_T41 l0_0 x16_3).f2))) else (w_CodeHeights.j6 kj69 (l0_0.length : Int) t263 t268 x14_3 x15_66 x16_3 t292 t293 t295 t296 false l0_0 l0_1 l0_2 ((rd_T41 l0_0 x16_3).f0) ((rd_T41 l0_0 x16_3).f1) ((rd_T41 l0_0 x16_3).f2)))) else (none)) else (w_CodeHeights.j6 kj69 (l0_0.length : Int) t263 t268 x14_3 x15_66 x16_3 t292 t293 t295 t296 true l0_0 l0_1 l0_2 ((rd_T41 l0_0 x16_3).f0) ((rd_T41 l0_0 x16_3).f1) ((rd_T41 l0_0 x16_3).f2))) = some r := H
                           have A78 := Aside0.mk A780
                           clear A780
                           have HC79 := Aside0.mk H
                           clear H
                           obtain ⟨⟨hcz80_0, hcz80_1, hcz80_2⟩, hfz80_0, hfz80_1, hfz80_2⟩ := blkAll3 BK261
                           have p290 : 0 ≤ (x16_3 : Int) := of_decide_eq_true od
                           have q290 : x16_3 < (l0_0.length : Int) := of_decide_eq_true od
                           obtain ⟨ad290, e290, hx290_0, hx290_1, hx290_2⟩ := at_T41 HR0_0.out x16_3 p290 q290
                           cases e290
                           replace hx290_0 := (HB.out.cell (World.block_lt_of_cell? w _ hx290_0)).trans hx290_0
                           replace hx290_1 := (HB.out.cell (World.block_lt_of_cell? w _ hx290_1)).trans hx290_1
                           replace hx290_2 := (HB.out.cell (World.block_lt_of_cell? w _ hx290_2)).trans hx290_2
                           replace p290 := eq_true p290
                           replace q290 := eq_true q290
                           go_upto_region 28 with (first | ((with_reducible refine gate_dst (N := 17) rfl ?_); (try (refine gate_guard (by rfl) ?_; dsimp only)); refine box_event ?hg (N := 17) ?hd (cs := #[.int .i64 0, .int .i64 0, .int .i64 0]) (t := 41) ?hr ?_; (case hd => rfl); (case hg => rfl); (case hr => first | (go_simp; done) | (go_simp; rfl)); intro gb291 hg w81 hbox hb; have n0_ := Aside0.mk (Kd.R_below (by (with_reducible repeat (first | apply Kd.R_alloc | apply Kd.R_drewN | apply Kd.R_drew)); exact HO_4.out) hb); have n1_ := Aside0.mk (Kd.R_below (by (with_reducible repeat (first | apply Kd.R_alloc | apply Kd.R_drewN | apply Kd.R_drew)); exact HO_14.out) hb); have n2_ := Aside0.mk (blk_below (bu BK261.out) hb); have n3_ := Aside0.mk (below_step bs hb); have n4_ := Aside0.mk (hbox); have n5_ := Aside0.mk ((by rw [hg]; exact (below_size bs) : w.heap.size ≤ gb291)); have n6_ := Aside0.mk ((by rw [hg]; exact (below_size bs) : w.heap.size ≤ gb291)); have n7_ := Aside0.mk ((by rw [hg]; exact Nat.ne_of_lt (blk_lt (bu BK261.out)) : gb261 ≠ gb291)); have n8_ := Aside0.mk ((by rw [hg]; exact Nat.ne_of_gt (blk_lt (bu BK261.out)) : gb291 ≠ gb261)); clear HO_4; clear HO_14; clear BK261; clear HB; have HO_4 := n0_; have HO_14 := n1_; have BK261 := n2_; have HB := n3_; have BK291 := n4_; have GW291 := n5_; have GE291 := n6_; have NB261_291 := n7_; have NB291_261 := n8_; clear n0_ n1_ n2_ n3_ n4_ n5_ n6_ n7_ n8_; clear hb hbox hg; have hnb82 := NB291_261.out; have hnc82 := NB261_291.out; obtain ⟨⟨hcz83_0, hcz83_1, hcz83_2⟩, hfz83_0, hfz83_1, hfz83_2⟩ := blkAll3 BK291) | (go_at_call 16; (with_reducible refine (code_Effect.calls kj69 ((rd_T41 l0_0 x16_3).f0) ((rd_T41 l0_0 x16_3).f1) ((rd_T41 l0_0 x16_3).f2) t292 t293 t294 _ A77.out).mono ?_); rintro e w84 ⟨rfl, hb⟩; have n0_ := Aside0.mk (Kd.R_below (by (with_reducible repeat (first | apply Kd.R_alloc | apply Kd.R_drewN | apply Kd.R_drew)); exact (Kd.R_mono (Kd.R_far (p := ⟨gb291, 2, none⟩) (Kd.R_far (p := ⟨gb291, 1, none⟩) (Kd.R_far (p := ⟨gb291, 0, none⟩) (Kd.R_types HO_4.out BK291.out (by decide)) (fun _ hk => hk.2) (.int .i64 ((rd_T41 l0_0 x16_3).f0))) (fun _ hk => hk.2) (.int .i64 ((rd_T41 l0_0 x16_3).f1))) (fun _ hk => hk.2) (.int .i64 ((rd_T41 l0_0 x16_3).f2))) (fun _ h_ => h_.1))) hb); have n1_ := Aside0.mk (Kd.R_below (by (with_reducible repeat (first | apply Kd.R_alloc | apply Kd.R_drewN | apply Kd.R_drew)); exact (Kd.R_mono (Kd.R_far (p := ⟨gb291, 2, none⟩) (Kd.R_far (p := ⟨gb291, 1, none⟩) (Kd.R_far (p := ⟨gb291, 0, none⟩) (Kd.R_types HO_14.out BK291.out (by decide)) (fun _ hk => hk.2) (.int .i64 ((rd_T41 l0_0 x16_3).f0))) (fun _ hk => hk.2) (.int .i64 ((rd_T41 l0_0 x16_3).f1))) (fun _ hk => hk.2) (.int .i64 ((rd_T41 l0_0 x16_3).f2))) (fun _ h_ => h_.1))) hb); have n2_ := Aside0.mk (blk_below (g := gb261) (o := .cells #[.slice (some ad290) l0_0.length c0_0, .slice A0_1 l0_1.length c0_1, .slice A0_2 l0_2.length c0_2] 26 (0, 0)) (by refine bu ?_; refine blk_far ?_ NB261_291.out _; refine bu ?_; refine blk_far ?_ NB261_291.out _; refine bu ?_; refine blk_far ?_ NB261_291.out _; refine bu ?_; exact BK261.out) hb); have n3_ := Aside0.mk (blk_below (g := gb291) (o := .cells #[.int .i64 ((rd_T41 l0_0 x16_3).f0), .int .i64 ((rd_T41 l0_0 x16_3).f1), .int .i64 ((rd_T41 l0_0 x16_3).f2)] 41 (0, 0)) (by refine bu ?_; refine blk_put (cs := #[.int .i64 ((rd_T41 l0_0 x16_3).f0), .int .i64 ((rd_T41 l0_0 x16_3).f1), .int .i64 0]) ?_ 2 _ rfl; refine bu ?_; refine blk_put (cs := #[.int .i64 ((rd_T41 l0_0 x16_3).f0), .int .i64 0, .int .i64 0]) ?_ 1 _ rfl; refine bu ?_; refine blk_put (cs := #[.int .i64 0, .int .i64 0, .int .i64 0]) ?_ 0 _ rfl; refine bu ?_; exact BK291.out) hb); have n4_ := Aside0.mk (below_step bs hb); clear HO_4; clear HO_14; clear BK261; clear BK291; clear HB; have HO_4 := n0_; have HO_14 := n1_; have BK261 := n2_; have BK291 := n3_; have HB := n4_; clear n0_ n1_ n2_ n3_ n4_; (try clear hb); (try clear hb2); (try clear hk); (try clear hi); obtain ⟨⟨hcz85_0, hcz85_1, hcz85_2⟩, hfz85_0, hfz85_1, hfz85_2⟩ := blkAll3 BK291) | (go_at_call 17; (with_reducible refine (abacuslaw26_jumps.calls ((rd_T41 l0_0 x16_3).f0) t295 t296 _ A78.out).mono ?_); rintro e w' ⟨rfl, ⟨nd, rfl⟩⟩; (try first | exact ⟨rfl, _, World.drewN_drewN _ _ _⟩ | exact ⟨rfl, _, Eq.trans (World.drewN_drewN _ _ _) (congrArg (World.drewN _) (Nat.add_assoc _ _ _))⟩)))
                           repeat (go_quiet (first | ((with_reducible refine gate_dst (N := 17) rfl ?_); (try (refine gate_guard (by rfl) ?_; dsimp only)); refine box_event ?hg (N := 17) ?hd (cs := #[.int .i64 0, .int .i64 0, .int .i64 0]) (t := 41) ?hr ?_; (case hd => rfl); (case hg => rfl); (case hr => first | (go_simp; done) | (go_simp; rfl)); intro gb291 hg w81 hbox hb; have n0_ := Aside0.mk (Kd.R_below (by (with_reducible repeat (first | apply Kd.R_alloc | apply Kd.R_drewN | apply Kd.R_drew)); exact HO_4.out) hb); have n1_ := Aside0.mk (Kd.R_below (by (with_reducible repeat (first | apply Kd.R_alloc | apply Kd.R_drewN | apply Kd.R_drew)); exact HO_14.out) hb); have n2_ := Aside0.mk (blk_below (bu BK261.out) hb); have n3_ := Aside0.mk (below_step bs hb); have n4_ := Aside0.mk (hbox); have n5_ := Aside0.mk ((by rw [hg]; exact (below_size bs) : w.heap.size ≤ gb291)); have n6_ := Aside0.mk ((by rw [hg]; exact (below_size bs) : w.heap.size ≤ gb291)); have n7_ := Aside0.mk ((by rw [hg]; exact Nat.ne_of_lt (blk_lt (bu BK261.out)) : gb261 ≠ gb291)); have n8_ := Aside0.mk ((by rw [hg]; exact Nat.ne_of_gt (blk_lt (bu BK261.out)) : gb291 ≠ gb261)); clear HO_4; clear HO_14; clear BK261; clear HB; have HO_4 := n0_; have HO_14 := n1_; have BK261 := n2_; have HB := n3_; have BK291 := n4_; have GW291 := n5_; have GE291 := n6_; have NB261_291 := n7_; have NB291_261 := n8_; clear n0_ n1_ n2_ n3_ n4_ n5_ n6_ n7_ n8_; clear hb hbox hg; have hnb82 := NB291_261.out; have hnc82 := NB261_291.out; obtain ⟨⟨hcz83_0, hcz83_1, hcz83_2⟩, hfz83_0, hfz83_1, hfz83_2⟩ := blkAll3 BK291) | (go_at_call 16; (with_reducible refine (code_Effect.calls kj69 ((rd_T41 l0_0 x16_3).f0) ((rd_T41 l0_0 x16_3).f1) ((rd_T41 l0_0 x16_3).f2) t292 t293 t294 _ A77.out).mono ?_); rintro e w84 ⟨rfl, hb⟩; have n0_ := Aside0.mk (Kd.R_below (by (with_reducible repeat (first | apply Kd.R_alloc | apply Kd.R_drewN | apply Kd.R_drew)); exact (Kd.R_mono (Kd.R_far (p := ⟨gb291, 2, none⟩) (Kd.R_far (p := ⟨gb291, 1, none⟩) (Kd.R_far (p := ⟨gb291, 0, none⟩) (Kd.R_types HO_4.out BK291.out (by decide)) (fun _ hk => hk.2) (.int .i64 ((rd_T41 l0_0 x16_3).f0))) (fun _ hk => hk.2) (.int .i64 ((rd_T41 l0_0 x16_3).f1))) (fun _ hk => hk.2) (.int .i64 ((rd_T41 l0_0 x16_3).f2))) (fun _ h_ => h_.1))) hb); have n1_ := Aside0.mk (Kd.R_below (by (with_reducible repeat (first | apply Kd.R_alloc | apply Kd.R_drewN | apply Kd.R_drew)); exact (Kd.R_mono (Kd.R_far (p := ⟨gb291, 2, none⟩) (Kd.R_far (p := ⟨gb291, 1, none⟩) (Kd.R_far (p := ⟨gb291, 0, none⟩) (Kd.R_types HO_14.out BK291.out (by decide)) (fun _ hk => hk.2) (.int .i64 ((rd_T41 l0_0 x16_3).f0))) (fun _ hk => hk.2) (.int .i64 ((rd_T41 l0_0 x16_3).f1))) (fun _ hk => hk.2) (.int .i64 ((rd_T41 l0_0 x16_3).f2))) (fun _ h_ => h_.1))) hb); have n2_ := Aside0.mk (blk_below (g := gb261) (o := .cells #[.slice (some ad290) l0_0.length c0_0, .slice A0_1 l0_1.length c0_1, .slice A0_2 l0_2.length c0_2] 26 (0, 0)) (by refine bu ?_; refine blk_far ?_ NB261_291.out _; refine bu ?_; refine blk_far ?_ NB261_291.out _; refine bu ?_; refine blk_far ?_ NB261_291.out _; refine bu ?_; exact BK261.out) hb); have n3_ := Aside0.mk (blk_below (g := gb291) (o := .cells #[.int .i64 ((rd_T41 l0_0 x16_3).f0), .int .i64 ((rd_T41 l0_0 x16_3).f1), .int .i64 ((rd_T41 l0_0 x16_3).f2)] 41 (0, 0)) (by refine bu ?_; refine blk_put (cs := #[.int .i64 ((rd_T41 l0_0 x16_3).f0), .int .i64 ((rd_T41 l0_0 x16_3).f1), .int .i64 0]) ?_ 2 _ rfl; refine bu ?_; refine blk_put (cs := #[.int .i64 ((rd_T41 l0_0 x16_3).f0), .int .i64 0, .int .i64 0]) ?_ 1 _ rfl; refine bu ?_; refine blk_put (cs := #[.int .i64 0, .int .i64 0, .int .i64 0]) ?_ 0 _ rfl; refine bu ?_; exact BK291.out) hb); have n4_ := Aside0.mk (below_step bs hb); clear HO_4; clear HO_14; clear BK261; clear BK291; clear HB; have HO_4 := n0_; have HO_14 := n1_; have BK261 := n2_; have BK291 := n3_; have HB := n4_; clear n0_ n1_ n2_ n3_ n4_; (try clear hb); (try clear hb2); (try clear hk); (try clear hi); obtain ⟨⟨hcz85_0, hcz85_1, hcz85_2⟩, hfz85_0, hfz85_1, hfz85_2⟩ := blkAll3 BK291) | (go_at_call 17; (with_reducible refine (abacuslaw26_jumps.calls ((rd_T41 l0_0 x16_3).f0) t295 t296 _ A78.out).mono ?_); rintro e w' ⟨rfl, ⟨nd, rfl⟩⟩; (try first | exact ⟨rfl, _, World.drewN_drewN _ _ _⟩ | exact ⟨rfl, _, Eq.trans (World.drewN_drewN _ _ _) (congrArg (World.drewN _) (Nat.add_assoc _ _ _))⟩))); go_upto_region 28 with (first | ((with_reducible refine gate_dst (N := 17) rfl ?_); (try (refine gate_guard (by rfl) ?_; dsimp only)); refine box_event ?hg (N := 17) ?hd (cs := #[.int .i64 0, .int .i64 0, .int .i64 0]) (t := 41) ?hr ?_; (case hd => rfl); (case hg => rfl); (case hr => first | (go_simp; done) | (go_simp; rfl)); intro gb291 hg w81 hbox hb; have n0_ := Aside0.mk (Kd.R_below (by (with_reducible repeat (first | apply Kd.R_alloc | apply Kd.R_drewN | apply Kd.R_drew)); exact HO_4.out) hb); have n1_ := Aside0.mk (Kd.R_below (by (with_reducible repeat (first | apply Kd.R_alloc | apply Kd.R_drewN | apply Kd.R_drew)); exact HO_14.out) hb); have n2_ := Aside0.mk (blk_below (bu BK261.out) hb); have n3_ := Aside0.mk (below_step bs hb); have n4_ := Aside0.mk (hbox); have n5_ := Aside0.mk ((by rw [hg]; exact (below_size bs) : w.heap.size ≤ gb291)); have n6_ := Aside0.mk ((by rw [hg]; exact (below_size bs) : w.heap.size ≤ gb291)); have n7_ := Aside0.mk ((by rw [hg]; exact Nat.ne_of_lt (blk_lt (bu BK261.out)) : gb261 ≠ gb291)); have n8_ := Aside0.mk ((by rw [hg]; exact Nat.ne_of_gt (blk_lt (bu BK261.out)) : gb291 ≠ gb261)); clear HO_4; clear HO_14; clear BK261; clear HB; have HO_4 := n0_; have HO_14 := n1_; have BK261 := n2_; have HB := n3_; have BK291 := n4_; have GW291 := n5_; have GE291 := n6_; have NB261_291 := n7_; have NB291_261 := n8_; clear n0_ n1_ n2_ n3_ n4_ n5_ n6_ n7_ n8_; clear hb hbox hg; have hnb82 := NB291_261.out; have hnc82 := NB261_291.out; obtain ⟨⟨hcz83_0, hcz83_1, hcz83_2⟩, hfz83_0, hfz83_1, hfz83_2⟩ := blkAll3 BK291) | (go_at_call 16; (with_reducible refine (code_Effect.calls kj69 ((rd_T41 l0_0 x16_3).f0) ((rd_T41 l0_0 x16_3).f1) ((rd_T41 l0_0 x16_3).f2) t292 t293 t294 _ A77.out).mono ?_); rintro e w84 ⟨rfl, hb⟩; have n0_ := Aside0.mk (Kd.R_below (by (with_reducible repeat (first | apply Kd.R_alloc | apply Kd.R_drewN | apply Kd.R_drew)); exact (Kd.R_mono (Kd.R_far (p := ⟨gb291, 2, none⟩) (Kd.R_far (p := ⟨gb291, 1, none⟩) (Kd.R_far (p := ⟨gb291, 0, none⟩) (Kd.R_types HO_4.out BK291.out (by decide)) (fun _ hk => hk.2) (.int .i64 ((rd_T41 l0_0 x16_3).f0))) (fun _ hk => hk.2) (.int .i64 ((rd_T41 l0_0 x16_3).f1))) (fun _ hk => hk.2) (.int .i64 ((rd_T41 l0_0 x16_3).f2))) (fun _ h_ => h_.1))) hb); have n1_ := Aside0.mk (Kd.R_below (by (with_reducible repeat (first | apply Kd.R_alloc | apply Kd.R_drewN | apply Kd.R_drew)); exact (Kd.R_mono (Kd.R_far (p := ⟨gb291, 2, none⟩) (Kd.R_far (p := ⟨gb291, 1, none⟩) (Kd.R_far (p := ⟨gb291, 0, none⟩) (Kd.R_types HO_14.out BK291.out (by decide)) (fun _ hk => hk.2) (.int .i64 ((rd_T41 l0_0 x16_3).f0))) (fun _ hk => hk.2) (.int .i64 ((rd_T41 l0_0 x16_3).f1))) (fun _ hk => hk.2) (.int .i64 ((rd_T41 l0_0 x16_3).f2))) (fun _ h_ => h_.1))) hb); have n2_ := Aside0.mk (blk_below (g := gb261) (o := .cells #[.slice (some ad290) l0_0.length c0_0, .slice A0_1 l0_1.length c0_1, .slice A0_2 l0_2.length c0_2] 26 (0, 0)) (by refine bu ?_; refine blk_far ?_ NB261_291.out _; refine bu ?_; refine blk_far ?_ NB261_291.out _; refine bu ?_; refine blk_far ?_ NB261_291.out _; refine bu ?_; exact BK261.out) hb); have n3_ := Aside0.mk (blk_below (g := gb291) (o := .cells #[.int .i64 ((rd_T41 l0_0 x16_3).f0), .int .i64 ((rd_T41 l0_0 x16_3).f1), .int .i64 ((rd_T41 l0_0 x16_3).f2)] 41 (0, 0)) (by refine bu ?_; refine blk_put (cs := #[.int .i64 ((rd_T41 l0_0 x16_3).f0), .int .i64 ((rd_T41 l0_0 x16_3).f1), .int .i64 0]) ?_ 2 _ rfl; refine bu ?_; refine blk_put (cs := #[.int .i64 ((rd_T41 l0_0 x16_3).f0), .int .i64 0, .int .i64 0]) ?_ 1 _ rfl; refine bu ?_; refine blk_put (cs := #[.int .i64 0, .int .i64 0, .int .i64 0]) ?_ 0 _ rfl; refine bu ?_; exact BK291.out) hb); have n4_ := Aside0.mk (below_step bs hb); clear HO_4; clear HO_14; clear BK261; clear BK291; clear HB; have HO_4 := n0_; have HO_14 := n1_; have BK261 := n2_; have BK291 := n3_; have HB := n4_; clear n0_ n1_ n2_ n3_ n4_; (try clear hb); (try clear hb2); (try clear hk); (try clear hi); obtain ⟨⟨hcz85_0, hcz85_1, hcz85_2⟩, hfz85_0, hfz85_1, hfz85_2⟩ := blkAll3 BK291) | (go_at_call 17; (with_reducible refine (abacuslaw26_jumps.calls ((rd_T41 l0_0 x16_3).f0) t295 t296 _ A78.out).mono ?_); rintro e w' ⟨rfl, ⟨nd, rfl⟩⟩; (try first | exact ⟨rfl, _, World.drewN_drewN _ _ _⟩ | exact ⟨rfl, _, Eq.trans (World.drewN_drewN _ _ _) (congrArg (World.drewN _) (Nat.add_assoc _ _ _))⟩))))
                           (try simp only [Act.put, List.setIfInBounds_toArray, List.set_cons_zero, List.set_cons_succ])
                           go_cut [238] (fun v238 wc => ∃ (kq : Nat) (x238_78 : Bool), v238 = .bool x238_78 ∧ Aside0 (w_CodeHeights.j6 kq (l0_0.length : Int) t263 t268 x14_3 x15_66 x16_3 t292 t293 t295 t296 x238_78 l0_0 l0_1 l0_2 ((rd_T41 l0_0 x16_3).f0) ((rd_T41 l0_0 x16_3).f1) ((rd_T41 l0_0 x16_3).f2) = some r) ∧ Aside0 (kq ≤ kj69) ∧ Aside0 (Kd.R (Kd.int .i64) 3 wc w.heap.size (fun _ => True) (.slice (some ad287) t263.length co68) t263) ∧ Aside0 (Kd.R Kd.bool 4 wc w.heap.size (fun _ => True) (.slice (some ⟨go49, 0, none⟩) x14_3.length co49) x14_3) ∧ Aside0 (wc.heap[gb261]? = some (.cells #[(.slice (some ad290) l0_0.length c0_0), (.slice A0_1 l0_1.length c0_1), (.slice A0_2 l0_2.length c0_2)] 26 (0, 0))) ∧ Aside0 (wc.heap[gb291]? = some (.cells #[.int .i64 ((rd_T41 l0_0 x16_3).f0), .int .i64 ((rd_T41 l0_0 x16_3).f1), .int .i64 ((rd_T41 l0_0 x16_3).f2)] 41 (0, 0))) ∧ Aside0 (Below w.heap.size w wc))
                           case first => as_aux_lemma =>
                            have H := HC79.out
                            clear HC79
                            by_cases c86 : t294 = true
                            ·subst c86
                             have H1 : (if x16_3 < (t263.length : Int) then (if (rd t263 x16_3) < t292 then (w_CodeHeights.j6 kj69 (l0_0.length : Int) t263 t268 x14_3 x15_66 x16_3 t292 t293 t295 t296 true l0_0 l0_1 l0_2 ((rd_T41 l0_0 x16_3).f0) ((rd_T41 l0_0 x16_3).f1) ((rd_T41 l0_0 x16_3).f2)) else (if t295 = true then (if ((rd_T41 l0_0 x16_3).f1) ≤ x16_3 then (w_CodeHeights.j6 kj69 (l0_0.length : Int) t263 t268 x14_3 x15_66 x16_3 t292 t293 t295 t296 true l0_0 l0_1 l0_2 ((rd_T41 l0_0 x16_3).f0) ((rd_T41 l0_0 x16_3).f1) ((rd_T41 l0_0 x16_3).f2)) else (w_CodeHeights.j6 kj69 (l0_0.length : Int) t263 t268 x14_3 x15_66 x16_3 t292 t293 t295 t296 (decide (((rd_T41 l0_0 x16_3).f1) > (l0_0.length : Int))) l0_0 l0_1 l0_2 ((rd_T41 l0_0 x16_3).f0) ((rd_T41 l0_0 x16_3).f1) ((rd_T41 l0_0 x16_3).f2))) else (w_CodeHeights.j6 kj69 (l0_0.length : Int) t263 t268 x14_3 x15_66 x16_3 t292 t293 t295 t296 false l0_0 l0_1 l0_2 ((rd_T41 l0_0 x16_3).f0) ((rd_T41 l0_0 x16_3).f1) ((rd_T41 l0_0 x16_3).f2)))) else (none)) = some r := by rw [if_pos rfl] at H; exact H
                             clear H
                             have H := H1
                             clear H1
                             by_cases c87 : x16_3 < (t263.length : Int)
                             ·rw [if_pos c87] at H
                              have c87b0 : decide (x16_3 < (t263.length : Int)) = true := decide_eq_true c87
                              clear c87
                              (first | rw [c87b0] | (simp only [i64_w, i32_w]; rw [c87b0]) | skip)
                              by_cases c88 : (rd t263 x16_3) < t292
                              ·rw [if_pos c88] at H
                               have c88b0 : decide ((rd t263 x16_3) < t292) = true := decide_eq_true c88
                               clear c88
                               have H' := Aside0.mk H
                               clear H
                               have p297 : 0 ≤ (x16_3 : Int) := of_decide_eq_true od
                               have q297 : x16_3 < (t263.length : Int) := of_decide_eq_true od
                               obtain ⟨ad297, e297, hx297_0⟩ := Kd.at_int (Kd.R_reads' HO_4.out).2.2 x16_3 p297 q297
                               obtain rfl : ad287 = ad297 := (by injection e297)
                               replace p297 := eq_true p297
                               replace q297 := eq_true q297
                               go_wp2
                               repeat (go_quiet (fail); try go_wp2)
                               go_meet
                               case rel => exact ⟨_, (true), tv, H', ⟨by have := HJ7.out; have := HJ21.out; have := HK3.out; have := HJ54.out; have := HJ66.out; have := HJ69.out; first | omega | exact Nat.le_refl _⟩, ⟨by (try simp only [hl14_3]); (with_reducible repeat (first | apply Kd.R_alloc | apply Kd.R_drewN | apply Kd.R_drew)); exact HO_4.out⟩, ⟨by (try simp only [hl14_3]); (with_reducible repeat (first | apply Kd.R_alloc | apply Kd.R_drewN | apply Kd.R_drew)); exact HO_14.out⟩, ⟨by (try simp only [hl14_3]); refine bu ?_; exact BK261.out⟩, ⟨by (try simp only [hl14_3]); refine bu ?_; exact BK291.out⟩, ⟨bs⟩⟩
                              ·rw [if_neg c88] at H
                               have c88b0 : decide ((rd t263 x16_3) < t292) = false := decide_eq_false c88
                               clear c88
                               by_cases c89 : t295 = true
                               ·subst c89
                                have H1 : (if ((rd_T41 l0_0 x16_3).f1) ≤ x16_3 then (w_CodeHeights.j6 kj69 (l0_0.length : Int) t263 t268 x14_3 x15_66 x16_3 t292 t293 true t296 true l0_0 l0_1 l0_2 ((rd_T41 l0_0 x16_3).f0) ((rd_T41 l0_0 x16_3).f1) ((rd_T41 l0_0 x16_3).f2)) else (w_CodeHeights.j6 kj69 (l0_0.length : Int) t263 t268 x14_3 x15_66 x16_3 t292 t293 true t296 (decide (((rd_T41 l0_0 x16_3).f1) > (l0_0.length : Int))) l0_0 l0_1 l0_2 ((rd_T41 l0_0 x16_3).f0) ((rd_T41 l0_0 x16_3).f1) ((rd_T41 l0_0 x16_3).f2))) = some r := by rw [if_pos rfl] at H; exact H
                                clear H
                                have H := H1
                                clear H1
                                by_cases c90 : ((rd_T41 l0_0 x16_3).f1) ≤ x16_3
                                ·rw [if_pos c90] at H
                                 have c90b0 : decide (((rd_T41 l0_0 x16_3).f1) ≤ x16_3) = true := decide_eq_true c90
                                 clear c90
                                 have H' := Aside0.mk H
                                 clear H
                                 have p297 : 0 ≤ (x16_3 : Int) := of_decide_eq_true od
                                 have q297 : x16_3 < (t263.length : Int) := of_decide_eq_true od
                                 obtain ⟨ad297, e297, hx297_0⟩ := Kd.at_int (Kd.R_reads' HO_4.out).2.2 x16_3 p297 q297
                                 obtain rfl : ad287 = ad297 := (by injection e297)
                                 replace p297 := eq_true p297
                                 replace q297 := eq_true q297
                                 have hnb91 := NB291_261.out
                                 have hnc91 := NB261_291.out
                                 obtain ⟨⟨hcz92_0, hcz92_1, hcz92_2⟩, hfz92_0, hfz92_1, hfz92_2⟩ := blkAll3 BK291
                                 go_wp2
                                 repeat (go_quiet (fail); try go_wp2)
                                 go_meet
                                 case rel => exact ⟨_, (true), tv, H', ⟨by have := HJ7.out; have := HJ21.out; have := HK3.out; have := HJ54.out; have := HJ66.out; have := HJ69.out; first | omega | exact Nat.le_refl _⟩, ⟨by (try simp only [hl14_3]); (with_reducible repeat (first | apply Kd.R_alloc | apply Kd.R_drewN | apply Kd.R_drew)); exact HO_4.out⟩, ⟨by (try simp only [hl14_3]); (with_reducible repeat (first | apply Kd.R_alloc | apply Kd.R_drewN | apply Kd.R_drew)); exact HO_14.out⟩, ⟨by (try simp only [hl14_3]); refine bu ?_; exact BK261.out⟩, ⟨by (try simp only [hl14_3]); refine bu ?_; exact BK291.out⟩, ⟨bs⟩⟩
                                ·rw [if_neg c90] at H
                                 have c90b0 : decide (((rd_T41 l0_0 x16_3).f1) ≤ x16_3) = false := decide_eq_false c90
                                 clear c90
                                 have H' := Aside0.mk H
                                 clear H
                                 have p297 : 0 ≤ (x16_3 : Int) := of_decide_eq_true od
                                 have q297 : x16_3 < (t263.length : Int) := of_decide_eq_true od
                                 obtain ⟨ad297, e297, hx297_0⟩ := Kd.at_int (Kd.R_reads' HO_4.out).2.2 x16_3 p297 q297
                                 obtain rfl : ad287 = ad297 := (by injection e297)
                                 replace p297 := eq_true p297
                                 replace q297 := eq_true q297
                                 have hnb93 := NB291_261.out
                                 have hnc93 := NB261_291.out
                                 obtain ⟨⟨hcz94_0, hcz94_1, hcz94_2⟩, hfz94_0, hfz94_1, hfz94_2⟩ := blkAll3 BK291
                                 go_wp2
                                 repeat (go_quiet (fail); try go_wp2)
                                 go_meet
                                 case rel => exact ⟨_, (decide (((rd_T41 l0_0 x16_3).f1) > (l0_0.length : Int))), tv, H', ⟨by have := HJ7.out; have := HJ21.out; have := HK3.out; have := HJ54.out; have := HJ66.out; have := HJ69.out; first | omega | exact Nat.le_refl _⟩, ⟨by (try simp only [hl14_3]); (with_reducible repeat (first | apply Kd.R_alloc | apply Kd.R_drewN | apply Kd.R_drew)); exact HO_4.out⟩, ⟨by (try simp only [hl14_3]); (with_reducible repeat (first | apply Kd.R_alloc | apply Kd.R_drewN | apply Kd.R_drew)); exact HO_14.out⟩, ⟨by (try simp only [hl14_3]); refine bu ?_; exact BK261.out⟩, ⟨by (try simp only [hl14_3]); refine bu ?_; exact BK291.out⟩, ⟨bs⟩⟩
                               ·replace c89 := Bool.eq_false_iff.mpr c89
                                subst c89
                                have H1 : (w_CodeHeights.j6 kj69 (l0_0.length : Int) t263 t268 x14_3 x15_66 x16_3 t292 t293 false t296 false l0_0 l0_1 l0_2 ((rd_T41 l0_0 x16_3).f0) ((rd_T41 l0_0 x16_3).f1) ((rd_T41 l0_0 x16_3).f2)) = some r := by rw [if_neg (show ¬ (false = true) by decide)] at H; exact H
                                clear H
                                have H := H1
                                clear H1
                                have H' := Aside0.mk H
                                clear H
                                have p297 : 0 ≤ (x16_3 : Int) := of_decide_eq_true od
                                have q297 : x16_3 < (t263.length : Int) := of_decide_eq_true od
                                obtain ⟨ad297, e297, hx297_0⟩ := Kd.at_int (Kd.R_reads' HO_4.out).2.2 x16_3 p297 q297
                                obtain rfl : ad287 = ad297 := (by injection e297)
                                replace p297 := eq_true p297
                                replace q297 := eq_true q297
                                go_wp2
                                repeat (go_quiet (fail); try go_wp2)
                                go_meet
                                case rel => exact ⟨_, (false), tv, H', ⟨by have := HJ7.out; have := HJ21.out; have := HK3.out; have := HJ54.out; have := HJ66.out; have := HJ69.out; first | omega | exact Nat.le_refl _⟩, ⟨by (try simp only [hl14_3]); (with_reducible repeat (first | apply Kd.R_alloc | apply Kd.R_drewN | apply Kd.R_drew)); exact HO_4.out⟩, ⟨by (try simp only [hl14_3]); (with_reducible repeat (first | apply Kd.R_alloc | apply Kd.R_drewN | apply Kd.R_drew)); exact HO_14.out⟩, ⟨by (try simp only [hl14_3]); refine bu ?_; exact BK261.out⟩, ⟨by (try simp only [hl14_3]); refine bu ?_; exact BK291.out⟩, ⟨bs⟩⟩
                             ·rw [if_neg c87] at H
                              exact absurd H (by simp)
                            ·replace c86 := Bool.eq_false_iff.mpr c86
                             subst c86
                             have H1 : (w_CodeHeights.j6 kj69 (l0_0.length : Int) t263 t268 x14_3 x15_66 x16_3 t292 t293 t295 t296 true l0_0 l0_1 l0_2 ((rd_T41 l0_0 x16_3).f0) ((rd_T41 l0_0 x16_3).f1) ((rd_T41 l0_0 x16_3).f2)) = some r := by rw [if_neg (show ¬ (false = true) by decide)] at H; exact H
                             clear H
                             have H := H1
                             clear H1
                             have H' := Aside0.mk H
                             clear H
                             go_wp2
                             repeat (go_quiet (fail); try go_wp2)
                             go_meet
                             case rel => exact ⟨_, (true), tv, H', ⟨by have := HJ7.out; have := HJ21.out; have := HK3.out; have := HJ54.out; have := HJ66.out; have := HJ69.out; first | omega | exact Nat.le_refl _⟩, ⟨by (try simp only [hl14_3]); (with_reducible repeat (first | apply Kd.R_alloc | apply Kd.R_drewN | apply Kd.R_drew)); exact HO_4.out⟩, ⟨by (try simp only [hl14_3]); (with_reducible repeat (first | apply Kd.R_alloc | apply Kd.R_drewN | apply Kd.R_drew)); exact HO_14.out⟩, ⟨by (try simp only [hl14_3]); refine bu ?_; exact BK261.out⟩, ⟨by (try simp only [hl14_3]); refine bu ?_; exact BK291.out⟩, ⟨bs⟩⟩
                           case rest => as_aux_lemma =>
                            clear HC79
                            try clear c1
                            try clear c2
                            try clear p2
                            try clear q2
                            try clear hx2
                            try clear qi2
                            try clear c3
                            try clear c4
                            try clear p4
                            try clear q4
                            try clear hx4
                            try clear qi4
                            try clear hf4
                            try clear c5
                            try clear c6
                            try clear p6
                            try clear c7
                            try clear c8
                            try clear c9
                            try clear c19
                            try clear c19b0
                            try clear c19b1
                            try clear c20
                            try clear c21
                            try clear c21b0
                            try clear c21b1
                            try clear c23
                            try clear c23b0
                            try clear c23b1
                            try clear c24
                            try clear c24b0
                            try clear c24b1
                            try clear c25
                            try clear c25b0
                            try clear c25b1
                            try clear c26
                            try clear c26b0
                            try clear c26b1
                            try clear c27
                            try clear c27b0
                            try clear c27b1
                            try clear p27
                            try clear q27
                            try clear hx27
                            try clear qi27
                            try clear c28
                            try clear c28b0
                            try clear c28b1
                            try clear p28
                            try clear q28
                            try clear hx28
                            try clear c29
                            try clear c29b0
                            try clear c29b1
                            try clear p29
                            try clear q29
                            try clear hx29
                            try clear c30
                            try clear c30b0
                            try clear c32
                            try clear c32b0
                            try clear c32b1
                            try clear c33
                            try clear c33b0
                            try clear c33b1
                            try clear c36
                            try clear c36b0
                            try clear c36b1
                            try clear c37
                            try clear c37b0
                            try clear c37b1
                            try clear c44
                            try clear c46
                            try clear c46b0
                            try clear c46b1
                            try clear c47
                            try clear c47b0
                            try clear c47b1
                            try clear c48
                            try clear c48b0
                            try clear c48b1
                            try clear p49
                            try clear q49
                            try clear hx49
                            try clear qi49
                            try clear hf49
                            try clear c54
                            try clear c54b0
                            try clear c56
                            try clear c56b0
                            try clear c57
                            try clear c57b0
                            try clear c58
                            try clear c58b0
                            try clear c59
                            try clear c59b0
                            try clear c59b1
                            try clear c59b2
                            try clear c61
                            try clear c61b0
                            try clear c64
                            try clear p64
                            try clear c65
                            try clear c65b0
                            try clear c66
                            try clear c66b0
                            try clear c69
                            try clear c69b0
                            try clear c71
                            try clear c71b0
                            try clear c71b1
                            try clear c72
                            try clear c72b0
                            try clear c73
                            try clear c73b0
                            try clear c74
                            try clear c75
                            try clear c75b0
                            try clear c76
                            try clear c76b0
                            try clear c82
                            try clear c86
                            try clear c87
                            try clear c87b0
                            try clear c88
                            try clear c88b0
                            try clear c89
                            try clear c90
                            try clear c90b0
                            try clear c91
                            try clear c93
                            try clear hcz11_0 hcz11_1 hcz11_2
                            try clear hcz13_0 hcz13_1 hcz13_2
                            try clear hcz15_0 hcz15_1 hcz15_2
                            try clear hcz17_0 hcz17_1 hcz17_2
                            try clear hcz80_0 hcz80_1 hcz80_2
                            try clear hcz83_0 hcz83_1 hcz83_2
                            try clear hcz85_0 hcz85_1 hcz85_2
                            try clear hcz92_0 hcz92_1 hcz92_2
                            try clear hcz94_0 hcz94_1 hcz94_2
                            try clear hfz11_0 hfz11_1 hfz11_2
                            try clear hfz13_0 hfz13_1 hfz13_2
                            try clear hfz15_0 hfz15_1 hfz15_2
                            try clear hfz17_0 hfz17_1 hfz17_2
                            try clear hfz80_0 hfz80_1 hfz80_2
                            try clear hfz83_0 hfz83_1 hfz83_2
                            try clear hfz85_0 hfz85_1 hfz85_2
                            try clear hfz92_0 hfz92_1 hfz92_2
                            try clear hfz94_0 hfz94_1 hfz94_2
                            try clear hx277_0
                            try clear hx278_0
                            try clear hx283_0
                            try clear hx284_0
                            try clear hx285_0
                            try clear hx286_0
                            try clear hx287_0
                            try clear hx288_0
                            try clear hx289_0
                            try clear hx290_0
                            try clear hx290_1
                            try clear hx290_2
                            try clear hx297_0
                            try clear hx49_0
                            try clear p2
                            try clear p27
                            try clear p277
                            try clear p278
                            try clear p28
                            try clear p283
                            try clear p284
                            try clear p285
                            try clear p286
                            try clear p287
                            try clear p288
                            try clear p289
                            try clear p290
                            try clear p297
                            try clear p4
                            try clear p49
                            try clear p6
                            try clear p64
                            try clear q2
                            try clear q27
                            try clear q277
                            try clear q278
                            try clear q28
                            try clear q283
                            try clear q284
                            try clear q285
                            try clear q286
                            try clear q287
                            try clear q288
                            try clear q289
                            try clear q290
                            try clear q297
                            try clear q4
                            try clear q49
                            obtain ⟨kq, x238_78, rfl, HA, HJ78, HO_4, HO_14, BK261, BK291, HB⟩ := hcut
                            cases kq with
                            | zero => exact absurd HA.out (by simp [w_CodeHeights.j6])
                            | succ kj78 =>
                             have H := HA.out
                             clear HA
                             simp only [w_CodeHeights.j6] at H
                             by_cases c95 : x238_78 = true
                             ·subst c95
                              have H1 : (some false) = some r := by rw [if_pos rfl] at H; exact H
                              clear H
                              have H := H1
                              clear H1
                              obtain rfl := Option.some.inj H
                              go_wp2
                              repeat (go_quiet (fail); try go_wp2)
                              go_ret
                              exact ⟨by first | rfl | (simp [errW_none, errW_some] <;> rfl) | (simp only [← hji45]; first | rfl | (simp [errW_none, errW_some] <;> rfl)) | (simp [*, errW_none, errW_some] <;> rfl), bs⟩
                             ·replace c95 := Bool.eq_false_iff.mpr c95
                              subst c95
                              have H1 : (if t296 = true then (if 0 ≤ (wrap64 (x16_3 + 1)) then (if (wrap64 (x16_3 + 1)) < (x14_3.length : Int) then (if (wrap64 (x16_3 + 1)) < (t263.length : Int) then (if 0 ≤ x16_3 then (if x16_3 < (t263.length : Int) then (if (rd t263 (wrap64 (x16_3 + 1))) = (wrap64 ((wrap64 ((rd t263 x16_3) - t292)) + t293)) then (w_CodeHeights.j7 kj78 (l0_0.length : Int) t263 t268 (x14_3.set ((wrap64 (x16_3 + 1)) : Int).toNat true) x15_66 x16_3 t292 t293 t295 l0_0 l0_1 l0_2 ((rd_T41 l0_0 x16_3).f0) ((rd_T41 l0_0 x16_3).f1) ((rd_T41 l0_0 x16_3).f2)) else (some false)) else (none)) else (none)) else (none)) else (none)) else (none)) else (w_CodeHeights.j7 kj78 (l0_0.length : Int) t263 t268 x14_3 x15_66 x16_3 t292 t293 t295 l0_0 l0_1 l0_2 ((rd_T41 l0_0 x16_3).f0) ((rd_T41 l0_0 x16_3).f1) ((rd_T41 l0_0 x16_3).f2))) = some r := by rw [if_neg (show ¬ (false = true) by decide)] at H; exact H
                              clear H
                              have H := H1
                              clear H1
                              have HC96 := Aside0.mk H
                              clear H
                              go_upto_if 239 with (fail)
                              repeat (go_quiet (fail); go_upto_if 239 with (fail))
                              go_cut [] (fun wc => ∃ (kq : Nat) (x14_95 : List Bool), Aside0 (w_CodeHeights.j7 kq (l0_0.length : Int) t263 t268 x14_95 x15_66 x16_3 t292 t293 t295 l0_0 l0_1 l0_2 ((rd_T41 l0_0 x16_3).f0) ((rd_T41 l0_0 x16_3).f1) ((rd_T41 l0_0 x16_3).f2) = some r) ∧ Aside0 (kq ≤ kj78) ∧ Aside0 (Kd.R (Kd.int .i64) 3 wc w.heap.size (fun _ => True) (.slice (some ad287) t263.length co68) t263) ∧ Aside0 (Kd.R Kd.bool 4 wc w.heap.size (fun _ => True) (.slice (some ⟨go49, 0, none⟩) x14_3.length co49) x14_95) ∧ Aside0 (wc.heap[gb261]? = some (.cells #[(.slice (some ad290) l0_0.length c0_0), (.slice A0_1 l0_1.length c0_1), (.slice A0_2 l0_2.length c0_2)] 26 (0, 0))) ∧ Aside0 (wc.heap[gb291]? = some (.cells #[.int .i64 ((rd_T41 l0_0 x16_3).f0), .int .i64 ((rd_T41 l0_0 x16_3).f1), .int .i64 ((rd_T41 l0_0 x16_3).f2)] 41 (0, 0))) ∧ Aside0 (Below w.heap.size w wc))
                              case first => as_aux_lemma =>
                               have H := HC96.out
                               clear HC96
                               by_cases c97 : t296 = true
                               ·subst c97
                                have H1 : (if 0 ≤ (wrap64 (x16_3 + 1)) then (if (wrap64 (x16_3 + 1)) < (x14_3.length : Int) then (if (wrap64 (x16_3 + 1)) < (t263.length : Int) then (if 0 ≤ x16_3 then (if x16_3 < (t263.length : Int) then (if (rd t263 (wrap64 (x16_3 + 1))) = (wrap64 ((wrap64 ((rd t263 x16_3) - t292)) + t293)) then (w_CodeHeights.j7 kj78 (l0_0.length : Int) t263 t268 (x14_3.set ((wrap64 (x16_3 + 1)) : Int).toNat true) x15_66 x16_3 t292 t293 t295 l0_0 l0_1 l0_2 ((rd_T41 l0_0 x16_3).f0) ((rd_T41 l0_0 x16_3).f1) ((rd_T41 l0_0 x16_3).f2)) else (some false)) else (none)) else (none)) else (none)) else (none)) else (none)) = some r := by rw [if_pos rfl] at H; exact H
                                clear H
                                have H := H1
                                clear H1
                                obtain ⟨ji98, hji98⟩ : ∃ j_ : Int, (wrap64 (x16_3 + 1)) = j_ := ⟨_, rfl⟩
                                replace H : (if 0 ≤ (ji98) then (if (ji98) < (x14_3.length : Int) then (if (ji98) < (t263.length : Int) then (if 0 ≤ x16_3 then (if x16_3 < (t263.length : Int) then (if (rd t263 (ji98)) = (wrap64 ((wrap64 ((rd t263 x16_3) - t292)) + t293)) then (w_CodeHeights.j7 kj78 (l0_0.length : Int) t263 t268 (x14_3.set ((ji98) : Int).toNat true) x15_66 x16_3 t292 t293 t295 l0_0 l0_1 l0_2 ((rd_T41 l0_0 x16_3).f0) ((rd_T41 l0_0 x16_3).f1) ((rd_T41 l0_0 x16_3).f2)) else (some false)) else (none)) else (none)) else (none)) else (none)) else (none)) = some r := by first | (rw [hji98] at H; exact H) | (simp only [hji98] at H ⊢; exact H)
                                have hji98w : (IntKind.i64.wrap (x16_3 + 1)) = ji98 := (i64_w _).trans hji98
                                by_cases c99 : 0 ≤ (ji98)
                                ·rw [if_pos c99] at H
                                 have c99b0 : decide (0 ≤ (ji98)) = true := decide_eq_true c99
                                 clear c99
                                 (first | rw [c99b0] | (simp only [i64_w, i32_w]; rw [c99b0]) | skip)
                                 by_cases c100 : (ji98) < (x14_3.length : Int)
                                 ·rw [if_pos c100] at H
                                  have c100b0 : decide ((ji98) < (x14_3.length : Int)) = true := decide_eq_true c100
                                  clear c100
                                  obtain ⟨y298, hy298⟩ : ∃ y_ : List Bool, y_ = (x14_3.set ((ji98) : Int).toNat true) := ⟨_, rfl⟩
                                  replace H : (if (ji98) < (t263.length : Int) then (if 0 ≤ x16_3 then (if x16_3 < (t263.length : Int) then (if (rd t263 (ji98)) = (wrap64 ((wrap64 ((rd t263 x16_3) - t292)) + t293)) then (w_CodeHeights.j7 kj78 (l0_0.length : Int) t263 t268 y298 x15_66 x16_3 t292 t293 t295 l0_0 l0_1 l0_2 ((rd_T41 l0_0 x16_3).f0) ((rd_T41 l0_0 x16_3).f1) ((rd_T41 l0_0 x16_3).f2)) else (some false)) else (none)) else (none)) else (none)) = some r := by first | (rw [hy298]; with_reducible exact H) | (have H2_ := (Option.bind_some _ _).symm.trans H; rw [hy298]; with_reducible exact H2_) | (have H2_ := (Option.bind_some _ _).symm.trans H; with_reducible exact H2_) | with_reducible exact H | (rw [hy298]; exact H) | exact H
                                  have Ny298 := Aside0.mk hy298
                                  clear hy298
                                  by_cases c102 : (ji98) < (t263.length : Int)
                                  ·rw [if_pos c102] at H
                                   have c102b0 : decide ((ji98) < (t263.length : Int)) = true := decide_eq_true c102
                                   clear c102
                                   by_cases c103 : 0 ≤ x16_3
                                   ·rw [if_pos c103] at H
                                    have c103b0 : decide (0 ≤ x16_3) = true := decide_eq_true c103
                                    clear c103
                                    by_cases c104 : x16_3 < (t263.length : Int)
                                    ·rw [if_pos c104] at H
                                     have c104b0 : decide (x16_3 < (t263.length : Int)) = true := decide_eq_true c104
                                     clear c104
                                     by_cases c105 : (rd t263 (ji98)) = (wrap64 ((wrap64 ((rd t263 x16_3) - t292)) + t293))
                                     ·rw [if_pos c105] at H
                                      have c105b0 : ((rd t263 (ji98)) == (wrap64 ((wrap64 ((rd t263 x16_3) - t292)) + t293))) = true := beq_iff_eq.mpr c105
                                      have c105b1 : ((rd t263 (ji98)) != (wrap64 ((wrap64 ((rd t263 x16_3) - t292)) + t293))) = false := bne_eq_false_iff_eq.mpr c105
                                      clear c105
                                      have H' := Aside0.mk H
                                      clear H
                                      have p101 : 0 ≤ ((ji98) : Int) := of_decide_eq_true od
                                      have q101 : ((ji98) : Int) < ((x14_3.length : Int) : Int) := of_decide_eq_true od
                                      obtain ⟨hx101_0, hf101_0⟩ := Kd.R_celln false HO_14.out ((ji98) : Int) p101 q101
                                      replace p101 := eq_true p101
                                      replace q101 := eq_true q101
                                      have HP106 := Kd.R_putg HO_14.out ((ji98) : Int) true
                                      go_wp2_with (first | ((with_reducible refine gate_store (t := 4) (p := 243) rfl ?_); (try (rw [drewN_self wc]; generalize hq_ : World.drewN wc _ = wc; have n0_ := Aside0.mk (Kd.R_at hq_ HO_4.out); have n1_ := Aside0.mk (Kd.R_at hq_ HO_14.out); have n2_ := Aside0.mk (blk_at hq_ BK261.out); have n3_ := Aside0.mk (blk_at hq_ BK291.out); have n4_ := Aside0.mk (below_at hq_ HB.out); clear hq_ HO_4 HO_14 BK261 BK291 HB; have HO_4 := n0_; have HO_14 := n1_; have BK261 := n2_; have BK291 := n3_; have HB := n4_; clear n0_ n1_ n2_ n3_ n4_; (try (have HP106 := Kd.R_putg HO_14.out ((ji98) : Int) true)))); refine store_event (t := 4) (p := 243) (v := ?vo_w107) (w1 := (wc.setCell ⟨go49, ((ji98) : Int).toNat, none⟩ (.bool true))) ?hg ?ho ?hn ?hr ?_; (case ho => rfl); (case hg => rfl); (case hn => rfl); (case hr => first | (go_simp; done) | (go_simp; rfl)); intro w107 hw; have hg : wc.grownBy w107 (some go49) := (by rw [hw]; exact HP106.2); have hp_ : Kd.R Kd.bool 4 w107 w.heap.size (fun _ => True) (.slice (some ⟨go49, 0, none⟩) x14_3.length co49) y298 := (by rw [hw, Ny298.out]; exact HP106.1); clear HP106; have n0_ := Aside0.mk (Kd.R_over' (v := (.slice (some ⟨go49, 0, none⟩) x14_3.length co49)) (by (with_reducible repeat (first | apply Kd.R_alloc | apply Kd.R_drewN | apply Kd.R_drew)); exact HO_4.out) (Kd.R_typed HO_14.out) (by decide) hg); have n1_ := Aside0.mk (hp_); have n2_ := Aside0.mk (blk_grown (g := gb261) (o := .cells #[.slice (some ad290) l0_0.length c0_0, .slice A0_1 l0_1.length c0_1, .slice A0_2 l0_2.length c0_2] 26 (0, 0)) (bu BK261.out) hg (Kd.R_ne HO_14.out BK261.out (by decide))); have n3_ := Aside0.mk (blk_grown (g := gb291) (o := .cells #[.int .i64 ((rd_T41 l0_0 x16_3).f0), .int .i64 ((rd_T41 l0_0 x16_3).f1), .int .i64 ((rd_T41 l0_0 x16_3).f2)] 41 (0, 0)) (bu BK291.out) hg (Kd.R_ne HO_14.out BK291.out (by decide))); have n4_ := Aside0.mk ((by rw [hw]; exact below_set (HB.out) GB49.out : Below w.heap.size w w107)); clear HO_4; clear HO_14; clear BK261; clear BK291; clear HB; have HO_4 := n0_; have HO_14 := n1_; have BK261 := n2_; have BK291 := n3_; have HB := n4_; clear n0_ n1_ n2_ n3_ n4_; clear hg hw hp_; have p299 : 0 ≤ ((ji98) : Int) := of_decide_eq_true od; have q299 : (ji98) < (t263.length : Int) := of_decide_eq_true od; obtain ⟨ad299, e299, hx299_0⟩ := Kd.at_int (Kd.R_reads' HO_4.out).2.2 (ji98) p299 q299; obtain rfl : ad287 = ad299 := (by injection e299); replace p299 := eq_true p299; replace q299 := eq_true q299; have p300 : 0 ≤ (x16_3 : Int) := of_decide_eq_true od; have q300 : x16_3 < (t263.length : Int) := of_decide_eq_true od; obtain ⟨ad300, e300, hx300_0⟩ := Kd.at_int (Kd.R_reads' HO_4.out).2.2 x16_3 p300 q300; obtain rfl : ad287 = ad300 := (by injection e300); replace p300 := eq_true p300; replace q300 := eq_true q300))
                                      repeat (go_quiet (first | ((with_reducible refine gate_store (t := 4) (p := 243) rfl ?_); (try (rw [drewN_self wc]; generalize hq_ : World.drewN wc _ = wc; have n0_ := Aside0.mk (Kd.R_at hq_ HO_4.out); have n1_ := Aside0.mk (Kd.R_at hq_ HO_14.out); have n2_ := Aside0.mk (blk_at hq_ BK261.out); have n3_ := Aside0.mk (blk_at hq_ BK291.out); have n4_ := Aside0.mk (below_at hq_ HB.out); clear hq_ HO_4 HO_14 BK261 BK291 HB; have HO_4 := n0_; have HO_14 := n1_; have BK261 := n2_; have BK291 := n3_; have HB := n4_; clear n0_ n1_ n2_ n3_ n4_; (try (have HP106 := Kd.R_putg HO_14.out ((ji98) : Int) true)))); refine store_event (t := 4) (p := 243) (v := ?vo_w107) (w1 := (wc.setCell ⟨go49, ((ji98) : Int).toNat, none⟩ (.bool true))) ?hg ?ho ?hn ?hr ?_; (case ho => rfl); (case hg => rfl); (case hn => rfl); (case hr => first | (go_simp; done) | (go_simp; rfl)); intro w107 hw; have hg : wc.grownBy w107 (some go49) := (by rw [hw]; exact HP106.2); have hp_ : Kd.R Kd.bool 4 w107 w.heap.size (fun _ => True) (.slice (some ⟨go49, 0, none⟩) x14_3.length co49) y298 := (by rw [hw, Ny298.out]; exact HP106.1); clear HP106; have n0_ := Aside0.mk (Kd.R_over' (v := (.slice (some ⟨go49, 0, none⟩) x14_3.length co49)) (by (with_reducible repeat (first | apply Kd.R_alloc | apply Kd.R_drewN | apply Kd.R_drew)); exact HO_4.out) (Kd.R_typed HO_14.out) (by decide) hg); have n1_ := Aside0.mk (hp_); have n2_ := Aside0.mk (blk_grown (g := gb261) (o := .cells #[.slice (some ad290) l0_0.length c0_0, .slice A0_1 l0_1.length c0_1, .slice A0_2 l0_2.length c0_2] 26 (0, 0)) (bu BK261.out) hg (Kd.R_ne HO_14.out BK261.out (by decide))); have n3_ := Aside0.mk (blk_grown (g := gb291) (o := .cells #[.int .i64 ((rd_T41 l0_0 x16_3).f0), .int .i64 ((rd_T41 l0_0 x16_3).f1), .int .i64 ((rd_T41 l0_0 x16_3).f2)] 41 (0, 0)) (bu BK291.out) hg (Kd.R_ne HO_14.out BK291.out (by decide))); have n4_ := Aside0.mk ((by rw [hw]; exact below_set (HB.out) GB49.out : Below w.heap.size w w107)); clear HO_4; clear HO_14; clear BK261; clear BK291; clear HB; have HO_4 := n0_; have HO_14 := n1_; have BK261 := n2_; have BK291 := n3_; have HB := n4_; clear n0_ n1_ n2_ n3_ n4_; clear hg hw hp_; have p299 : 0 ≤ ((ji98) : Int) := of_decide_eq_true od; have q299 : (ji98) < (t263.length : Int) := of_decide_eq_true od; obtain ⟨ad299, e299, hx299_0⟩ := Kd.at_int (Kd.R_reads' HO_4.out).2.2 (ji98) p299 q299; obtain rfl : ad287 = ad299 := (by injection e299); replace p299 := eq_true p299; replace q299 := eq_true q299; have p300 : 0 ≤ (x16_3 : Int) := of_decide_eq_true od; have q300 : x16_3 < (t263.length : Int) := of_decide_eq_true od; obtain ⟨ad300, e300, hx300_0⟩ := Kd.at_int (Kd.R_reads' HO_4.out).2.2 x16_3 p300 q300; obtain rfl : ad287 = ad300 := (by injection e300); replace p300 := eq_true p300; replace q300 := eq_true q300)); try go_wp2_with (first | ((with_reducible refine gate_store (t := 4) (p := 243) rfl ?_); (try (rw [drewN_self wc]; generalize hq_ : World.drewN wc _ = wc; have n0_ := Aside0.mk (Kd.R_at hq_ HO_4.out); have n1_ := Aside0.mk (Kd.R_at hq_ HO_14.out); have n2_ := Aside0.mk (blk_at hq_ BK261.out); have n3_ := Aside0.mk (blk_at hq_ BK291.out); have n4_ := Aside0.mk (below_at hq_ HB.out); clear hq_ HO_4 HO_14 BK261 BK291 HB; have HO_4 := n0_; have HO_14 := n1_; have BK261 := n2_; have BK291 := n3_; have HB := n4_; clear n0_ n1_ n2_ n3_ n4_; (try (have HP106 := Kd.R_putg HO_14.out ((ji98) : Int) true)))); refine store_event (t := 4) (p := 243) (v := ?vo_w107) (w1 := (wc.setCell ⟨go49, ((ji98) : Int).toNat, none⟩ (.bool true))) ?hg ?ho ?hn ?hr ?_; (case ho => rfl); (case hg => rfl); (case hn => rfl); (case hr => first | (go_simp; done) | (go_simp; rfl)); intro w107 hw; have hg : wc.grownBy w107 (some go49) := (by rw [hw]; exact HP106.2); have hp_ : Kd.R Kd.bool 4 w107 w.heap.size (fun _ => True) (.slice (some ⟨go49, 0, none⟩) x14_3.length co49) y298 := (by rw [hw, Ny298.out]; exact HP106.1); clear HP106; have n0_ := Aside0.mk (Kd.R_over' (v := (.slice (some ⟨go49, 0, none⟩) x14_3.length co49)) (by (with_reducible repeat (first | apply Kd.R_alloc | apply Kd.R_drewN | apply Kd.R_drew)); exact HO_4.out) (Kd.R_typed HO_14.out) (by decide) hg); have n1_ := Aside0.mk (hp_); have n2_ := Aside0.mk (blk_grown (g := gb261) (o := .cells #[.slice (some ad290) l0_0.length c0_0, .slice A0_1 l0_1.length c0_1, .slice A0_2 l0_2.length c0_2] 26 (0, 0)) (bu BK261.out) hg (Kd.R_ne HO_14.out BK261.out (by decide))); have n3_ := Aside0.mk (blk_grown (g := gb291) (o := .cells #[.int .i64 ((rd_T41 l0_0 x16_3).f0), .int .i64 ((rd_T41 l0_0 x16_3).f1), .int .i64 ((rd_T41 l0_0 x16_3).f2)] 41 (0, 0)) (bu BK291.out) hg (Kd.R_ne HO_14.out BK291.out (by decide))); have n4_ := Aside0.mk ((by rw [hw]; exact below_set (HB.out) GB49.out : Below w.heap.size w w107)); clear HO_4; clear HO_14; clear BK261; clear BK291; clear HB; have HO_4 := n0_; have HO_14 := n1_; have BK261 := n2_; have BK291 := n3_; have HB := n4_; clear n0_ n1_ n2_ n3_ n4_; clear hg hw hp_; have p299 : 0 ≤ ((ji98) : Int) := of_decide_eq_true od; have q299 : (ji98) < (t263.length : Int) := of_decide_eq_true od; obtain ⟨ad299, e299, hx299_0⟩ := Kd.at_int (Kd.R_reads' HO_4.out).2.2 (ji98) p299 q299; obtain rfl : ad287 = ad299 := (by injection e299); replace p299 := eq_true p299; replace q299 := eq_true q299; have p300 : 0 ≤ (x16_3 : Int) := of_decide_eq_true od; have q300 : x16_3 < (t263.length : Int) := of_decide_eq_true od; obtain ⟨ad300, e300, hx300_0⟩ := Kd.at_int (Kd.R_reads' HO_4.out).2.2 x16_3 p300 q300; obtain rfl : ad287 = ad300 := (by injection e300); replace p300 := eq_true p300; replace q300 := eq_true q300)))
                                      go_meet
                                      case rel => exact ⟨_, (y298), H', ⟨by have := HJ7.out; have := HJ21.out; have := HK3.out; have := HJ54.out; have := HJ66.out; have := HJ69.out; have := HJ78.out; first | omega | exact Nat.le_refl _⟩, ⟨by (try simp only [hl14_3]); (with_reducible repeat (first | apply Kd.R_alloc | apply Kd.R_drewN | apply Kd.R_drew)); exact HO_4.out⟩, ⟨by (try simp only [hl14_3]); (with_reducible repeat (first | apply Kd.R_alloc | apply Kd.R_drewN | apply Kd.R_drew)); exact HO_14.out⟩, ⟨by (try simp only [hl14_3]); refine bu ?_; exact BK261.out⟩, ⟨by (try simp only [hl14_3]); refine bu ?_; exact BK291.out⟩, ⟨bs⟩⟩
                                     ·rw [if_neg c105] at H
                                      have c105b0 : ((rd t263 (ji98)) == (wrap64 ((wrap64 ((rd t263 x16_3) - t292)) + t293))) = false := beq_eq_false_iff_ne.mpr c105
                                      have c105b1 : ((rd t263 (ji98)) != (wrap64 ((wrap64 ((rd t263 x16_3) - t292)) + t293))) = true := bne_iff_ne.mpr c105
                                      obtain rfl := Option.some.inj H
                                      have p101 : 0 ≤ ((ji98) : Int) := of_decide_eq_true od
                                      have q101 : ((ji98) : Int) < ((x14_3.length : Int) : Int) := of_decide_eq_true od
                                      obtain ⟨hx101_0, hf101_0⟩ := Kd.R_celln false HO_14.out ((ji98) : Int) p101 q101
                                      replace p101 := eq_true p101
                                      replace q101 := eq_true q101
                                      have HP108 := Kd.R_putg HO_14.out ((ji98) : Int) true
                                      go_wp2_with (first | ((with_reducible refine gate_store (t := 4) (p := 243) rfl ?_); (try (rw [drewN_self wc]; generalize hq_ : World.drewN wc _ = wc; have n0_ := Aside0.mk (Kd.R_at hq_ HO_4.out); have n1_ := Aside0.mk (Kd.R_at hq_ HO_14.out); have n2_ := Aside0.mk (blk_at hq_ BK261.out); have n3_ := Aside0.mk (blk_at hq_ BK291.out); have n4_ := Aside0.mk (below_at hq_ HB.out); clear hq_ HO_4 HO_14 BK261 BK291 HB; have HO_4 := n0_; have HO_14 := n1_; have BK261 := n2_; have BK291 := n3_; have HB := n4_; clear n0_ n1_ n2_ n3_ n4_; (try (have HP108 := Kd.R_putg HO_14.out ((ji98) : Int) true)))); refine store_event (t := 4) (p := 243) (v := ?vo_w109) (w1 := (wc.setCell ⟨go49, ((ji98) : Int).toNat, none⟩ (.bool true))) ?hg ?ho ?hn ?hr ?_; (case ho => rfl); (case hg => rfl); (case hn => rfl); (case hr => first | (go_simp; done) | (go_simp; rfl)); intro w109 hw; have hg : wc.grownBy w109 (some go49) := (by rw [hw]; exact HP108.2); have hp_ : Kd.R Kd.bool 4 w109 w.heap.size (fun _ => True) (.slice (some ⟨go49, 0, none⟩) x14_3.length co49) y298 := (by rw [hw, Ny298.out]; exact HP108.1); clear HP108; have n0_ := Aside0.mk (Kd.R_over' (v := (.slice (some ⟨go49, 0, none⟩) x14_3.length co49)) (by (with_reducible repeat (first | apply Kd.R_alloc | apply Kd.R_drewN | apply Kd.R_drew)); exact HO_4.out) (Kd.R_typed HO_14.out) (by decide) hg); have n1_ := Aside0.mk (hp_); have n2_ := Aside0.mk (blk_grown (g := gb261) (o := .cells #[.slice (some ad290) l0_0.length c0_0, .slice A0_1 l0_1.length c0_1, .slice A0_2 l0_2.length c0_2] 26 (0, 0)) (bu BK261.out) hg (Kd.R_ne HO_14.out BK261.out (by decide))); have n3_ := Aside0.mk (blk_grown (g := gb291) (o := .cells #[.int .i64 ((rd_T41 l0_0 x16_3).f0), .int .i64 ((rd_T41 l0_0 x16_3).f1), .int .i64 ((rd_T41 l0_0 x16_3).f2)] 41 (0, 0)) (bu BK291.out) hg (Kd.R_ne HO_14.out BK291.out (by decide))); have n4_ := Aside0.mk ((by rw [hw]; exact below_set (HB.out) GB49.out : Below w.heap.size w w109)); clear HO_4; clear HO_14; clear BK261; clear BK291; clear HB; have HO_4 := n0_; have HO_14 := n1_; have BK261 := n2_; have BK291 := n3_; have HB := n4_; clear n0_ n1_ n2_ n3_ n4_; clear hg hw hp_; have p299 : 0 ≤ ((ji98) : Int) := of_decide_eq_true od; have q299 : (ji98) < (t263.length : Int) := of_decide_eq_true od; obtain ⟨ad299, e299, hx299_0⟩ := Kd.at_int (Kd.R_reads' HO_4.out).2.2 (ji98) p299 q299; obtain rfl : ad287 = ad299 := (by injection e299); replace p299 := eq_true p299; replace q299 := eq_true q299; have p300 : 0 ≤ (x16_3 : Int) := of_decide_eq_true od; have q300 : x16_3 < (t263.length : Int) := of_decide_eq_true od; obtain ⟨ad300, e300, hx300_0⟩ := Kd.at_int (Kd.R_reads' HO_4.out).2.2 x16_3 p300 q300; obtain rfl : ad287 = ad300 := (by injection e300); replace p300 := eq_true p300; replace q300 := eq_true q300))
                                      repeat (go_quiet (first | ((with_reducible refine gate_store (t := 4) (p := 243) rfl ?_); (try (rw [drewN_self wc]; generalize hq_ : World.drewN wc _ = wc; have n0_ := Aside0.mk (Kd.R_at hq_ HO_4.out); have n1_ := Aside0.mk (Kd.R_at hq_ HO_14.out); have n2_ := Aside0.mk (blk_at hq_ BK261.out); have n3_ := Aside0.mk (blk_at hq_ BK291.out); have n4_ := Aside0.mk (below_at hq_ HB.out); clear hq_ HO_4 HO_14 BK261 BK291 HB; have HO_4 := n0_; have HO_14 := n1_; have BK261 := n2_; have BK291 := n3_; have HB := n4_; clear n0_ n1_ n2_ n3_ n4_; (try (have HP108 := Kd.R_putg HO_14.out ((ji98) : Int) true)))); refine store_event (t := 4) (p := 243) (v := ?vo_w109) (w1 := (wc.setCell ⟨go49, ((ji98) : Int).toNat, none⟩ (.bool true))) ?hg ?ho ?hn ?hr ?_; (case ho => rfl); (case hg => rfl); (case hn => rfl); (case hr => first | (go_simp; done) | (go_simp; rfl)); intro w109 hw; have hg : wc.grownBy w109 (some go49) := (by rw [hw]; exact HP108.2); have hp_ : Kd.R Kd.bool 4 w109 w.heap.size (fun _ => True) (.slice (some ⟨go49, 0, none⟩) x14_3.length co49) y298 := (by rw [hw, Ny298.out]; exact HP108.1); clear HP108; have n0_ := Aside0.mk (Kd.R_over' (v := (.slice (some ⟨go49, 0, none⟩) x14_3.length co49)) (by (with_reducible repeat (first | apply Kd.R_alloc | apply Kd.R_drewN | apply Kd.R_drew)); exact HO_4.out) (Kd.R_typed HO_14.out) (by decide) hg); have n1_ := Aside0.mk (hp_); have n2_ := Aside0.mk (blk_grown (g := gb261) (o := .cells #[.slice (some ad290) l0_0.length c0_0, .slice A0_1 l0_1.length c0_1, .slice A0_2 l0_2.length c0_2] 26 (0, 0)) (bu BK261.out) hg (Kd.R_ne HO_14.out BK261.out (by decide))); have n3_ := Aside0.mk (blk_grown (g := gb291) (o := .cells #[.int .i64 ((rd_T41 l0_0 x16_3).f0), .int .i64 ((rd_T41 l0_0 x16_3).f1), .int .i64 ((rd_T41 l0_0 x16_3).f2)] 41 (0, 0)) (bu BK291.out) hg (Kd.R_ne HO_14.out BK291.out (by decide))); have n4_ := Aside0.mk ((by rw [hw]; exact below_set (HB.out) GB49.out : Below w.heap.size w w109)); clear HO_4; clear HO_14; clear BK261; clear BK291; clear HB; have HO_4 := n0_; have HO_14 := n1_; have BK261 := n2_; have BK291 := n3_; have HB := n4_; clear n0_ n1_ n2_ n3_ n4_; clear hg hw hp_; have p299 : 0 ≤ ((ji98) : Int) := of_decide_eq_true od; have q299 : (ji98) < (t263.length : Int) := of_decide_eq_true od; obtain ⟨ad299, e299, hx299_0⟩ := Kd.at_int (Kd.R_reads' HO_4.out).2.2 (ji98) p299 q299; obtain rfl : ad287 = ad299 := (by injection e299); replace p299 := eq_true p299; replace q299 := eq_true q299; have p300 : 0 ≤ (x16_3 : Int) := of_decide_eq_true od; have q300 : x16_3 < (t263.length : Int) := of_decide_eq_true od; obtain ⟨ad300, e300, hx300_0⟩ := Kd.at_int (Kd.R_reads' HO_4.out).2.2 x16_3 p300 q300; obtain rfl : ad287 = ad300 := (by injection e300); replace p300 := eq_true p300; replace q300 := eq_true q300)); try go_wp2_with (first | ((with_reducible refine gate_store (t := 4) (p := 243) rfl ?_); (try (rw [drewN_self wc]; generalize hq_ : World.drewN wc _ = wc; have n0_ := Aside0.mk (Kd.R_at hq_ HO_4.out); have n1_ := Aside0.mk (Kd.R_at hq_ HO_14.out); have n2_ := Aside0.mk (blk_at hq_ BK261.out); have n3_ := Aside0.mk (blk_at hq_ BK291.out); have n4_ := Aside0.mk (below_at hq_ HB.out); clear hq_ HO_4 HO_14 BK261 BK291 HB; have HO_4 := n0_; have HO_14 := n1_; have BK261 := n2_; have BK291 := n3_; have HB := n4_; clear n0_ n1_ n2_ n3_ n4_; (try (have HP108 := Kd.R_putg HO_14.out ((ji98) : Int) true)))); refine store_event (t := 4) (p := 243) (v := ?vo_w109) (w1 := (wc.setCell ⟨go49, ((ji98) : Int).toNat, none⟩ (.bool true))) ?hg ?ho ?hn ?hr ?_; (case ho => rfl); (case hg => rfl); (case hn => rfl); (case hr => first | (go_simp; done) | (go_simp; rfl)); intro w109 hw; have hg : wc.grownBy w109 (some go49) := (by rw [hw]; exact HP108.2); have hp_ : Kd.R Kd.bool 4 w109 w.heap.size (fun _ => True) (.slice (some ⟨go49, 0, none⟩) x14_3.length co49) y298 := (by rw [hw, Ny298.out]; exact HP108.1); clear HP108; have n0_ := Aside0.mk (Kd.R_over' (v := (.slice (some ⟨go49, 0, none⟩) x14_3.length co49)) (by (with_reducible repeat (first | apply Kd.R_alloc | apply Kd.R_drewN | apply Kd.R_drew)); exact HO_4.out) (Kd.R_typed HO_14.out) (by decide) hg); have n1_ := Aside0.mk (hp_); have n2_ := Aside0.mk (blk_grown (g := gb261) (o := .cells #[.slice (some ad290) l0_0.length c0_0, .slice A0_1 l0_1.length c0_1, .slice A0_2 l0_2.length c0_2] 26 (0, 0)) (bu BK261.out) hg (Kd.R_ne HO_14.out BK261.out (by decide))); have n3_ := Aside0.mk (blk_grown (g := gb291) (o := .cells #[.int .i64 ((rd_T41 l0_0 x16_3).f0), .int .i64 ((rd_T41 l0_0 x16_3).f1), .int .i64 ((rd_T41 l0_0 x16_3).f2)] 41 (0, 0)) (bu BK291.out) hg (Kd.R_ne HO_14.out BK291.out (by decide))); have n4_ := Aside0.mk ((by rw [hw]; exact below_set (HB.out) GB49.out : Below w.heap.size w w109)); clear HO_4; clear HO_14; clear BK261; clear BK291; clear HB; have HO_4 := n0_; have HO_14 := n1_; have BK261 := n2_; have BK291 := n3_; have HB := n4_; clear n0_ n1_ n2_ n3_ n4_; clear hg hw hp_; have p299 : 0 ≤ ((ji98) : Int) := of_decide_eq_true od; have q299 : (ji98) < (t263.length : Int) := of_decide_eq_true od; obtain ⟨ad299, e299, hx299_0⟩ := Kd.at_int (Kd.R_reads' HO_4.out).2.2 (ji98) p299 q299; obtain rfl : ad287 = ad299 := (by injection e299); replace p299 := eq_true p299; replace q299 := eq_true q299; have p300 : 0 ≤ (x16_3 : Int) := of_decide_eq_true od; have q300 : x16_3 < (t263.length : Int) := of_decide_eq_true od; obtain ⟨ad300, e300, hx300_0⟩ := Kd.at_int (Kd.R_reads' HO_4.out).2.2 x16_3 p300 q300; obtain rfl : ad287 = ad300 := (by injection e300); replace p300 := eq_true p300; replace q300 := eq_true q300)))
                                      go_ret
                                      exact ⟨by first | rfl | (simp [errW_none, errW_some] <;> rfl) | (simp only [← hji45, ← hji98]; first | rfl | (simp [errW_none, errW_some] <;> rfl)) | (simp [*, errW_none, errW_some] <;> rfl), bs⟩
                                    ·rw [if_neg c104] at H
                                     exact absurd H (by simp)
                                   ·rw [if_neg c103] at H
                                    exact absurd H (by simp)
                                  ·rw [if_neg c102] at H
                                   exact absurd H (by simp)
                                 ·rw [if_neg c100] at H
                                  exact absurd H (by simp)
                                ·rw [if_neg c99] at H
                                 exact absurd H (by simp)
                               ·replace c97 := Bool.eq_false_iff.mpr c97
                                subst c97
                                have H1 : (w_CodeHeights.j7 kj78 (l0_0.length : Int) t263 t268 x14_3 x15_66 x16_3 t292 t293 t295 l0_0 l0_1 l0_2 ((rd_T41 l0_0 x16_3).f0) ((rd_T41 l0_0 x16_3).f1) ((rd_T41 l0_0 x16_3).f2)) = some r := by rw [if_neg (show ¬ (false = true) by decide)] at H; exact H
                                clear H
                                have H := H1
                                clear H1
                                have H' := Aside0.mk H
                                clear H
                                go_wp2
                                repeat (go_quiet (fail); try go_wp2)
                                go_meet
                                case rel => exact ⟨_, (x14_3), H', ⟨by have := HJ7.out; have := HJ21.out; have := HK3.out; have := HJ54.out; have := HJ66.out; have := HJ69.out; have := HJ78.out; first | omega | exact Nat.le_refl _⟩, ⟨by (try simp only [hl14_3]); (with_reducible repeat (first | apply Kd.R_alloc | apply Kd.R_drewN | apply Kd.R_drew)); exact HO_4.out⟩, ⟨by (try simp only [hl14_3]); (with_reducible repeat (first | apply Kd.R_alloc | apply Kd.R_drewN | apply Kd.R_drew)); exact HO_14.out⟩, ⟨by (try simp only [hl14_3]); refine bu ?_; exact BK261.out⟩, ⟨by (try simp only [hl14_3]); refine bu ?_; exact BK291.out⟩, ⟨bs⟩⟩
                              case rest => as_aux_lemma =>
                               clear HC96
                               try clear c1
                               try clear p1
                               try clear q1
                               try clear hx1
                               try clear hf1
                               try clear c2
                               try clear p2
                               try clear q2
                               try clear hx2
                               try clear qi2
                               try clear c3
                               try clear p3
                               try clear q3
                               try clear hx3
                               try clear c4
                               try clear p4
                               try clear q4
                               try clear hx4
                               try clear qi4
                               try clear hf4
                               try clear c5
                               try clear c6
                               try clear p6
                               try clear c7
                               try clear c8
                               try clear c9
                               try clear c10
                               try clear p10
                               try clear q10
                               try clear hx10
                               try clear hf10
                               try clear c19
                               try clear c19b0
                               try clear c19b1
                               try clear c20
                               try clear c21
                               try clear c21b0
                               try clear c21b1
                               try clear c23
                               try clear c23b0
                               try clear c23b1
                               try clear c24
                               try clear c24b0
                               try clear c24b1
                               try clear c25
                               try clear c25b0
                               try clear c25b1
                               try clear c26
                               try clear c26b0
                               try clear c26b1
                               try clear c27
                               try clear c27b0
                               try clear c27b1
                               try clear p27
                               try clear q27
                               try clear hx27
                               try clear qi27
                               try clear c28
                               try clear c28b0
                               try clear c28b1
                               try clear p28
                               try clear q28
                               try clear hx28
                               try clear c29
                               try clear c29b0
                               try clear c29b1
                               try clear p29
                               try clear q29
                               try clear hx29
                               try clear c30
                               try clear c30b0
                               try clear p30
                               try clear q30
                               try clear hx30
                               try clear c32
                               try clear c32b0
                               try clear c32b1
                               try clear c33
                               try clear c33b0
                               try clear c33b1
                               try clear c36
                               try clear c36b0
                               try clear c36b1
                               try clear c37
                               try clear c37b0
                               try clear c37b1
                               try clear c44
                               try clear c46
                               try clear c46b0
                               try clear c46b1
                               try clear c47
                               try clear c47b0
                               try clear c47b1
                               try clear c48
                               try clear c48b0
                               try clear c48b1
                               try clear p49
                               try clear q49
                               try clear hx49
                               try clear qi49
                               try clear hf49
                               try clear c54
                               try clear c54b0
                               try clear c56
                               try clear c56b0
                               try clear c57
                               try clear c57b0
                               try clear c58
                               try clear c58b0
                               try clear c59
                               try clear c59b0
                               try clear c59b1
                               try clear c59b2
                               try clear c61
                               try clear c61b0
                               try clear c64
                               try clear p64
                               try clear c65
                               try clear c65b0
                               try clear c66
                               try clear c66b0
                               try clear c69
                               try clear c69b0
                               try clear c71
                               try clear c71b0
                               try clear c71b1
                               try clear c72
                               try clear c72b0
                               try clear c73
                               try clear c73b0
                               try clear c74
                               try clear c75
                               try clear c75b0
                               try clear c76
                               try clear c76b0
                               try clear c82
                               try clear c86
                               try clear c87
                               try clear c87b0
                               try clear c88
                               try clear c88b0
                               try clear c89
                               try clear c90
                               try clear c90b0
                               try clear c91
                               try clear c93
                               try clear c95
                               try clear c97
                               try clear c99
                               try clear c99b0
                               try clear c100
                               try clear c100b0
                               try clear p101
                               try clear q101
                               try clear hx101
                               try clear hf101
                               try clear c102
                               try clear c102b0
                               try clear c103
                               try clear c103b0
                               try clear c104
                               try clear c104b0
                               try clear c105
                               try clear c105b0
                               try clear c105b1
                               try clear hcz11_0 hcz11_1 hcz11_2
                               try clear hcz13_0 hcz13_1 hcz13_2
                               try clear hcz15_0 hcz15_1 hcz15_2
                               try clear hcz17_0 hcz17_1 hcz17_2
                               try clear hcz80_0 hcz80_1 hcz80_2
                               try clear hcz83_0 hcz83_1 hcz83_2
                               try clear hcz85_0 hcz85_1 hcz85_2
                               try clear hcz92_0 hcz92_1 hcz92_2
                               try clear hcz94_0 hcz94_1 hcz94_2
                               try clear hfz11_0 hfz11_1 hfz11_2
                               try clear hfz13_0 hfz13_1 hfz13_2
                               try clear hfz15_0 hfz15_1 hfz15_2
                               try clear hfz17_0 hfz17_1 hfz17_2
                               try clear hfz80_0 hfz80_1 hfz80_2
                               try clear hfz83_0 hfz83_1 hfz83_2
                               try clear hfz85_0 hfz85_1 hfz85_2
                               try clear hfz92_0 hfz92_1 hfz92_2
                               try clear hfz94_0 hfz94_1 hfz94_2
                               try clear hx101_0
                               try clear hx277_0
                               try clear hx278_0
                               try clear hx283_0
                               try clear hx284_0
                               try clear hx285_0
                               try clear hx286_0
                               try clear hx287_0
                               try clear hx288_0
                               try clear hx289_0
                               try clear hx290_0
                               try clear hx290_1
                               try clear hx290_2
                               try clear hx297_0
                               try clear hx299_0
                               try clear hx300_0
                               try clear hx49_0
                               try clear p101
                               try clear p2
                               try clear p27
                               try clear p277
                               try clear p278
                               try clear p28
                               try clear p283
                               try clear p284
                               try clear p285
                               try clear p286
                               try clear p287
                               try clear p288
                               try clear p289
                               try clear p29
                               try clear p290
                               try clear p297
                               try clear p299
                               try clear p300
                               try clear p4
                               try clear p49
                               try clear p6
                               try clear p64
                               try clear q101
                               try clear q2
                               try clear q27
                               try clear q277
                               try clear q278
                               try clear q28
                               try clear q283
                               try clear q284
                               try clear q285
                               try clear q286
                               try clear q287
                               try clear q288
                               try clear q289
                               try clear q29
                               try clear q290
                               try clear q297
                               try clear q299
                               try clear q300
                               try clear q4
                               try clear q49
                               obtain ⟨kq, x14_95, HA, HJ95, HO_4, HO_14, BK261, BK291, HB⟩ := hcut
                               have hl14_95 := (Kd.R_reads' HO_14.out).1
                               rw [hl14_95] at HO_14
                               (try simp only [hl14_95])
                               (try simp only [hl14_95] at BK261)
                               (try simp only [hl14_95] at BK291)
                               (try simp only [hl14_95] at HO_4)
                               cases kq with
                               | zero => exact absurd HA.out (by simp [w_CodeHeights.j7])
                               | succ kj95 =>
                                have H := HA.out
                                clear HA
                                simp only [w_CodeHeights.j7] at H
                                by_cases c110 : t295 = true
                                ·subst c110
                                 have H1 : (if 0 ≤ ((rd_T41 l0_0 x16_3).f1) then (if ((rd_T41 l0_0 x16_3).f1) < (x14_95.length : Int) then (if ((rd_T41 l0_0 x16_3).f1) < (t263.length : Int) then (if 0 ≤ x16_3 then (if x16_3 < (t263.length : Int) then (if (rd t263 ((rd_T41 l0_0 x16_3).f1)) = (wrap64 ((wrap64 ((rd t263 x16_3) - t292)) + t293)) then (w_CodeHeights.l0 kj95 (l0_0.length : Int) t263 t268 (x14_95.set (((rd_T41 l0_0 x16_3).f1) : Int).toNat true) x15_66 (wrap64 (x16_3 + 1)) l0_0 l0_1 l0_2) else (some false)) else (none)) else (none)) else (none)) else (none)) else (none)) = some r := by rw [if_pos rfl] at H; exact H
                                 clear H
                                 have H := H1
                                 clear H1
                                 by_cases c111 : 0 ≤ ((rd_T41 l0_0 x16_3).f1)
                                 ·rw [if_pos c111] at H
                                  have c111b0 : decide (0 ≤ ((rd_T41 l0_0 x16_3).f1)) = true := decide_eq_true c111
                                  clear c111
                                  by_cases c112 : ((rd_T41 l0_0 x16_3).f1) < (x14_95.length : Int)
                                  ·rw [if_pos c112] at H
                                   have c112b0 : decide (((rd_T41 l0_0 x16_3).f1) < (x14_95.length : Int)) = true := decide_eq_true c112
                                   clear c112
                                   obtain ⟨y301, hy301⟩ : ∃ y_ : List Bool, y_ = (x14_95.set (((rd_T41 l0_0 x16_3).f1) : Int).toNat true) := ⟨_, rfl⟩
                                   replace H : (if ((rd_T41 l0_0 x16_3).f1) < (t263.length : Int) then (if 0 ≤ x16_3 then (if x16_3 < (t263.length : Int) then (if (rd t263 ((rd_T41 l0_0 x16_3).f1)) = (wrap64 ((wrap64 ((rd t263 x16_3) - t292)) + t293)) then (w_CodeHeights.l0 kj95 (l0_0.length : Int) t263 t268 y301 x15_66 (wrap64 (x16_3 + 1)) l0_0 l0_1 l0_2) else (some false)) else (none)) else (none)) else (none)) = some r := by first | (rw [hy301]; with_reducible exact H) | (have H2_ := (Option.bind_some _ _).symm.trans H; rw [hy301]; with_reducible exact H2_) | (have H2_ := (Option.bind_some _ _).symm.trans H; with_reducible exact H2_) | with_reducible exact H | (rw [hy301]; exact H) | exact H
                                   have Ny301 := Aside0.mk hy301
                                   clear hy301
                                   by_cases c114 : ((rd_T41 l0_0 x16_3).f1) < (t263.length : Int)
                                   ·rw [if_pos c114] at H
                                    have c114b0 : decide (((rd_T41 l0_0 x16_3).f1) < (t263.length : Int)) = true := decide_eq_true c114
                                    clear c114
                                    by_cases c115 : 0 ≤ x16_3
                                    ·rw [if_pos c115] at H
                                     have c115b0 : decide (0 ≤ x16_3) = true := decide_eq_true c115
                                     clear c115
                                     by_cases c116 : x16_3 < (t263.length : Int)
                                     ·rw [if_pos c116] at H
                                      have c116b0 : decide (x16_3 < (t263.length : Int)) = true := decide_eq_true c116
                                      clear c116
                                      by_cases c117 : (rd t263 ((rd_T41 l0_0 x16_3).f1)) = (wrap64 ((wrap64 ((rd t263 x16_3) - t292)) + t293))
                                      ·rw [if_pos c117] at H
                                       have c117b0 : ((rd t263 ((rd_T41 l0_0 x16_3).f1)) == (wrap64 ((wrap64 ((rd t263 x16_3) - t292)) + t293))) = true := beq_iff_eq.mpr c117
                                       have c117b1 : ((rd t263 ((rd_T41 l0_0 x16_3).f1)) != (wrap64 ((wrap64 ((rd t263 x16_3) - t292)) + t293))) = false := bne_eq_false_iff_eq.mpr c117
                                       clear c117
                                       have H' := Aside0.mk H
                                       clear H
                                       have hnb118 := NB291_261.out
                                       have hnc118 := NB261_291.out
                                       obtain ⟨⟨hcz119_0, hcz119_1, hcz119_2⟩, hfz119_0, hfz119_1, hfz119_2⟩ := blkAll3 BK291
                                       have p113 : 0 ≤ (((rd_T41 l0_0 x16_3).f1) : Int) := of_decide_eq_true od
                                       have q113 : (((rd_T41 l0_0 x16_3).f1) : Int) < ((x14_95.length : Int) : Int) := of_decide_eq_true od
                                       obtain ⟨hx113_0, hf113_0⟩ := Kd.R_celln false HO_14.out (((rd_T41 l0_0 x16_3).f1) : Int) p113 q113
                                       replace p113 := eq_true p113
                                       replace q113 := eq_true q113
                                       have HP120 := Kd.R_putg HO_14.out (((rd_T41 l0_0 x16_3).f1) : Int) true
                                       go_wp2_with (first | ((with_reducible refine gate_store (t := 4) (p := 262) rfl ?_); (try (rw [drewN_self wc]; generalize hq_ : World.drewN wc _ = wc; have n0_ := Aside0.mk (Kd.R_at hq_ HO_4.out); have n1_ := Aside0.mk (Kd.R_at hq_ HO_14.out); have n2_ := Aside0.mk (blk_at hq_ BK261.out); have n3_ := Aside0.mk (blk_at hq_ BK291.out); have n4_ := Aside0.mk (below_at hq_ HB.out); clear hq_ HO_4 HO_14 BK261 BK291 HB; have HO_4 := n0_; have HO_14 := n1_; have BK261 := n2_; have BK291 := n3_; have HB := n4_; clear n0_ n1_ n2_ n3_ n4_; (try (have HP120 := Kd.R_putg HO_14.out (((rd_T41 l0_0 x16_3).f1) : Int) true)))); refine store_event (t := 4) (p := 262) (v := ?vo_w121) (w1 := (wc.setCell ⟨go49, (((rd_T41 l0_0 x16_3).f1) : Int).toNat, none⟩ (.bool true))) ?hg ?ho ?hn ?hr ?_; (case ho => rfl); (case hg => rfl); (case hn => rfl); (case hr => first | (go_simp; done) | (go_simp; rfl)); intro w121 hw; have hg : wc.grownBy w121 (some go49) := (by rw [hw]; exact HP120.2); have hp_ : Kd.R Kd.bool 4 w121 w.heap.size (fun _ => True) (.slice (some ⟨go49, 0, none⟩) x14_95.length co49) y301 := (by rw [hw, Ny301.out]; exact HP120.1); clear HP120; have n0_ := Aside0.mk (Kd.R_over' (v := (.slice (some ⟨go49, 0, none⟩) x14_95.length co49)) (by (with_reducible repeat (first | apply Kd.R_alloc | apply Kd.R_drewN | apply Kd.R_drew)); exact HO_4.out) (Kd.R_typed HO_14.out) (by decide) hg); have n1_ := Aside0.mk (hp_); have n2_ := Aside0.mk (blk_grown (g := gb261) (o := .cells #[.slice (some ad290) l0_0.length c0_0, .slice A0_1 l0_1.length c0_1, .slice A0_2 l0_2.length c0_2] 26 (0, 0)) (bu BK261.out) hg (Kd.R_ne HO_14.out BK261.out (by decide))); have n3_ := Aside0.mk (blk_grown (g := gb291) (o := .cells #[.int .i64 ((rd_T41 l0_0 x16_3).f0), .int .i64 ((rd_T41 l0_0 x16_3).f1), .int .i64 ((rd_T41 l0_0 x16_3).f2)] 41 (0, 0)) (bu BK291.out) hg (Kd.R_ne HO_14.out BK291.out (by decide))); have n4_ := Aside0.mk ((by rw [hw]; exact below_set (HB.out) GB49.out : Below w.heap.size w w121)); clear HO_4; clear HO_14; clear BK261; clear BK291; clear HB; have HO_4 := n0_; have HO_14 := n1_; have BK261 := n2_; have BK291 := n3_; have HB := n4_; clear n0_ n1_ n2_ n3_ n4_; clear hg hw hp_; obtain ⟨⟨hcz122_0, hcz122_1, hcz122_2⟩, hfz122_0, hfz122_1, hfz122_2⟩ := blkAll3 BK291; have p302 : 0 ≤ (((rd_T41 l0_0 x16_3).f1) : Int) := of_decide_eq_true od; have q302 : ((rd_T41 l0_0 x16_3).f1) < (t263.length : Int) := of_decide_eq_true od; obtain ⟨ad302, e302, hx302_0⟩ := Kd.at_int (Kd.R_reads' HO_4.out).2.2 ((rd_T41 l0_0 x16_3).f1) p302 q302; obtain rfl : ad287 = ad302 := (by injection e302); replace p302 := eq_true p302; replace q302 := eq_true q302; have p303 : 0 ≤ (x16_3 : Int) := of_decide_eq_true od; have q303 : x16_3 < (t263.length : Int) := of_decide_eq_true od; obtain ⟨ad303, e303, hx303_0⟩ := Kd.at_int (Kd.R_reads' HO_4.out).2.2 x16_3 p303 q303; obtain rfl : ad287 = ad303 := (by injection e303); replace p303 := eq_true p303; replace q303 := eq_true q303))
                                       repeat (go_quiet (first | ((with_reducible refine gate_store (t := 4) (p := 262) rfl ?_); (try (rw [drewN_self wc]; generalize hq_ : World.drewN wc _ = wc; have n0_ := Aside0.mk (Kd.R_at hq_ HO_4.out); have n1_ := Aside0.mk (Kd.R_at hq_ HO_14.out); have n2_ := Aside0.mk (blk_at hq_ BK261.out); have n3_ := Aside0.mk (blk_at hq_ BK291.out); have n4_ := Aside0.mk (below_at hq_ HB.out); clear hq_ HO_4 HO_14 BK261 BK291 HB; have HO_4 := n0_; have HO_14 := n1_; have BK261 := n2_; have BK291 := n3_; have HB := n4_; clear n0_ n1_ n2_ n3_ n4_; (try (have HP120 := Kd.R_putg HO_14.out (((rd_T41 l0_0 x16_3).f1) : Int) true)))); refine store_event (t := 4) (p := 262) (v := ?vo_w121) (w1 := (wc.setCell ⟨go49, (((rd_T41 l0_0 x16_3).f1) : Int).toNat, none⟩ (.bool true))) ?hg ?ho ?hn ?hr ?_; (case ho => rfl); (case hg => rfl); (case hn => rfl); (case hr => first | (go_simp; done) | (go_simp; rfl)); intro w121 hw; have hg : wc.grownBy w121 (some go49) := (by rw [hw]; exact HP120.2); have hp_ : Kd.R Kd.bool 4 w121 w.heap.size (fun _ => True) (.slice (some ⟨go49, 0, none⟩) x14_95.length co49) y301 := (by rw [hw, Ny301.out]; exact HP120.1); clear HP120; have n0_ := Aside0.mk (Kd.R_over' (v := (.slice (some ⟨go49, 0, none⟩) x14_95.length co49)) (by (with_reducible repeat (first | apply Kd.R_alloc | apply Kd.R_drewN | apply Kd.R_drew)); exact HO_4.out) (Kd.R_typed HO_14.out) (by decide) hg); have n1_ := Aside0.mk (hp_); have n2_ := Aside0.mk (blk_grown (g := gb261) (o := .cells #[.slice (some ad290) l0_0.length c0_0, .slice A0_1 l0_1.length c0_1, .slice A0_2 l0_2.length c0_2] 26 (0, 0)) (bu BK261.out) hg (Kd.R_ne HO_14.out BK261.out (by decide))); have n3_ := Aside0.mk (blk_grown (g := gb291) (o := .cells #[.int .i64 ((rd_T41 l0_0 x16_3).f0), .int .i64 ((rd_T41 l0_0 x16_3).f1), .int .i64 ((rd_T41 l0_0 x16_3).f2)] 41 (0, 0)) (bu BK291.out) hg (Kd.R_ne HO_14.out BK291.out (by decide))); have n4_ := Aside0.mk ((by rw [hw]; exact below_set (HB.out) GB49.out : Below w.heap.size w w121)); clear HO_4; clear HO_14; clear BK261; clear BK291; clear HB; have HO_4 := n0_; have HO_14 := n1_; have BK261 := n2_; have BK291 := n3_; have HB := n4_; clear n0_ n1_ n2_ n3_ n4_; clear hg hw hp_; obtain ⟨⟨hcz122_0, hcz122_1, hcz122_2⟩, hfz122_0, hfz122_1, hfz122_2⟩ := blkAll3 BK291; have p302 : 0 ≤ (((rd_T41 l0_0 x16_3).f1) : Int) := of_decide_eq_true od; have q302 : ((rd_T41 l0_0 x16_3).f1) < (t263.length : Int) := of_decide_eq_true od; obtain ⟨ad302, e302, hx302_0⟩ := Kd.at_int (Kd.R_reads' HO_4.out).2.2 ((rd_T41 l0_0 x16_3).f1) p302 q302; obtain rfl : ad287 = ad302 := (by injection e302); replace p302 := eq_true p302; replace q302 := eq_true q302; have p303 : 0 ≤ (x16_3 : Int) := of_decide_eq_true od; have q303 : x16_3 < (t263.length : Int) := of_decide_eq_true od; obtain ⟨ad303, e303, hx303_0⟩ := Kd.at_int (Kd.R_reads' HO_4.out).2.2 x16_3 p303 q303; obtain rfl : ad287 = ad303 := (by injection e303); replace p303 := eq_true p303; replace q303 := eq_true q303)); try go_wp2_with (first | ((with_reducible refine gate_store (t := 4) (p := 262) rfl ?_); (try (rw [drewN_self wc]; generalize hq_ : World.drewN wc _ = wc; have n0_ := Aside0.mk (Kd.R_at hq_ HO_4.out); have n1_ := Aside0.mk (Kd.R_at hq_ HO_14.out); have n2_ := Aside0.mk (blk_at hq_ BK261.out); have n3_ := Aside0.mk (blk_at hq_ BK291.out); have n4_ := Aside0.mk (below_at hq_ HB.out); clear hq_ HO_4 HO_14 BK261 BK291 HB; have HO_4 := n0_; have HO_14 := n1_; have BK261 := n2_; have BK291 := n3_; have HB := n4_; clear n0_ n1_ n2_ n3_ n4_; (try (have HP120 := Kd.R_putg HO_14.out (((rd_T41 l0_0 x16_3).f1) : Int) true)))); refine store_event (t := 4) (p := 262) (v := ?vo_w121) (w1 := (wc.setCell ⟨go49, (((rd_T41 l0_0 x16_3).f1) : Int).toNat, none⟩ (.bool true))) ?hg ?ho ?hn ?hr ?_; (case ho => rfl); (case hg => rfl); (case hn => rfl); (case hr => first | (go_simp; done) | (go_simp; rfl)); intro w121 hw; have hg : wc.grownBy w121 (some go49) := (by rw [hw]; exact HP120.2); have hp_ : Kd.R Kd.bool 4 w121 w.heap.size (fun _ => True) (.slice (some ⟨go49, 0, none⟩) x14_95.length co49) y301 := (by rw [hw, Ny301.out]; exact HP120.1); clear HP120; have n0_ := Aside0.mk (Kd.R_over' (v := (.slice (some ⟨go49, 0, none⟩) x14_95.length co49)) (by (with_reducible repeat (first | apply Kd.R_alloc | apply Kd.R_drewN | apply Kd.R_drew)); exact HO_4.out) (Kd.R_typed HO_14.out) (by decide) hg); have n1_ := Aside0.mk (hp_); have n2_ := Aside0.mk (blk_grown (g := gb261) (o := .cells #[.slice (some ad290) l0_0.length c0_0, .slice A0_1 l0_1.length c0_1, .slice A0_2 l0_2.length c0_2] 26 (0, 0)) (bu BK261.out) hg (Kd.R_ne HO_14.out BK261.out (by decide))); have n3_ := Aside0.mk (blk_grown (g := gb291) (o := .cells #[.int .i64 ((rd_T41 l0_0 x16_3).f0), .int .i64 ((rd_T41 l0_0 x16_3).f1), .int .i64 ((rd_T41 l0_0 x16_3).f2)] 41 (0, 0)) (bu BK291.out) hg (Kd.R_ne HO_14.out BK291.out (by decide))); have n4_ := Aside0.mk ((by rw [hw]; exact below_set (HB.out) GB49.out : Below w.heap.size w w121)); clear HO_4; clear HO_14; clear BK261; clear BK291; clear HB; have HO_4 := n0_; have HO_14 := n1_; have BK261 := n2_; have BK291 := n3_; have HB := n4_; clear n0_ n1_ n2_ n3_ n4_; clear hg hw hp_; obtain ⟨⟨hcz122_0, hcz122_1, hcz122_2⟩, hfz122_0, hfz122_1, hfz122_2⟩ := blkAll3 BK291; have p302 : 0 ≤ (((rd_T41 l0_0 x16_3).f1) : Int) := of_decide_eq_true od; have q302 : ((rd_T41 l0_0 x16_3).f1) < (t263.length : Int) := of_decide_eq_true od; obtain ⟨ad302, e302, hx302_0⟩ := Kd.at_int (Kd.R_reads' HO_4.out).2.2 ((rd_T41 l0_0 x16_3).f1) p302 q302; obtain rfl : ad287 = ad302 := (by injection e302); replace p302 := eq_true p302; replace q302 := eq_true q302; have p303 : 0 ≤ (x16_3 : Int) := of_decide_eq_true od; have q303 : x16_3 < (t263.length : Int) := of_decide_eq_true od; obtain ⟨ad303, e303, hx303_0⟩ := Kd.at_int (Kd.R_reads' HO_4.out).2.2 x16_3 p303 q303; obtain rfl : ad287 = ad303 := (by injection e303); replace p303 := eq_true p303; replace q303 := eq_true q303)))
                                       (try simp only [← hl14_3, ← hl14_95])
                                       go_roundg kj95
                                       case measure => have := HJ7.out; have := HJ21.out; have := HK3.out; have := HJ54.out; have := HJ66.out; have := HJ69.out; have := HJ78.out; have := HJ95.out; omega
                                       case rel => exact ⟨(y301), (x15_66), (wrap64 (x16_3 + 1)), tv, tv, H', ⟨by have := HJ7.out; have := HJ21.out; have := HK3.out; have := HJ54.out; have := HJ66.out; have := HJ69.out; have := HJ78.out; have := HJ95.out; omega⟩, ⟨by (try simp only [hl14_3]); (try simp only [hl14_95]); (with_reducible repeat (first | apply Kd.R_alloc | apply Kd.R_drewN | apply Kd.R_drew)); exact HO_4.out⟩, ⟨by (try simp only [hl14_3]); (try simp only [hl14_95]); (with_reducible repeat (first | apply Kd.R_alloc | apply Kd.R_drewN | apply Kd.R_drew)); exact HO_14.out⟩, ⟨by (try simp only [hl14_3]); (try simp only [hl14_95]); refine bu ?_; exact BK261.out⟩, ⟨bs⟩⟩
                                      ·rw [if_neg c117] at H
                                       have c117b0 : ((rd t263 ((rd_T41 l0_0 x16_3).f1)) == (wrap64 ((wrap64 ((rd t263 x16_3) - t292)) + t293))) = false := beq_eq_false_iff_ne.mpr c117
                                       have c117b1 : ((rd t263 ((rd_T41 l0_0 x16_3).f1)) != (wrap64 ((wrap64 ((rd t263 x16_3) - t292)) + t293))) = true := bne_iff_ne.mpr c117
                                       obtain rfl := Option.some.inj H
                                       have hnb123 := NB291_261.out
                                       have hnc123 := NB261_291.out
                                       obtain ⟨⟨hcz124_0, hcz124_1, hcz124_2⟩, hfz124_0, hfz124_1, hfz124_2⟩ := blkAll3 BK291
                                       have p113 : 0 ≤ (((rd_T41 l0_0 x16_3).f1) : Int) := of_decide_eq_true od
                                       have q113 : (((rd_T41 l0_0 x16_3).f1) : Int) < ((x14_95.length : Int) : Int) := of_decide_eq_true od
                                       obtain ⟨hx113_0, hf113_0⟩ := Kd.R_celln false HO_14.out (((rd_T41 l0_0 x16_3).f1) : Int) p113 q113
                                       replace p113 := eq_true p113
                                       replace q113 := eq_true q113
                                       have HP125 := Kd.R_putg HO_14.out (((rd_T41 l0_0 x16_3).f1) : Int) true
                                       go_wp2_with (first | ((with_reducible refine gate_store (t := 4) (p := 262) rfl ?_); (try (rw [drewN_self wc]; generalize hq_ : World.drewN wc _ = wc; have n0_ := Aside0.mk (Kd.R_at hq_ HO_4.out); have n1_ := Aside0.mk (Kd.R_at hq_ HO_14.out); have n2_ := Aside0.mk (blk_at hq_ BK261.out); have n3_ := Aside0.mk (blk_at hq_ BK291.out); have n4_ := Aside0.mk (below_at hq_ HB.out); clear hq_ HO_4 HO_14 BK261 BK291 HB; have HO_4 := n0_; have HO_14 := n1_; have BK261 := n2_; have BK291 := n3_; have HB := n4_; clear n0_ n1_ n2_ n3_ n4_; (try (have HP125 := Kd.R_putg HO_14.out (((rd_T41 l0_0 x16_3).f1) : Int) true)))); refine store_event (t := 4) (p := 262) (v := ?vo_w126) (w1 := (wc.setCell ⟨go49, (((rd_T41 l0_0 x16_3).f1) : Int).toNat, none⟩ (.bool true))) ?hg ?ho ?hn ?hr ?_; (case ho => rfl); (case hg => rfl); (case hn => rfl); (case hr => first | (go_simp; done) | (go_simp; rfl)); intro w126 hw; have hg : wc.grownBy w126 (some go49) := (by rw [hw]; exact HP125.2); have hp_ : Kd.R Kd.bool 4 w126 w.heap.size (fun _ => True) (.slice (some ⟨go49, 0, none⟩) x14_95.length co49) y301 := (by rw [hw, Ny301.out]; exact HP125.1); clear HP125; have n0_ := Aside0.mk (Kd.R_over' (v := (.slice (some ⟨go49, 0, none⟩) x14_95.length co49)) (by (with_reducible repeat (first | apply Kd.R_alloc | apply Kd.R_drewN | apply Kd.R_drew)); exact HO_4.out) (Kd.R_typed HO_14.out) (by decide) hg); have n1_ := Aside0.mk (hp_); have n2_ := Aside0.mk (blk_grown (g := gb261) (o := .cells #[.slice (some ad290) l0_0.length c0_0, .slice A0_1 l0_1.length c0_1, .slice A0_2 l0_2.length c0_2] 26 (0, 0)) (bu BK261.out) hg (Kd.R_ne HO_14.out BK261.out (by decide))); have n3_ := Aside0.mk (blk_grown (g := gb291) (o := .cells #[.int .i64 ((rd_T41 l0_0 x16_3).f0), .int .i64 ((rd_T41 l0_0 x16_3).f1), .int .i64 ((rd_T41 l0_0 x16_3).f2)] 41 (0, 0)) (bu BK291.out) hg (Kd.R_ne HO_14.out BK291.out (by decide))); have n4_ := Aside0.mk ((by rw [hw]; exact below_set (HB.out) GB49.out : Below w.heap.size w w126)); clear HO_4; clear HO_14; clear BK261; clear BK291; clear HB; have HO_4 := n0_; have HO_14 := n1_; have BK261 := n2_; have BK291 := n3_; have HB := n4_; clear n0_ n1_ n2_ n3_ n4_; clear hg hw hp_; obtain ⟨⟨hcz127_0, hcz127_1, hcz127_2⟩, hfz127_0, hfz127_1, hfz127_2⟩ := blkAll3 BK291; have p302 : 0 ≤ (((rd_T41 l0_0 x16_3).f1) : Int) := of_decide_eq_true od; have q302 : ((rd_T41 l0_0 x16_3).f1) < (t263.length : Int) := of_decide_eq_true od; obtain ⟨ad302, e302, hx302_0⟩ := Kd.at_int (Kd.R_reads' HO_4.out).2.2 ((rd_T41 l0_0 x16_3).f1) p302 q302; obtain rfl : ad287 = ad302 := (by injection e302); replace p302 := eq_true p302; replace q302 := eq_true q302; have p303 : 0 ≤ (x16_3 : Int) := of_decide_eq_true od; have q303 : x16_3 < (t263.length : Int) := of_decide_eq_true od; obtain ⟨ad303, e303, hx303_0⟩ := Kd.at_int (Kd.R_reads' HO_4.out).2.2 x16_3 p303 q303; obtain rfl : ad287 = ad303 := (by injection e303); replace p303 := eq_true p303; replace q303 := eq_true q303))
                                       repeat (go_quiet (first | ((with_reducible refine gate_store (t := 4) (p := 262) rfl ?_); (try (rw [drewN_self wc]; generalize hq_ : World.drewN wc _ = wc; have n0_ := Aside0.mk (Kd.R_at hq_ HO_4.out); have n1_ := Aside0.mk (Kd.R_at hq_ HO_14.out); have n2_ := Aside0.mk (blk_at hq_ BK261.out); have n3_ := Aside0.mk (blk_at hq_ BK291.out); have n4_ := Aside0.mk (below_at hq_ HB.out); clear hq_ HO_4 HO_14 BK261 BK291 HB; have HO_4 := n0_; have HO_14 := n1_; have BK261 := n2_; have BK291 := n3_; have HB := n4_; clear n0_ n1_ n2_ n3_ n4_; (try (have HP125 := Kd.R_putg HO_14.out (((rd_T41 l0_0 x16_3).f1) : Int) true)))); refine store_event (t := 4) (p := 262) (v := ?vo_w126) (w1 := (wc.setCell ⟨go49, (((rd_T41 l0_0 x16_3).f1) : Int).toNat, none⟩ (.bool true))) ?hg ?ho ?hn ?hr ?_; (case ho => rfl); (case hg => rfl); (case hn => rfl); (case hr => first | (go_simp; done) | (go_simp; rfl)); intro w126 hw; have hg : wc.grownBy w126 (some go49) := (by rw [hw]; exact HP125.2); have hp_ : Kd.R Kd.bool 4 w126 w.heap.size (fun _ => True) (.slice (some ⟨go49, 0, none⟩) x14_95.length co49) y301 := (by rw [hw, Ny301.out]; exact HP125.1); clear HP125; have n0_ := Aside0.mk (Kd.R_over' (v := (.slice (some ⟨go49, 0, none⟩) x14_95.length co49)) (by (with_reducible repeat (first | apply Kd.R_alloc | apply Kd.R_drewN | apply Kd.R_drew)); exact HO_4.out) (Kd.R_typed HO_14.out) (by decide) hg); have n1_ := Aside0.mk (hp_); have n2_ := Aside0.mk (blk_grown (g := gb261) (o := .cells #[.slice (some ad290) l0_0.length c0_0, .slice A0_1 l0_1.length c0_1, .slice A0_2 l0_2.length c0_2] 26 (0, 0)) (bu BK261.out) hg (Kd.R_ne HO_14.out BK261.out (by decide))); have n3_ := Aside0.mk (blk_grown (g := gb291) (o := .cells #[.int .i64 ((rd_T41 l0_0 x16_3).f0), .int .i64 ((rd_T41 l0_0 x16_3).f1), .int .i64 ((rd_T41 l0_0 x16_3).f2)] 41 (0, 0)) (bu BK291.out) hg (Kd.R_ne HO_14.out BK291.out (by decide))); have n4_ := Aside0.mk ((by rw [hw]; exact below_set (HB.out) GB49.out : Below w.heap.size w w126)); clear HO_4; clear HO_14; clear BK261; clear BK291; clear HB; have HO_4 := n0_; have HO_14 := n1_; have BK261 := n2_; have BK291 := n3_; have HB := n4_; clear n0_ n1_ n2_ n3_ n4_; clear hg hw hp_; obtain ⟨⟨hcz127_0, hcz127_1, hcz127_2⟩, hfz127_0, hfz127_1, hfz127_2⟩ := blkAll3 BK291; have p302 : 0 ≤ (((rd_T41 l0_0 x16_3).f1) : Int) := of_decide_eq_true od; have q302 : ((rd_T41 l0_0 x16_3).f1) < (t263.length : Int) := of_decide_eq_true od; obtain ⟨ad302, e302, hx302_0⟩ := Kd.at_int (Kd.R_reads' HO_4.out).2.2 ((rd_T41 l0_0 x16_3).f1) p302 q302; obtain rfl : ad287 = ad302 := (by injection e302); replace p302 := eq_true p302; replace q302 := eq_true q302; have p303 : 0 ≤ (x16_3 : Int) := of_decide_eq_true od; have q303 : x16_3 < (t263.length : Int) := of_decide_eq_true od; obtain ⟨ad303, e303, hx303_0⟩ := Kd.at_int (Kd.R_reads' HO_4.out).2.2 x16_3 p303 q303; obtain rfl : ad287 = ad303 := (by injection e303); replace p303 := eq_true p303; replace q303 := eq_true q303)); try go_wp2_with (first | ((with_reducible refine gate_store (t := 4) (p := 262) rfl ?_); (try (rw [drewN_self wc]; generalize hq_ : World.drewN wc _ = wc; have n0_ := Aside0.mk (Kd.R_at hq_ HO_4.out); have n1_ := Aside0.mk (Kd.R_at hq_ HO_14.out); have n2_ := Aside0.mk (blk_at hq_ BK261.out); have n3_ := Aside0.mk (blk_at hq_ BK291.out); have n4_ := Aside0.mk (below_at hq_ HB.out); clear hq_ HO_4 HO_14 BK261 BK291 HB; have HO_4 := n0_; have HO_14 := n1_; have BK261 := n2_; have BK291 := n3_; have HB := n4_; clear n0_ n1_ n2_ n3_ n4_; (try (have HP125 := Kd.R_putg HO_14.out (((rd_T41 l0_0 x16_3).f1) : Int) true)))); refine store_event (t := 4) (p := 262) (v := ?vo_w126) (w1 := (wc.setCell ⟨go49, (((rd_T41 l0_0 x16_3).f1) : Int).toNat, none⟩ (.bool true))) ?hg ?ho ?hn ?hr ?_; (case ho => rfl); (case hg => rfl); (case hn => rfl); (case hr => first | (go_simp; done) | (go_simp; rfl)); intro w126 hw; have hg : wc.grownBy w126 (some go49) := (by rw [hw]; exact HP125.2); have hp_ : Kd.R Kd.bool 4 w126 w.heap.size (fun _ => True) (.slice (some ⟨go49, 0, none⟩) x14_95.length co49) y301 := (by rw [hw, Ny301.out]; exact HP125.1); clear HP125; have n0_ := Aside0.mk (Kd.R_over' (v := (.slice (some ⟨go49, 0, none⟩) x14_95.length co49)) (by (with_reducible repeat (first | apply Kd.R_alloc | apply Kd.R_drewN | apply Kd.R_drew)); exact HO_4.out) (Kd.R_typed HO_14.out) (by decide) hg); have n1_ := Aside0.mk (hp_); have n2_ := Aside0.mk (blk_grown (g := gb261) (o := .cells #[.slice (some ad290) l0_0.length c0_0, .slice A0_1 l0_1.length c0_1, .slice A0_2 l0_2.length c0_2] 26 (0, 0)) (bu BK261.out) hg (Kd.R_ne HO_14.out BK261.out (by decide))); have n3_ := Aside0.mk (blk_grown (g := gb291) (o := .cells #[.int .i64 ((rd_T41 l0_0 x16_3).f0), .int .i64 ((rd_T41 l0_0 x16_3).f1), .int .i64 ((rd_T41 l0_0 x16_3).f2)] 41 (0, 0)) (bu BK291.out) hg (Kd.R_ne HO_14.out BK291.out (by decide))); have n4_ := Aside0.mk ((by rw [hw]; exact below_set (HB.out) GB49.out : Below w.heap.size w w126)); clear HO_4; clear HO_14; clear BK261; clear BK291; clear HB; have HO_4 := n0_; have HO_14 := n1_; have BK261 := n2_; have BK291 := n3_; have HB := n4_; clear n0_ n1_ n2_ n3_ n4_; clear hg hw hp_; obtain ⟨⟨hcz127_0, hcz127_1, hcz127_2⟩, hfz127_0, hfz127_1, hfz127_2⟩ := blkAll3 BK291; have p302 : 0 ≤ (((rd_T41 l0_0 x16_3).f1) : Int) := of_decide_eq_true od; have q302 : ((rd_T41 l0_0 x16_3).f1) < (t263.length : Int) := of_decide_eq_true od; obtain ⟨ad302, e302, hx302_0⟩ := Kd.at_int (Kd.R_reads' HO_4.out).2.2 ((rd_T41 l0_0 x16_3).f1) p302 q302; obtain rfl : ad287 = ad302 := (by injection e302); replace p302 := eq_true p302; replace q302 := eq_true q302; have p303 : 0 ≤ (x16_3 : Int) := of_decide_eq_true od; have q303 : x16_3 < (t263.length : Int) := of_decide_eq_true od; obtain ⟨ad303, e303, hx303_0⟩ := Kd.at_int (Kd.R_reads' HO_4.out).2.2 x16_3 p303 q303; obtain rfl : ad287 = ad303 := (by injection e303); replace p303 := eq_true p303; replace q303 := eq_true q303)))
                                       go_ret
                                       exact ⟨by first | rfl | (simp [errW_none, errW_some] <;> rfl) | (simp only [← hji45]; first | rfl | (simp [errW_none, errW_some] <;> rfl)) | (simp [*, errW_none, errW_some] <;> rfl), bs⟩
                                     ·rw [if_neg c116] at H
                                      exact absurd H (by simp)
                                    ·rw [if_neg c115] at H
                                     exact absurd H (by simp)
                                   ·rw [if_neg c114] at H
                                    exact absurd H (by simp)
                                  ·rw [if_neg c112] at H
                                   exact absurd H (by simp)
                                 ·rw [if_neg c111] at H
                                  exact absurd H (by simp)
                                ·replace c110 := Bool.eq_false_iff.mpr c110
                                 subst c110
                                 have H1 : (w_CodeHeights.l0 kj95 (l0_0.length : Int) t263 t268 x14_95 x15_66 (wrap64 (x16_3 + 1)) l0_0 l0_1 l0_2) = some r := by rw [if_neg (show ¬ (false = true) by decide)] at H; exact H
                                 clear H
                                 have H := H1
                                 clear H1
                                 have H' := Aside0.mk H
                                 clear H
                                 go_wp2
                                 repeat (go_quiet (fail); try go_wp2)
                                 (try simp only [← hl14_3, ← hl14_95])
                                 go_roundg kj95
                                 case measure => have := HJ7.out; have := HJ21.out; have := HK3.out; have := HJ54.out; have := HJ66.out; have := HJ69.out; have := HJ78.out; have := HJ95.out; omega
                                 case rel => exact ⟨(x14_95), (x15_66), (wrap64 (x16_3 + 1)), tv, tv, H', ⟨by have := HJ7.out; have := HJ21.out; have := HK3.out; have := HJ54.out; have := HJ66.out; have := HJ69.out; have := HJ78.out; have := HJ95.out; omega⟩, ⟨by (try simp only [hl14_3]); (try simp only [hl14_95]); (with_reducible repeat (first | apply Kd.R_alloc | apply Kd.R_drewN | apply Kd.R_drew)); exact HO_4.out⟩, ⟨by (try simp only [hl14_3]); (try simp only [hl14_95]); (with_reducible repeat (first | apply Kd.R_alloc | apply Kd.R_drewN | apply Kd.R_drew)); exact HO_14.out⟩, ⟨by (try simp only [hl14_3]); (try simp only [hl14_95]); refine bu ?_; exact BK261.out⟩, ⟨bs⟩⟩
                          ·rw [if_neg c76] at H
                           exact absurd H (by simp)
                         ·rw [if_neg c75] at H
                          exact absurd H (by simp)
                   ·rw [if_neg c66] at H
                    exact absurd H (by simp)
                  ·rw [if_neg c65] at H
                   exact absurd H (by simp)
              ·rw [if_neg c54] at H
               have c54b0 : decide (x16_3 ≤ (l0_0.length : Int)) = false := decide_eq_false c54
               clear c54
               obtain rfl := Option.some.inj H
               go_wp2
               repeat (go_quiet (fail); try go_wp2)
               go_ret
               exact ⟨by first | rfl | (simp [errW_none, errW_some] <;> rfl) | (simp only [← hji45]; first | rfl | (simp [errW_none, errW_some] <;> rfl)) | (simp [*, errW_none, errW_some] <;> rfl), bs⟩
           ·rw [if_neg c48] at H
            exact absurd H (by simp)
          ·rw [if_neg c47] at H
           exact absurd H (by simp)
         ·rw [if_neg c46] at H
          exact absurd H (by simp)
     ·rw [if_neg c21] at H
      have c21b0 : (t267 == 0) = false := beq_eq_false_iff_ne.mpr c21
      have c21b1 : (t267 != 0) = true := bne_iff_ne.mpr c21
      by_cases c128 : t267 = 260
      ·rw [if_pos c128] at H
       have c128b0 : (t267 == 260) = true := beq_iff_eq.mpr c128
       have c128b1 : (t267 != 260) = false := bne_eq_false_iff_eq.mpr c128
       clear c128
       by_cases c129 : (t263.length : Int) = 0
       ·rw [if_pos c129] at H
        have c129b0 : ((t263.length : Int) == 0) = true := beq_iff_eq.mpr c129
        have c129b1 : ((t263.length : Int) != 0) = false := bne_eq_false_iff_eq.mpr c129
        clear c129
        by_cases c130 : t268 = 0
        ·rw [if_pos c130] at H
         have c130b0 : (t268 == 0) = true := beq_iff_eq.mpr c130
         have c130b1 : (t268 != 0) = false := bne_eq_false_iff_eq.mpr c130
         clear c130
         by_cases c131 : t274 = 260
         ·rw [if_pos c131] at H
          have c131b0 : (t274 == 260) = true := beq_iff_eq.mpr c131
          have c131b1 : (t274 != 260) = false := bne_eq_false_iff_eq.mpr c131
          clear c131
          by_cases c132 : t276 = 260
          ·rw [if_pos c132] at H
           have c132b0 : (t276 == 260) = true := beq_iff_eq.mpr c132
           have c132b1 : (t276 != 260) = false := bne_eq_false_iff_eq.mpr c132
           clear c132
           by_cases c133 : t266 ≥ 0
           ·rw [if_pos c133] at H
            have c133b0 : decide (0 ≤ t266) = true := decide_eq_true c133
            clear c133
            by_cases c134 : t266 ≤ (l0_0.length : Int)
            ·rw [if_pos c134] at H
             have c134b0 : decide (t266 ≤ (l0_0.length : Int)) = true := decide_eq_true c134
             clear c134
             by_cases c135 : (l0_0.length : Int) ≤ 131072
             ·rw [if_pos c135] at H
              have c135b0 : decide ((l0_0.length : Int) ≤ 131072) = true := decide_eq_true c135
              have c135b1 : decide (l0_0.length ≤ 131072) = true := decide_eq_true (by omega)
              clear c135
              obtain rfl := Option.some.inj H
              obtain ⟨Ao136, co136, eo136⟩ := Kd.R_slice HO_4.out
              subst eo136
              go_wp2
              repeat (go_quiet (fail); try go_wp2)
              go_ret
              exact ⟨er, bs⟩
             ·rw [if_neg c135] at H
              have c135b0 : decide ((l0_0.length : Int) ≤ 131072) = false := decide_eq_false c135
              have c135b1 : decide (l0_0.length ≤ 131072) = false := decide_eq_false (by omega)
              clear c135
              by_cases c137 : t266 = 131072
              ·rw [if_pos c137] at H
               have c137b0 : (t266 == 131072) = true := beq_iff_eq.mpr c137
               have c137b1 : (t266 != 131072) = false := bne_eq_false_iff_eq.mpr c137
               clear c137
               obtain rfl := Option.some.inj H
               obtain ⟨Ao138, co138, eo138⟩ := Kd.R_slice HO_4.out
               subst eo138
               go_wp2
               repeat (go_quiet (fail); try go_wp2)
               go_ret
               exact ⟨er, bs⟩
              ·rw [if_neg c137] at H
               have c137b0 : (t266 == 131072) = false := beq_eq_false_iff_ne.mpr c137
               have c137b1 : (t266 != 131072) = true := bne_iff_ne.mpr c137
               obtain rfl := Option.some.inj H
               obtain ⟨Ao139, co139, eo139⟩ := Kd.R_slice HO_4.out
               subst eo139
               go_wp2
               repeat (go_quiet (fail); try go_wp2)
               go_ret
               exact ⟨er, bs⟩
            ·rw [if_neg c134] at H
             have c134b0 : decide (t266 ≤ (l0_0.length : Int)) = false := decide_eq_false c134
             clear c134
             by_cases c140 : t266 = 131072
             ·rw [if_pos c140] at H
              have c140b0 : (t266 == 131072) = true := beq_iff_eq.mpr c140
              have c140b1 : (t266 != 131072) = false := bne_eq_false_iff_eq.mpr c140
              clear c140
              obtain rfl := Option.some.inj H
              obtain ⟨Ao141, co141, eo141⟩ := Kd.R_slice HO_4.out
              subst eo141
              go_wp2
              repeat (go_quiet (fail); try go_wp2)
              go_ret
              exact ⟨er, bs⟩
             ·rw [if_neg c140] at H
              have c140b0 : (t266 == 131072) = false := beq_eq_false_iff_ne.mpr c140
              have c140b1 : (t266 != 131072) = true := bne_iff_ne.mpr c140
              obtain rfl := Option.some.inj H
              obtain ⟨Ao142, co142, eo142⟩ := Kd.R_slice HO_4.out
              subst eo142
              go_wp2
              repeat (go_quiet (fail); try go_wp2)
              go_ret
              exact ⟨er, bs⟩
           ·rw [if_neg c133] at H
            have c133b0 : decide (0 ≤ t266) = false := decide_eq_false c133
            clear c133
            obtain rfl := Option.some.inj H
            obtain ⟨Ao143, co143, eo143⟩ := Kd.R_slice HO_4.out
            subst eo143
            go_wp2
            repeat (go_quiet (fail); try go_wp2)
            go_ret
            exact ⟨er, bs⟩
          ·rw [if_neg c132] at H
           have c132b0 : (t276 == 260) = false := beq_eq_false_iff_ne.mpr c132
           have c132b1 : (t276 != 260) = true := bne_iff_ne.mpr c132
           obtain rfl := Option.some.inj H
           obtain ⟨Ao144, co144, eo144⟩ := Kd.R_slice HO_4.out
           subst eo144
           go_wp2
           repeat (go_quiet (fail); try go_wp2)
           go_ret
           exact ⟨er, bs⟩
         ·rw [if_neg c131] at H
          have c131b0 : (t274 == 260) = false := beq_eq_false_iff_ne.mpr c131
          have c131b1 : (t274 != 260) = true := bne_iff_ne.mpr c131
          obtain rfl := Option.some.inj H
          obtain ⟨Ao145, co145, eo145⟩ := Kd.R_slice HO_4.out
          subst eo145
          go_wp2
          repeat (go_quiet (fail); try go_wp2)
          go_ret
          exact ⟨er, bs⟩
        ·rw [if_neg c130] at H
         have c130b0 : (t268 == 0) = false := beq_eq_false_iff_ne.mpr c130
         have c130b1 : (t268 != 0) = true := bne_iff_ne.mpr c130
         obtain rfl := Option.some.inj H
         obtain ⟨Ao146, co146, eo146⟩ := Kd.R_slice HO_4.out
         subst eo146
         go_wp2
         repeat (go_quiet (fail); try go_wp2)
         go_ret
         exact ⟨er, bs⟩
       ·rw [if_neg c129] at H
        have c129b0 : ((t263.length : Int) == 0) = false := beq_eq_false_iff_ne.mpr c129
        have c129b1 : ((t263.length : Int) != 0) = true := bne_iff_ne.mpr c129
        have c129b2 : ¬ (t263 = []) := fun h_ => c129 (by rw [h_]; rfl)
        obtain rfl := Option.some.inj H
        obtain ⟨Ao147, co147, eo147⟩ := Kd.R_slice HO_4.out
        subst eo147
        go_wp2
        repeat (go_quiet (fail); try go_wp2)
        go_ret
        exact ⟨er, bs⟩
      ·rw [if_neg c128] at H
       have c128b0 : (t267 == 260) = false := beq_eq_false_iff_ne.mpr c128
       have c128b1 : (t267 != 260) = true := bne_iff_ne.mpr c128
       obtain rfl := Option.some.inj H
       go_wp2
       repeat (go_quiet (fail); try go_wp2)
       go_ret
       exact ⟨er, bs⟩
 ·replace c3 := Bool.eq_false_iff.mpr c3
  subst c3
  have H1 : (some false) = some r := by rw [if_neg (show ¬ (false = true) by decide)] at H; exact H
  clear H
  have H := H1
  clear H1
  obtain rfl := Option.some.inj H
  go_enter Tryd.func3, Tryd.ntmps3
  go_wp2_with (first | ((with_reducible refine gate_dst (N := 1) rfl ?_); (try (refine gate_guard (by rfl) ?_; dsimp only)); refine box_event ?hg (N := 1) ?hd (cs := #[.slice A0_0 l0_0.length c0_0, .slice A0_1 l0_1.length c0_1, .slice A0_2 l0_2.length c0_2]) (t := 26) ?hr ?_; (case hd => rfl); (case hg => rfl); (case hr => first | (go_simp; done) | (go_simp; rfl)); intro gb261 hg w148 hbox hb; have n0_ := Aside0.mk (below_step bl hb); have n1_ := Aside0.mk (hbox); have n2_ := Aside0.mk ((by rw [hg]; exact (below_size bl) : w.heap.size ≤ gb261)); have n3_ := Aside0.mk ((by rw [hg]; exact (below_size bl) : w.heap.size ≤ gb261)); clear HB; have HB := n0_; have BK261 := n1_; have GW261 := n2_; have GE261 := n3_; clear n0_ n1_ n2_ n3_; clear hb hbox hg) | (go_at_call 11; (with_reducible refine (abacuslaw26_awake.calls k  false _ ?side1 A2.out).mono ?_); (case side1 => exact GW.below HG.out bs); rintro e w149 ⟨rfl, hb⟩; have n0_ := Aside0.mk (blk_below (bu BK261.out) hb); have n1_ := Aside0.mk (below_step bs hb); clear BK261; clear HB; have BK261 := n0_; have HB := n1_; clear n0_ n1_; (try clear hb); (try clear hb2); (try clear hk); (try clear hi)))
  repeat (go_quiet (first | ((with_reducible refine gate_dst (N := 1) rfl ?_); (try (refine gate_guard (by rfl) ?_; dsimp only)); refine box_event ?hg (N := 1) ?hd (cs := #[.slice A0_0 l0_0.length c0_0, .slice A0_1 l0_1.length c0_1, .slice A0_2 l0_2.length c0_2]) (t := 26) ?hr ?_; (case hd => rfl); (case hg => rfl); (case hr => first | (go_simp; done) | (go_simp; rfl)); intro gb261 hg w148 hbox hb; have n0_ := Aside0.mk (below_step bl hb); have n1_ := Aside0.mk (hbox); have n2_ := Aside0.mk ((by rw [hg]; exact (below_size bl) : w.heap.size ≤ gb261)); have n3_ := Aside0.mk ((by rw [hg]; exact (below_size bl) : w.heap.size ≤ gb261)); clear HB; have HB := n0_; have BK261 := n1_; have GW261 := n2_; have GE261 := n3_; clear n0_ n1_ n2_ n3_; clear hb hbox hg) | (go_at_call 11; (with_reducible refine (abacuslaw26_awake.calls k  false _ ?side1 A2.out).mono ?_); (case side1 => exact GW.below HG.out bs); rintro e w149 ⟨rfl, hb⟩; have n0_ := Aside0.mk (blk_below (bu BK261.out) hb); have n1_ := Aside0.mk (below_step bs hb); clear BK261; clear HB; have BK261 := n0_; have HB := n1_; clear n0_ n1_; (try clear hb); (try clear hb2); (try clear hk); (try clear hi))); try go_wp2_with (first | ((with_reducible refine gate_dst (N := 1) rfl ?_); (try (refine gate_guard (by rfl) ?_; dsimp only)); refine box_event ?hg (N := 1) ?hd (cs := #[.slice A0_0 l0_0.length c0_0, .slice A0_1 l0_1.length c0_1, .slice A0_2 l0_2.length c0_2]) (t := 26) ?hr ?_; (case hd => rfl); (case hg => rfl); (case hr => first | (go_simp; done) | (go_simp; rfl)); intro gb261 hg w148 hbox hb; have n0_ := Aside0.mk (below_step bl hb); have n1_ := Aside0.mk (hbox); have n2_ := Aside0.mk ((by rw [hg]; exact (below_size bl) : w.heap.size ≤ gb261)); have n3_ := Aside0.mk ((by rw [hg]; exact (below_size bl) : w.heap.size ≤ gb261)); clear HB; have HB := n0_; have BK261 := n1_; have GW261 := n2_; have GE261 := n3_; clear n0_ n1_ n2_ n3_; clear hb hbox hg) | (go_at_call 11; (with_reducible refine (abacuslaw26_awake.calls k  false _ ?side1 A2.out).mono ?_); (case side1 => exact GW.below HG.out bs); rintro e w149 ⟨rfl, hb⟩; have n0_ := Aside0.mk (blk_below (bu BK261.out) hb); have n1_ := Aside0.mk (below_step bs hb); clear BK261; clear HB; have BK261 := n0_; have HB := n1_; clear n0_ n1_; (try clear hb); (try clear hb2); (try clear hk); (try clear hi))))
  go_ret
  exact ⟨er, bs⟩
end Go.Proofs.YtdkejcadoepnnaaDoor.ECc
