/-
  A text of this session's own.
-/
import Derived.Test.YtcgjfckhnpimbaaDoorBuEScanx0
import Derived.Test.YtcgjfckhnpimbaaDoorBuEScanx1
import Derived.Test.YtcgjfckhnpimbaaDoorBuEScanyA
import Derived.Test.YtcgjfckhnpimbaaDoorBuEScanx14
import Derived.Test.YtcgjfckhnpimbaaDoorBuEScanx24
import Derived.Test.YtcgjfckhnpimbaaDoorBuEScanx33
import Derived.Test.YtcgjfckhnpimbaaDoorBuEScanx34
namespace Go.Proofs.YtcgjfckhnpimbaaDoor.EScan
open Go.RowKit Go.Proofs.YtcgjfckhnpimbaaDoorW.PrintWords Go.Proofs.YtcgjfckhnpimbaaDoorW.PrintLast Go.Proofs.YtcgjfckhnpimbaaDoorW.PrintMore
attribute [local go_sem] max2_int min2_int max_two min_two max_three min_three max_four min_four   -- for this text's walks alone
set_option linter.unusedVariables false
set_option linter.unusedSimpArgs false
attribute [local go_sem high] eqA23
mutual
def abacuslaw08_ScanBuilds.j0 : Nat → Bool → Int → Int → List Int → Bool → List Int → Int → Int → Int → ByteArray → Option (Bool)
  | 0, _, _, _, _, _, _, _, _, _, _ => none
  | k + 1, x33, x310000, x310001, x310002, x310003, x310004, x310005, x310006, x310007, x310008 => if x33 = true then (some false) else ((abacuslaw08_built.f k x310000 x310001 x310002 x310003 x310004 x310005 x310006 x310007 x310008).bind fun bt315 => (if bt315.2.2.2 = true then ((abacuslaw08_stops.f x310008).bind fun t319 => (if t319 = true then (if x310000 < 0 then (abacuslaw08_ScanBuilds.j1 k bt315.1 bt315.2.1 bt315.2.2.1 true x310000 x310001 x310002 x310003 x310004 x310005 x310006 x310007 x310008) else (abacuslaw08_ScanBuilds.j1 k bt315.1 bt315.2.1 bt315.2.2.1 (decide (x310000 > 1000)) x310000 x310001 x310002 x310003 x310004 x310005 x310006 x310007 x310008)) else (abacuslaw08_ScanBuilds.j1 k bt315.1 bt315.2.1 bt315.2.2.1 true x310000 x310001 x310002 x310003 x310004 x310005 x310006 x310007 x310008))) else (abacuslaw08_ScanBuilds.j1 k bt315.1 bt315.2.1 bt315.2.2.1 true x310000 x310001 x310002 x310003 x310004 x310005 x310006 x310007 x310008)))
def abacuslaw08_ScanBuilds.j1 : Nat → ByteArray → ByteArray → Int → Bool → Int → Int → List Int → Bool → List Int → Int → Int → Int → ByteArray → Option (Bool)
  | 0, _, _, _, _, _, _, _, _, _, _, _, _, _ => none
  | k + 1, x5, x6, x7, x58, x310000, x310001, x310002, x310003, x310004, x310005, x310006, x310007, x310008 => if x58 = true then (some true) else (abacuslaw08_ScanBuilds.l0 k x5 x6 x7 (⟨#[]⟩ : ByteArray) 0 x310000 x310001 x310002 x310003 x310004 x310005 x310006 x310007 x310008)
def abacuslaw08_ScanBuilds.l0 : Nat → ByteArray → ByteArray → Int → ByteArray → Int → Int → Int → List Int → Bool → List Int → Int → Int → Int → ByteArray → Option (Bool)
  | 0, _, _, _, _, _, _, _, _, _, _, _, _, _, _ => none
  | k + 1, x5, x6, x7, x9, x10, x310000, x310001, x310002, x310003, x310004, x310005, x310006, x310007, x310008 => if x10 < x310000 then (if 0 ≤ (Int.tmod x10 6) then (if (Int.tmod x10 6) ≤ (wrap64 ((Int.tmod x10 6) + 1)) then (if (wrap64 ((Int.tmod x10 6) + 1)) ≤ 6 then (if x9.size + ((⟨#[9, 10, 11, 12, 13, 32]⟩ : ByteArray).extract ((Int.tmod x10 6) : Int).toNat ((wrap64 ((Int.tmod x10 6) + 1)) : Int).toNat).size ≤ 9223372036854775807 then (abacuslaw08_ScanBuilds.l0 k x5 x6 x7 (x9 ++ ((⟨#[9, 10, 11, 12, 13, 32]⟩ : ByteArray).extract ((Int.tmod x10 6) : Int).toNat ((wrap64 ((Int.tmod x10 6) + 1)) : Int).toNat)) (wrap64 (x10 + 1)) x310000 x310001 x310002 x310003 x310004 x310005 x310006 x310007 x310008) else (none)) else (none)) else (none)) else (none)) else ((scan_Norm.f k (x310001 == 2) x6 x7).bind fun bt320 => (if x9.size + x5.size ≤ 9223372036854775807 then (if (x9 ++ x5).size + x310008.size ≤ 9223372036854775807 then ((scan_Number.f k ((x9 ++ x5) ++ x310008)).bind fun bt325 => (if bt320.2.2.2 = 0 then (if bt325.2.2.2 = (wrap64 ((x9.size : Int) + (x5.size : Int))) then (if (!(bt325.1 == bt320.1) || (!(bt325.2.1.toList == bt320.2.1.toList) || (!(bt325.2.2.1 == bt320.2.2.1)))) = true then (some false) else (if (x9 ++ x5).size + x9.size ≤ 9223372036854775807 then ((scan_Whole.f k ((x9 ++ x5) ++ x9)).bind fun bt329 => (if bt329.2.2.2 = true then (some (bt329.1 == bt320.1 && (bt329.2.1.toList == bt320.2.1.toList && (bt329.2.2.1 == bt320.2.2.1)))) else (some false))) else (none))) else (some false)) else (some false))) else (none)) else (none)))
end
def abacuslaw08_ScanBuilds.f (k : Nat) (a0_0 : Int) (a0_1 : Int) (l0_2 : List Int) (a0_3 : Bool) (l0_4 : List Int) (a0_5 : Int) (a0_6 : Int) (a0_7 : Int) (a0_8 : ByteArray) : Option (Bool) := (scan_Number.f k (⟨#[43, 51, 46, 50, 53, 69, 49, 59]⟩ : ByteArray)).bind fun bt310 => (if bt310.2.2.2 = 7 then (if bt310.1 = true then (abacuslaw08_ScanBuilds.j0 k true a0_0 a0_1 l0_2 a0_3 l0_4 a0_5 a0_6 a0_7 a0_8) else (if bt310.2.1.toList = ([51, 50, 53] : List UInt8) then (abacuslaw08_ScanBuilds.j0 k (bt310.2.2.1 != (-1)) a0_0 a0_1 l0_2 a0_3 l0_4 a0_5 a0_6 a0_7 a0_8) else (abacuslaw08_ScanBuilds.j0 k true a0_0 a0_1 l0_2 a0_3 l0_4 a0_5 a0_6 a0_7 a0_8))) else (abacuslaw08_ScanBuilds.j0 k true a0_0 a0_1 l0_2 a0_3 l0_4 a0_5 a0_6 a0_7 a0_8))
set_option maxHeartbeats 8000000 in
set_option maxRecDepth 100000 in
theorem abacuslaw08_ScanBuilds.calls (k : Nat) (a0_0 : Int) (a0_1 : Int) (A0_2 : Option Addr) (c0_2 : Nat) (l0_2 : List Int) (a0_3 : Bool) (A0_4 : Option Addr) (c0_4 : Nat) (l0_4 : List Int) (a0_5 : Int) (a0_6 : Int) (a0_7 : Int) (a0_8 : ByteArray) (w : World) (hr0_2 : Kd.C (Kd.int .u8) w A0_2 l0_2.length l0_2) (hc0_2 : l0_2.length ≤ c0_2) (hr0_4 : Kd.C (Kd.int .u8) w A0_4 l0_4.length l0_4) (hc0_4 : l0_4.length ≤ c0_4) (h : abacuslaw08_ScanBuilds.f k a0_0 a0_1 l0_2 a0_3 l0_4 a0_5 a0_6 a0_7 a0_8 = some true) :
    Calls Tryd.prog 6 #[.agg #[.int .i64 a0_0, .int .i64 a0_1, .slice A0_2 l0_2.length c0_2, .bool a0_3, .slice A0_4 l0_4.length c0_4, .int .i64 a0_5, .int .i64 a0_6, .int .i64 a0_7, .string a0_8]] w fun e w' => e = .returned (.bool true) ∧ Below w.heap.size w w' := by
  have hu44 := Tryd.underlying44
  have hu23 := Tryd.underlying23
  have HR0_2 := Aside0.mk hr0_2
  have HC0_2 := Aside0.mk hc0_2
  clear hr0_2 hc0_2
  have HR0_4 := Aside0.mk hr0_4
  have HC0_4 := Aside0.mk hc0_4
  clear hr0_4 hc0_4
  have HB := Aside0.mk (Below.refl w.heap.size w)
  have H : ((scan_Number.f k (⟨#[43, 51, 46, 50, 53, 69, 49, 59]⟩ : ByteArray)).bind fun bt310 => (if bt310.2.2.2 = 7 then (if bt310.1 = true then (abacuslaw08_ScanBuilds.j0 k true a0_0 a0_1 l0_2 a0_3 l0_4 a0_5 a0_6 a0_7 a0_8) else (if bt310.2.1.toList = ([51, 50, 53] : List UInt8) then (abacuslaw08_ScanBuilds.j0 k (bt310.2.2.1 != (-1)) a0_0 a0_1 l0_2 a0_3 l0_4 a0_5 a0_6 a0_7 a0_8) else (abacuslaw08_ScanBuilds.j0 k true a0_0 a0_1 l0_2 a0_3 l0_4 a0_5 a0_6 a0_7 a0_8))) else (abacuslaw08_ScanBuilds.j0 k true a0_0 a0_1 l0_2 a0_3 l0_4 a0_5 a0_6 a0_7 a0_8))) = some true := h
  clear h
  replace H := Option.bind_eq_some_iff.mp H
  obtain ⟨⟨t310, t311, t312, t313⟩, A20, H⟩ := H
  replace H : (if t313 = 7 then (if t310 = true then (abacuslaw08_ScanBuilds.j0 k true a0_0 a0_1 l0_2 a0_3 l0_4 a0_5 a0_6 a0_7 a0_8) else (if t311.toList = ([51, 50, 53] : List UInt8) then (abacuslaw08_ScanBuilds.j0 k (t312 != (-1)) a0_0 a0_1 l0_2 a0_3 l0_4 a0_5 a0_6 a0_7 a0_8) else (abacuslaw08_ScanBuilds.j0 k true a0_0 a0_1 l0_2 a0_3 l0_4 a0_5 a0_6 a0_7 a0_8))) else (abacuslaw08_ScanBuilds.j0 k true a0_0 a0_1 l0_2 a0_3 l0_4 a0_5 a0_6 a0_7 a0_8)) = some true := H
  have A2 := Aside0.mk A20
  clear A20
  have HC3 := Aside0.mk H
  clear H
  go_enter Tryd.func6, Tryd.ntmps6
  go_upto_region 2 with (first | ((with_reducible refine gate_dst (N := 1) rfl ?_); (try (refine gate_guard (by rfl) ?_; dsimp only)); refine box_event ?hg (N := 1) ?hd (cs := #[.int .i64 a0_0, .int .i64 a0_1, .slice A0_2 l0_2.length c0_2, .bool a0_3, .slice A0_4 l0_4.length c0_4, .int .i64 a0_5, .int .i64 a0_6, .int .i64 a0_7, .string a0_8]) (t := 44) ?hr ?_; (case hd => rfl); (case hg => rfl); (case hr => first | (go_simp; done) | (go_simp; rfl)); intro gb309 hg w4 hbox hb; have n0_ := Aside0.mk (below_step (by repeat (first | (with_reducible first | exact HB.out | apply below_alloc | apply pw_below_drewN | apply below_drew1) | exact HB.out)) hb); have n1_ := Aside0.mk (hbox); have n2_ := Aside0.mk ((by rw [hg]; exact (below_size (by repeat (first | (with_reducible first | exact HB.out | apply below_alloc | apply pw_below_drewN | apply below_drew1) | exact HB.out))) : w.heap.size ≤ gb309)); have n3_ := Aside0.mk ((by rw [hg]; exact (below_size (by repeat (first | (with_reducible first | exact HB.out | apply below_alloc | apply pw_below_drewN | apply below_drew1) | exact HB.out))) : w.heap.size ≤ gb309)); clear HB; have HB := n0_; have BK309 := n1_; have GW309 := n2_; have GE309 := n3_; clear n0_ n1_ n2_ n3_; clear hb hbox hg) | ((with_reducible refine gate_callee (f := 17) rfl ?_); refine goesL_ (some 15) rfl rfl Tryd.func17 (by kernel_rfl) rfl #[.string (⟨#[43, 51, 46, 50, 53, 69, 49, 59]⟩ : ByteArray)] rfl (by (try simp only [List.map_toArray, List.map_cons, List.map_nil]); first | done | rfl | (simp only [List.length_drop, List.length_take]; rfl)) ?_; (with_reducible refine (scan_Number.calls k (⟨#[43, 51, 46, 50, 53, 69, 49, 59]⟩ : ByteArray) t310 t311 t312 t313 _ A2.out).mono ?_); rintro e w5 ⟨rfl, hb⟩; refine ⟨_, rfl, ?_⟩; have n0_ := Aside0.mk (blk_below (g := gb309) (o := .cells #[.int .i64 a0_0, .int .i64 a0_1, .slice A0_2 l0_2.length c0_2, .bool a0_3, .slice A0_4 l0_4.length c0_4, .int .i64 a0_5, .int .i64 a0_6, .int .i64 a0_7, .string a0_8] 44 (0, 0)) (by (with_reducible repeat (first | refine blk_drewN ?_ _ | refine blk_drew ?_ | refine blk_alloc ?_ _)); exact BK309.out) hb); have n1_ := Aside0.mk (below_step (by repeat (first | (with_reducible first | exact HB.out | apply below_alloc | apply pw_below_drewN | apply below_drew1 | refine below_set ?_ GE309.out) | exact HB.out)) hb); clear BK309; clear HB; have BK309 := n0_; have HB := n1_; clear n0_ n1_; (try clear hb); (try clear hb2); (try clear hk); (try clear hi)) | ((with_reducible refine gate_dst (N := 3) rfl ?_); (try (refine gate_guard (by rfl) ?_; dsimp only)); refine box_event ?hg (N := 3) ?hd (cs := #[.bool false, .string (⟨#[]⟩ : ByteArray), .int .i64 0]) (t := 23) ?hr ?_; (case hd => rfl); (case hg => rfl); (case hr => first | (go_simp; done) | (go_simp; rfl)); intro gb314 hg w6 hbox hb; have n0_ := Aside0.mk (blk_below (g := gb309) (o := .cells #[.int .i64 a0_0, .int .i64 a0_1, .slice A0_2 l0_2.length c0_2, .bool a0_3, .slice A0_4 l0_4.length c0_4, .int .i64 a0_5, .int .i64 a0_6, .int .i64 a0_7, .string a0_8] 44 (0, 0)) (by (with_reducible repeat (first | refine blk_drewN ?_ _ | refine blk_drew ?_ | refine blk_alloc ?_ _)); exact BK309.out) hb); have n1_ := Aside0.mk (below_step (by repeat (first | (with_reducible first | exact HB.out | apply below_alloc | apply pw_below_drewN | apply below_drew1 | refine below_set ?_ GE309.out) | exact HB.out)) hb); have n2_ := Aside0.mk (hbox); have n3_ := Aside0.mk ((by rw [hg]; exact (below_size (by repeat (first | (with_reducible first | exact HB.out | apply below_alloc | apply pw_below_drewN | apply below_drew1 | refine below_set ?_ GE309.out) | exact HB.out))) : w.heap.size ≤ gb314)); have n4_ := Aside0.mk ((by rw [hg]; exact (below_size (by repeat (first | (with_reducible first | exact HB.out | apply below_alloc | apply pw_below_drewN | apply below_drew1 | refine below_set ?_ GE309.out) | exact HB.out))) : w.heap.size ≤ gb314)); have n5_ := Aside0.mk ((by rw [hg]; exact Nat.ne_of_lt (blk_lt (g := gb309) (o := .cells #[.int .i64 a0_0, .int .i64 a0_1, .slice A0_2 l0_2.length c0_2, .bool a0_3, .slice A0_4 l0_4.length c0_4, .int .i64 a0_5, .int .i64 a0_6, .int .i64 a0_7, .string a0_8] 44 (0, 0)) (by (with_reducible repeat (first | refine blk_drewN ?_ _ | refine blk_drew ?_ | refine blk_alloc ?_ _)); exact BK309.out)) : gb309 ≠ gb314)); have n6_ := Aside0.mk ((by rw [hg]; exact Nat.ne_of_gt (blk_lt (g := gb309) (o := .cells #[.int .i64 a0_0, .int .i64 a0_1, .slice A0_2 l0_2.length c0_2, .bool a0_3, .slice A0_4 l0_4.length c0_4, .int .i64 a0_5, .int .i64 a0_6, .int .i64 a0_7, .string a0_8] 44 (0, 0)) (by (with_reducible repeat (first | refine blk_drewN ?_ _ | refine blk_drew ?_ | refine blk_alloc ?_ _)); exact BK309.out)) : gb314 ≠ gb309)); clear BK309; clear HB; have BK309 := n0_; have HB := n1_; have BK314 := n2_; have GW314 := n3_; have GE314 := n4_; have NB309_314 := n5_; have NB314_309 := n6_; clear n0_ n1_ n2_ n3_ n4_ n5_ n6_; clear hb hbox hg; have hnb7 := NB314_309.out; have hnc7 := NB309_314.out; have hcz8_0 : w6.cell? ⟨gb314, 0, none⟩ = some (.bool false) := (blk_cell BK314.out 0).trans rfl; have hcz8_1 : w6.cell? ⟨gb314, 1, none⟩ = some (.string (⟨#[]⟩ : ByteArray)) := (blk_cell BK314.out 1).trans rfl; have hcz8_2 : w6.cell? ⟨gb314, 2, none⟩ = some (.int .i64 0) := (blk_cell BK314.out 2).trans rfl; have hfz8_0 := blk_frozen BK314.out 0; have hfz8_1 := blk_frozen BK314.out 1; have hfz8_2 := blk_frozen BK314.out 2))
  (try simp only [Act.put, List.setIfInBounds_toArray, List.set_cons_zero, List.set_cons_succ])
  go_cut [33] (fun v33 wc => ∃ (kq : Nat) (x33_2 : Bool), v33 = .bool x33_2 ∧ Aside0 (abacuslaw08_ScanBuilds.j0 kq x33_2 a0_0 a0_1 l0_2 a0_3 l0_4 a0_5 a0_6 a0_7 a0_8 = some true) ∧ Aside0 (kq ≤ k) ∧ Aside0 (wc.heap[gb309]? = some (.cells #[.int .i64 a0_0, .int .i64 a0_1, (.slice A0_2 l0_2.length c0_2), .bool a0_3, (.slice A0_4 l0_4.length c0_4), .int .i64 a0_5, .int .i64 a0_6, .int .i64 a0_7, .string a0_8] 44 (0, 0))) ∧ Aside0 (wc.heap[gb314]? = some (.cells #[.bool t310, .string t311, .int .i64 t312] 23 (0, 0))) ∧ Aside0 (Below w.heap.size w wc))
  case first =>
    have H := HC3.out
    clear HC3
    by_cases c9 : t313 = 7
    · rw [if_pos c9] at H
      have c9b0 : (t313 == 7) = true := beq_iff_eq.mpr c9
      have c9b1 : (t313 != 7) = false := bne_eq_false_iff_eq.mpr c9
      clear c9
      (first | rw [c9b0] | (simp only [i64_w, i32_w]; rw [c9b0]) | skip)
      by_cases c10 : t310 = true
      · subst c10
        have H1 : (abacuslaw08_ScanBuilds.j0 k true a0_0 a0_1 l0_2 a0_3 l0_4 a0_5 a0_6 a0_7 a0_8) = some true := by rw [if_pos rfl] at H; exact H
        clear H
        have H := H1
        clear H1
        have H' := Aside0.mk H
        clear H
        have hnb11 := NB314_309.out
        have hnc11 := NB309_314.out
        have hcz12_0 : w6.cell? ⟨gb314, 0, none⟩ = some (.bool false) := (blk_cell BK314.out 0).trans rfl
        have hcz12_1 : w6.cell? ⟨gb314, 1, none⟩ = some (.string (⟨#[]⟩ : ByteArray)) := (blk_cell BK314.out 1).trans rfl
        have hcz12_2 : w6.cell? ⟨gb314, 2, none⟩ = some (.int .i64 0) := (blk_cell BK314.out 2).trans rfl
        have hfz12_0 := blk_frozen BK314.out 0
        have hfz12_1 := blk_frozen BK314.out 1
        have hfz12_2 := blk_frozen BK314.out 2
        go_wp2
        go_meet
        case rel => exact ⟨_, (true), (by first | rfl | (simp; done) | (simp [*]; done)), H', ⟨by first | omega | exact Nat.le_refl _⟩, ⟨by (with_reducible repeat (first | refine blk_drewN ?_ _ | refine blk_drew ?_ | refine blk_alloc ?_ _)); refine blk_far ?_ NB309_314.out _; (with_reducible repeat (first | refine blk_drewN ?_ _ | refine blk_drew ?_ | refine blk_alloc ?_ _)); refine blk_far ?_ NB309_314.out _; (with_reducible repeat (first | refine blk_drewN ?_ _ | refine blk_drew ?_ | refine blk_alloc ?_ _)); refine blk_far ?_ NB309_314.out _; (with_reducible repeat (first | refine blk_drewN ?_ _ | refine blk_drew ?_ | refine blk_alloc ?_ _)); exact BK309.out⟩, ⟨by (with_reducible repeat (first | refine blk_drewN ?_ _ | refine blk_drew ?_ | refine blk_alloc ?_ _)); refine blk_put (cs := #[.bool true, .string t311, .int .i64 0]) ?_ 2 _ rfl; (with_reducible repeat (first | refine blk_drewN ?_ _ | refine blk_drew ?_ | refine blk_alloc ?_ _)); refine blk_put (cs := #[.bool true, .string (⟨#[]⟩ : ByteArray), .int .i64 0]) ?_ 1 _ rfl; (with_reducible repeat (first | refine blk_drewN ?_ _ | refine blk_drew ?_ | refine blk_alloc ?_ _)); refine blk_put (cs := #[.bool false, .string (⟨#[]⟩ : ByteArray), .int .i64 0]) ?_ 0 _ rfl; (with_reducible repeat (first | refine blk_drewN ?_ _ | refine blk_drew ?_ | refine blk_alloc ?_ _)); exact BK314.out⟩, ⟨by repeat (first | (with_reducible first | exact HB.out | apply below_alloc | apply pw_below_drewN | apply below_drew1 | refine below_set ?_ GE309.out | refine below_set ?_ GE314.out) | exact HB.out)⟩⟩
      · replace c10 := Bool.eq_false_iff.mpr c10
        subst c10
        have H1 : (if t311.toList = ([51, 50, 53] : List UInt8) then (abacuslaw08_ScanBuilds.j0 k (t312 != (-1)) a0_0 a0_1 l0_2 a0_3 l0_4 a0_5 a0_6 a0_7 a0_8) else (abacuslaw08_ScanBuilds.j0 k true a0_0 a0_1 l0_2 a0_3 l0_4 a0_5 a0_6 a0_7 a0_8)) = some true := by rw [if_neg (show ¬ (false = true) by decide)] at H; exact H
        clear H
        have H := H1
        clear H1
        by_cases c13 : t311.toList = ([51, 50, 53] : List UInt8)
        · rw [if_pos c13] at H
          have c13b0 : (t311.toList == ([51, 50, 53] : List UInt8)) = true := beq_iff_eq.mpr c13
          have c13b1 : (t311.toList != ([51, 50, 53] : List UInt8)) = false := bne_eq_false_iff_eq.mpr c13
          clear c13
          have H' := Aside0.mk H
          clear H
          have hnb14 := NB314_309.out
          have hnc14 := NB309_314.out
          have hcz15_0 : w6.cell? ⟨gb314, 0, none⟩ = some (.bool false) := (blk_cell BK314.out 0).trans rfl
          have hcz15_1 : w6.cell? ⟨gb314, 1, none⟩ = some (.string (⟨#[]⟩ : ByteArray)) := (blk_cell BK314.out 1).trans rfl
          have hcz15_2 : w6.cell? ⟨gb314, 2, none⟩ = some (.int .i64 0) := (blk_cell BK314.out 2).trans rfl
          have hfz15_0 := blk_frozen BK314.out 0
          have hfz15_1 := blk_frozen BK314.out 1
          have hfz15_2 := blk_frozen BK314.out 2
          go_wp2
          go_meet
          case rel => exact ⟨_, ((t312 != (-1))), (by first | rfl | (simp; done) | (simp [*]; done)), H', ⟨by first | omega | exact Nat.le_refl _⟩, ⟨by (with_reducible repeat (first | refine blk_drewN ?_ _ | refine blk_drew ?_ | refine blk_alloc ?_ _)); refine blk_far ?_ NB309_314.out _; (with_reducible repeat (first | refine blk_drewN ?_ _ | refine blk_drew ?_ | refine blk_alloc ?_ _)); refine blk_far ?_ NB309_314.out _; (with_reducible repeat (first | refine blk_drewN ?_ _ | refine blk_drew ?_ | refine blk_alloc ?_ _)); refine blk_far ?_ NB309_314.out _; (with_reducible repeat (first | refine blk_drewN ?_ _ | refine blk_drew ?_ | refine blk_alloc ?_ _)); exact BK309.out⟩, ⟨by (with_reducible repeat (first | refine blk_drewN ?_ _ | refine blk_drew ?_ | refine blk_alloc ?_ _)); refine blk_put (cs := #[.bool false, .string t311, .int .i64 0]) ?_ 2 _ rfl; (with_reducible repeat (first | refine blk_drewN ?_ _ | refine blk_drew ?_ | refine blk_alloc ?_ _)); refine blk_put (cs := #[.bool false, .string (⟨#[]⟩ : ByteArray), .int .i64 0]) ?_ 1 _ rfl; (with_reducible repeat (first | refine blk_drewN ?_ _ | refine blk_drew ?_ | refine blk_alloc ?_ _)); refine blk_put (cs := #[.bool false, .string (⟨#[]⟩ : ByteArray), .int .i64 0]) ?_ 0 _ rfl; (with_reducible repeat (first | refine blk_drewN ?_ _ | refine blk_drew ?_ | refine blk_alloc ?_ _)); exact BK314.out⟩, ⟨by repeat (first | (with_reducible first | exact HB.out | apply below_alloc | apply pw_below_drewN | apply below_drew1 | refine below_set ?_ GE309.out | refine below_set ?_ GE314.out) | exact HB.out)⟩⟩
        · rw [if_neg c13] at H
          have c13b0 : (t311.toList == ([51, 50, 53] : List UInt8)) = false := beq_eq_false_iff_ne.mpr c13
          have c13b1 : (t311.toList != ([51, 50, 53] : List UInt8)) = true := bne_iff_ne.mpr c13
          have H' := Aside0.mk H
          clear H
          have hnb16 := NB314_309.out
          have hnc16 := NB309_314.out
          have hcz17_0 : w6.cell? ⟨gb314, 0, none⟩ = some (.bool false) := (blk_cell BK314.out 0).trans rfl
          have hcz17_1 : w6.cell? ⟨gb314, 1, none⟩ = some (.string (⟨#[]⟩ : ByteArray)) := (blk_cell BK314.out 1).trans rfl
          have hcz17_2 : w6.cell? ⟨gb314, 2, none⟩ = some (.int .i64 0) := (blk_cell BK314.out 2).trans rfl
          have hfz17_0 := blk_frozen BK314.out 0
          have hfz17_1 := blk_frozen BK314.out 1
          have hfz17_2 := blk_frozen BK314.out 2
          go_wp2
          go_meet
          case rel => exact ⟨_, (true), (by first | rfl | (simp; done) | (simp [*]; done)), H', ⟨by first | omega | exact Nat.le_refl _⟩, ⟨by (with_reducible repeat (first | refine blk_drewN ?_ _ | refine blk_drew ?_ | refine blk_alloc ?_ _)); refine blk_far ?_ NB309_314.out _; (with_reducible repeat (first | refine blk_drewN ?_ _ | refine blk_drew ?_ | refine blk_alloc ?_ _)); refine blk_far ?_ NB309_314.out _; (with_reducible repeat (first | refine blk_drewN ?_ _ | refine blk_drew ?_ | refine blk_alloc ?_ _)); refine blk_far ?_ NB309_314.out _; (with_reducible repeat (first | refine blk_drewN ?_ _ | refine blk_drew ?_ | refine blk_alloc ?_ _)); exact BK309.out⟩, ⟨by (with_reducible repeat (first | refine blk_drewN ?_ _ | refine blk_drew ?_ | refine blk_alloc ?_ _)); refine blk_put (cs := #[.bool false, .string t311, .int .i64 0]) ?_ 2 _ rfl; (with_reducible repeat (first | refine blk_drewN ?_ _ | refine blk_drew ?_ | refine blk_alloc ?_ _)); refine blk_put (cs := #[.bool false, .string (⟨#[]⟩ : ByteArray), .int .i64 0]) ?_ 1 _ rfl; (with_reducible repeat (first | refine blk_drewN ?_ _ | refine blk_drew ?_ | refine blk_alloc ?_ _)); refine blk_put (cs := #[.bool false, .string (⟨#[]⟩ : ByteArray), .int .i64 0]) ?_ 0 _ rfl; (with_reducible repeat (first | refine blk_drewN ?_ _ | refine blk_drew ?_ | refine blk_alloc ?_ _)); exact BK314.out⟩, ⟨by repeat (first | (with_reducible first | exact HB.out | apply below_alloc | apply pw_below_drewN | apply below_drew1 | refine below_set ?_ GE309.out | refine below_set ?_ GE314.out) | exact HB.out)⟩⟩
    · rw [if_neg c9] at H
      have c9b0 : (t313 == 7) = false := beq_eq_false_iff_ne.mpr c9
      have c9b1 : (t313 != 7) = true := bne_iff_ne.mpr c9
      (first | rw [c9b0] | (simp only [i64_w, i32_w]; rw [c9b0]) | skip)
      have H' := Aside0.mk H
      clear H
      go_wp2
      go_meet
      case rel => exact ⟨_, (true), (by first | rfl | (simp; done) | (simp [*]; done)), H', ⟨by first | omega | exact Nat.le_refl _⟩, ⟨by (with_reducible repeat (first | refine blk_drewN ?_ _ | refine blk_drew ?_ | refine blk_alloc ?_ _)); refine blk_far ?_ NB309_314.out _; (with_reducible repeat (first | refine blk_drewN ?_ _ | refine blk_drew ?_ | refine blk_alloc ?_ _)); refine blk_far ?_ NB309_314.out _; (with_reducible repeat (first | refine blk_drewN ?_ _ | refine blk_drew ?_ | refine blk_alloc ?_ _)); refine blk_far ?_ NB309_314.out _; (with_reducible repeat (first | refine blk_drewN ?_ _ | refine blk_drew ?_ | refine blk_alloc ?_ _)); exact BK309.out⟩, ⟨by (with_reducible repeat (first | refine blk_drewN ?_ _ | refine blk_drew ?_ | refine blk_alloc ?_ _)); refine blk_put (cs := #[.bool t310, .string t311, .int .i64 0]) ?_ 2 _ rfl; (with_reducible repeat (first | refine blk_drewN ?_ _ | refine blk_drew ?_ | refine blk_alloc ?_ _)); refine blk_put (cs := #[.bool t310, .string (⟨#[]⟩ : ByteArray), .int .i64 0]) ?_ 1 _ rfl; (with_reducible repeat (first | refine blk_drewN ?_ _ | refine blk_drew ?_ | refine blk_alloc ?_ _)); refine blk_put (cs := #[.bool false, .string (⟨#[]⟩ : ByteArray), .int .i64 0]) ?_ 0 _ rfl; (with_reducible repeat (first | refine blk_drewN ?_ _ | refine blk_drew ?_ | refine blk_alloc ?_ _)); exact BK314.out⟩, ⟨by repeat (first | (with_reducible first | exact HB.out | apply below_alloc | apply pw_below_drewN | apply below_drew1 | refine below_set ?_ GE309.out | refine below_set ?_ GE314.out) | exact HB.out)⟩⟩
  case rest =>
    clear HC3
    try clear c1
    try clear p2
    try clear c6
    try clear c7
    try clear c9
    try clear c9b0
    try clear c9b1
    try clear c10
    try clear c11
    try clear c13
    try clear c13b0
    try clear c13b1
    try clear c14
    try clear c16
    try clear c17
    try clear hcz12_0
    try clear hcz12_1
    try clear hcz12_2
    try clear hcz15_0
    try clear hcz15_1
    try clear hcz15_2
    try clear hcz17_0
    try clear hcz17_1
    try clear hcz17_2
    try clear hcz8_0
    try clear hcz8_1
    try clear hcz8_2
    try clear hfz12_0
    try clear hfz12_1
    try clear hfz12_2
    try clear hfz15_0
    try clear hfz15_1
    try clear hfz15_2
    try clear hfz17_0
    try clear hfz17_1
    try clear hfz17_2
    try clear hfz8_0
    try clear hfz8_1
    try clear hfz8_2
    obtain ⟨kq, x33_2, rfl, HA, HJ2, BK309, BK314, HB⟩ := hcut
    cases kq with
    | zero => exact absurd HA.out (by simp [abacuslaw08_ScanBuilds.j0])
    | succ kj2 =>
      have H := HA.out
      clear HA
      simp only [abacuslaw08_ScanBuilds.j0] at H
      by_cases c18 : x33_2 = true
      · subst c18
        have H1 : (some false) = some true := by rw [if_pos rfl] at H; exact H
        clear H
        have H := H1
        clear H1
        exact absurd H (by simp)
      · replace c18 := Bool.eq_false_iff.mpr c18
        subst c18
        have H1 : ((abacuslaw08_built.f kj2 a0_0 a0_1 l0_2 a0_3 l0_4 a0_5 a0_6 a0_7 a0_8).bind fun bt315 => (if bt315.2.2.2 = true then ((abacuslaw08_stops.f a0_8).bind fun t319 => (if t319 = true then (if a0_0 < 0 then (abacuslaw08_ScanBuilds.j1 kj2 bt315.1 bt315.2.1 bt315.2.2.1 true a0_0 a0_1 l0_2 a0_3 l0_4 a0_5 a0_6 a0_7 a0_8) else (abacuslaw08_ScanBuilds.j1 kj2 bt315.1 bt315.2.1 bt315.2.2.1 (decide (a0_0 > 1000)) a0_0 a0_1 l0_2 a0_3 l0_4 a0_5 a0_6 a0_7 a0_8)) else (abacuslaw08_ScanBuilds.j1 kj2 bt315.1 bt315.2.1 bt315.2.2.1 true a0_0 a0_1 l0_2 a0_3 l0_4 a0_5 a0_6 a0_7 a0_8))) else (abacuslaw08_ScanBuilds.j1 kj2 bt315.1 bt315.2.1 bt315.2.2.1 true a0_0 a0_1 l0_2 a0_3 l0_4 a0_5 a0_6 a0_7 a0_8))) = some true := by rw [if_neg (show ¬ (false = true) by decide)] at H; exact H
        clear H
        have H := H1
        clear H1
        replace H := Option.bind_eq_some_iff.mp H
        obtain ⟨⟨t315, t316, t317, t318⟩, A190, H⟩ := H
        replace H : (if t318 = true then ((abacuslaw08_stops.f a0_8).bind fun t319 => (if t319 = true then (if a0_0 < 0 then (abacuslaw08_ScanBuilds.j1 kj2 t315 t316 t317 true a0_0 a0_1 l0_2 a0_3 l0_4 a0_5 a0_6 a0_7 a0_8) else (abacuslaw08_ScanBuilds.j1 kj2 t315 t316 t317 (decide (a0_0 > 1000)) a0_0 a0_1 l0_2 a0_3 l0_4 a0_5 a0_6 a0_7 a0_8)) else (abacuslaw08_ScanBuilds.j1 kj2 t315 t316 t317 true a0_0 a0_1 l0_2 a0_3 l0_4 a0_5 a0_6 a0_7 a0_8))) else (abacuslaw08_ScanBuilds.j1 kj2 t315 t316 t317 true a0_0 a0_1 l0_2 a0_3 l0_4 a0_5 a0_6 a0_7 a0_8)) = some true := H
        have A19 := Aside0.mk A190
        clear A190
        have HC20 := Aside0.mk H
        clear H
        have hnb21 := NB309_314.out
        have hnc21 := NB314_309.out
        have hcz22_0 : wc.cell? ⟨gb309, 0, none⟩ = some (.int .i64 a0_0) := (blk_cell BK309.out 0).trans rfl
        have hcz22_1 : wc.cell? ⟨gb309, 1, none⟩ = some (.int .i64 a0_1) := (blk_cell BK309.out 1).trans rfl
        have hcz22_2 : wc.cell? ⟨gb309, 2, none⟩ = some (.slice A0_2 l0_2.length c0_2) := (blk_cell BK309.out 2).trans rfl
        have hcz22_3 : wc.cell? ⟨gb309, 3, none⟩ = some (.bool a0_3) := (blk_cell BK309.out 3).trans rfl
        have hcz22_4 : wc.cell? ⟨gb309, 4, none⟩ = some (.slice A0_4 l0_4.length c0_4) := (blk_cell BK309.out 4).trans rfl
        have hcz22_5 : wc.cell? ⟨gb309, 5, none⟩ = some (.int .i64 a0_5) := (blk_cell BK309.out 5).trans rfl
        have hcz22_6 : wc.cell? ⟨gb309, 6, none⟩ = some (.int .i64 a0_6) := (blk_cell BK309.out 6).trans rfl
        have hcz22_7 : wc.cell? ⟨gb309, 7, none⟩ = some (.int .i64 a0_7) := (blk_cell BK309.out 7).trans rfl
        have hcz22_8 : wc.cell? ⟨gb309, 8, none⟩ = some (.string a0_8) := (blk_cell BK309.out 8).trans rfl
        have hfz22_0 := blk_frozen BK309.out 0
        have hfz22_1 := blk_frozen BK309.out 1
        have hfz22_2 := blk_frozen BK309.out 2
        have hfz22_3 := blk_frozen BK309.out 3
        have hfz22_4 := blk_frozen BK309.out 4
        have hfz22_5 := blk_frozen BK309.out 5
        have hfz22_6 := blk_frozen BK309.out 6
        have hfz22_7 := blk_frozen BK309.out 7
        have hfz22_8 := blk_frozen BK309.out 8
        go_upto_region 5 with (first | ((with_reducible refine gate_callee (f := 20) rfl ?_); refine goesL_ (some 36) rfl rfl Tryd.func20 (by kernel_rfl) rfl #[.agg #[.int .i64 a0_0, .int .i64 a0_1, .slice A0_2 l0_2.length c0_2, .bool a0_3, .slice A0_4 l0_4.length c0_4, .int .i64 a0_5, .int .i64 a0_6, .int .i64 a0_7, .string a0_8]] rfl (by (try simp only [List.map_toArray, List.map_cons, List.map_nil]); first | done | rfl | (simp only [List.length_drop, List.length_take]; rfl)) ?_; (with_reducible refine (abacuslaw08_built.calls kj2 a0_0 a0_1 _ _ l0_2 a0_3 _ _ l0_4 a0_5 a0_6 a0_7 a0_8 t315 t316 t317 t318 _ ?side1 ?side2 ?side3 ?side4 A19.out).mono ?_); (case side1 => repeat (first | exact (Kd.C_below HR0_2.out HB.out) | (with_reducible refine Kd.C_alloc ?_ _) | (with_reducible refine Kd.C_drewN ?_ _) | (with_reducible refine Kd.C_drew ?_))); (case side2 => exact HC0_2.out); (case side3 => repeat (first | exact (Kd.C_below HR0_4.out HB.out) | (with_reducible refine Kd.C_alloc ?_ _) | (with_reducible refine Kd.C_drewN ?_ _) | (with_reducible refine Kd.C_drew ?_))); (case side4 => exact HC0_4.out); rintro e w23 ⟨rfl, hb⟩; refine ⟨_, rfl, ?_⟩; have n0_ := Aside0.mk (blk_below (g := gb309) (o := .cells #[.int .i64 a0_0, .int .i64 a0_1, .slice A0_2 l0_2.length c0_2, .bool a0_3, .slice A0_4 l0_4.length c0_4, .int .i64 a0_5, .int .i64 a0_6, .int .i64 a0_7, .string a0_8] 44 (0, 0)) (by (with_reducible repeat (first | refine blk_drewN ?_ _ | refine blk_drew ?_ | refine blk_alloc ?_ _)); exact BK309.out) hb); have n1_ := Aside0.mk (blk_below (g := gb314) (o := .cells #[.bool t310, .string t311, .int .i64 t312] 23 (0, 0)) (by (with_reducible repeat (first | refine blk_drewN ?_ _ | refine blk_drew ?_ | refine blk_alloc ?_ _)); exact BK314.out) hb); have n2_ := Aside0.mk (below_step (by repeat (first | (with_reducible first | exact HB.out | apply below_alloc | apply pw_below_drewN | apply below_drew1 | refine below_set ?_ GE309.out | refine below_set ?_ GE314.out) | exact HB.out)) hb); clear BK309; clear BK314; clear HB; have BK309 := n0_; have BK314 := n1_; have HB := n2_; clear n0_ n1_ n2_; (try clear hb); (try clear hb2); (try clear hk); (try clear hi)))
        (try simp only [Act.put, List.setIfInBounds_toArray, List.set_cons_zero, List.set_cons_succ])
        go_cut [58] (fun v58 wc => ∃ (kq : Nat) (x58_19 : Bool), v58 = .bool x58_19 ∧ Aside0 (abacuslaw08_ScanBuilds.j1 kq t315 t316 t317 x58_19 a0_0 a0_1 l0_2 a0_3 l0_4 a0_5 a0_6 a0_7 a0_8 = some true) ∧ Aside0 (kq ≤ kj2) ∧ Aside0 (wc.heap[gb309]? = some (.cells #[.int .i64 a0_0, .int .i64 a0_1, (.slice A0_2 l0_2.length c0_2), .bool a0_3, (.slice A0_4 l0_4.length c0_4), .int .i64 a0_5, .int .i64 a0_6, .int .i64 a0_7, .string a0_8] 44 (0, 0))) ∧ Aside0 (wc.heap[gb314]? = some (.cells #[.bool t310, .string t311, .int .i64 t312] 23 (0, 0))) ∧ Aside0 (Below w.heap.size w wc))
        case first =>
          have H := HC20.out
          clear HC20
          by_cases c24 : t318 = true
          · subst c24
            have H1 : ((abacuslaw08_stops.f a0_8).bind fun t319 => (if t319 = true then (if a0_0 < 0 then (abacuslaw08_ScanBuilds.j1 kj2 t315 t316 t317 true a0_0 a0_1 l0_2 a0_3 l0_4 a0_5 a0_6 a0_7 a0_8) else (abacuslaw08_ScanBuilds.j1 kj2 t315 t316 t317 (decide (a0_0 > 1000)) a0_0 a0_1 l0_2 a0_3 l0_4 a0_5 a0_6 a0_7 a0_8)) else (abacuslaw08_ScanBuilds.j1 kj2 t315 t316 t317 true a0_0 a0_1 l0_2 a0_3 l0_4 a0_5 a0_6 a0_7 a0_8))) = some true := by rw [if_pos rfl] at H; exact H
            clear H
            have H := H1
            clear H1
            replace H := Option.bind_eq_some_iff.mp H
            obtain ⟨t319, A250, H⟩ := H
            replace H : (if t319 = true then (if a0_0 < 0 then (abacuslaw08_ScanBuilds.j1 kj2 t315 t316 t317 true a0_0 a0_1 l0_2 a0_3 l0_4 a0_5 a0_6 a0_7 a0_8) else (abacuslaw08_ScanBuilds.j1 kj2 t315 t316 t317 (decide (a0_0 > 1000)) a0_0 a0_1 l0_2 a0_3 l0_4 a0_5 a0_6 a0_7 a0_8)) else (abacuslaw08_ScanBuilds.j1 kj2 t315 t316 t317 true a0_0 a0_1 l0_2 a0_3 l0_4 a0_5 a0_6 a0_7 a0_8)) = some true := H
            have A25 := Aside0.mk A250
            clear A250
            by_cases c26 : t319 = true
            · subst c26
              have H1 : (if a0_0 < 0 then (abacuslaw08_ScanBuilds.j1 kj2 t315 t316 t317 true a0_0 a0_1 l0_2 a0_3 l0_4 a0_5 a0_6 a0_7 a0_8) else (abacuslaw08_ScanBuilds.j1 kj2 t315 t316 t317 (decide (a0_0 > 1000)) a0_0 a0_1 l0_2 a0_3 l0_4 a0_5 a0_6 a0_7 a0_8)) = some true := by rw [if_pos rfl] at H; exact H
              clear H
              have H := H1
              clear H1
              by_cases c27 : a0_0 < 0
              · rw [if_pos c27] at H
                have c27b0 : decide (a0_0 < 0) = true := decide_eq_true c27
                clear c27
                (first | rw [c27b0] | (simp only [i64_w, i32_w]; rw [c27b0]) | skip)
                have H' := Aside0.mk H
                clear H
                have hnb28 := NB309_314.out
                have hnc28 := NB314_309.out
                have hcz29_0 : w23.cell? ⟨gb309, 0, none⟩ = some (.int .i64 a0_0) := (blk_cell BK309.out 0).trans rfl
                have hcz29_1 : w23.cell? ⟨gb309, 1, none⟩ = some (.int .i64 a0_1) := (blk_cell BK309.out 1).trans rfl
                have hcz29_2 : w23.cell? ⟨gb309, 2, none⟩ = some (.slice A0_2 l0_2.length c0_2) := (blk_cell BK309.out 2).trans rfl
                have hcz29_3 : w23.cell? ⟨gb309, 3, none⟩ = some (.bool a0_3) := (blk_cell BK309.out 3).trans rfl
                have hcz29_4 : w23.cell? ⟨gb309, 4, none⟩ = some (.slice A0_4 l0_4.length c0_4) := (blk_cell BK309.out 4).trans rfl
                have hcz29_5 : w23.cell? ⟨gb309, 5, none⟩ = some (.int .i64 a0_5) := (blk_cell BK309.out 5).trans rfl
                have hcz29_6 : w23.cell? ⟨gb309, 6, none⟩ = some (.int .i64 a0_6) := (blk_cell BK309.out 6).trans rfl
                have hcz29_7 : w23.cell? ⟨gb309, 7, none⟩ = some (.int .i64 a0_7) := (blk_cell BK309.out 7).trans rfl
                have hcz29_8 : w23.cell? ⟨gb309, 8, none⟩ = some (.string a0_8) := (blk_cell BK309.out 8).trans rfl
                have hfz29_0 := blk_frozen BK309.out 0
                have hfz29_1 := blk_frozen BK309.out 1
                have hfz29_2 := blk_frozen BK309.out 2
                have hfz29_3 := blk_frozen BK309.out 3
                have hfz29_4 := blk_frozen BK309.out 4
                have hfz29_5 := blk_frozen BK309.out 5
                have hfz29_6 := blk_frozen BK309.out 6
                have hfz29_7 := blk_frozen BK309.out 7
                have hfz29_8 := blk_frozen BK309.out 8
                go_wp2_with (first | (go_at_call 21; (with_reducible refine (abacuslaw08_stops.calls a0_8 true _ A25.out).mono ?_); rintro e w' ⟨rfl, ⟨nd, rfl⟩⟩))
                go_meet
                case rel => exact ⟨_, (true), (by first | rfl | (simp; done) | (simp [*]; done)), H', ⟨by have := HJ2.out; first | omega | exact Nat.le_refl _⟩, ⟨by (with_reducible repeat (first | refine blk_drewN ?_ _ | refine blk_drew ?_ | refine blk_alloc ?_ _)); exact BK309.out⟩, ⟨by (with_reducible repeat (first | refine blk_drewN ?_ _ | refine blk_drew ?_ | refine blk_alloc ?_ _)); exact BK314.out⟩, ⟨by repeat (first | (with_reducible first | exact HB.out | apply below_alloc | apply pw_below_drewN | apply below_drew1 | refine below_set ?_ GE309.out | refine below_set ?_ GE314.out) | exact HB.out)⟩⟩
              · rw [if_neg c27] at H
                have c27b0 : decide (a0_0 < 0) = false := decide_eq_false c27
                clear c27
                (first | rw [c27b0] | (simp only [i64_w, i32_w]; rw [c27b0]) | skip)
                have H' := Aside0.mk H
                clear H
                have hnb30 := NB309_314.out
                have hnc30 := NB314_309.out
                have hcz31_0 : w23.cell? ⟨gb309, 0, none⟩ = some (.int .i64 a0_0) := (blk_cell BK309.out 0).trans rfl
                have hcz31_1 : w23.cell? ⟨gb309, 1, none⟩ = some (.int .i64 a0_1) := (blk_cell BK309.out 1).trans rfl
                have hcz31_2 : w23.cell? ⟨gb309, 2, none⟩ = some (.slice A0_2 l0_2.length c0_2) := (blk_cell BK309.out 2).trans rfl
                have hcz31_3 : w23.cell? ⟨gb309, 3, none⟩ = some (.bool a0_3) := (blk_cell BK309.out 3).trans rfl
                have hcz31_4 : w23.cell? ⟨gb309, 4, none⟩ = some (.slice A0_4 l0_4.length c0_4) := (blk_cell BK309.out 4).trans rfl
                have hcz31_5 : w23.cell? ⟨gb309, 5, none⟩ = some (.int .i64 a0_5) := (blk_cell BK309.out 5).trans rfl
                have hcz31_6 : w23.cell? ⟨gb309, 6, none⟩ = some (.int .i64 a0_6) := (blk_cell BK309.out 6).trans rfl
                have hcz31_7 : w23.cell? ⟨gb309, 7, none⟩ = some (.int .i64 a0_7) := (blk_cell BK309.out 7).trans rfl
                have hcz31_8 : w23.cell? ⟨gb309, 8, none⟩ = some (.string a0_8) := (blk_cell BK309.out 8).trans rfl
                have hfz31_0 := blk_frozen BK309.out 0
                have hfz31_1 := blk_frozen BK309.out 1
                have hfz31_2 := blk_frozen BK309.out 2
                have hfz31_3 := blk_frozen BK309.out 3
                have hfz31_4 := blk_frozen BK309.out 4
                have hfz31_5 := blk_frozen BK309.out 5
                have hfz31_6 := blk_frozen BK309.out 6
                have hfz31_7 := blk_frozen BK309.out 7
                have hfz31_8 := blk_frozen BK309.out 8
                go_wp2_with (first | (go_at_call 21; (with_reducible refine (abacuslaw08_stops.calls a0_8 true _ A25.out).mono ?_); rintro e w' ⟨rfl, ⟨nd, rfl⟩⟩))
                go_meet
                case rel => exact ⟨_, (decide (a0_0 > 1000)), (by first | rfl | (simp; done) | (simp [*]; done)), H', ⟨by have := HJ2.out; first | omega | exact Nat.le_refl _⟩, ⟨by (with_reducible repeat (first | refine blk_drewN ?_ _ | refine blk_drew ?_ | refine blk_alloc ?_ _)); exact BK309.out⟩, ⟨by (with_reducible repeat (first | refine blk_drewN ?_ _ | refine blk_drew ?_ | refine blk_alloc ?_ _)); exact BK314.out⟩, ⟨by repeat (first | (with_reducible first | exact HB.out | apply below_alloc | apply pw_below_drewN | apply below_drew1 | refine below_set ?_ GE309.out | refine below_set ?_ GE314.out) | exact HB.out)⟩⟩
            · replace c26 := Bool.eq_false_iff.mpr c26
              subst c26
              have H1 : (abacuslaw08_ScanBuilds.j1 kj2 t315 t316 t317 true a0_0 a0_1 l0_2 a0_3 l0_4 a0_5 a0_6 a0_7 a0_8) = some true := by rw [if_neg (show ¬ (false = true) by decide)] at H; exact H
              clear H
              have H := H1
              clear H1
              have H' := Aside0.mk H
              clear H
              have hnb32 := NB309_314.out
              have hnc32 := NB314_309.out
              have hcz33_0 : w23.cell? ⟨gb309, 0, none⟩ = some (.int .i64 a0_0) := (blk_cell BK309.out 0).trans rfl
              have hcz33_1 : w23.cell? ⟨gb309, 1, none⟩ = some (.int .i64 a0_1) := (blk_cell BK309.out 1).trans rfl
              have hcz33_2 : w23.cell? ⟨gb309, 2, none⟩ = some (.slice A0_2 l0_2.length c0_2) := (blk_cell BK309.out 2).trans rfl
              have hcz33_3 : w23.cell? ⟨gb309, 3, none⟩ = some (.bool a0_3) := (blk_cell BK309.out 3).trans rfl
              have hcz33_4 : w23.cell? ⟨gb309, 4, none⟩ = some (.slice A0_4 l0_4.length c0_4) := (blk_cell BK309.out 4).trans rfl
              have hcz33_5 : w23.cell? ⟨gb309, 5, none⟩ = some (.int .i64 a0_5) := (blk_cell BK309.out 5).trans rfl
              have hcz33_6 : w23.cell? ⟨gb309, 6, none⟩ = some (.int .i64 a0_6) := (blk_cell BK309.out 6).trans rfl
              have hcz33_7 : w23.cell? ⟨gb309, 7, none⟩ = some (.int .i64 a0_7) := (blk_cell BK309.out 7).trans rfl
              have hcz33_8 : w23.cell? ⟨gb309, 8, none⟩ = some (.string a0_8) := (blk_cell BK309.out 8).trans rfl
              have hfz33_0 := blk_frozen BK309.out 0
              have hfz33_1 := blk_frozen BK309.out 1
              have hfz33_2 := blk_frozen BK309.out 2
              have hfz33_3 := blk_frozen BK309.out 3
              have hfz33_4 := blk_frozen BK309.out 4
              have hfz33_5 := blk_frozen BK309.out 5
              have hfz33_6 := blk_frozen BK309.out 6
              have hfz33_7 := blk_frozen BK309.out 7
              have hfz33_8 := blk_frozen BK309.out 8
              go_wp2_with (first | (go_at_call 21; (with_reducible refine (abacuslaw08_stops.calls a0_8 false _ A25.out).mono ?_); rintro e w' ⟨rfl, ⟨nd, rfl⟩⟩))
              go_meet
              case rel => exact ⟨_, (true), (by first | rfl | (simp; done) | (simp [*]; done)), H', ⟨by have := HJ2.out; first | omega | exact Nat.le_refl _⟩, ⟨by (with_reducible repeat (first | refine blk_drewN ?_ _ | refine blk_drew ?_ | refine blk_alloc ?_ _)); exact BK309.out⟩, ⟨by (with_reducible repeat (first | refine blk_drewN ?_ _ | refine blk_drew ?_ | refine blk_alloc ?_ _)); exact BK314.out⟩, ⟨by repeat (first | (with_reducible first | exact HB.out | apply below_alloc | apply pw_below_drewN | apply below_drew1 | refine below_set ?_ GE309.out | refine below_set ?_ GE314.out) | exact HB.out)⟩⟩
          · replace c24 := Bool.eq_false_iff.mpr c24
            subst c24
            have H1 : (abacuslaw08_ScanBuilds.j1 kj2 t315 t316 t317 true a0_0 a0_1 l0_2 a0_3 l0_4 a0_5 a0_6 a0_7 a0_8) = some true := by rw [if_neg (show ¬ (false = true) by decide)] at H; exact H
            clear H
            have H := H1
            clear H1
            have H' := Aside0.mk H
            clear H
            go_wp2
            go_meet
            case rel => exact ⟨_, (true), (by first | rfl | (simp; done) | (simp [*]; done)), H', ⟨by have := HJ2.out; first | omega | exact Nat.le_refl _⟩, ⟨by (with_reducible repeat (first | refine blk_drewN ?_ _ | refine blk_drew ?_ | refine blk_alloc ?_ _)); exact BK309.out⟩, ⟨by (with_reducible repeat (first | refine blk_drewN ?_ _ | refine blk_drew ?_ | refine blk_alloc ?_ _)); exact BK314.out⟩, ⟨by repeat (first | (with_reducible first | exact HB.out | apply below_alloc | apply pw_below_drewN | apply below_drew1 | refine below_set ?_ GE309.out | refine below_set ?_ GE314.out) | exact HB.out)⟩⟩
        case rest =>
          clear HC20
          try clear c1
          try clear c2
          try clear p2
          try clear c3
          try clear c6
          try clear c7
          try clear c9
          try clear c9b0
          try clear c9b1
          try clear c10
          try clear c11
          try clear c13
          try clear c13b0
          try clear c13b1
          try clear c14
          try clear c16
          try clear c17
          try clear c18
          try clear c20
          try clear c21
          try clear c24
          try clear c26
          try clear c27
          try clear c27b0
          try clear c28
          try clear c30
          try clear c32
          try clear hcz12_0
          try clear hcz12_1
          try clear hcz12_2
          try clear hcz15_0
          try clear hcz15_1
          try clear hcz15_2
          try clear hcz17_0
          try clear hcz17_1
          try clear hcz17_2
          try clear hcz22_0
          try clear hcz22_1
          try clear hcz22_2
          try clear hcz22_3
          try clear hcz22_4
          try clear hcz22_5
          try clear hcz22_6
          try clear hcz22_7
          try clear hcz22_8
          try clear hcz29_0
          try clear hcz29_1
          try clear hcz29_2
          try clear hcz29_3
          try clear hcz29_4
          try clear hcz29_5
          try clear hcz29_6
          try clear hcz29_7
          try clear hcz29_8
          try clear hcz31_0
          try clear hcz31_1
          try clear hcz31_2
          try clear hcz31_3
          try clear hcz31_4
          try clear hcz31_5
          try clear hcz31_6
          try clear hcz31_7
          try clear hcz31_8
          try clear hcz33_0
          try clear hcz33_1
          try clear hcz33_2
          try clear hcz33_3
          try clear hcz33_4
          try clear hcz33_5
          try clear hcz33_6
          try clear hcz33_7
          try clear hcz33_8
          try clear hcz8_0
          try clear hcz8_1
          try clear hcz8_2
          try clear hfz12_0
          try clear hfz12_1
          try clear hfz12_2
          try clear hfz15_0
          try clear hfz15_1
          try clear hfz15_2
          try clear hfz17_0
          try clear hfz17_1
          try clear hfz17_2
          try clear hfz22_0
          try clear hfz22_1
          try clear hfz22_2
          try clear hfz22_3
          try clear hfz22_4
          try clear hfz22_5
          try clear hfz22_6
          try clear hfz22_7
          try clear hfz22_8
          try clear hfz29_0
          try clear hfz29_1
          try clear hfz29_2
          try clear hfz29_3
          try clear hfz29_4
          try clear hfz29_5
          try clear hfz29_6
          try clear hfz29_7
          try clear hfz29_8
          try clear hfz31_0
          try clear hfz31_1
          try clear hfz31_2
          try clear hfz31_3
          try clear hfz31_4
          try clear hfz31_5
          try clear hfz31_6
          try clear hfz31_7
          try clear hfz31_8
          try clear hfz33_0
          try clear hfz33_1
          try clear hfz33_2
          try clear hfz33_3
          try clear hfz33_4
          try clear hfz33_5
          try clear hfz33_6
          try clear hfz33_7
          try clear hfz33_8
          try clear hfz8_0
          try clear hfz8_1
          try clear hfz8_2
          try clear p2
          obtain ⟨kq, x58_19, rfl, HA, HJ19, BK309, BK314, HB⟩ := hcut
          cases kq with
          | zero => exact absurd HA.out (by simp [abacuslaw08_ScanBuilds.j1])
          | succ kj19 =>
            have H := HA.out
            clear HA
            simp only [abacuslaw08_ScanBuilds.j1] at H
            by_cases c34 : x58_19 = true
            · subst c34
              have H1 : (some true) = some true := rfl
              clear H
              have H := H1
              clear H1
              clear H
              go_wp2
              go_ret
              exact ⟨by first | rfl | (simp [errW_none, errW_some] <;> rfl) | (simp [*, errW_none, errW_some] <;> rfl), by repeat (first | (with_reducible first | exact HB.out | apply below_alloc | apply pw_below_drewN | apply below_drew1 | refine below_set ?_ GE309.out | refine below_set ?_ GE314.out) | exact HB.out)⟩
            · replace c34 := Bool.eq_false_iff.mpr c34
              subst c34
              have H1 : (abacuslaw08_ScanBuilds.l0 kj19 t315 t316 t317 (⟨#[]⟩ : ByteArray) 0 a0_0 a0_1 l0_2 a0_3 l0_4 a0_5 a0_6 a0_7 a0_8) = some true := by rw [if_neg (show ¬ (false = true) by decide)] at H; exact H
              clear H
              have H := H1
              clear H1
              have H' := Aside0.mk H
              clear H
              go_wp2
              go_loopg [9, 10] kj19 (fun kq v9 v10 w' => ∃ (x9_3 : ByteArray) (x10_3 : Int), v9 = .string x9_3 ∧ v10 = .int .i64 x10_3 ∧ Aside0 (abacuslaw08_ScanBuilds.l0 kq t315 t316 t317 x9_3 x10_3 a0_0 a0_1 l0_2 a0_3 l0_4 a0_5 a0_6 a0_7 a0_8 = some true) ∧ Aside0 (kq ≤ kj19) ∧ Aside0 (w'.heap[gb309]? = some (.cells #[.int .i64 a0_0, .int .i64 a0_1, (.slice A0_2 l0_2.length c0_2), .bool a0_3, (.slice A0_4 l0_4.length c0_4), .int .i64 a0_5, .int .i64 a0_6, .int .i64 a0_7, .string a0_8] 44 (0, 0))) ∧ Aside0 (w'.heap[gb314]? = some (.cells #[.bool t310, .string t311, .int .i64 t312] 23 (0, 0))) ∧ Aside0 (Below w.heap.size w w'))
              case atStart => exact ⟨((⟨#[]⟩ : ByteArray)), (0), (by first | rfl | (simp; done) | (simp [*]; done)), (by first | rfl | (simp; done) | (simp [*]; done)), H', ⟨Nat.le_refl _⟩, ⟨by (with_reducible repeat (first | refine blk_drewN ?_ _ | refine blk_drew ?_ | refine blk_alloc ?_ _)); exact BK309.out⟩, ⟨by (with_reducible repeat (first | refine blk_drewN ?_ _ | refine blk_drew ?_ | refine blk_alloc ?_ _)); exact BK314.out⟩, ⟨by repeat (first | (with_reducible first | exact HB.out | apply below_alloc | apply pw_below_drewN | apply below_drew1 | refine below_set ?_ GE309.out | refine below_set ?_ GE314.out) | exact HB.out)⟩⟩
              case round =>
                clear H'
                try clear c1
                try clear c2
                try clear p2
                try clear c3
                try clear c6
                try clear c7
                try clear c9
                try clear c9b0
                try clear c9b1
                try clear c10
                try clear c11
                try clear c13
                try clear c13b0
                try clear c13b1
                try clear c14
                try clear c16
                try clear c17
                try clear c18
                try clear c20
                try clear c21
                try clear c24
                try clear c26
                try clear c27
                try clear c27b0
                try clear c28
                try clear c30
                try clear c32
                try clear c34
                try clear hcz12_0
                try clear hcz12_1
                try clear hcz12_2
                try clear hcz15_0
                try clear hcz15_1
                try clear hcz15_2
                try clear hcz17_0
                try clear hcz17_1
                try clear hcz17_2
                try clear hcz22_0
                try clear hcz22_1
                try clear hcz22_2
                try clear hcz22_3
                try clear hcz22_4
                try clear hcz22_5
                try clear hcz22_6
                try clear hcz22_7
                try clear hcz22_8
                try clear hcz29_0
                try clear hcz29_1
                try clear hcz29_2
                try clear hcz29_3
                try clear hcz29_4
                try clear hcz29_5
                try clear hcz29_6
                try clear hcz29_7
                try clear hcz29_8
                try clear hcz31_0
                try clear hcz31_1
                try clear hcz31_2
                try clear hcz31_3
                try clear hcz31_4
                try clear hcz31_5
                try clear hcz31_6
                try clear hcz31_7
                try clear hcz31_8
                try clear hcz33_0
                try clear hcz33_1
                try clear hcz33_2
                try clear hcz33_3
                try clear hcz33_4
                try clear hcz33_5
                try clear hcz33_6
                try clear hcz33_7
                try clear hcz33_8
                try clear hcz8_0
                try clear hcz8_1
                try clear hcz8_2
                try clear hfz12_0
                try clear hfz12_1
                try clear hfz12_2
                try clear hfz15_0
                try clear hfz15_1
                try clear hfz15_2
                try clear hfz17_0
                try clear hfz17_1
                try clear hfz17_2
                try clear hfz22_0
                try clear hfz22_1
                try clear hfz22_2
                try clear hfz22_3
                try clear hfz22_4
                try clear hfz22_5
                try clear hfz22_6
                try clear hfz22_7
                try clear hfz22_8
                try clear hfz29_0
                try clear hfz29_1
                try clear hfz29_2
                try clear hfz29_3
                try clear hfz29_4
                try clear hfz29_5
                try clear hfz29_6
                try clear hfz29_7
                try clear hfz29_8
                try clear hfz31_0
                try clear hfz31_1
                try clear hfz31_2
                try clear hfz31_3
                try clear hfz31_4
                try clear hfz31_5
                try clear hfz31_6
                try clear hfz31_7
                try clear hfz31_8
                try clear hfz33_0
                try clear hfz33_1
                try clear hfz33_2
                try clear hfz33_3
                try clear hfz33_4
                try clear hfz33_5
                try clear hfz33_6
                try clear hfz33_7
                try clear hfz33_8
                try clear hfz8_0
                try clear hfz8_1
                try clear hfz8_2
                try clear p2
                obtain ⟨x9_3, x10_3, rfl, rfl, HA, HK3, BK309, BK314, HB⟩ := hrel
                cases gk with
                | zero => exact absurd HA.out (by simp [abacuslaw08_ScanBuilds.l0])
                | succ k3 =>
                  have H := HA.out
                  clear HA
                  simp only [abacuslaw08_ScanBuilds.l0] at H
                  by_cases c35 : x10_3 < a0_0
                  · rw [if_pos c35] at H
                    have c35b0 : decide (x10_3 < a0_0) = true := decide_eq_true c35
                    clear c35
                    obtain ⟨ji36, hji36⟩ : ∃ j_ : Int, (Int.tmod x10_3 6) = j_ := ⟨_, rfl⟩
                    replace H : (if 0 ≤ (ji36) then (if (ji36) ≤ (wrap64 ((ji36) + 1)) then (if (wrap64 ((ji36) + 1)) ≤ 6 then (if x9_3.size + ((⟨#[9, 10, 11, 12, 13, 32]⟩ : ByteArray).extract ((ji36) : Int).toNat ((wrap64 ((ji36) + 1)) : Int).toNat).size ≤ 9223372036854775807 then (abacuslaw08_ScanBuilds.l0 k3 t315 t316 t317 (x9_3 ++ ((⟨#[9, 10, 11, 12, 13, 32]⟩ : ByteArray).extract ((ji36) : Int).toNat ((wrap64 ((ji36) + 1)) : Int).toNat)) (wrap64 (x10_3 + 1)) a0_0 a0_1 l0_2 a0_3 l0_4 a0_5 a0_6 a0_7 a0_8) else (none)) else (none)) else (none)) else (none)) = some true := by first | (rw [hji36] at H; exact H) | (simp only [hji36] at H ⊢; exact H)
                    by_cases c37 : 0 ≤ (ji36)
                    · rw [if_pos c37] at H
                      have c37b0 := eq_true c37
                      have c37b1 : decide (0 ≤ (ji36)) = true := decide_eq_true c37
                      clear c37
                      by_cases c38 : (ji36) ≤ (wrap64 ((ji36) + 1))
                      · rw [if_pos c38] at H
                        have c38b0 := eq_true c38
                        have c38b1 : decide ((ji36) ≤ (wrap64 ((ji36) + 1))) = true := decide_eq_true c38
                        by_cases c39 : (wrap64 ((ji36) + 1)) ≤ 6
                        · rw [if_pos c39] at H
                          have c39b0 := eq_true c39
                          have c39b1 : decide ((wrap64 ((ji36) + 1)) ≤ 6) = true := decide_eq_true c39
                          by_cases c40 : x9_3.size + ((⟨#[9, 10, 11, 12, 13, 32]⟩ : ByteArray).extract ((ji36) : Int).toNat ((wrap64 ((ji36) + 1)) : Int).toNat).size ≤ 9223372036854775807
                          · rw [if_pos c40] at H
                            have c40b0 := eq_true c40
                            have c40b1 : decide (x9_3.size + ((⟨#[9, 10, 11, 12, 13, 32]⟩ : ByteArray).extract ((ji36) : Int).toNat ((wrap64 ((ji36) + 1)) : Int).toNat).size ≤ 9223372036854775807) = true := decide_eq_true c40
                            try have c40b2 : (9223372036854775807 < x9_3.size + ((⟨#[9, 10, 11, 12, 13, 32]⟩ : ByteArray).extract ((ji36) : Int).toNat ((wrap64 ((ji36) + 1)) : Int).toNat).size) = False := eq_false (Nat.not_lt.2 c40)
                            (try (have c40b4 : (9223372036854775807 < x9_3.size + (((wrap64 ((ji36) + 1)) : Int).toNat - ((ji36) : Int).toNat)) = False := eq_false (by have g_ : (wrap64 ((ji36) + 1)) ≤ 6 := of_decide_eq_true (by first | (with_reducible assumption) | assumption); have z_ : (⟨#[9, 10, 11, 12, 13, 32]⟩ : ByteArray).size = 6 := rfl; have h_ := of_eq_false c40b2; simp only [ByteArray.size_append, ByteArray.size_extract, z_] at h_; omega)))
                            have H' := Aside0.mk H
                            clear H
                            have hnb41 := NB309_314.out
                            have hnc41 := NB314_309.out
                            have hcz42_0 : wr.cell? ⟨gb309, 0, none⟩ = some (.int .i64 a0_0) := (blk_cell BK309.out 0).trans rfl
                            have hcz42_1 : wr.cell? ⟨gb309, 1, none⟩ = some (.int .i64 a0_1) := (blk_cell BK309.out 1).trans rfl
                            have hcz42_2 : wr.cell? ⟨gb309, 2, none⟩ = some (.slice A0_2 l0_2.length c0_2) := (blk_cell BK309.out 2).trans rfl
                            have hcz42_3 : wr.cell? ⟨gb309, 3, none⟩ = some (.bool a0_3) := (blk_cell BK309.out 3).trans rfl
                            have hcz42_4 : wr.cell? ⟨gb309, 4, none⟩ = some (.slice A0_4 l0_4.length c0_4) := (blk_cell BK309.out 4).trans rfl
                            have hcz42_5 : wr.cell? ⟨gb309, 5, none⟩ = some (.int .i64 a0_5) := (blk_cell BK309.out 5).trans rfl
                            have hcz42_6 : wr.cell? ⟨gb309, 6, none⟩ = some (.int .i64 a0_6) := (blk_cell BK309.out 6).trans rfl
                            have hcz42_7 : wr.cell? ⟨gb309, 7, none⟩ = some (.int .i64 a0_7) := (blk_cell BK309.out 7).trans rfl
                            have hcz42_8 : wr.cell? ⟨gb309, 8, none⟩ = some (.string a0_8) := (blk_cell BK309.out 8).trans rfl
                            have hfz42_0 := blk_frozen BK309.out 0
                            have hfz42_1 := blk_frozen BK309.out 1
                            have hfz42_2 := blk_frozen BK309.out 2
                            have hfz42_3 := blk_frozen BK309.out 3
                            have hfz42_4 := blk_frozen BK309.out 4
                            have hfz42_5 := blk_frozen BK309.out 5
                            have hfz42_6 := blk_frozen BK309.out 6
                            have hfz42_7 := blk_frozen BK309.out 7
                            have hfz42_8 := blk_frozen BK309.out 8
                            go_wp2
                            go_roundg k3
                            case measure => have := HJ2.out; have := HJ19.out; have := HK3.out; omega
                            case rel => exact ⟨(x9_3 ++ ((⟨#[9, 10, 11, 12, 13, 32]⟩ : ByteArray).extract ((ji36) : Int).toNat ((wrap64 ((ji36) + 1)) : Int).toNat)), (wrap64 (x10_3 + 1)), (by first | rfl | (simp; done) | (simp only [← hji36] <;> (first | rfl | simp)) | (simp [*]; done)), (by first | rfl | (simp; done) | (simp [*]; done)), H', ⟨by have := HJ2.out; have := HJ19.out; have := HK3.out; omega⟩, ⟨by (with_reducible repeat (first | refine blk_drewN ?_ _ | refine blk_drew ?_ | refine blk_alloc ?_ _)); exact BK309.out⟩, ⟨by (with_reducible repeat (first | refine blk_drewN ?_ _ | refine blk_drew ?_ | refine blk_alloc ?_ _)); exact BK314.out⟩, ⟨by repeat (first | (with_reducible first | exact HB.out | apply below_alloc | apply pw_below_drewN | apply below_drew1 | refine below_set ?_ GE309.out | refine below_set ?_ GE314.out) | exact HB.out)⟩⟩
                          · rw [if_neg c40] at H
                            exact absurd H (by simp)
                        · rw [if_neg c39] at H
                          exact absurd H (by simp)
                      · rw [if_neg c38] at H
                        exact absurd H (by simp)
                    · rw [if_neg c37] at H
                      exact absurd H (by simp)
                  · rw [if_neg c35] at H
                    have c35b0 : decide (x10_3 < a0_0) = false := decide_eq_false c35
                    clear c35
                    replace H := Option.bind_eq_some_iff.mp H
                    obtain ⟨⟨t320, t321, t322, t323⟩, A430, H⟩ := H
                    replace H : (if x9_3.size + t315.size ≤ 9223372036854775807 then (if (x9_3 ++ t315).size + a0_8.size ≤ 9223372036854775807 then ((scan_Number.f k3 ((x9_3 ++ t315) ++ a0_8)).bind fun bt325 => (if t323 = 0 then (if bt325.2.2.2 = (wrap64 ((x9_3.size : Int) + (t315.size : Int))) then (if (!(bt325.1 == t320) || (!(bt325.2.1.toList == t321.toList) || (!(bt325.2.2.1 == t322)))) = true then (some false) else (if (x9_3 ++ t315).size + x9_3.size ≤ 9223372036854775807 then ((scan_Whole.f k3 ((x9_3 ++ t315) ++ x9_3)).bind fun bt329 => (if bt329.2.2.2 = true then (some (bt329.1 == t320 && (bt329.2.1.toList == t321.toList && (bt329.2.2.1 == t322)))) else (some false))) else (none))) else (some false)) else (some false))) else (none)) else (none)) = some true := H
                    have A43 := Aside0.mk A430
                    clear A430
                    by_cases c44 : x9_3.size + t315.size ≤ 9223372036854775807
                    · rw [if_pos c44] at H
                      have c44b0 := eq_true c44
                      have c44b1 : decide (x9_3.size + t315.size ≤ 9223372036854775807) = true := decide_eq_true c44
                      try have c44b2 : (9223372036854775807 < x9_3.size + t315.size) = False := eq_false (Nat.not_lt.2 c44)
                      by_cases c45 : (x9_3 ++ t315).size + a0_8.size ≤ 9223372036854775807
                      · rw [if_pos c45] at H
                        have c45b0 := eq_true c45
                        have c45b1 : decide ((x9_3 ++ t315).size + a0_8.size ≤ 9223372036854775807) = true := decide_eq_true c45
                        try have c45b2 : (9223372036854775807 < (x9_3 ++ t315).size + a0_8.size) = False := eq_false (Nat.not_lt.2 c45)
                        (try (have c45b3 : (9223372036854775807 < x9_3.size + t315.size + a0_8.size) = False := by have h_ := c45b2; simp only [ByteArray.size_append] at h_; exact h_))
                        replace H := Option.bind_eq_some_iff.mp H
                        obtain ⟨⟨t325, t326, t327, t328⟩, A460, H⟩ := H
                        replace H : (if t323 = 0 then (if t328 = (wrap64 ((x9_3.size : Int) + (t315.size : Int))) then (if (!(t325 == t320) || (!(t326.toList == t321.toList) || (!(t327 == t322)))) = true then (some false) else (if (x9_3 ++ t315).size + x9_3.size ≤ 9223372036854775807 then ((scan_Whole.f k3 ((x9_3 ++ t315) ++ x9_3)).bind fun bt329 => (if bt329.2.2.2 = true then (some (bt329.1 == t320 && (bt329.2.1.toList == t321.toList && (bt329.2.2.1 == t322)))) else (some false))) else (none))) else (some false)) else (some false)) = some true := H
                        have A46 := Aside0.mk A460
                        clear A460
                        by_cases c47 : t323 = 0
                        · rw [if_pos c47] at H
                          have c47b0 : (t323 == 0) = true := beq_iff_eq.mpr c47
                          have c47b1 : (t323 != 0) = false := bne_eq_false_iff_eq.mpr c47
                          clear c47
                          by_cases c48 : t328 = (wrap64 ((x9_3.size : Int) + (t315.size : Int)))
                          · rw [if_pos c48] at H
                            have c48b0 : (t328 == (wrap64 ((x9_3.size : Int) + (t315.size : Int)))) = true := beq_iff_eq.mpr c48
                            have c48b1 : (t328 != (wrap64 ((x9_3.size : Int) + (t315.size : Int)))) = false := bne_eq_false_iff_eq.mpr c48
                            have c48u : t328 = ((x9_3.size : Int) + (t315.size : Int)) := by have h_ := of_eq_false c44b2; rw [c48]; unfold wrap64; omega
                            have c48v := eq_true c48u
                            have c48w : (t328 == ((x9_3.size : Int) + (t315.size : Int))) = true := beq_iff_eq.mpr c48u
                            have c48x : (t328 != ((x9_3.size : Int) + (t315.size : Int))) = false := bne_eq_false_iff_eq.mpr c48u
                            clear c48u
                            clear c48
                            by_cases c49 : (!(t325 == t320) || (!(t326.toList == t321.toList) || (!(t327 == t322)))) = true
                            · rw [if_pos c49] at H
                              have c49b0 : (!(t325 == t320) || (!(t326.toList == t321.toList) || (!(t327 == t322)))) = true := c49
                              clear c49
                              exact absurd H (by simp)
                            · rw [if_neg c49] at H
                              have c49b0 : (!(t325 == t320) || (!(t326.toList == t321.toList) || (!(t327 == t322)))) = false := by simpa using c49
                              clear c49
                              by_cases c50 : (x9_3 ++ t315).size + x9_3.size ≤ 9223372036854775807
                              · rw [if_pos c50] at H
                                have c50b0 := eq_true c50
                                have c50b1 : decide ((x9_3 ++ t315).size + x9_3.size ≤ 9223372036854775807) = true := decide_eq_true c50
                                try have c50b2 : (9223372036854775807 < (x9_3 ++ t315).size + x9_3.size) = False := eq_false (Nat.not_lt.2 c50)
                                (try (have c50b3 : (9223372036854775807 < x9_3.size + t315.size + x9_3.size) = False := by have h_ := c50b2; simp only [ByteArray.size_append] at h_; exact h_))
                                replace H := Option.bind_eq_some_iff.mp H
                                obtain ⟨⟨t329, t330, t331, t332⟩, A510, H⟩ := H
                                replace H : (if t332 = true then (some (t329 == t320 && (t330.toList == t321.toList && (t331 == t322)))) else (some false)) = some true := H
                                have A51 := Aside0.mk A510
                                clear A510
                                by_cases c52 : t332 = true
                                · subst c52
                                  have H1 : (some (t329 == t320 && (t330.toList == t321.toList && (t331 == t322)))) = some true := by rw [if_pos rfl] at H; exact H
                                  clear H
                                  have H := H1
                                  clear H1
                                  have HX := Aside0.mk (Option.some.inj H)
                                  clear H
                                  have hnb53 := NB309_314.out
                                  have hnc53 := NB314_309.out
                                  have hcz54_0 : wr.cell? ⟨gb309, 0, none⟩ = some (.int .i64 a0_0) := (blk_cell BK309.out 0).trans rfl
                                  have hcz54_1 : wr.cell? ⟨gb309, 1, none⟩ = some (.int .i64 a0_1) := (blk_cell BK309.out 1).trans rfl
                                  have hcz54_2 : wr.cell? ⟨gb309, 2, none⟩ = some (.slice A0_2 l0_2.length c0_2) := (blk_cell BK309.out 2).trans rfl
                                  have hcz54_3 : wr.cell? ⟨gb309, 3, none⟩ = some (.bool a0_3) := (blk_cell BK309.out 3).trans rfl
                                  have hcz54_4 : wr.cell? ⟨gb309, 4, none⟩ = some (.slice A0_4 l0_4.length c0_4) := (blk_cell BK309.out 4).trans rfl
                                  have hcz54_5 : wr.cell? ⟨gb309, 5, none⟩ = some (.int .i64 a0_5) := (blk_cell BK309.out 5).trans rfl
                                  have hcz54_6 : wr.cell? ⟨gb309, 6, none⟩ = some (.int .i64 a0_6) := (blk_cell BK309.out 6).trans rfl
                                  have hcz54_7 : wr.cell? ⟨gb309, 7, none⟩ = some (.int .i64 a0_7) := (blk_cell BK309.out 7).trans rfl
                                  have hcz54_8 : wr.cell? ⟨gb309, 8, none⟩ = some (.string a0_8) := (blk_cell BK309.out 8).trans rfl
                                  have hfz54_0 := blk_frozen BK309.out 0
                                  have hfz54_1 := blk_frozen BK309.out 1
                                  have hfz54_2 := blk_frozen BK309.out 2
                                  have hfz54_3 := blk_frozen BK309.out 3
                                  have hfz54_4 := blk_frozen BK309.out 4
                                  have hfz54_5 := blk_frozen BK309.out 5
                                  have hfz54_6 := blk_frozen BK309.out 6
                                  have hfz54_7 := blk_frozen BK309.out 7
                                  have hfz54_8 := blk_frozen BK309.out 8
                                  go_wp2_with (first | ((with_reducible refine gate_callee (f := 13) rfl ?_); refine goesL_ (some 80) rfl rfl Tryd.func13 (by kernel_rfl) rfl #[.agg #[.bool (a0_1 == 2), .string t316, .int .i64 t317]] rfl (by (try simp only [List.map_toArray, List.map_cons, List.map_nil]); first | done | rfl | (simp only [List.length_drop, List.length_take]; rfl)) ?_; (with_reducible refine (scan_Norm.calls k3 (a0_1 == 2) t316 t317 t320 t321 t322 t323 _ A43.out).mono ?_); rintro e w55 ⟨rfl, hb⟩; refine ⟨_, rfl, ?_⟩; have n0_ := Aside0.mk (blk_below (g := gb309) (o := .cells #[.int .i64 a0_0, .int .i64 a0_1, .slice A0_2 l0_2.length c0_2, .bool a0_3, .slice A0_4 l0_4.length c0_4, .int .i64 a0_5, .int .i64 a0_6, .int .i64 a0_7, .string a0_8] 44 (0, 0)) (by (with_reducible repeat (first | refine blk_drewN ?_ _ | refine blk_drew ?_ | refine blk_alloc ?_ _)); exact BK309.out) hb); have n1_ := Aside0.mk (blk_below (g := gb314) (o := .cells #[.bool t310, .string t311, .int .i64 t312] 23 (0, 0)) (by (with_reducible repeat (first | refine blk_drewN ?_ _ | refine blk_drew ?_ | refine blk_alloc ?_ _)); exact BK314.out) hb); have n2_ := Aside0.mk (below_step (by repeat (first | (with_reducible first | exact HB.out | apply below_alloc | apply pw_below_drewN | apply below_drew1 | refine below_set ?_ GE309.out | refine below_set ?_ GE314.out) | exact HB.out)) hb); clear BK309; clear BK314; clear HB; have BK309 := n0_; have BK314 := n1_; have HB := n2_; clear n0_ n1_ n2_; (try clear hb); (try clear hb2); (try clear hk); (try clear hi)) | ((with_reducible refine gate_dst (N := 11) rfl ?_); (try (refine gate_guard (by rfl) ?_; dsimp only)); refine box_event ?hg (N := 11) ?hd (cs := #[.bool false, .string (⟨#[]⟩ : ByteArray), .int .i64 0]) (t := 23) ?hr ?_; (case hd => rfl); (case hg => rfl); (case hr => first | (go_simp; done) | (go_simp; rfl)); intro gb324 hg w56 hbox hb; have n0_ := Aside0.mk (blk_below (g := gb309) (o := .cells #[.int .i64 a0_0, .int .i64 a0_1, .slice A0_2 l0_2.length c0_2, .bool a0_3, .slice A0_4 l0_4.length c0_4, .int .i64 a0_5, .int .i64 a0_6, .int .i64 a0_7, .string a0_8] 44 (0, 0)) (by (with_reducible repeat (first | refine blk_drewN ?_ _ | refine blk_drew ?_ | refine blk_alloc ?_ _)); exact BK309.out) hb); have n1_ := Aside0.mk (blk_below (g := gb314) (o := .cells #[.bool t310, .string t311, .int .i64 t312] 23 (0, 0)) (by (with_reducible repeat (first | refine blk_drewN ?_ _ | refine blk_drew ?_ | refine blk_alloc ?_ _)); exact BK314.out) hb); have n2_ := Aside0.mk (below_step (by repeat (first | (with_reducible first | exact HB.out | apply below_alloc | apply pw_below_drewN | apply below_drew1 | refine below_set ?_ GE309.out | refine below_set ?_ GE314.out) | exact HB.out)) hb); have n3_ := Aside0.mk (hbox); have n4_ := Aside0.mk ((by rw [hg]; exact (below_size (by repeat (first | (with_reducible first | exact HB.out | apply below_alloc | apply pw_below_drewN | apply below_drew1 | refine below_set ?_ GE309.out | refine below_set ?_ GE314.out) | exact HB.out))) : w.heap.size ≤ gb324)); have n5_ := Aside0.mk ((by rw [hg]; exact (below_size (by repeat (first | (with_reducible first | exact HB.out | apply below_alloc | apply pw_below_drewN | apply below_drew1 | refine below_set ?_ GE309.out | refine below_set ?_ GE314.out) | exact HB.out))) : w.heap.size ≤ gb324)); have n6_ := Aside0.mk ((by rw [hg]; exact Nat.ne_of_lt (blk_lt (g := gb309) (o := .cells #[.int .i64 a0_0, .int .i64 a0_1, .slice A0_2 l0_2.length c0_2, .bool a0_3, .slice A0_4 l0_4.length c0_4, .int .i64 a0_5, .int .i64 a0_6, .int .i64 a0_7, .string a0_8] 44 (0, 0)) (by (with_reducible repeat (first | refine blk_drewN ?_ _ | refine blk_drew ?_ | refine blk_alloc ?_ _)); exact BK309.out)) : gb309 ≠ gb324)); have n7_ := Aside0.mk ((by rw [hg]; exact Nat.ne_of_gt (blk_lt (g := gb309) (o := .cells #[.int .i64 a0_0, .int .i64 a0_1, .slice A0_2 l0_2.length c0_2, .bool a0_3, .slice A0_4 l0_4.length c0_4, .int .i64 a0_5, .int .i64 a0_6, .int .i64 a0_7, .string a0_8] 44 (0, 0)) (by (with_reducible repeat (first | refine blk_drewN ?_ _ | refine blk_drew ?_ | refine blk_alloc ?_ _)); exact BK309.out)) : gb324 ≠ gb309)); have n8_ := Aside0.mk ((by rw [hg]; exact Nat.ne_of_lt (blk_lt (g := gb314) (o := .cells #[.bool t310, .string t311, .int .i64 t312] 23 (0, 0)) (by (with_reducible repeat (first | refine blk_drewN ?_ _ | refine blk_drew ?_ | refine blk_alloc ?_ _)); exact BK314.out)) : gb314 ≠ gb324)); have n9_ := Aside0.mk ((by rw [hg]; exact Nat.ne_of_gt (blk_lt (g := gb314) (o := .cells #[.bool t310, .string t311, .int .i64 t312] 23 (0, 0)) (by (with_reducible repeat (first | refine blk_drewN ?_ _ | refine blk_drew ?_ | refine blk_alloc ?_ _)); exact BK314.out)) : gb324 ≠ gb314)); clear BK309; clear BK314; clear HB; have BK309 := n0_; have BK314 := n1_; have HB := n2_; have BK324 := n3_; have GW324 := n4_; have GE324 := n5_; have NB309_324 := n6_; have NB324_309 := n7_; have NB314_324 := n8_; have NB324_314 := n9_; clear n0_ n1_ n2_ n3_ n4_ n5_ n6_ n7_ n8_ n9_; clear hb hbox hg; have hnb57 := NB324_309.out; have hnc57 := NB309_324.out; have hnb58 := NB324_314.out; have hnc58 := NB314_324.out; have hcz59_0 : w56.cell? ⟨gb324, 0, none⟩ = some (.bool false) := (blk_cell BK324.out 0).trans rfl; have hcz59_1 : w56.cell? ⟨gb324, 1, none⟩ = some (.string (⟨#[]⟩ : ByteArray)) := (blk_cell BK324.out 1).trans rfl; have hcz59_2 : w56.cell? ⟨gb324, 2, none⟩ = some (.int .i64 0) := (blk_cell BK324.out 2).trans rfl; have hfz59_0 := blk_frozen BK324.out 0; have hfz59_1 := blk_frozen BK324.out 1; have hfz59_2 := blk_frozen BK324.out 2; have hcz60_0 : w56.cell? ⟨gb309, 0, none⟩ = some (.int .i64 a0_0) := (blk_cell BK309.out 0).trans rfl; have hcz60_1 : w56.cell? ⟨gb309, 1, none⟩ = some (.int .i64 a0_1) := (blk_cell BK309.out 1).trans rfl; have hcz60_2 : w56.cell? ⟨gb309, 2, none⟩ = some (.slice A0_2 l0_2.length c0_2) := (blk_cell BK309.out 2).trans rfl; have hcz60_3 : w56.cell? ⟨gb309, 3, none⟩ = some (.bool a0_3) := (blk_cell BK309.out 3).trans rfl; have hcz60_4 : w56.cell? ⟨gb309, 4, none⟩ = some (.slice A0_4 l0_4.length c0_4) := (blk_cell BK309.out 4).trans rfl; have hcz60_5 : w56.cell? ⟨gb309, 5, none⟩ = some (.int .i64 a0_5) := (blk_cell BK309.out 5).trans rfl; have hcz60_6 : w56.cell? ⟨gb309, 6, none⟩ = some (.int .i64 a0_6) := (blk_cell BK309.out 6).trans rfl; have hcz60_7 : w56.cell? ⟨gb309, 7, none⟩ = some (.int .i64 a0_7) := (blk_cell BK309.out 7).trans rfl; have hcz60_8 : w56.cell? ⟨gb309, 8, none⟩ = some (.string a0_8) := (blk_cell BK309.out 8).trans rfl; have hfz60_0 := blk_frozen BK309.out 0; have hfz60_1 := blk_frozen BK309.out 1; have hfz60_2 := blk_frozen BK309.out 2; have hfz60_3 := blk_frozen BK309.out 3; have hfz60_4 := blk_frozen BK309.out 4; have hfz60_5 := blk_frozen BK309.out 5; have hfz60_6 := blk_frozen BK309.out 6; have hfz60_7 := blk_frozen BK309.out 7; have hfz60_8 := blk_frozen BK309.out 8) | ((with_reducible refine gate_callee (f := 17) rfl ?_); refine goesL_ (some 90) rfl rfl Tryd.func17 (by kernel_rfl) rfl #[.string ((x9_3 ++ t315) ++ a0_8)] rfl (by (try simp only [List.map_toArray, List.map_cons, List.map_nil]); first | done | rfl | (simp only [List.length_drop, List.length_take]; rfl)) ?_; (with_reducible refine (scan_Number.calls k3 ((x9_3 ++ t315) ++ a0_8) t325 t326 t327 t328 _ A46.out).mono ?_); rintro e w61 ⟨rfl, hb⟩; refine ⟨_, rfl, ?_⟩; have n0_ := Aside0.mk (blk_below (g := gb309) (o := .cells #[.int .i64 a0_0, .int .i64 a0_1, .slice A0_2 l0_2.length c0_2, .bool a0_3, .slice A0_4 l0_4.length c0_4, .int .i64 a0_5, .int .i64 a0_6, .int .i64 a0_7, .string a0_8] 44 (0, 0)) (by (with_reducible repeat (first | refine blk_drewN ?_ _ | refine blk_drew ?_ | refine blk_alloc ?_ _)); refine blk_far ?_ NB309_324.out _; (with_reducible repeat (first | refine blk_drewN ?_ _ | refine blk_drew ?_ | refine blk_alloc ?_ _)); refine blk_far ?_ NB309_324.out _; (with_reducible repeat (first | refine blk_drewN ?_ _ | refine blk_drew ?_ | refine blk_alloc ?_ _)); refine blk_far ?_ NB309_324.out _; (with_reducible repeat (first | refine blk_drewN ?_ _ | refine blk_drew ?_ | refine blk_alloc ?_ _)); exact BK309.out) hb); have n1_ := Aside0.mk (blk_below (g := gb314) (o := .cells #[.bool t310, .string t311, .int .i64 t312] 23 (0, 0)) (by (with_reducible repeat (first | refine blk_drewN ?_ _ | refine blk_drew ?_ | refine blk_alloc ?_ _)); refine blk_far ?_ NB314_324.out _; (with_reducible repeat (first | refine blk_drewN ?_ _ | refine blk_drew ?_ | refine blk_alloc ?_ _)); refine blk_far ?_ NB314_324.out _; (with_reducible repeat (first | refine blk_drewN ?_ _ | refine blk_drew ?_ | refine blk_alloc ?_ _)); refine blk_far ?_ NB314_324.out _; (with_reducible repeat (first | refine blk_drewN ?_ _ | refine blk_drew ?_ | refine blk_alloc ?_ _)); exact BK314.out) hb); have n2_ := Aside0.mk (blk_below (g := gb324) (o := .cells #[.bool t320, .string t321, .int .i64 t322] 23 (0, 0)) (by (with_reducible repeat (first | refine blk_drewN ?_ _ | refine blk_drew ?_ | refine blk_alloc ?_ _)); refine blk_put (cs := #[.bool t320, .string t321, .int .i64 0]) ?_ 2 _ rfl; (with_reducible repeat (first | refine blk_drewN ?_ _ | refine blk_drew ?_ | refine blk_alloc ?_ _)); refine blk_put (cs := #[.bool t320, .string (⟨#[]⟩ : ByteArray), .int .i64 0]) ?_ 1 _ rfl; (with_reducible repeat (first | refine blk_drewN ?_ _ | refine blk_drew ?_ | refine blk_alloc ?_ _)); refine blk_put (cs := #[.bool false, .string (⟨#[]⟩ : ByteArray), .int .i64 0]) ?_ 0 _ rfl; (with_reducible repeat (first | refine blk_drewN ?_ _ | refine blk_drew ?_ | refine blk_alloc ?_ _)); exact BK324.out) hb); have n3_ := Aside0.mk (below_step (by repeat (first | (with_reducible first | exact HB.out | apply below_alloc | apply pw_below_drewN | apply below_drew1 | refine below_set ?_ GE309.out | refine below_set ?_ GE314.out | refine below_set ?_ GE324.out) | exact HB.out)) hb); clear BK309; clear BK314; clear BK324; clear HB; have BK309 := n0_; have BK314 := n1_; have BK324 := n2_; have HB := n3_; clear n0_ n1_ n2_ n3_; (try clear hb); (try clear hb2); (try clear hk); (try clear hi); have hcz62_0 : w61.cell? ⟨gb314, 0, none⟩ = some (.bool t310) := (blk_cell BK314.out 0).trans rfl; have hcz62_1 : w61.cell? ⟨gb314, 1, none⟩ = some (.string t311) := (blk_cell BK314.out 1).trans rfl; have hcz62_2 : w61.cell? ⟨gb314, 2, none⟩ = some (.int .i64 t312) := (blk_cell BK314.out 2).trans rfl; have hfz62_0 := blk_frozen BK314.out 0; have hfz62_1 := blk_frozen BK314.out 1; have hfz62_2 := blk_frozen BK314.out 2; have hcz63_0 : w61.cell? ⟨gb324, 0, none⟩ = some (.bool t320) := (blk_cell BK324.out 0).trans rfl; have hcz63_1 : w61.cell? ⟨gb324, 1, none⟩ = some (.string t321) := (blk_cell BK324.out 1).trans rfl; have hcz63_2 : w61.cell? ⟨gb324, 2, none⟩ = some (.int .i64 t322) := (blk_cell BK324.out 2).trans rfl; have hfz63_0 := blk_frozen BK324.out 0; have hfz63_1 := blk_frozen BK324.out 1; have hfz63_2 := blk_frozen BK324.out 2) | ((with_reducible refine gate_callee (f := 18) rfl ?_); refine goesL_ (some 115) rfl rfl Tryd.func18 (by kernel_rfl) rfl #[.string ((x9_3 ++ t315) ++ x9_3)] rfl (by (try simp only [List.map_toArray, List.map_cons, List.map_nil]); first | done | rfl | (simp only [List.length_drop, List.length_take]; rfl)) ?_; (with_reducible refine (scan_Whole.calls k3 ((x9_3 ++ t315) ++ x9_3) t329 t330 t331 true _ A51.out).mono ?_); rintro e w64 ⟨rfl, hb⟩; refine ⟨_, rfl, ?_⟩; have n0_ := Aside0.mk (blk_below (g := gb309) (o := .cells #[.int .i64 a0_0, .int .i64 a0_1, .slice A0_2 l0_2.length c0_2, .bool a0_3, .slice A0_4 l0_4.length c0_4, .int .i64 a0_5, .int .i64 a0_6, .int .i64 a0_7, .string a0_8] 44 (0, 0)) (by (with_reducible repeat (first | refine blk_drewN ?_ _ | refine blk_drew ?_ | refine blk_alloc ?_ _)); refine blk_far ?_ NB309_314.out _; (with_reducible repeat (first | refine blk_drewN ?_ _ | refine blk_drew ?_ | refine blk_alloc ?_ _)); refine blk_far ?_ NB309_314.out _; (with_reducible repeat (first | refine blk_drewN ?_ _ | refine blk_drew ?_ | refine blk_alloc ?_ _)); refine blk_far ?_ NB309_314.out _; (with_reducible repeat (first | refine blk_drewN ?_ _ | refine blk_drew ?_ | refine blk_alloc ?_ _)); exact BK309.out) hb); have n1_ := Aside0.mk (blk_below (g := gb314) (o := .cells #[.bool t325, .string t326, .int .i64 t327] 23 (0, 0)) (by (with_reducible repeat (first | refine blk_drewN ?_ _ | refine blk_drew ?_ | refine blk_alloc ?_ _)); refine blk_put (cs := #[.bool t325, .string t326, .int .i64 t312]) ?_ 2 _ rfl; (with_reducible repeat (first | refine blk_drewN ?_ _ | refine blk_drew ?_ | refine blk_alloc ?_ _)); refine blk_put (cs := #[.bool t325, .string t311, .int .i64 t312]) ?_ 1 _ rfl; (with_reducible repeat (first | refine blk_drewN ?_ _ | refine blk_drew ?_ | refine blk_alloc ?_ _)); refine blk_put (cs := #[.bool t310, .string t311, .int .i64 t312]) ?_ 0 _ rfl; (with_reducible repeat (first | refine blk_drewN ?_ _ | refine blk_drew ?_ | refine blk_alloc ?_ _)); exact BK314.out) hb); have n2_ := Aside0.mk (blk_below (g := gb324) (o := .cells #[.bool t320, .string t321, .int .i64 t322] 23 (0, 0)) (by (with_reducible repeat (first | refine blk_drewN ?_ _ | refine blk_drew ?_ | refine blk_alloc ?_ _)); refine blk_far ?_ NB324_314.out _; (with_reducible repeat (first | refine blk_drewN ?_ _ | refine blk_drew ?_ | refine blk_alloc ?_ _)); refine blk_far ?_ NB324_314.out _; (with_reducible repeat (first | refine blk_drewN ?_ _ | refine blk_drew ?_ | refine blk_alloc ?_ _)); refine blk_far ?_ NB324_314.out _; (with_reducible repeat (first | refine blk_drewN ?_ _ | refine blk_drew ?_ | refine blk_alloc ?_ _)); exact BK324.out) hb); have n3_ := Aside0.mk (below_step (by repeat (first | (with_reducible first | exact HB.out | apply below_alloc | apply pw_below_drewN | apply below_drew1 | refine below_set ?_ GE309.out | refine below_set ?_ GE314.out | refine below_set ?_ GE324.out) | exact HB.out)) hb); clear BK309; clear BK314; clear BK324; clear HB; have BK309 := n0_; have BK314 := n1_; have BK324 := n2_; have HB := n3_; clear n0_ n1_ n2_ n3_; (try clear hb); (try clear hb2); (try clear hk); (try clear hi)) | ((with_reducible refine gate_dst (N := 13) rfl ?_); (try (refine gate_guard (by rfl) ?_; dsimp only)); refine box_event ?hg (N := 13) ?hd (cs := #[.bool false, .string (⟨#[]⟩ : ByteArray), .int .i64 0]) (t := 23) ?hr ?_; (case hd => rfl); (case hg => rfl); (case hr => first | (go_simp; done) | (go_simp; rfl)); intro gb333 hg w65 hbox hb; have n0_ := Aside0.mk (blk_below (g := gb309) (o := .cells #[.int .i64 a0_0, .int .i64 a0_1, .slice A0_2 l0_2.length c0_2, .bool a0_3, .slice A0_4 l0_4.length c0_4, .int .i64 a0_5, .int .i64 a0_6, .int .i64 a0_7, .string a0_8] 44 (0, 0)) (by (with_reducible repeat (first | refine blk_drewN ?_ _ | refine blk_drew ?_ | refine blk_alloc ?_ _)); exact BK309.out) hb); have n1_ := Aside0.mk (blk_below (g := gb314) (o := .cells #[.bool t325, .string t326, .int .i64 t327] 23 (0, 0)) (by (with_reducible repeat (first | refine blk_drewN ?_ _ | refine blk_drew ?_ | refine blk_alloc ?_ _)); exact BK314.out) hb); have n2_ := Aside0.mk (blk_below (g := gb324) (o := .cells #[.bool t320, .string t321, .int .i64 t322] 23 (0, 0)) (by (with_reducible repeat (first | refine blk_drewN ?_ _ | refine blk_drew ?_ | refine blk_alloc ?_ _)); exact BK324.out) hb); have n3_ := Aside0.mk (below_step (by repeat (first | (with_reducible first | exact HB.out | apply below_alloc | apply pw_below_drewN | apply below_drew1 | refine below_set ?_ GE309.out | refine below_set ?_ GE314.out | refine below_set ?_ GE324.out) | exact HB.out)) hb); have n4_ := Aside0.mk (hbox); have n5_ := Aside0.mk ((by rw [hg]; exact (below_size (by repeat (first | (with_reducible first | exact HB.out | apply below_alloc | apply pw_below_drewN | apply below_drew1 | refine below_set ?_ GE309.out | refine below_set ?_ GE314.out | refine below_set ?_ GE324.out) | exact HB.out))) : w.heap.size ≤ gb333)); have n6_ := Aside0.mk ((by rw [hg]; exact (below_size (by repeat (first | (with_reducible first | exact HB.out | apply below_alloc | apply pw_below_drewN | apply below_drew1 | refine below_set ?_ GE309.out | refine below_set ?_ GE314.out | refine below_set ?_ GE324.out) | exact HB.out))) : w.heap.size ≤ gb333)); have n7_ := Aside0.mk ((by rw [hg]; exact Nat.ne_of_lt (blk_lt (g := gb309) (o := .cells #[.int .i64 a0_0, .int .i64 a0_1, .slice A0_2 l0_2.length c0_2, .bool a0_3, .slice A0_4 l0_4.length c0_4, .int .i64 a0_5, .int .i64 a0_6, .int .i64 a0_7, .string a0_8] 44 (0, 0)) (by (with_reducible repeat (first | refine blk_drewN ?_ _ | refine blk_drew ?_ | refine blk_alloc ?_ _)); exact BK309.out)) : gb309 ≠ gb333)); have n8_ := Aside0.mk ((by rw [hg]; exact Nat.ne_of_gt (blk_lt (g := gb309) (o := .cells #[.int .i64 a0_0, .int .i64 a0_1, .slice A0_2 l0_2.length c0_2, .bool a0_3, .slice A0_4 l0_4.length c0_4, .int .i64 a0_5, .int .i64 a0_6, .int .i64 a0_7, .string a0_8] 44 (0, 0)) (by (with_reducible repeat (first | refine blk_drewN ?_ _ | refine blk_drew ?_ | refine blk_alloc ?_ _)); exact BK309.out)) : gb333 ≠ gb309)); have n9_ := Aside0.mk ((by rw [hg]; exact Nat.ne_of_lt (blk_lt (g := gb314) (o := .cells #[.bool t325, .string t326, .int .i64 t327] 23 (0, 0)) (by (with_reducible repeat (first | refine blk_drewN ?_ _ | refine blk_drew ?_ | refine blk_alloc ?_ _)); exact BK314.out)) : gb314 ≠ gb333)); have n10_ := Aside0.mk ((by rw [hg]; exact Nat.ne_of_gt (blk_lt (g := gb314) (o := .cells #[.bool t325, .string t326, .int .i64 t327] 23 (0, 0)) (by (with_reducible repeat (first | refine blk_drewN ?_ _ | refine blk_drew ?_ | refine blk_alloc ?_ _)); exact BK314.out)) : gb333 ≠ gb314)); have n11_ := Aside0.mk ((by rw [hg]; exact Nat.ne_of_lt (blk_lt (g := gb324) (o := .cells #[.bool t320, .string t321, .int .i64 t322] 23 (0, 0)) (by (with_reducible repeat (first | refine blk_drewN ?_ _ | refine blk_drew ?_ | refine blk_alloc ?_ _)); exact BK324.out)) : gb324 ≠ gb333)); have n12_ := Aside0.mk ((by rw [hg]; exact Nat.ne_of_gt (blk_lt (g := gb324) (o := .cells #[.bool t320, .string t321, .int .i64 t322] 23 (0, 0)) (by (with_reducible repeat (first | refine blk_drewN ?_ _ | refine blk_drew ?_ | refine blk_alloc ?_ _)); exact BK324.out)) : gb333 ≠ gb324)); clear BK309; clear BK314; clear BK324; clear HB; have BK309 := n0_; have BK314 := n1_; have BK324 := n2_; have HB := n3_; have BK333 := n4_; have GW333 := n5_; have GE333 := n6_; have NB309_333 := n7_; have NB333_309 := n8_; have NB314_333 := n9_; have NB333_314 := n10_; have NB324_333 := n11_; have NB333_324 := n12_; clear n0_ n1_ n2_ n3_ n4_ n5_ n6_ n7_ n8_ n9_ n10_ n11_ n12_; clear hb hbox hg; have hnb66 := NB333_309.out; have hnc66 := NB309_333.out; have hnb67 := NB333_314.out; have hnc67 := NB314_333.out; have hnb68 := NB333_324.out; have hnc68 := NB324_333.out; have hcz69_0 : w65.cell? ⟨gb333, 0, none⟩ = some (.bool false) := (blk_cell BK333.out 0).trans rfl; have hcz69_1 : w65.cell? ⟨gb333, 1, none⟩ = some (.string (⟨#[]⟩ : ByteArray)) := (blk_cell BK333.out 1).trans rfl; have hcz69_2 : w65.cell? ⟨gb333, 2, none⟩ = some (.int .i64 0) := (blk_cell BK333.out 2).trans rfl; have hfz69_0 := blk_frozen BK333.out 0; have hfz69_1 := blk_frozen BK333.out 1; have hfz69_2 := blk_frozen BK333.out 2; have hcz70_0 : w65.cell? ⟨gb324, 0, none⟩ = some (.bool t320) := (blk_cell BK324.out 0).trans rfl; have hcz70_1 : w65.cell? ⟨gb324, 1, none⟩ = some (.string t321) := (blk_cell BK324.out 1).trans rfl; have hcz70_2 : w65.cell? ⟨gb324, 2, none⟩ = some (.int .i64 t322) := (blk_cell BK324.out 2).trans rfl; have hfz70_0 := blk_frozen BK324.out 0; have hfz70_1 := blk_frozen BK324.out 1; have hfz70_2 := blk_frozen BK324.out 2))
                                  go_ret
                                  exact ⟨by first | exact congrArg (fun b_ => Ending.returned (Value.bool b_)) HX.out | (have hx_ := HX.out; simp at hx_ ⊢; done) | (have hx_ := HX.out; simp at hx_ ⊢; exact hx_) | (have hx_ := HX.out; simp_all) | (simp [*, errW_none, errW_some] <;> rfl), by repeat (first | (with_reducible first | exact HB.out | apply below_alloc | apply pw_below_drewN | apply below_drew1 | refine below_set ?_ GE309.out | refine below_set ?_ GE314.out | refine below_set ?_ GE324.out | refine below_set ?_ GE333.out) | exact HB.out)⟩
                                · replace c52 := Bool.eq_false_iff.mpr c52
                                  subst c52
                                  have H1 : (some false) = some true := by rw [if_neg (show ¬ (false = true) by decide)] at H; exact H
                                  clear H
                                  have H := H1
                                  clear H1
                                  exact absurd H (by simp)
                              · rw [if_neg c50] at H
                                exact absurd H (by simp)
                          · rw [if_neg c48] at H
                            have c48b0 : (t328 == (wrap64 ((x9_3.size : Int) + (t315.size : Int)))) = false := beq_eq_false_iff_ne.mpr c48
                            have c48b1 : (t328 != (wrap64 ((x9_3.size : Int) + (t315.size : Int)))) = true := bne_iff_ne.mpr c48
                            exact absurd H (by simp)
                        · rw [if_neg c47] at H
                          have c47b0 : (t323 == 0) = false := beq_eq_false_iff_ne.mpr c47
                          have c47b1 : (t323 != 0) = true := bne_iff_ne.mpr c47
                          exact absurd H (by simp)
                      · rw [if_neg c45] at H
                        exact absurd H (by simp)
                    · rw [if_neg c44] at H
                      exact absurd H (by simp)
end Go.Proofs.YtcgjfckhnpimbaaDoor.EScan
