/-
  A text of this session's own.
-/
import Derived.Test.YtlmijjekaelhcaaDoorSiEDix0
import Derived.Test.YtlmijjekaelhcaaDoorSiEDix3
import Derived.Test.YtlmijjekaelhcaaDoorSiEDix5
import Derived.Test.YtlmijjekaelhcaaDoorSiEDix12
import Derived.Test.YtlmijjekaelhcaaDoorSiEDix24
import Derived.Test.YtlmijjekaelhcaaDoorSiEDix29
import Derived.Test.YtlmijjekaelhcaaDoorSiEDmx31
import Derived.Test.YtlmijjekaelhcaaDoorSiEDmx32
import Derived.Test.YtlmijjekaelhcaaDoorSiX
namespace Go.Proofs.YtlmijjekaelhcaaDoor.EDi
open Go.RowKit Go.Proofs.YtlmijjekaelhcaaDoorW.PrintWords Go.Proofs.YtlmijjekaelhcaaDoorW.PrintLast Go.Proofs.YtlmijjekaelhcaaDoorW.PrintMore
attribute [local go_sem] max2_int min2_int max_two min_two max_three min_three max_four min_four   -- for this text's walks alone
set_option linter.unusedVariables false
set_option linter.unusedSimpArgs false
open Go.Proofs.YtlmijjekaelhcaaDoor.X
attribute [local go_sem high] eqA37
mutual
def abacuslaw13_DirectiveSingle.j0 : Nat → ByteArray → ByteArray → Bool → ByteArray → Int → Int → Int → Int → Int → Int → Option (Bool)
  | 0, _, _, _, _, _, _, _, _, _, _ => none
  | k + 1, x0, x2, x35, x534000, x534001, x534002, x534003, x534004, x534005, x534006 => if x35 = true then (some true) else ((abacuslaw13_cut.f k x0).bind fun t535 => (if ([] : List (S25)).length + t535.length < 2199023255552 then ((some (([] : List (S25)) ++ t535 : List (S25))).bind fun y538 => (if y538.length < 2199023255552 then ((some (y538 ++ [(⟨x534000, x534001, x534002, x534003, x534004, x534005, x534006⟩ : S25)] : List (S25))).bind fun y541 => ((abacuslaw13_cut.f k x2).bind fun t544 => (if y541.length + t544.length < 2199023255552 then ((directive_Print.f k (y541 ++ t544)).bind fun bt550 => ((directive_Check.f k x534000 x534001 x534002 x534003 x534004 x534005 x534006).bind fun t552 => (if t552 = 0 then (if bt550.2 = 0 then ((directive_Single.f k bt550.1).bind fun bt553 => (if x534001 = 101 then (abacuslaw13_DirectiveSingle.j1 k x0 x2 bt550.1 bt553.1 bt553.2.2.2.2.2.1 bt553.2.2.2.2.2.2 true x534000 x534001 x534002 x534003 x534004 x534005 x534006 bt553.2.1 bt553.2.2.1 bt553.2.2.2.1 bt553.2.2.2.2.1) else (if x534001 = 69 then (abacuslaw13_DirectiveSingle.j1 k x0 x2 bt550.1 bt553.1 bt553.2.2.2.2.2.1 bt553.2.2.2.2.2.2 true x534000 x534001 x534002 x534003 x534004 x534005 x534006 bt553.2.1 bt553.2.2.1 bt553.2.2.2.1 bt553.2.2.2.2.1) else (if x534001 = 102 then (abacuslaw13_DirectiveSingle.j1 k x0 x2 bt550.1 bt553.1 bt553.2.2.2.2.2.1 bt553.2.2.2.2.2.2 true x534000 x534001 x534002 x534003 x534004 x534005 x534006 bt553.2.1 bt553.2.2.1 bt553.2.2.2.1 bt553.2.2.2.2.1) else (if x534001 = 70 then (abacuslaw13_DirectiveSingle.j1 k x0 x2 bt550.1 bt553.1 bt553.2.2.2.2.2.1 bt553.2.2.2.2.2.2 true x534000 x534001 x534002 x534003 x534004 x534005 x534006 bt553.2.1 bt553.2.2.1 bt553.2.2.2.1 bt553.2.2.2.2.1) else (if x534001 = 103 then (abacuslaw13_DirectiveSingle.j1 k x0 x2 bt550.1 bt553.1 bt553.2.2.2.2.2.1 bt553.2.2.2.2.2.2 true x534000 x534001 x534002 x534003 x534004 x534005 x534006 bt553.2.1 bt553.2.2.1 bt553.2.2.2.1 bt553.2.2.2.2.1) else (abacuslaw13_DirectiveSingle.j1 k x0 x2 bt550.1 bt553.1 bt553.2.2.2.2.2.1 bt553.2.2.2.2.2.2 (x534001 == 71) x534000 x534001 x534002 x534003 x534004 x534005 x534006 bt553.2.1 bt553.2.2.1 bt553.2.2.2.1 bt553.2.2.2.2.1))))))) else (some false)) else (some (bt550.2 == 132))))) else (none)))) else (none))) else (none)))
def abacuslaw13_DirectiveSingle.j1 : Nat → ByteArray → ByteArray → ByteArray → ByteArray → ByteArray → Bool → Bool → ByteArray → Int → Int → Int → Int → Int → Int → Int → Int → Int → Int → Option (Bool)
  | 0, _, _, _, _, _, _, _, _, _, _, _, _, _, _, _, _, _, _ => none
  | k + 1, x0, x2, x8, x10, x12, x13, x14, x534000, x534001, x534002, x534003, x534004, x534005, x534006, x561000, x561001, x561002, x561003 => if x14 = true then (if x534003 = 2 then (abacuslaw13_DirectiveSingle.j2 k x0 x2 x8 x10 x12 x13 true x534000 x534001 x534002 x534003 x534004 x534005 x534006 x561000 x561001 x561002 x561003) else (abacuslaw13_DirectiveSingle.j2 k x0 x2 x8 x10 x12 x13 (x534005 == 2) x534000 x534001 x534002 x534003 x534004 x534005 x534006 x561000 x561001 x561002 x561003)) else (abacuslaw13_DirectiveSingle.j2 k x0 x2 x8 x10 x12 x13 true x534000 x534001 x534002 x534003 x534004 x534005 x534006 x561000 x561001 x561002 x561003)
def abacuslaw13_DirectiveSingle.j2 : Nat → ByteArray → ByteArray → ByteArray → ByteArray → ByteArray → Bool → Bool → ByteArray → Int → Int → Int → Int → Int → Int → Int → Int → Int → Int → Option (Bool)
  | 0, _, _, _, _, _, _, _, _, _, _, _, _, _, _, _, _, _, _ => none
  | k + 1, x0, x2, x8, x10, x12, x13, x106, x534000, x534001, x534002, x534003, x534004, x534005, x534006, x561000, x561001, x561002, x561003 => if x106 = true then (if x13 = true then (some false) else (if x10.toList = ([] : List UInt8) then (if x12.toList = ([] : List UInt8) then (some (x561000 == 0 && (x561001 == 0 && (x561002 == 0 && (x561003 == 0))))) else (some false)) else (some false))) else ((directive_Settle.f k x534000 x534001 x534002 x534003 x534004 x534005 x534006 0 0).bind fun bt561 => (if bt561.2.2.2.2 = 0 then (if x13 = true then (if x10.toList = x0.toList then (if x12.toList = x2.toList then (if (!(x561000 == bt561.1) || (!(x561001 == bt561.2.1) || (!(x561002 == bt561.2.2.1) || (!(x561003 == bt561.2.2.2.1))))) = true then (some false) else (if x8.size + x8.size ≤ 9223372036854775807 then ((directive_Single.f k (x8 ++ x8)).bind fun bt567 => (some (!bt567.2.2.2.2.2.2))) else (none))) else (some false)) else (some false)) else (some false)) else (some false)))
end
def abacuslaw13_DirectiveSingle.f (k : Nat) (a0 : ByteArray) (a1_0 : ByteArray) (a1_1 : Int) (a1_2 : Int) (a1_3 : Int) (a1_4 : Int) (a1_5 : Int) (a1_6 : Int) (a2 : ByteArray) : Option (Bool) := (abacuslaw13_awake.f k).bind fun t534 => (if t534 = true then (if (a0.size : Int) > 1048576 then (abacuslaw13_DirectiveSingle.j0 k a0 a2 true a1_0 a1_1 a1_2 a1_3 a1_4 a1_5 a1_6) else (if (a1_0.size : Int) > 1048576 then (abacuslaw13_DirectiveSingle.j0 k a0 a2 true a1_0 a1_1 a1_2 a1_3 a1_4 a1_5 a1_6) else (abacuslaw13_DirectiveSingle.j0 k a0 a2 (decide ((a2.size : Int) > 1048576)) a1_0 a1_1 a1_2 a1_3 a1_4 a1_5 a1_6))) else (some false))
theorem abacuslaw13_DirectiveSingle.mono_l : ∀ k, (∀ y0 y1 y2 y3 y4 y5 y6 y7 y8 y9, LeO (abacuslaw13_DirectiveSingle.j0 k y0 y1 y2 y3 y4 y5 y6 y7 y8 y9) (abacuslaw13_DirectiveSingle.j0 (k + 1) y0 y1 y2 y3 y4 y5 y6 y7 y8 y9)) ∧ (∀ y0 y1 y2 y3 y4 y5 y6 y7 y8 y9 y10 y11 y12 y13 y14 y15 y16 y17, LeO (abacuslaw13_DirectiveSingle.j1 k y0 y1 y2 y3 y4 y5 y6 y7 y8 y9 y10 y11 y12 y13 y14 y15 y16 y17) (abacuslaw13_DirectiveSingle.j1 (k + 1) y0 y1 y2 y3 y4 y5 y6 y7 y8 y9 y10 y11 y12 y13 y14 y15 y16 y17)) ∧ (∀ y0 y1 y2 y3 y4 y5 y6 y7 y8 y9 y10 y11 y12 y13 y14 y15 y16 y17, LeO (abacuslaw13_DirectiveSingle.j2 k y0 y1 y2 y3 y4 y5 y6 y7 y8 y9 y10 y11 y12 y13 y14 y15 y16 y17) (abacuslaw13_DirectiveSingle.j2 (k + 1) y0 y1 y2 y3 y4 y5 y6 y7 y8 y9 y10 y11 y12 y13 y14 y15 y16 y17))
  | 0 => ⟨fun _ _ _ _ _ _ _ _ _ _ r h => by simp [abacuslaw13_DirectiveSingle.j0] at h, fun _ _ _ _ _ _ _ _ _ _ _ _ _ _ _ _ _ _ r h => by simp [abacuslaw13_DirectiveSingle.j1] at h, fun _ _ _ _ _ _ _ _ _ _ _ _ _ _ _ _ _ _ r h => by simp [abacuslaw13_DirectiveSingle.j2] at h⟩
  | k + 1 => by
    obtain ⟨ih0, ih1, ih2⟩ := abacuslaw13_DirectiveSingle.mono_l k
    refine ⟨?_, ?_, ?_⟩
    · intro y0 y1 y2 y3 y4 y5 y6 y7 y8 y9
      unfold abacuslaw13_DirectiveSingle.j0
      repeat' first
      | (with_reducible exact ih0 _ _ _ _ _ _ _ _ _ _)
      | (with_reducible exact ih1 _ _ _ _ _ _ _ _ _ _ _ _ _ _ _ _ _ _)
      | (with_reducible exact ih2 _ _ _ _ _ _ _ _ _ _ _ _ _ _ _ _ _ _)
      | (with_reducible exact abacuslaw13_awake.mono _)
      | (with_reducible exact abacuslaw13_cut.mono _ _)
      | (with_reducible exact directive_Check.mono _ _ _ _ _ _ _ _)
      | (with_reducible exact directive_Print.mono _ _)
      | (with_reducible exact directive_Settle.mono _ _ _ _ _ _ _ _ _ _)
      | (with_reducible exact directive_Single.mono _ _)
      | (with_reducible exact LeO.refl _)
      | (with_reducible exact LeO.none _)
      | (with_reducible refine LeO.ite ?_ ?_)
      | (with_reducible refine LeO.bind ?_ (fun _ => ?_))
      | exact ih0 _ _ _ _ _ _ _ _ _ _
      | exact ih1 _ _ _ _ _ _ _ _ _ _ _ _ _ _ _ _ _ _
      | exact ih2 _ _ _ _ _ _ _ _ _ _ _ _ _ _ _ _ _ _
      | exact abacuslaw13_awake.mono _
      | exact abacuslaw13_cut.mono _ _
      | exact directive_Check.mono _ _ _ _ _ _ _ _
      | exact directive_Print.mono _ _
      | exact directive_Settle.mono _ _ _ _ _ _ _ _ _ _
      | exact directive_Single.mono _ _
      | exact LeO.none _
      | refine LeO.ite ?_ ?_
      | refine LeO.bind ?_ (fun _ => ?_)
    · intro y0 y1 y2 y3 y4 y5 y6 y7 y8 y9 y10 y11 y12 y13 y14 y15 y16 y17
      unfold abacuslaw13_DirectiveSingle.j1
      repeat' first
      | (with_reducible exact ih0 _ _ _ _ _ _ _ _ _ _)
      | (with_reducible exact ih1 _ _ _ _ _ _ _ _ _ _ _ _ _ _ _ _ _ _)
      | (with_reducible exact ih2 _ _ _ _ _ _ _ _ _ _ _ _ _ _ _ _ _ _)
      | (with_reducible exact abacuslaw13_awake.mono _)
      | (with_reducible exact abacuslaw13_cut.mono _ _)
      | (with_reducible exact directive_Check.mono _ _ _ _ _ _ _ _)
      | (with_reducible exact directive_Print.mono _ _)
      | (with_reducible exact directive_Settle.mono _ _ _ _ _ _ _ _ _ _)
      | (with_reducible exact directive_Single.mono _ _)
      | (with_reducible exact LeO.refl _)
      | (with_reducible exact LeO.none _)
      | (with_reducible refine LeO.ite ?_ ?_)
      | (with_reducible refine LeO.bind ?_ (fun _ => ?_))
      | exact ih0 _ _ _ _ _ _ _ _ _ _
      | exact ih1 _ _ _ _ _ _ _ _ _ _ _ _ _ _ _ _ _ _
      | exact ih2 _ _ _ _ _ _ _ _ _ _ _ _ _ _ _ _ _ _
      | exact abacuslaw13_awake.mono _
      | exact abacuslaw13_cut.mono _ _
      | exact directive_Check.mono _ _ _ _ _ _ _ _
      | exact directive_Print.mono _ _
      | exact directive_Settle.mono _ _ _ _ _ _ _ _ _ _
      | exact directive_Single.mono _ _
      | exact LeO.none _
      | refine LeO.ite ?_ ?_
      | refine LeO.bind ?_ (fun _ => ?_)
    · intro y0 y1 y2 y3 y4 y5 y6 y7 y8 y9 y10 y11 y12 y13 y14 y15 y16 y17
      unfold abacuslaw13_DirectiveSingle.j2
      repeat' first
      | (with_reducible exact ih0 _ _ _ _ _ _ _ _ _ _)
      | (with_reducible exact ih1 _ _ _ _ _ _ _ _ _ _ _ _ _ _ _ _ _ _)
      | (with_reducible exact ih2 _ _ _ _ _ _ _ _ _ _ _ _ _ _ _ _ _ _)
      | (with_reducible exact abacuslaw13_awake.mono _)
      | (with_reducible exact abacuslaw13_cut.mono _ _)
      | (with_reducible exact directive_Check.mono _ _ _ _ _ _ _ _)
      | (with_reducible exact directive_Print.mono _ _)
      | (with_reducible exact directive_Settle.mono _ _ _ _ _ _ _ _ _ _)
      | (with_reducible exact directive_Single.mono _ _)
      | (with_reducible exact LeO.refl _)
      | (with_reducible exact LeO.none _)
      | (with_reducible refine LeO.ite ?_ ?_)
      | (with_reducible refine LeO.bind ?_ (fun _ => ?_))
      | exact ih0 _ _ _ _ _ _ _ _ _ _
      | exact ih1 _ _ _ _ _ _ _ _ _ _ _ _ _ _ _ _ _ _
      | exact ih2 _ _ _ _ _ _ _ _ _ _ _ _ _ _ _ _ _ _
      | exact abacuslaw13_awake.mono _
      | exact abacuslaw13_cut.mono _ _
      | exact directive_Check.mono _ _ _ _ _ _ _ _
      | exact directive_Print.mono _ _
      | exact directive_Settle.mono _ _ _ _ _ _ _ _ _ _
      | exact directive_Single.mono _ _
      | exact LeO.none _
      | refine LeO.ite ?_ ?_
      | refine LeO.bind ?_ (fun _ => ?_)
set_option maxHeartbeats 8000000 in
set_option maxRecDepth 100000 in
theorem abacuslaw13_DirectiveSingle.calls (k : Nat) (a0 : ByteArray) (a1_0 : ByteArray) (a1_1 : Int) (a1_2 : Int) (a1_3 : Int) (a1_4 : Int) (a1_5 : Int) (a1_6 : Int) (a2 : ByteArray) (w : World) (hG : GW w) (h : abacuslaw13_DirectiveSingle.f k a0 a1_0 a1_1 a1_2 a1_3 a1_4 a1_5 a1_6 a2 = some true) :
    Calls Tryd.prog 9 #[.string a0, .agg #[.string a1_0, .int .u8 a1_1, .int .i64 a1_2, .int .i64 a1_3, .int .i64 a1_4, .int .i64 a1_5, .int .i64 a1_6], .string a2] w fun e w' => e = .returned (.bool true) ∧ Below w.heap.size w w' := by
  have hu25 := Tryd.underlying25
  have hu37 := Tryd.underlying37
  have HB := Aside0.mk (Below.refl w.heap.size w)
  have HG := Aside0.mk hG
  clear hG
  have H : ((abacuslaw13_awake.f k).bind fun t534 => (if t534 = true then (if (a0.size : Int) > 1048576 then (abacuslaw13_DirectiveSingle.j0 k a0 a2 true a1_0 a1_1 a1_2 a1_3 a1_4 a1_5 a1_6) else (if (a1_0.size : Int) > 1048576 then (abacuslaw13_DirectiveSingle.j0 k a0 a2 true a1_0 a1_1 a1_2 a1_3 a1_4 a1_5 a1_6) else (abacuslaw13_DirectiveSingle.j0 k a0 a2 (decide ((a2.size : Int) > 1048576)) a1_0 a1_1 a1_2 a1_3 a1_4 a1_5 a1_6))) else (some false))) = some true := h
  clear h
  replace H := Option.bind_eq_some_iff.mp H
  obtain ⟨t534, A40, H⟩ := H
  replace H : (if t534 = true then (if (a0.size : Int) > 1048576 then (abacuslaw13_DirectiveSingle.j0 k a0 a2 true a1_0 a1_1 a1_2 a1_3 a1_4 a1_5 a1_6) else (if (a1_0.size : Int) > 1048576 then (abacuslaw13_DirectiveSingle.j0 k a0 a2 true a1_0 a1_1 a1_2 a1_3 a1_4 a1_5 a1_6) else (abacuslaw13_DirectiveSingle.j0 k a0 a2 (decide ((a2.size : Int) > 1048576)) a1_0 a1_1 a1_2 a1_3 a1_4 a1_5 a1_6))) else (some false)) = some true := H
  have A4 := Aside0.mk A40
  clear A40
  by_cases c5 : t534 = true
  · subst c5
    have H1 : (if (a0.size : Int) > 1048576 then (abacuslaw13_DirectiveSingle.j0 k a0 a2 true a1_0 a1_1 a1_2 a1_3 a1_4 a1_5 a1_6) else (if (a1_0.size : Int) > 1048576 then (abacuslaw13_DirectiveSingle.j0 k a0 a2 true a1_0 a1_1 a1_2 a1_3 a1_4 a1_5 a1_6) else (abacuslaw13_DirectiveSingle.j0 k a0 a2 (decide ((a2.size : Int) > 1048576)) a1_0 a1_1 a1_2 a1_3 a1_4 a1_5 a1_6))) = some true := by rw [if_pos rfl] at H; exact H
    clear H
    have H := H1
    clear H1
    have HC6 := Aside0.mk H
    clear H
    go_enter Tryd.func9, Tryd.ntmps9
    go_upto_region 3 with (first | ((with_reducible refine gate_dst (N := 4) rfl ?_); (try (refine gate_guard (by rfl) ?_; dsimp only)); refine box_event ?hg (N := 4) ?hd (cs := #[.string a1_0, .int .u8 a1_1, .int .i64 a1_2, .int .i64 a1_3, .int .i64 a1_4, .int .i64 a1_5, .int .i64 a1_6]) (t := 25) ?hr ?_; (case hd => rfl); (case hg => rfl); (case hr => first | (go_simp; done) | (go_simp; rfl)); intro gb533 hg w7 hbox hb; have n0_ := Aside0.mk (below_step (by repeat (first | (with_reducible first | exact HB.out | apply below_alloc | apply pw_below_drewN | apply below_drew1) | exact HB.out)) hb); have n1_ := Aside0.mk (hbox); have n2_ := Aside0.mk ((by rw [hg]; exact (below_size (by repeat (first | (with_reducible first | exact HB.out | apply below_alloc | apply pw_below_drewN | apply below_drew1) | exact HB.out))) : w.heap.size ≤ gb533)); have n3_ := Aside0.mk ((by rw [hg]; exact (below_size (by repeat (first | (with_reducible first | exact HB.out | apply below_alloc | apply pw_below_drewN | apply below_drew1) | exact HB.out))) : w.heap.size ≤ gb533)); clear HB; have HB := n0_; have BK533 := n1_; have GW533 := n2_; have GE533 := n3_; clear n0_ n1_ n2_ n3_; clear hb hbox hg) | ((with_reducible refine gate_callee (f := 10) rfl ?_); refine goesL_ (some 20) rfl rfl Tryd.func10 (by kernel_rfl) rfl #[] rfl (by (try simp only [List.map_toArray, List.map_cons, List.map_nil]); first | done | rfl | (simp only [List.length_drop, List.length_take]; rfl)) ?_; (with_reducible refine (abacuslaw13_awake.calls k  true _ ?side1 A4.out).mono ?_); (case side1 => exact GW.below HG.out (by repeat (first | (with_reducible first | exact HB.out | apply below_alloc | apply pw_below_drewN | apply below_drew1 | refine below_set ?_ GE533.out) | exact HB.out))); rintro e w8 ⟨rfl, hb⟩; refine ⟨_, rfl, ?_⟩; have n0_ := Aside0.mk (blk_below (g := gb533) (o := .cells #[.string a1_0, .int .u8 a1_1, .int .i64 a1_2, .int .i64 a1_3, .int .i64 a1_4, .int .i64 a1_5, .int .i64 a1_6] 25 (0, 0)) (by (with_reducible repeat (first | refine blk_drewN ?_ _ | refine blk_drew ?_ | refine blk_alloc ?_ _)); exact BK533.out) hb); have n1_ := Aside0.mk (below_step (by repeat (first | (with_reducible first | exact HB.out | apply below_alloc | apply pw_below_drewN | apply below_drew1 | refine below_set ?_ GE533.out) | exact HB.out)) hb); clear BK533; clear HB; have BK533 := n0_; have HB := n1_; clear n0_ n1_; (try clear hb); (try clear hb2); (try clear hk); (try clear hi)))
    (try simp only [Act.put, List.setIfInBounds_toArray, List.set_cons_zero, List.set_cons_succ])
    go_cut [35] (fun v35 wc => ∃ (kq : Nat) (x35_5 : Bool), v35 = .bool x35_5 ∧ Aside0 (abacuslaw13_DirectiveSingle.j0 kq a0 a2 x35_5 a1_0 a1_1 a1_2 a1_3 a1_4 a1_5 a1_6 = some true) ∧ Aside0 (kq ≤ k) ∧ Aside0 (wc.heap[gb533]? = some (.cells #[.string a1_0, .int .u8 a1_1, .int .i64 a1_2, .int .i64 a1_3, .int .i64 a1_4, .int .i64 a1_5, .int .i64 a1_6] 25 (0, 0))) ∧ Aside0 (Below w.heap.size w wc))
    case first =>
      have H := HC6.out
      clear HC6
      by_cases c9 : (a0.size : Int) > 1048576
      · rw [if_pos c9] at H
        have c9b0 : decide (1048576 < (a0.size : Int)) = true := decide_eq_true c9
        have c9b1 : decide (1048576 < a0.size) = true := decide_eq_true (by omega)
        clear c9
        (first | rw [c9b0] | (simp only [i64_w, i32_w]; rw [c9b0]) | skip)
        have H' := Aside0.mk H
        clear H
        go_wp2
        go_meet
        case rel => exact ⟨_, (true), (by first | rfl | (simp; done) | (simp [*]; done)), H', ⟨by first | omega | exact Nat.le_refl _⟩, ⟨by (with_reducible repeat (first | refine blk_drewN ?_ _ | refine blk_drew ?_ | refine blk_alloc ?_ _)); exact BK533.out⟩, ⟨by repeat (first | (with_reducible first | exact HB.out | apply below_alloc | apply pw_below_drewN | apply below_drew1 | refine below_set ?_ GE533.out) | exact HB.out)⟩⟩
      · rw [if_neg c9] at H
        have c9b0 : decide (1048576 < (a0.size : Int)) = false := decide_eq_false c9
        have c9b1 : decide (1048576 < a0.size) = false := decide_eq_false (by omega)
        clear c9
        (first | rw [c9b0] | (simp only [i64_w, i32_w]; rw [c9b0]) | skip)
        by_cases c10 : (a1_0.size : Int) > 1048576
        · rw [if_pos c10] at H
          have c10b0 : decide (1048576 < (a1_0.size : Int)) = true := decide_eq_true c10
          have c10b1 : decide (1048576 < a1_0.size) = true := decide_eq_true (by omega)
          clear c10
          have H' := Aside0.mk H
          clear H
          have hcz11_0 : w8.cell? ⟨gb533, 0, none⟩ = some (.string a1_0) := (blk_cell BK533.out 0).trans rfl
          have hcz11_1 : w8.cell? ⟨gb533, 1, none⟩ = some (.int .u8 a1_1) := (blk_cell BK533.out 1).trans rfl
          have hcz11_2 : w8.cell? ⟨gb533, 2, none⟩ = some (.int .i64 a1_2) := (blk_cell BK533.out 2).trans rfl
          have hcz11_3 : w8.cell? ⟨gb533, 3, none⟩ = some (.int .i64 a1_3) := (blk_cell BK533.out 3).trans rfl
          have hcz11_4 : w8.cell? ⟨gb533, 4, none⟩ = some (.int .i64 a1_4) := (blk_cell BK533.out 4).trans rfl
          have hcz11_5 : w8.cell? ⟨gb533, 5, none⟩ = some (.int .i64 a1_5) := (blk_cell BK533.out 5).trans rfl
          have hcz11_6 : w8.cell? ⟨gb533, 6, none⟩ = some (.int .i64 a1_6) := (blk_cell BK533.out 6).trans rfl
          have hfz11_0 := blk_frozen BK533.out 0
          have hfz11_1 := blk_frozen BK533.out 1
          have hfz11_2 := blk_frozen BK533.out 2
          have hfz11_3 := blk_frozen BK533.out 3
          have hfz11_4 := blk_frozen BK533.out 4
          have hfz11_5 := blk_frozen BK533.out 5
          have hfz11_6 := blk_frozen BK533.out 6
          go_wp2
          go_meet
          case rel => exact ⟨_, (true), (by first | rfl | (simp; done) | (simp [*]; done)), H', ⟨by first | omega | exact Nat.le_refl _⟩, ⟨by (with_reducible repeat (first | refine blk_drewN ?_ _ | refine blk_drew ?_ | refine blk_alloc ?_ _)); exact BK533.out⟩, ⟨by repeat (first | (with_reducible first | exact HB.out | apply below_alloc | apply pw_below_drewN | apply below_drew1 | refine below_set ?_ GE533.out) | exact HB.out)⟩⟩
        · rw [if_neg c10] at H
          have c10b0 : decide (1048576 < (a1_0.size : Int)) = false := decide_eq_false c10
          have c10b1 : decide (1048576 < a1_0.size) = false := decide_eq_false (by omega)
          clear c10
          have H' := Aside0.mk H
          clear H
          have hcz12_0 : w8.cell? ⟨gb533, 0, none⟩ = some (.string a1_0) := (blk_cell BK533.out 0).trans rfl
          have hcz12_1 : w8.cell? ⟨gb533, 1, none⟩ = some (.int .u8 a1_1) := (blk_cell BK533.out 1).trans rfl
          have hcz12_2 : w8.cell? ⟨gb533, 2, none⟩ = some (.int .i64 a1_2) := (blk_cell BK533.out 2).trans rfl
          have hcz12_3 : w8.cell? ⟨gb533, 3, none⟩ = some (.int .i64 a1_3) := (blk_cell BK533.out 3).trans rfl
          have hcz12_4 : w8.cell? ⟨gb533, 4, none⟩ = some (.int .i64 a1_4) := (blk_cell BK533.out 4).trans rfl
          have hcz12_5 : w8.cell? ⟨gb533, 5, none⟩ = some (.int .i64 a1_5) := (blk_cell BK533.out 5).trans rfl
          have hcz12_6 : w8.cell? ⟨gb533, 6, none⟩ = some (.int .i64 a1_6) := (blk_cell BK533.out 6).trans rfl
          have hfz12_0 := blk_frozen BK533.out 0
          have hfz12_1 := blk_frozen BK533.out 1
          have hfz12_2 := blk_frozen BK533.out 2
          have hfz12_3 := blk_frozen BK533.out 3
          have hfz12_4 := blk_frozen BK533.out 4
          have hfz12_5 := blk_frozen BK533.out 5
          have hfz12_6 := blk_frozen BK533.out 6
          go_wp2
          go_meet
          case rel => exact ⟨_, (decide ((a2.size : Int) > 1048576)), (by first | rfl | (simp; done) | (simp [*]; done)), H', ⟨by first | omega | exact Nat.le_refl _⟩, ⟨by (with_reducible repeat (first | refine blk_drewN ?_ _ | refine blk_drew ?_ | refine blk_alloc ?_ _)); exact BK533.out⟩, ⟨by repeat (first | (with_reducible first | exact HB.out | apply below_alloc | apply pw_below_drewN | apply below_drew1 | refine below_set ?_ GE533.out) | exact HB.out)⟩⟩
    case rest =>
      clear HC6
      try clear c1
      try clear p2
      try clear c5
      try clear c9
      try clear c9b0
      try clear c9b1
      try clear c10
      try clear c10b0
      try clear c10b1
      try clear hcz11_0
      try clear hcz11_1
      try clear hcz11_2
      try clear hcz11_3
      try clear hcz11_4
      try clear hcz11_5
      try clear hcz11_6
      try clear hcz12_0
      try clear hcz12_1
      try clear hcz12_2
      try clear hcz12_3
      try clear hcz12_4
      try clear hcz12_5
      try clear hcz12_6
      try clear hfz11_0
      try clear hfz11_1
      try clear hfz11_2
      try clear hfz11_3
      try clear hfz11_4
      try clear hfz11_5
      try clear hfz11_6
      try clear hfz12_0
      try clear hfz12_1
      try clear hfz12_2
      try clear hfz12_3
      try clear hfz12_4
      try clear hfz12_5
      try clear hfz12_6
      obtain ⟨kq, x35_5, rfl, HA, HJ5, BK533, HB⟩ := hcut
      cases kq with
      | zero => exact absurd HA.out (by simp [abacuslaw13_DirectiveSingle.j0])
      | succ kj5 =>
        have H := HA.out
        clear HA
        simp only [abacuslaw13_DirectiveSingle.j0] at H
        by_cases c13 : x35_5 = true
        · subst c13
          have H1 : (some true) = some true := rfl
          clear H
          have H := H1
          clear H1
          clear H
          go_wp2
          go_ret
          exact ⟨by first | rfl | (simp [errW_none, errW_some] <;> rfl) | (simp [*, errW_none, errW_some] <;> rfl), by repeat (first | (with_reducible first | exact HB.out | apply below_alloc | apply pw_below_drewN | apply below_drew1 | refine below_set ?_ GE533.out) | exact HB.out)⟩
        · replace c13 := Bool.eq_false_iff.mpr c13
          subst c13
          have H1 : ((abacuslaw13_cut.f kj5 a0).bind fun t535 => (if ([] : List (S25)).length + t535.length < 2199023255552 then ((some (([] : List (S25)) ++ t535 : List (S25))).bind fun y538 => (if y538.length < 2199023255552 then ((some (y538 ++ [(⟨a1_0, a1_1, a1_2, a1_3, a1_4, a1_5, a1_6⟩ : S25)] : List (S25))).bind fun y541 => ((abacuslaw13_cut.f kj5 a2).bind fun t544 => (if y541.length + t544.length < 2199023255552 then ((directive_Print.f kj5 (y541 ++ t544)).bind fun bt550 => ((directive_Check.f kj5 a1_0 a1_1 a1_2 a1_3 a1_4 a1_5 a1_6).bind fun t552 => (if t552 = 0 then (if bt550.2 = 0 then ((directive_Single.f kj5 bt550.1).bind fun bt553 => (if a1_1 = 101 then (abacuslaw13_DirectiveSingle.j1 kj5 a0 a2 bt550.1 bt553.1 bt553.2.2.2.2.2.1 bt553.2.2.2.2.2.2 true a1_0 a1_1 a1_2 a1_3 a1_4 a1_5 a1_6 bt553.2.1 bt553.2.2.1 bt553.2.2.2.1 bt553.2.2.2.2.1) else (if a1_1 = 69 then (abacuslaw13_DirectiveSingle.j1 kj5 a0 a2 bt550.1 bt553.1 bt553.2.2.2.2.2.1 bt553.2.2.2.2.2.2 true a1_0 a1_1 a1_2 a1_3 a1_4 a1_5 a1_6 bt553.2.1 bt553.2.2.1 bt553.2.2.2.1 bt553.2.2.2.2.1) else (if a1_1 = 102 then (abacuslaw13_DirectiveSingle.j1 kj5 a0 a2 bt550.1 bt553.1 bt553.2.2.2.2.2.1 bt553.2.2.2.2.2.2 true a1_0 a1_1 a1_2 a1_3 a1_4 a1_5 a1_6 bt553.2.1 bt553.2.2.1 bt553.2.2.2.1 bt553.2.2.2.2.1) else (if a1_1 = 70 then (abacuslaw13_DirectiveSingle.j1 kj5 a0 a2 bt550.1 bt553.1 bt553.2.2.2.2.2.1 bt553.2.2.2.2.2.2 true a1_0 a1_1 a1_2 a1_3 a1_4 a1_5 a1_6 bt553.2.1 bt553.2.2.1 bt553.2.2.2.1 bt553.2.2.2.2.1) else (if a1_1 = 103 then (abacuslaw13_DirectiveSingle.j1 kj5 a0 a2 bt550.1 bt553.1 bt553.2.2.2.2.2.1 bt553.2.2.2.2.2.2 true a1_0 a1_1 a1_2 a1_3 a1_4 a1_5 a1_6 bt553.2.1 bt553.2.2.1 bt553.2.2.2.1 bt553.2.2.2.2.1) else (abacuslaw13_DirectiveSingle.j1 kj5 a0 a2 bt550.1 bt553.1 bt553.2.2.2.2.2.1 bt553.2.2.2.2.2.2 (a1_1 == 71) a1_0 a1_1 a1_2 a1_3 a1_4 a1_5 a1_6 bt553.2.1 bt553.2.2.1 bt553.2.2.2.1 bt553.2.2.2.2.1))))))) else (some false)) else (some (bt550.2 == 132))))) else (none)))) else (none))) else (none))) = some true := by rw [if_neg (show ¬ (false = true) by decide)] at H; exact H
          clear H
          have H := H1
          clear H1
          replace H := Option.bind_eq_some_iff.mp H
          obtain ⟨t535, A140, H⟩ := H
          replace H : (if ([] : List (S25)).length + t535.length < 2199023255552 then ((some (([] : List (S25)) ++ t535 : List (S25))).bind fun y538 => (if y538.length < 2199023255552 then ((some (y538 ++ [(⟨a1_0, a1_1, a1_2, a1_3, a1_4, a1_5, a1_6⟩ : S25)] : List (S25))).bind fun y541 => ((abacuslaw13_cut.f kj5 a2).bind fun t544 => (if y541.length + t544.length < 2199023255552 then ((directive_Print.f kj5 (y541 ++ t544)).bind fun bt550 => ((directive_Check.f kj5 a1_0 a1_1 a1_2 a1_3 a1_4 a1_5 a1_6).bind fun t552 => (if t552 = 0 then (if bt550.2 = 0 then ((directive_Single.f kj5 bt550.1).bind fun bt553 => (if a1_1 = 101 then (abacuslaw13_DirectiveSingle.j1 kj5 a0 a2 bt550.1 bt553.1 bt553.2.2.2.2.2.1 bt553.2.2.2.2.2.2 true a1_0 a1_1 a1_2 a1_3 a1_4 a1_5 a1_6 bt553.2.1 bt553.2.2.1 bt553.2.2.2.1 bt553.2.2.2.2.1) else (if a1_1 = 69 then (abacuslaw13_DirectiveSingle.j1 kj5 a0 a2 bt550.1 bt553.1 bt553.2.2.2.2.2.1 bt553.2.2.2.2.2.2 true a1_0 a1_1 a1_2 a1_3 a1_4 a1_5 a1_6 bt553.2.1 bt553.2.2.1 bt553.2.2.2.1 bt553.2.2.2.2.1) else (if a1_1 = 102 then (abacuslaw13_DirectiveSingle.j1 kj5 a0 a2 bt550.1 bt553.1 bt553.2.2.2.2.2.1 bt553.2.2.2.2.2.2 true a1_0 a1_1 a1_2 a1_3 a1_4 a1_5 a1_6 bt553.2.1 bt553.2.2.1 bt553.2.2.2.1 bt553.2.2.2.2.1) else (if a1_1 = 70 then (abacuslaw13_DirectiveSingle.j1 kj5 a0 a2 bt550.1 bt553.1 bt553.2.2.2.2.2.1 bt553.2.2.2.2.2.2 true a1_0 a1_1 a1_2 a1_3 a1_4 a1_5 a1_6 bt553.2.1 bt553.2.2.1 bt553.2.2.2.1 bt553.2.2.2.2.1) else (if a1_1 = 103 then (abacuslaw13_DirectiveSingle.j1 kj5 a0 a2 bt550.1 bt553.1 bt553.2.2.2.2.2.1 bt553.2.2.2.2.2.2 true a1_0 a1_1 a1_2 a1_3 a1_4 a1_5 a1_6 bt553.2.1 bt553.2.2.1 bt553.2.2.2.1 bt553.2.2.2.2.1) else (abacuslaw13_DirectiveSingle.j1 kj5 a0 a2 bt550.1 bt553.1 bt553.2.2.2.2.2.1 bt553.2.2.2.2.2.2 (a1_1 == 71) a1_0 a1_1 a1_2 a1_3 a1_4 a1_5 a1_6 bt553.2.1 bt553.2.2.1 bt553.2.2.2.1 bt553.2.2.2.2.1))))))) else (some false)) else (some (bt550.2 == 132))))) else (none)))) else (none))) else (none)) = some true := H
          have A14 := Aside0.mk A140
          clear A140
          by_cases c15 : ([] : List (S25)).length + t535.length < 2199023255552
          · rw [if_pos c15] at H
            have LMc15 := Aside0.mk c15
            clear c15
            obtain ⟨y538, hy538⟩ : ∃ y_ : List (S25), y_ = (([] : List (S25)) ++ t535) := ⟨_, rfl⟩
            replace H : (if y538.length < 2199023255552 then ((some (y538 ++ [(⟨a1_0, a1_1, a1_2, a1_3, a1_4, a1_5, a1_6⟩ : S25)] : List (S25))).bind fun y541 => ((abacuslaw13_cut.f kj5 a2).bind fun t544 => (if y541.length + t544.length < 2199023255552 then ((directive_Print.f kj5 (y541 ++ t544)).bind fun bt550 => ((directive_Check.f kj5 a1_0 a1_1 a1_2 a1_3 a1_4 a1_5 a1_6).bind fun t552 => (if t552 = 0 then (if bt550.2 = 0 then ((directive_Single.f kj5 bt550.1).bind fun bt553 => (if a1_1 = 101 then (abacuslaw13_DirectiveSingle.j1 kj5 a0 a2 bt550.1 bt553.1 bt553.2.2.2.2.2.1 bt553.2.2.2.2.2.2 true a1_0 a1_1 a1_2 a1_3 a1_4 a1_5 a1_6 bt553.2.1 bt553.2.2.1 bt553.2.2.2.1 bt553.2.2.2.2.1) else (if a1_1 = 69 then (abacuslaw13_DirectiveSingle.j1 kj5 a0 a2 bt550.1 bt553.1 bt553.2.2.2.2.2.1 bt553.2.2.2.2.2.2 true a1_0 a1_1 a1_2 a1_3 a1_4 a1_5 a1_6 bt553.2.1 bt553.2.2.1 bt553.2.2.2.1 bt553.2.2.2.2.1) else (if a1_1 = 102 then (abacuslaw13_DirectiveSingle.j1 kj5 a0 a2 bt550.1 bt553.1 bt553.2.2.2.2.2.1 bt553.2.2.2.2.2.2 true a1_0 a1_1 a1_2 a1_3 a1_4 a1_5 a1_6 bt553.2.1 bt553.2.2.1 bt553.2.2.2.1 bt553.2.2.2.2.1) else (if a1_1 = 70 then (abacuslaw13_DirectiveSingle.j1 kj5 a0 a2 bt550.1 bt553.1 bt553.2.2.2.2.2.1 bt553.2.2.2.2.2.2 true a1_0 a1_1 a1_2 a1_3 a1_4 a1_5 a1_6 bt553.2.1 bt553.2.2.1 bt553.2.2.2.1 bt553.2.2.2.2.1) else (if a1_1 = 103 then (abacuslaw13_DirectiveSingle.j1 kj5 a0 a2 bt550.1 bt553.1 bt553.2.2.2.2.2.1 bt553.2.2.2.2.2.2 true a1_0 a1_1 a1_2 a1_3 a1_4 a1_5 a1_6 bt553.2.1 bt553.2.2.1 bt553.2.2.2.1 bt553.2.2.2.2.1) else (abacuslaw13_DirectiveSingle.j1 kj5 a0 a2 bt550.1 bt553.1 bt553.2.2.2.2.2.1 bt553.2.2.2.2.2.2 (a1_1 == 71) a1_0 a1_1 a1_2 a1_3 a1_4 a1_5 a1_6 bt553.2.1 bt553.2.2.1 bt553.2.2.2.1 bt553.2.2.2.2.1))))))) else (some false)) else (some (bt550.2 == 132))))) else (none)))) else (none)) = some true := by first | (rw [hy538]; with_reducible exact H) | (have H2_ := (Option.bind_some _ _).symm.trans H; rw [hy538]; with_reducible exact H2_) | (have H2_ := (Option.bind_some _ _).symm.trans H; with_reducible exact H2_) | with_reducible exact H | (rw [hy538]; exact H) | exact H
            have Ny538 := Aside0.mk hy538
            clear hy538
            by_cases c16 : y538.length < 2199023255552
            · rw [if_pos c16] at H
              have LMc16 := Aside0.mk c16
              clear c16
              obtain ⟨y541, hy541⟩ : ∃ y_ : List (S25), y_ = (y538 ++ [(⟨a1_0, a1_1, a1_2, a1_3, a1_4, a1_5, a1_6⟩ : S25)]) := ⟨_, rfl⟩
              replace H : ((abacuslaw13_cut.f kj5 a2).bind fun t544 => (if y541.length + t544.length < 2199023255552 then ((directive_Print.f kj5 (y541 ++ t544)).bind fun bt550 => ((directive_Check.f kj5 a1_0 a1_1 a1_2 a1_3 a1_4 a1_5 a1_6).bind fun t552 => (if t552 = 0 then (if bt550.2 = 0 then ((directive_Single.f kj5 bt550.1).bind fun bt553 => (if a1_1 = 101 then (abacuslaw13_DirectiveSingle.j1 kj5 a0 a2 bt550.1 bt553.1 bt553.2.2.2.2.2.1 bt553.2.2.2.2.2.2 true a1_0 a1_1 a1_2 a1_3 a1_4 a1_5 a1_6 bt553.2.1 bt553.2.2.1 bt553.2.2.2.1 bt553.2.2.2.2.1) else (if a1_1 = 69 then (abacuslaw13_DirectiveSingle.j1 kj5 a0 a2 bt550.1 bt553.1 bt553.2.2.2.2.2.1 bt553.2.2.2.2.2.2 true a1_0 a1_1 a1_2 a1_3 a1_4 a1_5 a1_6 bt553.2.1 bt553.2.2.1 bt553.2.2.2.1 bt553.2.2.2.2.1) else (if a1_1 = 102 then (abacuslaw13_DirectiveSingle.j1 kj5 a0 a2 bt550.1 bt553.1 bt553.2.2.2.2.2.1 bt553.2.2.2.2.2.2 true a1_0 a1_1 a1_2 a1_3 a1_4 a1_5 a1_6 bt553.2.1 bt553.2.2.1 bt553.2.2.2.1 bt553.2.2.2.2.1) else (if a1_1 = 70 then (abacuslaw13_DirectiveSingle.j1 kj5 a0 a2 bt550.1 bt553.1 bt553.2.2.2.2.2.1 bt553.2.2.2.2.2.2 true a1_0 a1_1 a1_2 a1_3 a1_4 a1_5 a1_6 bt553.2.1 bt553.2.2.1 bt553.2.2.2.1 bt553.2.2.2.2.1) else (if a1_1 = 103 then (abacuslaw13_DirectiveSingle.j1 kj5 a0 a2 bt550.1 bt553.1 bt553.2.2.2.2.2.1 bt553.2.2.2.2.2.2 true a1_0 a1_1 a1_2 a1_3 a1_4 a1_5 a1_6 bt553.2.1 bt553.2.2.1 bt553.2.2.2.1 bt553.2.2.2.2.1) else (abacuslaw13_DirectiveSingle.j1 kj5 a0 a2 bt550.1 bt553.1 bt553.2.2.2.2.2.1 bt553.2.2.2.2.2.2 (a1_1 == 71) a1_0 a1_1 a1_2 a1_3 a1_4 a1_5 a1_6 bt553.2.1 bt553.2.2.1 bt553.2.2.2.1 bt553.2.2.2.2.1))))))) else (some false)) else (some (bt550.2 == 132))))) else (none))) = some true := by first | (rw [hy541]; with_reducible exact H) | (have H2_ := (Option.bind_some _ _).symm.trans H; rw [hy541]; with_reducible exact H2_) | (have H2_ := (Option.bind_some _ _).symm.trans H; with_reducible exact H2_) | with_reducible exact H | (rw [hy541]; exact H) | exact H
              have Ny541 := Aside0.mk hy541
              clear hy541
              replace H := Option.bind_eq_some_iff.mp H
              obtain ⟨t544, A170, H⟩ := H
              replace H : (if y541.length + t544.length < 2199023255552 then ((directive_Print.f kj5 (y541 ++ t544)).bind fun bt550 => ((directive_Check.f kj5 a1_0 a1_1 a1_2 a1_3 a1_4 a1_5 a1_6).bind fun t552 => (if t552 = 0 then (if bt550.2 = 0 then ((directive_Single.f kj5 bt550.1).bind fun bt553 => (if a1_1 = 101 then (abacuslaw13_DirectiveSingle.j1 kj5 a0 a2 bt550.1 bt553.1 bt553.2.2.2.2.2.1 bt553.2.2.2.2.2.2 true a1_0 a1_1 a1_2 a1_3 a1_4 a1_5 a1_6 bt553.2.1 bt553.2.2.1 bt553.2.2.2.1 bt553.2.2.2.2.1) else (if a1_1 = 69 then (abacuslaw13_DirectiveSingle.j1 kj5 a0 a2 bt550.1 bt553.1 bt553.2.2.2.2.2.1 bt553.2.2.2.2.2.2 true a1_0 a1_1 a1_2 a1_3 a1_4 a1_5 a1_6 bt553.2.1 bt553.2.2.1 bt553.2.2.2.1 bt553.2.2.2.2.1) else (if a1_1 = 102 then (abacuslaw13_DirectiveSingle.j1 kj5 a0 a2 bt550.1 bt553.1 bt553.2.2.2.2.2.1 bt553.2.2.2.2.2.2 true a1_0 a1_1 a1_2 a1_3 a1_4 a1_5 a1_6 bt553.2.1 bt553.2.2.1 bt553.2.2.2.1 bt553.2.2.2.2.1) else (if a1_1 = 70 then (abacuslaw13_DirectiveSingle.j1 kj5 a0 a2 bt550.1 bt553.1 bt553.2.2.2.2.2.1 bt553.2.2.2.2.2.2 true a1_0 a1_1 a1_2 a1_3 a1_4 a1_5 a1_6 bt553.2.1 bt553.2.2.1 bt553.2.2.2.1 bt553.2.2.2.2.1) else (if a1_1 = 103 then (abacuslaw13_DirectiveSingle.j1 kj5 a0 a2 bt550.1 bt553.1 bt553.2.2.2.2.2.1 bt553.2.2.2.2.2.2 true a1_0 a1_1 a1_2 a1_3 a1_4 a1_5 a1_6 bt553.2.1 bt553.2.2.1 bt553.2.2.2.1 bt553.2.2.2.2.1) else (abacuslaw13_DirectiveSingle.j1 kj5 a0 a2 bt550.1 bt553.1 bt553.2.2.2.2.2.1 bt553.2.2.2.2.2.2 (a1_1 == 71) a1_0 a1_1 a1_2 a1_3 a1_4 a1_5 a1_6 bt553.2.1 bt553.2.2.1 bt553.2.2.2.1 bt553.2.2.2.2.1))))))) else (some false)) else (some (bt550.2 == 132))))) else (none)) = some true := H
              have A17 := Aside0.mk A170
              clear A170
              by_cases c18 : y541.length + t544.length < 2199023255552
              · rw [if_pos c18] at H
                have LMc18 := Aside0.mk c18
                clear c18
                obtain ⟨y547, hy547⟩ : ∃ y_ : List (S25), y_ = (y541 ++ t544) := ⟨_, rfl⟩
                replace H : ((directive_Print.f kj5 y547).bind fun bt550 => ((directive_Check.f kj5 a1_0 a1_1 a1_2 a1_3 a1_4 a1_5 a1_6).bind fun t552 => (if t552 = 0 then (if bt550.2 = 0 then ((directive_Single.f kj5 bt550.1).bind fun bt553 => (if a1_1 = 101 then (abacuslaw13_DirectiveSingle.j1 kj5 a0 a2 bt550.1 bt553.1 bt553.2.2.2.2.2.1 bt553.2.2.2.2.2.2 true a1_0 a1_1 a1_2 a1_3 a1_4 a1_5 a1_6 bt553.2.1 bt553.2.2.1 bt553.2.2.2.1 bt553.2.2.2.2.1) else (if a1_1 = 69 then (abacuslaw13_DirectiveSingle.j1 kj5 a0 a2 bt550.1 bt553.1 bt553.2.2.2.2.2.1 bt553.2.2.2.2.2.2 true a1_0 a1_1 a1_2 a1_3 a1_4 a1_5 a1_6 bt553.2.1 bt553.2.2.1 bt553.2.2.2.1 bt553.2.2.2.2.1) else (if a1_1 = 102 then (abacuslaw13_DirectiveSingle.j1 kj5 a0 a2 bt550.1 bt553.1 bt553.2.2.2.2.2.1 bt553.2.2.2.2.2.2 true a1_0 a1_1 a1_2 a1_3 a1_4 a1_5 a1_6 bt553.2.1 bt553.2.2.1 bt553.2.2.2.1 bt553.2.2.2.2.1) else (if a1_1 = 70 then (abacuslaw13_DirectiveSingle.j1 kj5 a0 a2 bt550.1 bt553.1 bt553.2.2.2.2.2.1 bt553.2.2.2.2.2.2 true a1_0 a1_1 a1_2 a1_3 a1_4 a1_5 a1_6 bt553.2.1 bt553.2.2.1 bt553.2.2.2.1 bt553.2.2.2.2.1) else (if a1_1 = 103 then (abacuslaw13_DirectiveSingle.j1 kj5 a0 a2 bt550.1 bt553.1 bt553.2.2.2.2.2.1 bt553.2.2.2.2.2.2 true a1_0 a1_1 a1_2 a1_3 a1_4 a1_5 a1_6 bt553.2.1 bt553.2.2.1 bt553.2.2.2.1 bt553.2.2.2.2.1) else (abacuslaw13_DirectiveSingle.j1 kj5 a0 a2 bt550.1 bt553.1 bt553.2.2.2.2.2.1 bt553.2.2.2.2.2.2 (a1_1 == 71) a1_0 a1_1 a1_2 a1_3 a1_4 a1_5 a1_6 bt553.2.1 bt553.2.2.1 bt553.2.2.2.1 bt553.2.2.2.2.1))))))) else (some false)) else (some (bt550.2 == 132))))) = some true := by first | (rw [hy547]; with_reducible exact H) | (have H2_ := (Option.bind_some _ _).symm.trans H; rw [hy547]; with_reducible exact H2_) | (have H2_ := (Option.bind_some _ _).symm.trans H; with_reducible exact H2_) | with_reducible exact H | (rw [hy547]; exact H) | exact H
                have Ny547 := Aside0.mk hy547
                clear hy547
                replace H := Option.bind_eq_some_iff.mp H
                obtain ⟨⟨t550, t551⟩, A190, H⟩ := H
                replace H : ((directive_Check.f kj5 a1_0 a1_1 a1_2 a1_3 a1_4 a1_5 a1_6).bind fun t552 => (if t552 = 0 then (if t551 = 0 then ((directive_Single.f kj5 t550).bind fun bt553 => (if a1_1 = 101 then (abacuslaw13_DirectiveSingle.j1 kj5 a0 a2 t550 bt553.1 bt553.2.2.2.2.2.1 bt553.2.2.2.2.2.2 true a1_0 a1_1 a1_2 a1_3 a1_4 a1_5 a1_6 bt553.2.1 bt553.2.2.1 bt553.2.2.2.1 bt553.2.2.2.2.1) else (if a1_1 = 69 then (abacuslaw13_DirectiveSingle.j1 kj5 a0 a2 t550 bt553.1 bt553.2.2.2.2.2.1 bt553.2.2.2.2.2.2 true a1_0 a1_1 a1_2 a1_3 a1_4 a1_5 a1_6 bt553.2.1 bt553.2.2.1 bt553.2.2.2.1 bt553.2.2.2.2.1) else (if a1_1 = 102 then (abacuslaw13_DirectiveSingle.j1 kj5 a0 a2 t550 bt553.1 bt553.2.2.2.2.2.1 bt553.2.2.2.2.2.2 true a1_0 a1_1 a1_2 a1_3 a1_4 a1_5 a1_6 bt553.2.1 bt553.2.2.1 bt553.2.2.2.1 bt553.2.2.2.2.1) else (if a1_1 = 70 then (abacuslaw13_DirectiveSingle.j1 kj5 a0 a2 t550 bt553.1 bt553.2.2.2.2.2.1 bt553.2.2.2.2.2.2 true a1_0 a1_1 a1_2 a1_3 a1_4 a1_5 a1_6 bt553.2.1 bt553.2.2.1 bt553.2.2.2.1 bt553.2.2.2.2.1) else (if a1_1 = 103 then (abacuslaw13_DirectiveSingle.j1 kj5 a0 a2 t550 bt553.1 bt553.2.2.2.2.2.1 bt553.2.2.2.2.2.2 true a1_0 a1_1 a1_2 a1_3 a1_4 a1_5 a1_6 bt553.2.1 bt553.2.2.1 bt553.2.2.2.1 bt553.2.2.2.2.1) else (abacuslaw13_DirectiveSingle.j1 kj5 a0 a2 t550 bt553.1 bt553.2.2.2.2.2.1 bt553.2.2.2.2.2.2 (a1_1 == 71) a1_0 a1_1 a1_2 a1_3 a1_4 a1_5 a1_6 bt553.2.1 bt553.2.2.1 bt553.2.2.2.1 bt553.2.2.2.2.1))))))) else (some false)) else (some (t551 == 132)))) = some true := H
                have A19 := Aside0.mk A190
                clear A190
                replace H := Option.bind_eq_some_iff.mp H
                obtain ⟨t552, A200, H⟩ := H
                replace H : (if t552 = 0 then (if t551 = 0 then ((directive_Single.f kj5 t550).bind fun bt553 => (if a1_1 = 101 then (abacuslaw13_DirectiveSingle.j1 kj5 a0 a2 t550 bt553.1 bt553.2.2.2.2.2.1 bt553.2.2.2.2.2.2 true a1_0 a1_1 a1_2 a1_3 a1_4 a1_5 a1_6 bt553.2.1 bt553.2.2.1 bt553.2.2.2.1 bt553.2.2.2.2.1) else (if a1_1 = 69 then (abacuslaw13_DirectiveSingle.j1 kj5 a0 a2 t550 bt553.1 bt553.2.2.2.2.2.1 bt553.2.2.2.2.2.2 true a1_0 a1_1 a1_2 a1_3 a1_4 a1_5 a1_6 bt553.2.1 bt553.2.2.1 bt553.2.2.2.1 bt553.2.2.2.2.1) else (if a1_1 = 102 then (abacuslaw13_DirectiveSingle.j1 kj5 a0 a2 t550 bt553.1 bt553.2.2.2.2.2.1 bt553.2.2.2.2.2.2 true a1_0 a1_1 a1_2 a1_3 a1_4 a1_5 a1_6 bt553.2.1 bt553.2.2.1 bt553.2.2.2.1 bt553.2.2.2.2.1) else (if a1_1 = 70 then (abacuslaw13_DirectiveSingle.j1 kj5 a0 a2 t550 bt553.1 bt553.2.2.2.2.2.1 bt553.2.2.2.2.2.2 true a1_0 a1_1 a1_2 a1_3 a1_4 a1_5 a1_6 bt553.2.1 bt553.2.2.1 bt553.2.2.2.1 bt553.2.2.2.2.1) else (if a1_1 = 103 then (abacuslaw13_DirectiveSingle.j1 kj5 a0 a2 t550 bt553.1 bt553.2.2.2.2.2.1 bt553.2.2.2.2.2.2 true a1_0 a1_1 a1_2 a1_3 a1_4 a1_5 a1_6 bt553.2.1 bt553.2.2.1 bt553.2.2.2.1 bt553.2.2.2.2.1) else (abacuslaw13_DirectiveSingle.j1 kj5 a0 a2 t550 bt553.1 bt553.2.2.2.2.2.1 bt553.2.2.2.2.2.2 (a1_1 == 71) a1_0 a1_1 a1_2 a1_3 a1_4 a1_5 a1_6 bt553.2.1 bt553.2.2.1 bt553.2.2.2.1 bt553.2.2.2.2.1))))))) else (some false)) else (some (t551 == 132))) = some true := H
                have A20 := Aside0.mk A200
                clear A200
                by_cases c21 : t552 = 0
                · rw [if_pos c21] at H
                  have c21b0 : (t552 == 0) = true := beq_iff_eq.mpr c21
                  have c21b1 : (t552 != 0) = false := bne_eq_false_iff_eq.mpr c21
                  clear c21
                  by_cases c22 : t551 = 0
                  · rw [if_pos c22] at H
                    have c22b0 : (t551 == 0) = true := beq_iff_eq.mpr c22
                    have c22b1 : (t551 != 0) = false := bne_eq_false_iff_eq.mpr c22
                    clear c22
                    replace H := Option.bind_eq_some_iff.mp H
                    obtain ⟨⟨t553, t554, t555, t556, t557, t558, t559⟩, A230, H⟩ := H
                    replace H : (if a1_1 = 101 then (abacuslaw13_DirectiveSingle.j1 kj5 a0 a2 t550 t553 t558 t559 true a1_0 a1_1 a1_2 a1_3 a1_4 a1_5 a1_6 t554 t555 t556 t557) else (if a1_1 = 69 then (abacuslaw13_DirectiveSingle.j1 kj5 a0 a2 t550 t553 t558 t559 true a1_0 a1_1 a1_2 a1_3 a1_4 a1_5 a1_6 t554 t555 t556 t557) else (if a1_1 = 102 then (abacuslaw13_DirectiveSingle.j1 kj5 a0 a2 t550 t553 t558 t559 true a1_0 a1_1 a1_2 a1_3 a1_4 a1_5 a1_6 t554 t555 t556 t557) else (if a1_1 = 70 then (abacuslaw13_DirectiveSingle.j1 kj5 a0 a2 t550 t553 t558 t559 true a1_0 a1_1 a1_2 a1_3 a1_4 a1_5 a1_6 t554 t555 t556 t557) else (if a1_1 = 103 then (abacuslaw13_DirectiveSingle.j1 kj5 a0 a2 t550 t553 t558 t559 true a1_0 a1_1 a1_2 a1_3 a1_4 a1_5 a1_6 t554 t555 t556 t557) else (abacuslaw13_DirectiveSingle.j1 kj5 a0 a2 t550 t553 t558 t559 (a1_1 == 71) a1_0 a1_1 a1_2 a1_3 a1_4 a1_5 a1_6 t554 t555 t556 t557)))))) = some true := H
                    have A23 := Aside0.mk A230
                    clear A230
                    have HC24 := Aside0.mk H
                    clear H
                    go_upto_region 15 with (first | ((with_reducible refine gate_callee (f := 22) rfl ?_); refine goesL_ (some 38) rfl rfl Tryd.func22 (by kernel_rfl) rfl #[.string a0] rfl (by (try simp only [List.map_toArray, List.map_cons, List.map_nil]); first | done | rfl | (simp only [List.length_drop, List.length_take]; rfl)) ?_; (with_reducible refine (abacuslaw13_cut.calls kj5 a0 t535 _ A14.out).mono ?_); rintro e w25 ⟨v536, rfl, ho0, hb⟩; refine ⟨_, rfl, ?_⟩; have n0_ := Aside0.mk (Kd.R_lower (Kd.R_newB ho0 (g := gb533) (o := .cells #[.string a1_0, .int .u8 a1_1, .int .i64 a1_2, .int .i64 a1_3, .int .i64 a1_4, .int .i64 a1_5, .int .i64 a1_6] 25 (0, 0)) (by (with_reducible repeat (first | refine blk_drewN ?_ _ | refine blk_drew ?_ | refine blk_alloc ?_ _)); exact BK533.out)) (below_size (by repeat (first | (with_reducible first | exact HB.out | apply below_alloc | apply pw_below_drewN | apply below_drew1 | refine below_set ?_ GE533.out) | exact HB.out)))); have n1_ := Aside0.mk (blk_below (g := gb533) (o := .cells #[.string a1_0, .int .u8 a1_1, .int .i64 a1_2, .int .i64 a1_3, .int .i64 a1_4, .int .i64 a1_5, .int .i64 a1_6] 25 (0, 0)) (by (with_reducible repeat (first | refine blk_drewN ?_ _ | refine blk_drew ?_ | refine blk_alloc ?_ _)); exact BK533.out) hb); have n2_ := Aside0.mk (below_step (by repeat (first | (with_reducible first | exact HB.out | apply below_alloc | apply pw_below_drewN | apply below_drew1 | refine below_set ?_ GE533.out) | exact HB.out)) hb); clear BK533; clear HB; have HO537 := n0_; have BK533 := n1_; have HB := n2_; clear n0_ n1_ n2_; (try clear hb); (try clear hb2); (try clear hk); (try clear hi); (try clear ho0); obtain ⟨Ao27, co27, eo27⟩ := Kd.R_slice HO537.out; subst eo27) | ((with_reducible refine gate_builtin (b := .append) (xs := #[.tmp 36, .tmp 38]) rfl ?_); (try (refine gate_guard (by rfl) ?_; dsimp only)); at_builtin; refine Kd.R_append_rows k25 (w0 := w) w.heap.size rfl (.tmp 36) (.tmp 38) 22 25 (.agg #[(.string ⟨#[]⟩), (.int .u8 0), (.int .i64 0), (.int .i64 0), (.int .i64 0), (.int .i64 0), (.int .i64 0)]) 64 rfl Tryd.underlying22 info25 rfl (by decide) (by omega) (.slice none 0 0) ([] : List (S25)) t535 _ _ _ (fun k_ => some k_ ≠ (.slice Ao27 t535.length co27 : Value).ownBlock ∧ k_ ≠ gb533) (fun _ => False) rfl rfl ?aO ?aR (fun _ _ h => h) (fun _ h => h.elim) ?aF ?aB ?aS ?aL ?_; (case aR => repeat (first | exact (Kd.R_reads' HO537.out).2.2 | (with_reducible refine Kd.C_alloc ?_ _) | (with_reducible refine Kd.C_drewN ?_ _) | (with_reducible refine Kd.C_drew ?_))); (case aB => exact (by repeat (first | (with_reducible first | exact HB.out | apply below_alloc | apply pw_below_drewN | apply below_drew1 | refine below_set ?_ GE533.out) | exact HB.out))); (case aF => exact (fun k_ hk => ⟨Kd.fresh' (Kd.R_lt (by (with_reducible repeat (first | apply Kd.R_alloc | apply Kd.R_drewN | apply Kd.R_drew)); exact HO537.out)) k_ hk, Kd.freshB (g := gb533) (o := .cells #[.string a1_0, .int .u8 a1_1, .int .i64 a1_2, .int .i64 a1_3, .int .i64 a1_4, .int .i64 a1_5, .int .i64 a1_6] 25 (0, 0)) (by (with_reducible repeat (first | refine blk_drewN ?_ _ | refine blk_drew ?_ | refine blk_alloc ?_ _)); exact BK533.out) k_ hk⟩)); (case aO => exact ((Kd.R_nil _ _ _ _ (fun k_ => some k_ ≠ (.slice Ao27 t535.length co27 : Value).ownBlock ∧ k_ ≠ gb533)))); (case aS => exact (below_size (by repeat (first | (with_reducible first | exact HB.out | apply below_alloc | apply pw_below_drewN | apply below_drew1 | refine below_set ?_ GE533.out) | exact HB.out)))); (case aL => have := LMc15.out; omega); intro v539 w26 ho hb hg hat; rw [← Ny538.out] at ho; have n0_ := Aside0.mk (blk_grown (g := gb533) (o := .cells #[.string a1_0, .int .u8 a1_1, .int .i64 a1_2, .int .i64 a1_3, .int .i64 a1_4, .int .i64 a1_5, .int .i64 a1_6] 25 (0, 0)) (by (with_reducible repeat (first | refine blk_drewN ?_ _ | refine blk_drew ?_ | refine blk_alloc ?_ _)); exact BK533.out) hg (by simp [Value.ownBlock])); have n1_ := Aside0.mk (Kd.R_after (Kd.R_apart_nil (by (with_reducible repeat (first | apply Kd.R_alloc | apply Kd.R_drewN | apply Kd.R_drew)); exact HO537.out)) hg hat); have n2_ := Aside0.mk (hb); have n3_ := Aside0.mk (ho); clear BK533; clear HO537; clear HB; have BK533 := n0_; have HO537 := n1_; have HB := n2_; have HO540 := n3_; clear n0_ n1_ n2_ n3_; clear ho hb hg hat; have hcz28_0 : w26.cell? ⟨gb533, 0, none⟩ = some (.string a1_0) := (blk_cell BK533.out 0).trans rfl; have hcz28_1 : w26.cell? ⟨gb533, 1, none⟩ = some (.int .u8 a1_1) := (blk_cell BK533.out 1).trans rfl; have hcz28_2 : w26.cell? ⟨gb533, 2, none⟩ = some (.int .i64 a1_2) := (blk_cell BK533.out 2).trans rfl; have hcz28_3 : w26.cell? ⟨gb533, 3, none⟩ = some (.int .i64 a1_3) := (blk_cell BK533.out 3).trans rfl; have hcz28_4 : w26.cell? ⟨gb533, 4, none⟩ = some (.int .i64 a1_4) := (blk_cell BK533.out 4).trans rfl; have hcz28_5 : w26.cell? ⟨gb533, 5, none⟩ = some (.int .i64 a1_5) := (blk_cell BK533.out 5).trans rfl; have hcz28_6 : w26.cell? ⟨gb533, 6, none⟩ = some (.int .i64 a1_6) := (blk_cell BK533.out 6).trans rfl; have hfz28_0 := blk_frozen BK533.out 0; have hfz28_1 := blk_frozen BK533.out 1; have hfz28_2 := blk_frozen BK533.out 2; have hfz28_3 := blk_frozen BK533.out 3; have hfz28_4 := blk_frozen BK533.out 4; have hfz28_5 := blk_frozen BK533.out 5; have hfz28_6 := blk_frozen BK533.out 6) | ((with_reducible refine gate_builtin (b := .append) (xs := #[.tmp 40, .tmp 42]) rfl ?_); (try (refine gate_guard (by rfl) ?_; dsimp only)); at_builtin; refine Kd.R_append k25 (w0 := w) w.heap.size rfl (.tmp 40) (.tmp 42) 22 25 (.agg #[(.string ⟨#[]⟩), (.int .u8 0), (.int .i64 0), (.int .i64 0), (.int .i64 0), (.int .i64 0), (.int .i64 0)]) 64 rfl Tryd.underlying22 info25 rfl (by decide) (by omega) v539 y538 (⟨a1_0, a1_1, a1_2, a1_3, a1_4, a1_5, a1_6⟩ : S25) [.string a1_0, .int .u8 a1_1, .int .i64 a1_2, .int .i64 a1_3, .int .i64 a1_4, .int .i64 a1_5, .int .i64 a1_6] (fun k_ => some k_ ≠ (.slice Ao27 t535.length co27 : Value).ownBlock ∧ k_ ≠ gb533) (fun _ => False) rfl rfl ?aP (fun _ hk => hk.elim) ?aF ?aO ?aB ?aS ?aL ?_; (case aP => exact k25_mkM _ _ _ (⟨a1_0, a1_1, a1_2, a1_3, a1_4, a1_5, a1_6⟩ : S25)); (case aB => exact (by repeat (first | (with_reducible first | exact HB.out | apply below_alloc | apply pw_below_drewN | apply below_drew1 | refine below_set ?_ GE533.out) | exact HB.out))); (case aF => exact (fun k_ hk => ⟨Kd.fresh' (Kd.R_lt (by (with_reducible repeat (first | apply Kd.R_alloc | apply Kd.R_drewN | apply Kd.R_drew)); exact HO537.out)) k_ hk, Kd.freshB (g := gb533) (o := .cells #[.string a1_0, .int .u8 a1_1, .int .i64 a1_2, .int .i64 a1_3, .int .i64 a1_4, .int .i64 a1_5, .int .i64 a1_6] 25 (0, 0)) (by (with_reducible repeat (first | refine blk_drewN ?_ _ | refine blk_drew ?_ | refine blk_alloc ?_ _)); exact BK533.out) k_ hk⟩)); (case aO => exact (by (with_reducible repeat (first | apply Kd.R_alloc | apply Kd.R_drewN | apply Kd.R_drew)); exact HO540.out)); (case aS => exact (below_size (by repeat (first | (with_reducible first | exact HB.out | apply below_alloc | apply pw_below_drewN | apply below_drew1 | refine below_set ?_ GE533.out) | exact HB.out)))); (case aL => have := LMc16.out; omega); intro v542 w29 ho hb hg hat; rw [← Ny541.out] at ho; have n0_ := Aside0.mk (blk_grown (g := gb533) (o := .cells #[.string a1_0, .int .u8 a1_1, .int .i64 a1_2, .int .i64 a1_3, .int .i64 a1_4, .int .i64 a1_5, .int .i64 a1_6] 25 (0, 0)) (by (with_reducible repeat (first | refine blk_drewN ?_ _ | refine blk_drew ?_ | refine blk_alloc ?_ _)); exact BK533.out) hg (Kd.R_away HO540.out (fun _ hk => hk.2))); have n1_ := Aside0.mk (Kd.R_after (ok := (fun k_ => k_ ≠ gb533)) (by (with_reducible repeat (first | apply Kd.R_alloc | apply Kd.R_drewN | apply Kd.R_drew)); exact Kd.R_mono HO537.out (fun _ hk => ⟨hk.1.2, hk.2⟩)) hg hat); have n2_ := Aside0.mk (hb); have n3_ := Aside0.mk (ho); clear BK533; clear HO537; clear HB; clear HO540; have BK533 := n0_; have HO537 := n1_; have HB := n2_; have HO543 := n3_; clear n0_ n1_ n2_ n3_; clear ho hb hg hat) | ((with_reducible refine gate_callee (f := 22) rfl ?_); refine goesL_ (some 46) rfl rfl Tryd.func22 (by kernel_rfl) rfl #[.string a2] rfl (by (try simp only [List.map_toArray, List.map_cons, List.map_nil]); first | done | rfl | (simp only [List.length_drop, List.length_take]; rfl)) ?_; (with_reducible refine (abacuslaw13_cut.calls kj5 a2 t544 _ A17.out).mono ?_); rintro e w30 ⟨v545, rfl, ho0, hb⟩; refine ⟨_, rfl, ?_⟩; have n0_ := Aside0.mk (Kd.R_elder' (by (with_reducible repeat (first | apply Kd.R_alloc | apply Kd.R_drewN | apply Kd.R_drew)); exact HO537.out) (Kd.R_base ho0) hb); have n1_ := Aside0.mk (Kd.R_elder' (by (with_reducible repeat (first | apply Kd.R_alloc | apply Kd.R_drewN | apply Kd.R_drew)); exact HO543.out) (Kd.R_base ho0) hb); have n2_ := Aside0.mk (Kd.R_lower (Kd.R_newB (Kd.R_new' (Kd.R_new' ho0 (Kd.R_lt (by (with_reducible repeat (first | apply Kd.R_alloc | apply Kd.R_drewN | apply Kd.R_drew)); exact HO537.out))) (Kd.R_lt (by (with_reducible repeat (first | apply Kd.R_alloc | apply Kd.R_drewN | apply Kd.R_drew)); exact HO543.out))) (g := gb533) (o := .cells #[.string a1_0, .int .u8 a1_1, .int .i64 a1_2, .int .i64 a1_3, .int .i64 a1_4, .int .i64 a1_5, .int .i64 a1_6] 25 (0, 0)) (by (with_reducible repeat (first | refine blk_drewN ?_ _ | refine blk_drew ?_ | refine blk_alloc ?_ _)); exact BK533.out)) (below_size (by repeat (first | (with_reducible first | exact HB.out | apply below_alloc | apply pw_below_drewN | apply below_drew1 | refine below_set ?_ GE533.out) | exact HB.out)))); have n3_ := Aside0.mk (blk_below (g := gb533) (o := .cells #[.string a1_0, .int .u8 a1_1, .int .i64 a1_2, .int .i64 a1_3, .int .i64 a1_4, .int .i64 a1_5, .int .i64 a1_6] 25 (0, 0)) (by (with_reducible repeat (first | refine blk_drewN ?_ _ | refine blk_drew ?_ | refine blk_alloc ?_ _)); exact BK533.out) hb); have n4_ := Aside0.mk (below_step (by repeat (first | (with_reducible first | exact HB.out | apply below_alloc | apply pw_below_drewN | apply below_drew1 | refine below_set ?_ GE533.out) | exact HB.out)) hb); clear HO537; clear HO543; clear BK533; clear HB; have HO537 := n0_; have HO543 := n1_; have HO546 := n2_; have BK533 := n3_; have HB := n4_; clear n0_ n1_ n2_ n3_ n4_; (try clear hb); (try clear hb2); (try clear hk); (try clear hi); (try clear ho0); obtain ⟨Ao32, co32, eo32⟩ := Kd.R_slice HO546.out; subst eo32) | ((with_reducible refine gate_builtin (b := .append) (xs := #[.tmp 44, .tmp 46]) rfl ?_); (try (refine gate_guard (by rfl) ?_; dsimp only)); at_builtin; refine Kd.R_append_rows k25 (w0 := w) w.heap.size rfl (.tmp 44) (.tmp 46) 22 25 (.agg #[(.string ⟨#[]⟩), (.int .u8 0), (.int .i64 0), (.int .i64 0), (.int .i64 0), (.int .i64 0), (.int .i64 0)]) 64 rfl Tryd.underlying22 info25 rfl (by decide) (by omega) v542 y541 t544 _ _ _ (fun k_ => some k_ ≠ (.slice Ao27 t535.length co27 : Value).ownBlock ∧ some k_ ≠ (.slice Ao32 t544.length co32 : Value).ownBlock ∧ k_ ≠ gb533) (fun _ => False) rfl rfl ?aO ?aR (fun _ _ h => h) (fun _ h => h.elim) ?aF ?aB ?aS ?aL ?_; (case aR => repeat (first | exact (Kd.R_reads' HO546.out).2.2 | (with_reducible refine Kd.C_alloc ?_ _) | (with_reducible refine Kd.C_drewN ?_ _) | (with_reducible refine Kd.C_drew ?_))); (case aB => exact (by repeat (first | (with_reducible first | exact HB.out | apply below_alloc | apply pw_below_drewN | apply below_drew1 | refine below_set ?_ GE533.out) | exact HB.out))); (case aF => exact (fun k_ hk => ⟨Kd.fresh' (Kd.R_lt (by (with_reducible repeat (first | apply Kd.R_alloc | apply Kd.R_drewN | apply Kd.R_drew)); exact HO537.out)) k_ hk, Kd.fresh' (Kd.R_lt (by (with_reducible repeat (first | apply Kd.R_alloc | apply Kd.R_drewN | apply Kd.R_drew)); exact HO546.out)) k_ hk, Kd.freshB (g := gb533) (o := .cells #[.string a1_0, .int .u8 a1_1, .int .i64 a1_2, .int .i64 a1_3, .int .i64 a1_4, .int .i64 a1_5, .int .i64 a1_6] 25 (0, 0)) (by (with_reducible repeat (first | refine blk_drewN ?_ _ | refine blk_drew ?_ | refine blk_alloc ?_ _)); exact BK533.out) k_ hk⟩)); (case aO => exact (by (with_reducible repeat (first | apply Kd.R_alloc | apply Kd.R_drewN | apply Kd.R_drew)); exact Kd.R_mono HO543.out (fun _ hk => ⟨hk.1.1, ⟨hk.2, hk.1.2⟩⟩))); (case aS => exact (below_size (by repeat (first | (with_reducible first | exact HB.out | apply below_alloc | apply pw_below_drewN | apply below_drew1 | refine below_set ?_ GE533.out) | exact HB.out)))); (case aL => have := LMc18.out; omega); intro v548 w31 ho hb hg hat; rw [← Ny547.out] at ho; have n0_ := Aside0.mk (blk_grown (g := gb533) (o := .cells #[.string a1_0, .int .u8 a1_1, .int .i64 a1_2, .int .i64 a1_3, .int .i64 a1_4, .int .i64 a1_5, .int .i64 a1_6] 25 (0, 0)) (by (with_reducible repeat (first | refine blk_drewN ?_ _ | refine blk_drew ?_ | refine blk_alloc ?_ _)); exact BK533.out) hg (Kd.R_away HO543.out (fun _ hk => hk.1.2))); have n1_ := Aside0.mk (Kd.R_after (ok := (fun k_ => some k_ ≠ (.slice Ao32 t544.length co32 : Value).ownBlock ∧ k_ ≠ gb533)) (by (with_reducible repeat (first | apply Kd.R_alloc | apply Kd.R_drewN | apply Kd.R_drew)); exact Kd.R_mono HO537.out (fun _ hk => ⟨⟨hk.2, hk.1.1⟩, hk.1.2⟩)) hg hat); have n2_ := Aside0.mk (Kd.R_after (ok := (fun k_ => some k_ ≠ (.slice Ao27 t535.length co27 : Value).ownBlock ∧ k_ ≠ gb533)) (by (with_reducible repeat (first | apply Kd.R_alloc | apply Kd.R_drewN | apply Kd.R_drew)); exact Kd.R_mono HO546.out (fun _ hk => ⟨⟨hk.1.1.2, hk.2⟩, hk.1.2⟩)) hg hat); have n3_ := Aside0.mk (hb); have n4_ := Aside0.mk (ho); clear BK533; clear HO537; clear HO546; clear HB; clear HO543; have BK533 := n0_; have HO537 := n1_; have HO546 := n2_; have HB := n3_; have HO549 := n4_; clear n0_ n1_ n2_ n3_ n4_; clear ho hb hg hat; obtain ⟨Ao33, co33, eo33⟩ := Kd.R_slice HO549.out; subst eo33) | ((with_reducible refine gate_callee (f := 12) rfl ?_); refine goesL_ (some 50) rfl rfl Tryd.func12 (by kernel_rfl) rfl #[.slice Ao33 y547.length co33] rfl (by (try simp only [List.map_toArray, List.map_cons, List.map_nil]); first | done | rfl | (simp only [List.length_drop, List.length_take]; rfl)) ?_; (with_reducible refine (directive_Print.calls kj5 _ _ y547 t550 t551 _ ?side1 ?side2 ?side3 A19.out).mono ?_); (case side1 => repeat (first | exact (Kd.R_reads' HO549.out).2.2 | (with_reducible refine Kd.C_alloc ?_ _) | (with_reducible refine Kd.C_drewN ?_ _) | (with_reducible refine Kd.C_drew ?_))); (case side2 => exact (Kd.R_reads' HO549.out).2.1); (case side3 => exact GW.below HG.out (by repeat (first | (with_reducible first | exact HB.out | apply below_alloc | apply pw_below_drewN | apply below_drew1 | refine below_set ?_ GE533.out) | exact HB.out))); rintro e w34 ⟨rfl, hb⟩; refine ⟨_, rfl, ?_⟩; have n0_ := Aside0.mk (Kd.R_below (by (with_reducible repeat (first | apply Kd.R_alloc | apply Kd.R_drewN | apply Kd.R_drew)); exact HO537.out) hb); have n1_ := Aside0.mk (Kd.R_below (by (with_reducible repeat (first | apply Kd.R_alloc | apply Kd.R_drewN | apply Kd.R_drew)); exact HO546.out) hb); have n2_ := Aside0.mk (Kd.R_below (by (with_reducible repeat (first | apply Kd.R_alloc | apply Kd.R_drewN | apply Kd.R_drew)); exact HO549.out) hb); have n3_ := Aside0.mk (blk_below (g := gb533) (o := .cells #[.string a1_0, .int .u8 a1_1, .int .i64 a1_2, .int .i64 a1_3, .int .i64 a1_4, .int .i64 a1_5, .int .i64 a1_6] 25 (0, 0)) (by (with_reducible repeat (first | refine blk_drewN ?_ _ | refine blk_drew ?_ | refine blk_alloc ?_ _)); exact BK533.out) hb); have n4_ := Aside0.mk (below_step (by repeat (first | (with_reducible first | exact HB.out | apply below_alloc | apply pw_below_drewN | apply below_drew1 | refine below_set ?_ GE533.out) | exact HB.out)) hb); clear HO537; clear HO546; clear HO549; clear BK533; clear HB; have HO537 := n0_; have HO546 := n1_; have HO549 := n2_; have BK533 := n3_; have HB := n4_; clear n0_ n1_ n2_ n3_ n4_; (try clear hb); (try clear hb2); (try clear hk); (try clear hi); have hcz35_0 : w34.cell? ⟨gb533, 0, none⟩ = some (.string a1_0) := (blk_cell BK533.out 0).trans rfl; have hcz35_1 : w34.cell? ⟨gb533, 1, none⟩ = some (.int .u8 a1_1) := (blk_cell BK533.out 1).trans rfl; have hcz35_2 : w34.cell? ⟨gb533, 2, none⟩ = some (.int .i64 a1_2) := (blk_cell BK533.out 2).trans rfl; have hcz35_3 : w34.cell? ⟨gb533, 3, none⟩ = some (.int .i64 a1_3) := (blk_cell BK533.out 3).trans rfl; have hcz35_4 : w34.cell? ⟨gb533, 4, none⟩ = some (.int .i64 a1_4) := (blk_cell BK533.out 4).trans rfl; have hcz35_5 : w34.cell? ⟨gb533, 5, none⟩ = some (.int .i64 a1_5) := (blk_cell BK533.out 5).trans rfl; have hcz35_6 : w34.cell? ⟨gb533, 6, none⟩ = some (.int .i64 a1_6) := (blk_cell BK533.out 6).trans rfl; have hfz35_0 := blk_frozen BK533.out 0; have hfz35_1 := blk_frozen BK533.out 1; have hfz35_2 := blk_frozen BK533.out 2; have hfz35_3 := blk_frozen BK533.out 3; have hfz35_4 := blk_frozen BK533.out 4; have hfz35_5 := blk_frozen BK533.out 5; have hfz35_6 := blk_frozen BK533.out 6) | ((with_reducible refine gate_callee (f := 11) rfl ?_); refine goesL_ (some 54) rfl rfl Tryd.func11 (by kernel_rfl) rfl #[.agg #[.string a1_0, .int .u8 a1_1, .int .i64 a1_2, .int .i64 a1_3, .int .i64 a1_4, .int .i64 a1_5, .int .i64 a1_6]] rfl (by (try simp only [List.map_toArray, List.map_cons, List.map_nil]); first | done | rfl | (simp only [List.length_drop, List.length_take]; rfl)) ?_; (with_reducible refine (directive_Check.calls kj5 a1_0 a1_1 a1_2 a1_3 a1_4 a1_5 a1_6 t552 _ A20.out).mono ?_); rintro e w36 ⟨rfl, hb⟩; refine ⟨_, rfl, ?_⟩; have n0_ := Aside0.mk (Kd.R_below (by (with_reducible repeat (first | apply Kd.R_alloc | apply Kd.R_drewN | apply Kd.R_drew)); exact HO537.out) hb); have n1_ := Aside0.mk (Kd.R_below (by (with_reducible repeat (first | apply Kd.R_alloc | apply Kd.R_drewN | apply Kd.R_drew)); exact HO546.out) hb); have n2_ := Aside0.mk (Kd.R_below (by (with_reducible repeat (first | apply Kd.R_alloc | apply Kd.R_drewN | apply Kd.R_drew)); exact HO549.out) hb); have n3_ := Aside0.mk (blk_below (g := gb533) (o := .cells #[.string a1_0, .int .u8 a1_1, .int .i64 a1_2, .int .i64 a1_3, .int .i64 a1_4, .int .i64 a1_5, .int .i64 a1_6] 25 (0, 0)) (by (with_reducible repeat (first | refine blk_drewN ?_ _ | refine blk_drew ?_ | refine blk_alloc ?_ _)); exact BK533.out) hb); have n4_ := Aside0.mk (below_step (by repeat (first | (with_reducible first | exact HB.out | apply below_alloc | apply pw_below_drewN | apply below_drew1 | refine below_set ?_ GE533.out) | exact HB.out)) hb); clear HO537; clear HO546; clear HO549; clear BK533; clear HB; have HO537 := n0_; have HO546 := n1_; have HO549 := n2_; have BK533 := n3_; have HB := n4_; clear n0_ n1_ n2_ n3_ n4_; (try clear hb); (try clear hb2); (try clear hk); (try clear hi)) | ((with_reducible refine gate_callee (f := 23) rfl ?_); refine goesL_ (some 62) rfl rfl Tryd.func23 (by kernel_rfl) rfl #[.string t550] rfl (by (try simp only [List.map_toArray, List.map_cons, List.map_nil]); first | done | rfl | (simp only [List.length_drop, List.length_take]; rfl)) ?_; (with_reducible refine (directive_Single.calls kj5 t550 t553 t554 t555 t556 t557 t558 t559 _ A23.out).mono ?_); rintro e w37 ⟨rfl, hb⟩; refine ⟨_, rfl, ?_⟩; have n0_ := Aside0.mk (Kd.R_below (by (with_reducible repeat (first | apply Kd.R_alloc | apply Kd.R_drewN | apply Kd.R_drew)); exact HO537.out) hb); have n1_ := Aside0.mk (Kd.R_below (by (with_reducible repeat (first | apply Kd.R_alloc | apply Kd.R_drewN | apply Kd.R_drew)); exact HO546.out) hb); have n2_ := Aside0.mk (Kd.R_below (by (with_reducible repeat (first | apply Kd.R_alloc | apply Kd.R_drewN | apply Kd.R_drew)); exact HO549.out) hb); have n3_ := Aside0.mk (blk_below (g := gb533) (o := .cells #[.string a1_0, .int .u8 a1_1, .int .i64 a1_2, .int .i64 a1_3, .int .i64 a1_4, .int .i64 a1_5, .int .i64 a1_6] 25 (0, 0)) (by (with_reducible repeat (first | refine blk_drewN ?_ _ | refine blk_drew ?_ | refine blk_alloc ?_ _)); exact BK533.out) hb); have n4_ := Aside0.mk (below_step (by repeat (first | (with_reducible first | exact HB.out | apply below_alloc | apply pw_below_drewN | apply below_drew1 | refine below_set ?_ GE533.out) | exact HB.out)) hb); clear HO537; clear HO546; clear HO549; clear BK533; clear HB; have HO537 := n0_; have HO546 := n1_; have HO549 := n2_; have BK533 := n3_; have HB := n4_; clear n0_ n1_ n2_ n3_ n4_; (try clear hb); (try clear hb2); (try clear hk); (try clear hi)) | ((with_reducible refine gate_dst (N := 11) rfl ?_); (try (refine gate_guard (by rfl) ?_; dsimp only)); refine box_event ?hg (N := 11) ?hd (cs := #[.int .u8 0, .int .i64 0, .int .i64 0, .int .i64 0]) (t := 37) ?hr ?_; (case hd => rfl); (case hg => rfl); (case hr => first | (go_simp; done) | (go_simp; rfl)); intro gb560 hg w38 hbox hb; have n0_ := Aside0.mk (Kd.R_below (by (with_reducible repeat (first | apply Kd.R_alloc | apply Kd.R_drewN | apply Kd.R_drew)); exact HO537.out) hb); have n1_ := Aside0.mk (Kd.R_below (by (with_reducible repeat (first | apply Kd.R_alloc | apply Kd.R_drewN | apply Kd.R_drew)); exact HO546.out) hb); have n2_ := Aside0.mk (Kd.R_below (by (with_reducible repeat (first | apply Kd.R_alloc | apply Kd.R_drewN | apply Kd.R_drew)); exact HO549.out) hb); have n3_ := Aside0.mk (blk_below (g := gb533) (o := .cells #[.string a1_0, .int .u8 a1_1, .int .i64 a1_2, .int .i64 a1_3, .int .i64 a1_4, .int .i64 a1_5, .int .i64 a1_6] 25 (0, 0)) (by (with_reducible repeat (first | refine blk_drewN ?_ _ | refine blk_drew ?_ | refine blk_alloc ?_ _)); exact BK533.out) hb); have n4_ := Aside0.mk (below_step (by repeat (first | (with_reducible first | exact HB.out | apply below_alloc | apply pw_below_drewN | apply below_drew1 | refine below_set ?_ GE533.out) | exact HB.out)) hb); have n5_ := Aside0.mk (hbox); have n6_ := Aside0.mk ((by rw [hg]; exact (below_size (by repeat (first | (with_reducible first | exact HB.out | apply below_alloc | apply pw_below_drewN | apply below_drew1 | refine below_set ?_ GE533.out) | exact HB.out))) : w.heap.size ≤ gb560)); have n7_ := Aside0.mk ((by rw [hg]; exact (below_size (by repeat (first | (with_reducible first | exact HB.out | apply below_alloc | apply pw_below_drewN | apply below_drew1 | refine below_set ?_ GE533.out) | exact HB.out))) : w.heap.size ≤ gb560)); have n8_ := Aside0.mk ((by rw [hg]; exact Nat.ne_of_lt (blk_lt (g := gb533) (o := .cells #[.string a1_0, .int .u8 a1_1, .int .i64 a1_2, .int .i64 a1_3, .int .i64 a1_4, .int .i64 a1_5, .int .i64 a1_6] 25 (0, 0)) (by (with_reducible repeat (first | refine blk_drewN ?_ _ | refine blk_drew ?_ | refine blk_alloc ?_ _)); exact BK533.out)) : gb533 ≠ gb560)); have n9_ := Aside0.mk ((by rw [hg]; exact Nat.ne_of_gt (blk_lt (g := gb533) (o := .cells #[.string a1_0, .int .u8 a1_1, .int .i64 a1_2, .int .i64 a1_3, .int .i64 a1_4, .int .i64 a1_5, .int .i64 a1_6] 25 (0, 0)) (by (with_reducible repeat (first | refine blk_drewN ?_ _ | refine blk_drew ?_ | refine blk_alloc ?_ _)); exact BK533.out)) : gb560 ≠ gb533)); clear HO537; clear HO546; clear HO549; clear BK533; clear HB; have HO537 := n0_; have HO546 := n1_; have HO549 := n2_; have BK533 := n3_; have HB := n4_; have BK560 := n5_; have GW560 := n6_; have GE560 := n7_; have NB533_560 := n8_; have NB560_533 := n9_; clear n0_ n1_ n2_ n3_ n4_ n5_ n6_ n7_ n8_ n9_; clear hb hbox hg; have hnb39 := NB560_533.out; have hnc39 := NB533_560.out; have hcz40_0 : w38.cell? ⟨gb560, 0, none⟩ = some (.int .u8 0) := (blk_cell BK560.out 0).trans rfl; have hcz40_1 : w38.cell? ⟨gb560, 1, none⟩ = some (.int .i64 0) := (blk_cell BK560.out 1).trans rfl; have hcz40_2 : w38.cell? ⟨gb560, 2, none⟩ = some (.int .i64 0) := (blk_cell BK560.out 2).trans rfl; have hcz40_3 : w38.cell? ⟨gb560, 3, none⟩ = some (.int .i64 0) := (blk_cell BK560.out 3).trans rfl; have hfz40_0 := blk_frozen BK560.out 0; have hfz40_1 := blk_frozen BK560.out 1; have hfz40_2 := blk_frozen BK560.out 2; have hfz40_3 := blk_frozen BK560.out 3))
                    (try simp only [Act.put, List.setIfInBounds_toArray, List.set_cons_zero, List.set_cons_succ])
                    go_cut [14] (fun v14 wc => ∃ (kq : Nat) (x14_23 : Bool), v14 = .bool x14_23 ∧ Aside0 (abacuslaw13_DirectiveSingle.j1 kq a0 a2 t550 t553 t558 t559 x14_23 a1_0 a1_1 a1_2 a1_3 a1_4 a1_5 a1_6 t554 t555 t556 t557 = some true) ∧ Aside0 (kq ≤ kj5) ∧ Aside0 (wc.heap[gb533]? = some (.cells #[.string a1_0, .int .u8 a1_1, .int .i64 a1_2, .int .i64 a1_3, .int .i64 a1_4, .int .i64 a1_5, .int .i64 a1_6] 25 (0, 0))) ∧ Aside0 (wc.heap[gb560]? = some (.cells #[.int .u8 t554, .int .i64 t555, .int .i64 t556, .int .i64 t557] 37 (0, 0))) ∧ Aside0 (Below w.heap.size w wc))
                    case first =>
                      have H := HC24.out
                      clear HC24
                      by_cases c41 : a1_1 = 101
                      · rw [if_pos c41] at H
                        have c41b0 : (a1_1 == 101) = true := beq_iff_eq.mpr c41
                        have c41b1 : (a1_1 != 101) = false := bne_eq_false_iff_eq.mpr c41
                        clear c41
                        (first | rw [c41b0] | (simp only [i64_w, i32_w]; rw [c41b0]) | skip)
                        have H' := Aside0.mk H
                        clear H
                        have hnb42 := NB533_560.out
                        have hnc42 := NB560_533.out
                        have hcz43_0 : w38.cell? ⟨gb533, 0, none⟩ = some (.string a1_0) := (blk_cell BK533.out 0).trans rfl
                        have hcz43_1 : w38.cell? ⟨gb533, 1, none⟩ = some (.int .u8 a1_1) := (blk_cell BK533.out 1).trans rfl
                        have hcz43_2 : w38.cell? ⟨gb533, 2, none⟩ = some (.int .i64 a1_2) := (blk_cell BK533.out 2).trans rfl
                        have hcz43_3 : w38.cell? ⟨gb533, 3, none⟩ = some (.int .i64 a1_3) := (blk_cell BK533.out 3).trans rfl
                        have hcz43_4 : w38.cell? ⟨gb533, 4, none⟩ = some (.int .i64 a1_4) := (blk_cell BK533.out 4).trans rfl
                        have hcz43_5 : w38.cell? ⟨gb533, 5, none⟩ = some (.int .i64 a1_5) := (blk_cell BK533.out 5).trans rfl
                        have hcz43_6 : w38.cell? ⟨gb533, 6, none⟩ = some (.int .i64 a1_6) := (blk_cell BK533.out 6).trans rfl
                        have hfz43_0 := blk_frozen BK533.out 0
                        have hfz43_1 := blk_frozen BK533.out 1
                        have hfz43_2 := blk_frozen BK533.out 2
                        have hfz43_3 := blk_frozen BK533.out 3
                        have hfz43_4 := blk_frozen BK533.out 4
                        have hfz43_5 := blk_frozen BK533.out 5
                        have hfz43_6 := blk_frozen BK533.out 6
                        go_wp2
                        go_meet
                        case rel => exact ⟨_, (true), (by first | rfl | (simp; done) | (simp [*]; done)), H', ⟨by have := HJ5.out; first | omega | exact Nat.le_refl _⟩, ⟨by (with_reducible repeat (first | refine blk_drewN ?_ _ | refine blk_drew ?_ | refine blk_alloc ?_ _)); refine blk_far ?_ NB533_560.out _; (with_reducible repeat (first | refine blk_drewN ?_ _ | refine blk_drew ?_ | refine blk_alloc ?_ _)); refine blk_far ?_ NB533_560.out _; (with_reducible repeat (first | refine blk_drewN ?_ _ | refine blk_drew ?_ | refine blk_alloc ?_ _)); refine blk_far ?_ NB533_560.out _; (with_reducible repeat (first | refine blk_drewN ?_ _ | refine blk_drew ?_ | refine blk_alloc ?_ _)); refine blk_far ?_ NB533_560.out _; (with_reducible repeat (first | refine blk_drewN ?_ _ | refine blk_drew ?_ | refine blk_alloc ?_ _)); exact BK533.out⟩, ⟨by (with_reducible repeat (first | refine blk_drewN ?_ _ | refine blk_drew ?_ | refine blk_alloc ?_ _)); refine blk_put (cs := #[.int .u8 t554, .int .i64 t555, .int .i64 t556, .int .i64 0]) ?_ 3 _ rfl; (with_reducible repeat (first | refine blk_drewN ?_ _ | refine blk_drew ?_ | refine blk_alloc ?_ _)); refine blk_put (cs := #[.int .u8 t554, .int .i64 t555, .int .i64 0, .int .i64 0]) ?_ 2 _ rfl; (with_reducible repeat (first | refine blk_drewN ?_ _ | refine blk_drew ?_ | refine blk_alloc ?_ _)); refine blk_put (cs := #[.int .u8 t554, .int .i64 0, .int .i64 0, .int .i64 0]) ?_ 1 _ rfl; (with_reducible repeat (first | refine blk_drewN ?_ _ | refine blk_drew ?_ | refine blk_alloc ?_ _)); refine blk_put (cs := #[.int .u8 0, .int .i64 0, .int .i64 0, .int .i64 0]) ?_ 0 _ rfl; (with_reducible repeat (first | refine blk_drewN ?_ _ | refine blk_drew ?_ | refine blk_alloc ?_ _)); exact BK560.out⟩, ⟨by repeat (first | (with_reducible first | exact HB.out | apply below_alloc | apply pw_below_drewN | apply below_drew1 | refine below_set ?_ GE533.out | refine below_set ?_ GE560.out) | exact HB.out)⟩⟩
                      · rw [if_neg c41] at H
                        have c41b0 : (a1_1 == 101) = false := beq_eq_false_iff_ne.mpr c41
                        have c41b1 : (a1_1 != 101) = true := bne_iff_ne.mpr c41
                        (first | rw [c41b0] | (simp only [i64_w, i32_w]; rw [c41b0]) | skip)
                        by_cases c44 : a1_1 = 69
                        · rw [if_pos c44] at H
                          have c44b0 : (a1_1 == 69) = true := beq_iff_eq.mpr c44
                          have c44b1 : (a1_1 != 69) = false := bne_eq_false_iff_eq.mpr c44
                          clear c44
                          have H' := Aside0.mk H
                          clear H
                          have hnb45 := NB533_560.out
                          have hnc45 := NB560_533.out
                          have hcz46_0 : w38.cell? ⟨gb533, 0, none⟩ = some (.string a1_0) := (blk_cell BK533.out 0).trans rfl
                          have hcz46_1 : w38.cell? ⟨gb533, 1, none⟩ = some (.int .u8 a1_1) := (blk_cell BK533.out 1).trans rfl
                          have hcz46_2 : w38.cell? ⟨gb533, 2, none⟩ = some (.int .i64 a1_2) := (blk_cell BK533.out 2).trans rfl
                          have hcz46_3 : w38.cell? ⟨gb533, 3, none⟩ = some (.int .i64 a1_3) := (blk_cell BK533.out 3).trans rfl
                          have hcz46_4 : w38.cell? ⟨gb533, 4, none⟩ = some (.int .i64 a1_4) := (blk_cell BK533.out 4).trans rfl
                          have hcz46_5 : w38.cell? ⟨gb533, 5, none⟩ = some (.int .i64 a1_5) := (blk_cell BK533.out 5).trans rfl
                          have hcz46_6 : w38.cell? ⟨gb533, 6, none⟩ = some (.int .i64 a1_6) := (blk_cell BK533.out 6).trans rfl
                          have hfz46_0 := blk_frozen BK533.out 0
                          have hfz46_1 := blk_frozen BK533.out 1
                          have hfz46_2 := blk_frozen BK533.out 2
                          have hfz46_3 := blk_frozen BK533.out 3
                          have hfz46_4 := blk_frozen BK533.out 4
                          have hfz46_5 := blk_frozen BK533.out 5
                          have hfz46_6 := blk_frozen BK533.out 6
                          go_wp2
                          go_meet
                          case rel => exact ⟨_, (true), (by first | rfl | (simp; done) | (simp [*]; done)), H', ⟨by have := HJ5.out; first | omega | exact Nat.le_refl _⟩, ⟨by (with_reducible repeat (first | refine blk_drewN ?_ _ | refine blk_drew ?_ | refine blk_alloc ?_ _)); refine blk_far ?_ NB533_560.out _; (with_reducible repeat (first | refine blk_drewN ?_ _ | refine blk_drew ?_ | refine blk_alloc ?_ _)); refine blk_far ?_ NB533_560.out _; (with_reducible repeat (first | refine blk_drewN ?_ _ | refine blk_drew ?_ | refine blk_alloc ?_ _)); refine blk_far ?_ NB533_560.out _; (with_reducible repeat (first | refine blk_drewN ?_ _ | refine blk_drew ?_ | refine blk_alloc ?_ _)); refine blk_far ?_ NB533_560.out _; (with_reducible repeat (first | refine blk_drewN ?_ _ | refine blk_drew ?_ | refine blk_alloc ?_ _)); exact BK533.out⟩, ⟨by (with_reducible repeat (first | refine blk_drewN ?_ _ | refine blk_drew ?_ | refine blk_alloc ?_ _)); refine blk_put (cs := #[.int .u8 t554, .int .i64 t555, .int .i64 t556, .int .i64 0]) ?_ 3 _ rfl; (with_reducible repeat (first | refine blk_drewN ?_ _ | refine blk_drew ?_ | refine blk_alloc ?_ _)); refine blk_put (cs := #[.int .u8 t554, .int .i64 t555, .int .i64 0, .int .i64 0]) ?_ 2 _ rfl; (with_reducible repeat (first | refine blk_drewN ?_ _ | refine blk_drew ?_ | refine blk_alloc ?_ _)); refine blk_put (cs := #[.int .u8 t554, .int .i64 0, .int .i64 0, .int .i64 0]) ?_ 1 _ rfl; (with_reducible repeat (first | refine blk_drewN ?_ _ | refine blk_drew ?_ | refine blk_alloc ?_ _)); refine blk_put (cs := #[.int .u8 0, .int .i64 0, .int .i64 0, .int .i64 0]) ?_ 0 _ rfl; (with_reducible repeat (first | refine blk_drewN ?_ _ | refine blk_drew ?_ | refine blk_alloc ?_ _)); exact BK560.out⟩, ⟨by repeat (first | (with_reducible first | exact HB.out | apply below_alloc | apply pw_below_drewN | apply below_drew1 | refine below_set ?_ GE533.out | refine below_set ?_ GE560.out) | exact HB.out)⟩⟩
                        · rw [if_neg c44] at H
                          have c44b0 : (a1_1 == 69) = false := beq_eq_false_iff_ne.mpr c44
                          have c44b1 : (a1_1 != 69) = true := bne_iff_ne.mpr c44
                          by_cases c47 : a1_1 = 102
                          · rw [if_pos c47] at H
                            have c47b0 : (a1_1 == 102) = true := beq_iff_eq.mpr c47
                            have c47b1 : (a1_1 != 102) = false := bne_eq_false_iff_eq.mpr c47
                            clear c47
                            have H' := Aside0.mk H
                            clear H
                            have hnb48 := NB533_560.out
                            have hnc48 := NB560_533.out
                            have hcz49_0 : w38.cell? ⟨gb533, 0, none⟩ = some (.string a1_0) := (blk_cell BK533.out 0).trans rfl
                            have hcz49_1 : w38.cell? ⟨gb533, 1, none⟩ = some (.int .u8 a1_1) := (blk_cell BK533.out 1).trans rfl
                            have hcz49_2 : w38.cell? ⟨gb533, 2, none⟩ = some (.int .i64 a1_2) := (blk_cell BK533.out 2).trans rfl
                            have hcz49_3 : w38.cell? ⟨gb533, 3, none⟩ = some (.int .i64 a1_3) := (blk_cell BK533.out 3).trans rfl
                            have hcz49_4 : w38.cell? ⟨gb533, 4, none⟩ = some (.int .i64 a1_4) := (blk_cell BK533.out 4).trans rfl
                            have hcz49_5 : w38.cell? ⟨gb533, 5, none⟩ = some (.int .i64 a1_5) := (blk_cell BK533.out 5).trans rfl
                            have hcz49_6 : w38.cell? ⟨gb533, 6, none⟩ = some (.int .i64 a1_6) := (blk_cell BK533.out 6).trans rfl
                            have hfz49_0 := blk_frozen BK533.out 0
                            have hfz49_1 := blk_frozen BK533.out 1
                            have hfz49_2 := blk_frozen BK533.out 2
                            have hfz49_3 := blk_frozen BK533.out 3
                            have hfz49_4 := blk_frozen BK533.out 4
                            have hfz49_5 := blk_frozen BK533.out 5
                            have hfz49_6 := blk_frozen BK533.out 6
                            go_wp2
                            go_meet
                            case rel => exact ⟨_, (true), (by first | rfl | (simp; done) | (simp [*]; done)), H', ⟨by have := HJ5.out; first | omega | exact Nat.le_refl _⟩, ⟨by (with_reducible repeat (first | refine blk_drewN ?_ _ | refine blk_drew ?_ | refine blk_alloc ?_ _)); refine blk_far ?_ NB533_560.out _; (with_reducible repeat (first | refine blk_drewN ?_ _ | refine blk_drew ?_ | refine blk_alloc ?_ _)); refine blk_far ?_ NB533_560.out _; (with_reducible repeat (first | refine blk_drewN ?_ _ | refine blk_drew ?_ | refine blk_alloc ?_ _)); refine blk_far ?_ NB533_560.out _; (with_reducible repeat (first | refine blk_drewN ?_ _ | refine blk_drew ?_ | refine blk_alloc ?_ _)); refine blk_far ?_ NB533_560.out _; (with_reducible repeat (first | refine blk_drewN ?_ _ | refine blk_drew ?_ | refine blk_alloc ?_ _)); exact BK533.out⟩, ⟨by (with_reducible repeat (first | refine blk_drewN ?_ _ | refine blk_drew ?_ | refine blk_alloc ?_ _)); refine blk_put (cs := #[.int .u8 t554, .int .i64 t555, .int .i64 t556, .int .i64 0]) ?_ 3 _ rfl; (with_reducible repeat (first | refine blk_drewN ?_ _ | refine blk_drew ?_ | refine blk_alloc ?_ _)); refine blk_put (cs := #[.int .u8 t554, .int .i64 t555, .int .i64 0, .int .i64 0]) ?_ 2 _ rfl; (with_reducible repeat (first | refine blk_drewN ?_ _ | refine blk_drew ?_ | refine blk_alloc ?_ _)); refine blk_put (cs := #[.int .u8 t554, .int .i64 0, .int .i64 0, .int .i64 0]) ?_ 1 _ rfl; (with_reducible repeat (first | refine blk_drewN ?_ _ | refine blk_drew ?_ | refine blk_alloc ?_ _)); refine blk_put (cs := #[.int .u8 0, .int .i64 0, .int .i64 0, .int .i64 0]) ?_ 0 _ rfl; (with_reducible repeat (first | refine blk_drewN ?_ _ | refine blk_drew ?_ | refine blk_alloc ?_ _)); exact BK560.out⟩, ⟨by repeat (first | (with_reducible first | exact HB.out | apply below_alloc | apply pw_below_drewN | apply below_drew1 | refine below_set ?_ GE533.out | refine below_set ?_ GE560.out) | exact HB.out)⟩⟩
                          · rw [if_neg c47] at H
                            have c47b0 : (a1_1 == 102) = false := beq_eq_false_iff_ne.mpr c47
                            have c47b1 : (a1_1 != 102) = true := bne_iff_ne.mpr c47
                            by_cases c50 : a1_1 = 70
                            · rw [if_pos c50] at H
                              have c50b0 : (a1_1 == 70) = true := beq_iff_eq.mpr c50
                              have c50b1 : (a1_1 != 70) = false := bne_eq_false_iff_eq.mpr c50
                              clear c50
                              have H' := Aside0.mk H
                              clear H
                              have hnb51 := NB533_560.out
                              have hnc51 := NB560_533.out
                              have hcz52_0 : w38.cell? ⟨gb533, 0, none⟩ = some (.string a1_0) := (blk_cell BK533.out 0).trans rfl
                              have hcz52_1 : w38.cell? ⟨gb533, 1, none⟩ = some (.int .u8 a1_1) := (blk_cell BK533.out 1).trans rfl
                              have hcz52_2 : w38.cell? ⟨gb533, 2, none⟩ = some (.int .i64 a1_2) := (blk_cell BK533.out 2).trans rfl
                              have hcz52_3 : w38.cell? ⟨gb533, 3, none⟩ = some (.int .i64 a1_3) := (blk_cell BK533.out 3).trans rfl
                              have hcz52_4 : w38.cell? ⟨gb533, 4, none⟩ = some (.int .i64 a1_4) := (blk_cell BK533.out 4).trans rfl
                              have hcz52_5 : w38.cell? ⟨gb533, 5, none⟩ = some (.int .i64 a1_5) := (blk_cell BK533.out 5).trans rfl
                              have hcz52_6 : w38.cell? ⟨gb533, 6, none⟩ = some (.int .i64 a1_6) := (blk_cell BK533.out 6).trans rfl
                              have hfz52_0 := blk_frozen BK533.out 0
                              have hfz52_1 := blk_frozen BK533.out 1
                              have hfz52_2 := blk_frozen BK533.out 2
                              have hfz52_3 := blk_frozen BK533.out 3
                              have hfz52_4 := blk_frozen BK533.out 4
                              have hfz52_5 := blk_frozen BK533.out 5
                              have hfz52_6 := blk_frozen BK533.out 6
                              go_wp2
                              go_meet
                              case rel => exact ⟨_, (true), (by first | rfl | (simp; done) | (simp [*]; done)), H', ⟨by have := HJ5.out; first | omega | exact Nat.le_refl _⟩, ⟨by (with_reducible repeat (first | refine blk_drewN ?_ _ | refine blk_drew ?_ | refine blk_alloc ?_ _)); refine blk_far ?_ NB533_560.out _; (with_reducible repeat (first | refine blk_drewN ?_ _ | refine blk_drew ?_ | refine blk_alloc ?_ _)); refine blk_far ?_ NB533_560.out _; (with_reducible repeat (first | refine blk_drewN ?_ _ | refine blk_drew ?_ | refine blk_alloc ?_ _)); refine blk_far ?_ NB533_560.out _; (with_reducible repeat (first | refine blk_drewN ?_ _ | refine blk_drew ?_ | refine blk_alloc ?_ _)); refine blk_far ?_ NB533_560.out _; (with_reducible repeat (first | refine blk_drewN ?_ _ | refine blk_drew ?_ | refine blk_alloc ?_ _)); exact BK533.out⟩, ⟨by (with_reducible repeat (first | refine blk_drewN ?_ _ | refine blk_drew ?_ | refine blk_alloc ?_ _)); refine blk_put (cs := #[.int .u8 t554, .int .i64 t555, .int .i64 t556, .int .i64 0]) ?_ 3 _ rfl; (with_reducible repeat (first | refine blk_drewN ?_ _ | refine blk_drew ?_ | refine blk_alloc ?_ _)); refine blk_put (cs := #[.int .u8 t554, .int .i64 t555, .int .i64 0, .int .i64 0]) ?_ 2 _ rfl; (with_reducible repeat (first | refine blk_drewN ?_ _ | refine blk_drew ?_ | refine blk_alloc ?_ _)); refine blk_put (cs := #[.int .u8 t554, .int .i64 0, .int .i64 0, .int .i64 0]) ?_ 1 _ rfl; (with_reducible repeat (first | refine blk_drewN ?_ _ | refine blk_drew ?_ | refine blk_alloc ?_ _)); refine blk_put (cs := #[.int .u8 0, .int .i64 0, .int .i64 0, .int .i64 0]) ?_ 0 _ rfl; (with_reducible repeat (first | refine blk_drewN ?_ _ | refine blk_drew ?_ | refine blk_alloc ?_ _)); exact BK560.out⟩, ⟨by repeat (first | (with_reducible first | exact HB.out | apply below_alloc | apply pw_below_drewN | apply below_drew1 | refine below_set ?_ GE533.out | refine below_set ?_ GE560.out) | exact HB.out)⟩⟩
                            · rw [if_neg c50] at H
                              have c50b0 : (a1_1 == 70) = false := beq_eq_false_iff_ne.mpr c50
                              have c50b1 : (a1_1 != 70) = true := bne_iff_ne.mpr c50
                              by_cases c53 : a1_1 = 103
                              · rw [if_pos c53] at H
                                have c53b0 : (a1_1 == 103) = true := beq_iff_eq.mpr c53
                                have c53b1 : (a1_1 != 103) = false := bne_eq_false_iff_eq.mpr c53
                                clear c53
                                have H' := Aside0.mk H
                                clear H
                                have hnb54 := NB533_560.out
                                have hnc54 := NB560_533.out
                                have hcz55_0 : w38.cell? ⟨gb533, 0, none⟩ = some (.string a1_0) := (blk_cell BK533.out 0).trans rfl
                                have hcz55_1 : w38.cell? ⟨gb533, 1, none⟩ = some (.int .u8 a1_1) := (blk_cell BK533.out 1).trans rfl
                                have hcz55_2 : w38.cell? ⟨gb533, 2, none⟩ = some (.int .i64 a1_2) := (blk_cell BK533.out 2).trans rfl
                                have hcz55_3 : w38.cell? ⟨gb533, 3, none⟩ = some (.int .i64 a1_3) := (blk_cell BK533.out 3).trans rfl
                                have hcz55_4 : w38.cell? ⟨gb533, 4, none⟩ = some (.int .i64 a1_4) := (blk_cell BK533.out 4).trans rfl
                                have hcz55_5 : w38.cell? ⟨gb533, 5, none⟩ = some (.int .i64 a1_5) := (blk_cell BK533.out 5).trans rfl
                                have hcz55_6 : w38.cell? ⟨gb533, 6, none⟩ = some (.int .i64 a1_6) := (blk_cell BK533.out 6).trans rfl
                                have hfz55_0 := blk_frozen BK533.out 0
                                have hfz55_1 := blk_frozen BK533.out 1
                                have hfz55_2 := blk_frozen BK533.out 2
                                have hfz55_3 := blk_frozen BK533.out 3
                                have hfz55_4 := blk_frozen BK533.out 4
                                have hfz55_5 := blk_frozen BK533.out 5
                                have hfz55_6 := blk_frozen BK533.out 6
                                go_wp2
                                go_meet
                                case rel => exact ⟨_, (true), (by first | rfl | (simp; done) | (simp [*]; done)), H', ⟨by have := HJ5.out; first | omega | exact Nat.le_refl _⟩, ⟨by (with_reducible repeat (first | refine blk_drewN ?_ _ | refine blk_drew ?_ | refine blk_alloc ?_ _)); refine blk_far ?_ NB533_560.out _; (with_reducible repeat (first | refine blk_drewN ?_ _ | refine blk_drew ?_ | refine blk_alloc ?_ _)); refine blk_far ?_ NB533_560.out _; (with_reducible repeat (first | refine blk_drewN ?_ _ | refine blk_drew ?_ | refine blk_alloc ?_ _)); refine blk_far ?_ NB533_560.out _; (with_reducible repeat (first | refine blk_drewN ?_ _ | refine blk_drew ?_ | refine blk_alloc ?_ _)); refine blk_far ?_ NB533_560.out _; (with_reducible repeat (first | refine blk_drewN ?_ _ | refine blk_drew ?_ | refine blk_alloc ?_ _)); exact BK533.out⟩, ⟨by (with_reducible repeat (first | refine blk_drewN ?_ _ | refine blk_drew ?_ | refine blk_alloc ?_ _)); refine blk_put (cs := #[.int .u8 t554, .int .i64 t555, .int .i64 t556, .int .i64 0]) ?_ 3 _ rfl; (with_reducible repeat (first | refine blk_drewN ?_ _ | refine blk_drew ?_ | refine blk_alloc ?_ _)); refine blk_put (cs := #[.int .u8 t554, .int .i64 t555, .int .i64 0, .int .i64 0]) ?_ 2 _ rfl; (with_reducible repeat (first | refine blk_drewN ?_ _ | refine blk_drew ?_ | refine blk_alloc ?_ _)); refine blk_put (cs := #[.int .u8 t554, .int .i64 0, .int .i64 0, .int .i64 0]) ?_ 1 _ rfl; (with_reducible repeat (first | refine blk_drewN ?_ _ | refine blk_drew ?_ | refine blk_alloc ?_ _)); refine blk_put (cs := #[.int .u8 0, .int .i64 0, .int .i64 0, .int .i64 0]) ?_ 0 _ rfl; (with_reducible repeat (first | refine blk_drewN ?_ _ | refine blk_drew ?_ | refine blk_alloc ?_ _)); exact BK560.out⟩, ⟨by repeat (first | (with_reducible first | exact HB.out | apply below_alloc | apply pw_below_drewN | apply below_drew1 | refine below_set ?_ GE533.out | refine below_set ?_ GE560.out) | exact HB.out)⟩⟩
                              · rw [if_neg c53] at H
                                have c53b0 : (a1_1 == 103) = false := beq_eq_false_iff_ne.mpr c53
                                have c53b1 : (a1_1 != 103) = true := bne_iff_ne.mpr c53
                                have H' := Aside0.mk H
                                clear H
                                have hnb56 := NB533_560.out
                                have hnc56 := NB560_533.out
                                have hcz57_0 : w38.cell? ⟨gb533, 0, none⟩ = some (.string a1_0) := (blk_cell BK533.out 0).trans rfl
                                have hcz57_1 : w38.cell? ⟨gb533, 1, none⟩ = some (.int .u8 a1_1) := (blk_cell BK533.out 1).trans rfl
                                have hcz57_2 : w38.cell? ⟨gb533, 2, none⟩ = some (.int .i64 a1_2) := (blk_cell BK533.out 2).trans rfl
                                have hcz57_3 : w38.cell? ⟨gb533, 3, none⟩ = some (.int .i64 a1_3) := (blk_cell BK533.out 3).trans rfl
                                have hcz57_4 : w38.cell? ⟨gb533, 4, none⟩ = some (.int .i64 a1_4) := (blk_cell BK533.out 4).trans rfl
                                have hcz57_5 : w38.cell? ⟨gb533, 5, none⟩ = some (.int .i64 a1_5) := (blk_cell BK533.out 5).trans rfl
                                have hcz57_6 : w38.cell? ⟨gb533, 6, none⟩ = some (.int .i64 a1_6) := (blk_cell BK533.out 6).trans rfl
                                have hfz57_0 := blk_frozen BK533.out 0
                                have hfz57_1 := blk_frozen BK533.out 1
                                have hfz57_2 := blk_frozen BK533.out 2
                                have hfz57_3 := blk_frozen BK533.out 3
                                have hfz57_4 := blk_frozen BK533.out 4
                                have hfz57_5 := blk_frozen BK533.out 5
                                have hfz57_6 := blk_frozen BK533.out 6
                                go_wp2
                                go_meet
                                case rel => exact ⟨_, ((a1_1 == 71)), (by first | rfl | (simp; done) | (simp [*]; done)), H', ⟨by have := HJ5.out; first | omega | exact Nat.le_refl _⟩, ⟨by (with_reducible repeat (first | refine blk_drewN ?_ _ | refine blk_drew ?_ | refine blk_alloc ?_ _)); refine blk_far ?_ NB533_560.out _; (with_reducible repeat (first | refine blk_drewN ?_ _ | refine blk_drew ?_ | refine blk_alloc ?_ _)); refine blk_far ?_ NB533_560.out _; (with_reducible repeat (first | refine blk_drewN ?_ _ | refine blk_drew ?_ | refine blk_alloc ?_ _)); refine blk_far ?_ NB533_560.out _; (with_reducible repeat (first | refine blk_drewN ?_ _ | refine blk_drew ?_ | refine blk_alloc ?_ _)); refine blk_far ?_ NB533_560.out _; (with_reducible repeat (first | refine blk_drewN ?_ _ | refine blk_drew ?_ | refine blk_alloc ?_ _)); exact BK533.out⟩, ⟨by (with_reducible repeat (first | refine blk_drewN ?_ _ | refine blk_drew ?_ | refine blk_alloc ?_ _)); refine blk_put (cs := #[.int .u8 t554, .int .i64 t555, .int .i64 t556, .int .i64 0]) ?_ 3 _ rfl; (with_reducible repeat (first | refine blk_drewN ?_ _ | refine blk_drew ?_ | refine blk_alloc ?_ _)); refine blk_put (cs := #[.int .u8 t554, .int .i64 t555, .int .i64 0, .int .i64 0]) ?_ 2 _ rfl; (with_reducible repeat (first | refine blk_drewN ?_ _ | refine blk_drew ?_ | refine blk_alloc ?_ _)); refine blk_put (cs := #[.int .u8 t554, .int .i64 0, .int .i64 0, .int .i64 0]) ?_ 1 _ rfl; (with_reducible repeat (first | refine blk_drewN ?_ _ | refine blk_drew ?_ | refine blk_alloc ?_ _)); refine blk_put (cs := #[.int .u8 0, .int .i64 0, .int .i64 0, .int .i64 0]) ?_ 0 _ rfl; (with_reducible repeat (first | refine blk_drewN ?_ _ | refine blk_drew ?_ | refine blk_alloc ?_ _)); exact BK560.out⟩, ⟨by repeat (first | (with_reducible first | exact HB.out | apply below_alloc | apply pw_below_drewN | apply below_drew1 | refine below_set ?_ GE533.out | refine below_set ?_ GE560.out) | exact HB.out)⟩⟩
                    case rest =>
                      clear HC24
                      try clear c1
                      try clear c2
                      try clear p2
                      try clear c3
                      try clear c4
                      try clear c5
                      try clear c9
                      try clear c9b0
                      try clear c9b1
                      try clear c10
                      try clear c10b0
                      try clear c10b1
                      try clear c11
                      try clear c12
                      try clear c13
                      try clear c15
                      try clear c16
                      try clear c18
                      try clear c21
                      try clear c21b0
                      try clear c21b1
                      try clear c22
                      try clear c22b0
                      try clear c22b1
                      try clear c23
                      try clear c39
                      try clear c41
                      try clear c41b0
                      try clear c41b1
                      try clear c42
                      try clear c44
                      try clear c44b0
                      try clear c44b1
                      try clear c45
                      try clear c47
                      try clear c47b0
                      try clear c47b1
                      try clear c48
                      try clear c50
                      try clear c50b0
                      try clear c50b1
                      try clear c51
                      try clear c53
                      try clear c53b0
                      try clear c53b1
                      try clear c54
                      try clear c56
                      try clear hcz11_0
                      try clear hcz11_1
                      try clear hcz11_2
                      try clear hcz11_3
                      try clear hcz11_4
                      try clear hcz11_5
                      try clear hcz11_6
                      try clear hcz12_0
                      try clear hcz12_1
                      try clear hcz12_2
                      try clear hcz12_3
                      try clear hcz12_4
                      try clear hcz12_5
                      try clear hcz12_6
                      try clear hcz28_0
                      try clear hcz28_1
                      try clear hcz28_2
                      try clear hcz28_3
                      try clear hcz28_4
                      try clear hcz28_5
                      try clear hcz28_6
                      try clear hcz35_0
                      try clear hcz35_1
                      try clear hcz35_2
                      try clear hcz35_3
                      try clear hcz35_4
                      try clear hcz35_5
                      try clear hcz35_6
                      try clear hcz40_0
                      try clear hcz40_1
                      try clear hcz40_2
                      try clear hcz40_3
                      try clear hcz43_0
                      try clear hcz43_1
                      try clear hcz43_2
                      try clear hcz43_3
                      try clear hcz43_4
                      try clear hcz43_5
                      try clear hcz43_6
                      try clear hcz46_0
                      try clear hcz46_1
                      try clear hcz46_2
                      try clear hcz46_3
                      try clear hcz46_4
                      try clear hcz46_5
                      try clear hcz46_6
                      try clear hcz49_0
                      try clear hcz49_1
                      try clear hcz49_2
                      try clear hcz49_3
                      try clear hcz49_4
                      try clear hcz49_5
                      try clear hcz49_6
                      try clear hcz52_0
                      try clear hcz52_1
                      try clear hcz52_2
                      try clear hcz52_3
                      try clear hcz52_4
                      try clear hcz52_5
                      try clear hcz52_6
                      try clear hcz55_0
                      try clear hcz55_1
                      try clear hcz55_2
                      try clear hcz55_3
                      try clear hcz55_4
                      try clear hcz55_5
                      try clear hcz55_6
                      try clear hcz57_0
                      try clear hcz57_1
                      try clear hcz57_2
                      try clear hcz57_3
                      try clear hcz57_4
                      try clear hcz57_5
                      try clear hcz57_6
                      try clear hfz11_0
                      try clear hfz11_1
                      try clear hfz11_2
                      try clear hfz11_3
                      try clear hfz11_4
                      try clear hfz11_5
                      try clear hfz11_6
                      try clear hfz12_0
                      try clear hfz12_1
                      try clear hfz12_2
                      try clear hfz12_3
                      try clear hfz12_4
                      try clear hfz12_5
                      try clear hfz12_6
                      try clear hfz28_0
                      try clear hfz28_1
                      try clear hfz28_2
                      try clear hfz28_3
                      try clear hfz28_4
                      try clear hfz28_5
                      try clear hfz28_6
                      try clear hfz35_0
                      try clear hfz35_1
                      try clear hfz35_2
                      try clear hfz35_3
                      try clear hfz35_4
                      try clear hfz35_5
                      try clear hfz35_6
                      try clear hfz40_0
                      try clear hfz40_1
                      try clear hfz40_2
                      try clear hfz40_3
                      try clear hfz43_0
                      try clear hfz43_1
                      try clear hfz43_2
                      try clear hfz43_3
                      try clear hfz43_4
                      try clear hfz43_5
                      try clear hfz43_6
                      try clear hfz46_0
                      try clear hfz46_1
                      try clear hfz46_2
                      try clear hfz46_3
                      try clear hfz46_4
                      try clear hfz46_5
                      try clear hfz46_6
                      try clear hfz49_0
                      try clear hfz49_1
                      try clear hfz49_2
                      try clear hfz49_3
                      try clear hfz49_4
                      try clear hfz49_5
                      try clear hfz49_6
                      try clear hfz52_0
                      try clear hfz52_1
                      try clear hfz52_2
                      try clear hfz52_3
                      try clear hfz52_4
                      try clear hfz52_5
                      try clear hfz52_6
                      try clear hfz55_0
                      try clear hfz55_1
                      try clear hfz55_2
                      try clear hfz55_3
                      try clear hfz55_4
                      try clear hfz55_5
                      try clear hfz55_6
                      try clear hfz57_0
                      try clear hfz57_1
                      try clear hfz57_2
                      try clear hfz57_3
                      try clear hfz57_4
                      try clear hfz57_5
                      try clear hfz57_6
                      try clear p2
                      obtain ⟨kq, x14_23, rfl, HA, HJ23, BK533, BK560, HB⟩ := hcut
                      cases kq with
                      | zero => exact absurd HA.out (by simp [abacuslaw13_DirectiveSingle.j1])
                      | succ kj23 =>
                        have H := HA.out
                        clear HA
                        simp only [abacuslaw13_DirectiveSingle.j1] at H
                        have HC58 := Aside0.mk H
                        clear H
                        go_upto_region 16 with (fail)
                        go_cut [106] (fun v106 wc => ∃ (kq : Nat) (x106_57 : Bool), v106 = .bool x106_57 ∧ Aside0 (abacuslaw13_DirectiveSingle.j2 kq a0 a2 t550 t553 t558 t559 x106_57 a1_0 a1_1 a1_2 a1_3 a1_4 a1_5 a1_6 t554 t555 t556 t557 = some true) ∧ Aside0 (kq ≤ kj23) ∧ Aside0 (wc.heap[gb533]? = some (.cells #[.string a1_0, .int .u8 a1_1, .int .i64 a1_2, .int .i64 a1_3, .int .i64 a1_4, .int .i64 a1_5, .int .i64 a1_6] 25 (0, 0))) ∧ Aside0 (wc.heap[gb560]? = some (.cells #[.int .u8 t554, .int .i64 t555, .int .i64 t556, .int .i64 t557] 37 (0, 0))) ∧ Aside0 (Below w.heap.size w wc))
                        case first =>
                          have H := HC58.out
                          clear HC58
                          by_cases c59 : x14_23 = true
                          · subst c59
                            have H1 : (if a1_3 = 2 then (abacuslaw13_DirectiveSingle.j2 kj23 a0 a2 t550 t553 t558 t559 true a1_0 a1_1 a1_2 a1_3 a1_4 a1_5 a1_6 t554 t555 t556 t557) else (abacuslaw13_DirectiveSingle.j2 kj23 a0 a2 t550 t553 t558 t559 (a1_5 == 2) a1_0 a1_1 a1_2 a1_3 a1_4 a1_5 a1_6 t554 t555 t556 t557)) = some true := by rw [if_pos rfl] at H; exact H
                            clear H
                            have H := H1
                            clear H1
                            by_cases c60 : a1_3 = 2
                            · rw [if_pos c60] at H
                              have c60b0 : (a1_3 == 2) = true := beq_iff_eq.mpr c60
                              have c60b1 : (a1_3 != 2) = false := bne_eq_false_iff_eq.mpr c60
                              clear c60
                              (first | rw [c60b0] | (simp only [i64_w, i32_w]; rw [c60b0]) | skip)
                              have H' := Aside0.mk H
                              clear H
                              have hnb61 := NB533_560.out
                              have hnc61 := NB560_533.out
                              have hcz62_0 : wc.cell? ⟨gb533, 0, none⟩ = some (.string a1_0) := (blk_cell BK533.out 0).trans rfl
                              have hcz62_1 : wc.cell? ⟨gb533, 1, none⟩ = some (.int .u8 a1_1) := (blk_cell BK533.out 1).trans rfl
                              have hcz62_2 : wc.cell? ⟨gb533, 2, none⟩ = some (.int .i64 a1_2) := (blk_cell BK533.out 2).trans rfl
                              have hcz62_3 : wc.cell? ⟨gb533, 3, none⟩ = some (.int .i64 a1_3) := (blk_cell BK533.out 3).trans rfl
                              have hcz62_4 : wc.cell? ⟨gb533, 4, none⟩ = some (.int .i64 a1_4) := (blk_cell BK533.out 4).trans rfl
                              have hcz62_5 : wc.cell? ⟨gb533, 5, none⟩ = some (.int .i64 a1_5) := (blk_cell BK533.out 5).trans rfl
                              have hcz62_6 : wc.cell? ⟨gb533, 6, none⟩ = some (.int .i64 a1_6) := (blk_cell BK533.out 6).trans rfl
                              have hfz62_0 := blk_frozen BK533.out 0
                              have hfz62_1 := blk_frozen BK533.out 1
                              have hfz62_2 := blk_frozen BK533.out 2
                              have hfz62_3 := blk_frozen BK533.out 3
                              have hfz62_4 := blk_frozen BK533.out 4
                              have hfz62_5 := blk_frozen BK533.out 5
                              have hfz62_6 := blk_frozen BK533.out 6
                              go_wp2
                              go_meet
                              case rel => exact ⟨_, (true), (by first | rfl | (simp; done) | (simp [*]; done)), H', ⟨by have := HJ5.out; have := HJ23.out; first | omega | exact Nat.le_refl _⟩, ⟨by (with_reducible repeat (first | refine blk_drewN ?_ _ | refine blk_drew ?_ | refine blk_alloc ?_ _)); exact BK533.out⟩, ⟨by (with_reducible repeat (first | refine blk_drewN ?_ _ | refine blk_drew ?_ | refine blk_alloc ?_ _)); exact BK560.out⟩, ⟨by repeat (first | (with_reducible first | exact HB.out | apply below_alloc | apply pw_below_drewN | apply below_drew1 | refine below_set ?_ GE533.out | refine below_set ?_ GE560.out) | exact HB.out)⟩⟩
                            · rw [if_neg c60] at H
                              have c60b0 : (a1_3 == 2) = false := beq_eq_false_iff_ne.mpr c60
                              have c60b1 : (a1_3 != 2) = true := bne_iff_ne.mpr c60
                              (first | rw [c60b0] | (simp only [i64_w, i32_w]; rw [c60b0]) | skip)
                              have H' := Aside0.mk H
                              clear H
                              have hnb63 := NB533_560.out
                              have hnc63 := NB560_533.out
                              have hcz64_0 : wc.cell? ⟨gb533, 0, none⟩ = some (.string a1_0) := (blk_cell BK533.out 0).trans rfl
                              have hcz64_1 : wc.cell? ⟨gb533, 1, none⟩ = some (.int .u8 a1_1) := (blk_cell BK533.out 1).trans rfl
                              have hcz64_2 : wc.cell? ⟨gb533, 2, none⟩ = some (.int .i64 a1_2) := (blk_cell BK533.out 2).trans rfl
                              have hcz64_3 : wc.cell? ⟨gb533, 3, none⟩ = some (.int .i64 a1_3) := (blk_cell BK533.out 3).trans rfl
                              have hcz64_4 : wc.cell? ⟨gb533, 4, none⟩ = some (.int .i64 a1_4) := (blk_cell BK533.out 4).trans rfl
                              have hcz64_5 : wc.cell? ⟨gb533, 5, none⟩ = some (.int .i64 a1_5) := (blk_cell BK533.out 5).trans rfl
                              have hcz64_6 : wc.cell? ⟨gb533, 6, none⟩ = some (.int .i64 a1_6) := (blk_cell BK533.out 6).trans rfl
                              have hfz64_0 := blk_frozen BK533.out 0
                              have hfz64_1 := blk_frozen BK533.out 1
                              have hfz64_2 := blk_frozen BK533.out 2
                              have hfz64_3 := blk_frozen BK533.out 3
                              have hfz64_4 := blk_frozen BK533.out 4
                              have hfz64_5 := blk_frozen BK533.out 5
                              have hfz64_6 := blk_frozen BK533.out 6
                              go_wp2
                              go_meet
                              case rel => exact ⟨_, ((a1_5 == 2)), (by first | rfl | (simp; done) | (simp [*]; done)), H', ⟨by have := HJ5.out; have := HJ23.out; first | omega | exact Nat.le_refl _⟩, ⟨by (with_reducible repeat (first | refine blk_drewN ?_ _ | refine blk_drew ?_ | refine blk_alloc ?_ _)); exact BK533.out⟩, ⟨by (with_reducible repeat (first | refine blk_drewN ?_ _ | refine blk_drew ?_ | refine blk_alloc ?_ _)); exact BK560.out⟩, ⟨by repeat (first | (with_reducible first | exact HB.out | apply below_alloc | apply pw_below_drewN | apply below_drew1 | refine below_set ?_ GE533.out | refine below_set ?_ GE560.out) | exact HB.out)⟩⟩
                          · replace c59 := Bool.eq_false_iff.mpr c59
                            subst c59
                            have H1 : (abacuslaw13_DirectiveSingle.j2 kj23 a0 a2 t550 t553 t558 t559 true a1_0 a1_1 a1_2 a1_3 a1_4 a1_5 a1_6 t554 t555 t556 t557) = some true := by rw [if_neg (show ¬ (false = true) by decide)] at H; exact H
                            clear H
                            have H := H1
                            clear H1
                            have H' := Aside0.mk H
                            clear H
                            go_wp2
                            go_meet
                            case rel => exact ⟨_, (true), (by first | rfl | (simp; done) | (simp [*]; done)), H', ⟨by have := HJ5.out; have := HJ23.out; first | omega | exact Nat.le_refl _⟩, ⟨by (with_reducible repeat (first | refine blk_drewN ?_ _ | refine blk_drew ?_ | refine blk_alloc ?_ _)); exact BK533.out⟩, ⟨by (with_reducible repeat (first | refine blk_drewN ?_ _ | refine blk_drew ?_ | refine blk_alloc ?_ _)); exact BK560.out⟩, ⟨by repeat (first | (with_reducible first | exact HB.out | apply below_alloc | apply pw_below_drewN | apply below_drew1 | refine below_set ?_ GE533.out | refine below_set ?_ GE560.out) | exact HB.out)⟩⟩
                        case rest =>
                          clear HC58
                          try clear c1
                          try clear c2
                          try clear p2
                          try clear c3
                          try clear c4
                          try clear c5
                          try clear c6
                          try clear c9
                          try clear c9b0
                          try clear c9b1
                          try clear c10
                          try clear c10b0
                          try clear c10b1
                          try clear c11
                          try clear c12
                          try clear c13
                          try clear c15
                          try clear c16
                          try clear c18
                          try clear c21
                          try clear c21b0
                          try clear c21b1
                          try clear c22
                          try clear c22b0
                          try clear c22b1
                          try clear c23
                          try clear c39
                          try clear c41
                          try clear c41b0
                          try clear c41b1
                          try clear c42
                          try clear c44
                          try clear c44b0
                          try clear c44b1
                          try clear c45
                          try clear c47
                          try clear c47b0
                          try clear c47b1
                          try clear c48
                          try clear c50
                          try clear c50b0
                          try clear c50b1
                          try clear c51
                          try clear c53
                          try clear c53b0
                          try clear c53b1
                          try clear c54
                          try clear c56
                          try clear c59
                          try clear c60
                          try clear c60b0
                          try clear c60b1
                          try clear c61
                          try clear c63
                          try clear hcz11_0
                          try clear hcz11_1
                          try clear hcz11_2
                          try clear hcz11_3
                          try clear hcz11_4
                          try clear hcz11_5
                          try clear hcz11_6
                          try clear hcz12_0
                          try clear hcz12_1
                          try clear hcz12_2
                          try clear hcz12_3
                          try clear hcz12_4
                          try clear hcz12_5
                          try clear hcz12_6
                          try clear hcz28_0
                          try clear hcz28_1
                          try clear hcz28_2
                          try clear hcz28_3
                          try clear hcz28_4
                          try clear hcz28_5
                          try clear hcz28_6
                          try clear hcz35_0
                          try clear hcz35_1
                          try clear hcz35_2
                          try clear hcz35_3
                          try clear hcz35_4
                          try clear hcz35_5
                          try clear hcz35_6
                          try clear hcz40_0
                          try clear hcz40_1
                          try clear hcz40_2
                          try clear hcz40_3
                          try clear hcz43_0
                          try clear hcz43_1
                          try clear hcz43_2
                          try clear hcz43_3
                          try clear hcz43_4
                          try clear hcz43_5
                          try clear hcz43_6
                          try clear hcz46_0
                          try clear hcz46_1
                          try clear hcz46_2
                          try clear hcz46_3
                          try clear hcz46_4
                          try clear hcz46_5
                          try clear hcz46_6
                          try clear hcz49_0
                          try clear hcz49_1
                          try clear hcz49_2
                          try clear hcz49_3
                          try clear hcz49_4
                          try clear hcz49_5
                          try clear hcz49_6
                          try clear hcz52_0
                          try clear hcz52_1
                          try clear hcz52_2
                          try clear hcz52_3
                          try clear hcz52_4
                          try clear hcz52_5
                          try clear hcz52_6
                          try clear hcz55_0
                          try clear hcz55_1
                          try clear hcz55_2
                          try clear hcz55_3
                          try clear hcz55_4
                          try clear hcz55_5
                          try clear hcz55_6
                          try clear hcz57_0
                          try clear hcz57_1
                          try clear hcz57_2
                          try clear hcz57_3
                          try clear hcz57_4
                          try clear hcz57_5
                          try clear hcz57_6
                          try clear hcz62_0
                          try clear hcz62_1
                          try clear hcz62_2
                          try clear hcz62_3
                          try clear hcz62_4
                          try clear hcz62_5
                          try clear hcz62_6
                          try clear hcz64_0
                          try clear hcz64_1
                          try clear hcz64_2
                          try clear hcz64_3
                          try clear hcz64_4
                          try clear hcz64_5
                          try clear hcz64_6
                          try clear hfz11_0
                          try clear hfz11_1
                          try clear hfz11_2
                          try clear hfz11_3
                          try clear hfz11_4
                          try clear hfz11_5
                          try clear hfz11_6
                          try clear hfz12_0
                          try clear hfz12_1
                          try clear hfz12_2
                          try clear hfz12_3
                          try clear hfz12_4
                          try clear hfz12_5
                          try clear hfz12_6
                          try clear hfz28_0
                          try clear hfz28_1
                          try clear hfz28_2
                          try clear hfz28_3
                          try clear hfz28_4
                          try clear hfz28_5
                          try clear hfz28_6
                          try clear hfz35_0
                          try clear hfz35_1
                          try clear hfz35_2
                          try clear hfz35_3
                          try clear hfz35_4
                          try clear hfz35_5
                          try clear hfz35_6
                          try clear hfz40_0
                          try clear hfz40_1
                          try clear hfz40_2
                          try clear hfz40_3
                          try clear hfz43_0
                          try clear hfz43_1
                          try clear hfz43_2
                          try clear hfz43_3
                          try clear hfz43_4
                          try clear hfz43_5
                          try clear hfz43_6
                          try clear hfz46_0
                          try clear hfz46_1
                          try clear hfz46_2
                          try clear hfz46_3
                          try clear hfz46_4
                          try clear hfz46_5
                          try clear hfz46_6
                          try clear hfz49_0
                          try clear hfz49_1
                          try clear hfz49_2
                          try clear hfz49_3
                          try clear hfz49_4
                          try clear hfz49_5
                          try clear hfz49_6
                          try clear hfz52_0
                          try clear hfz52_1
                          try clear hfz52_2
                          try clear hfz52_3
                          try clear hfz52_4
                          try clear hfz52_5
                          try clear hfz52_6
                          try clear hfz55_0
                          try clear hfz55_1
                          try clear hfz55_2
                          try clear hfz55_3
                          try clear hfz55_4
                          try clear hfz55_5
                          try clear hfz55_6
                          try clear hfz57_0
                          try clear hfz57_1
                          try clear hfz57_2
                          try clear hfz57_3
                          try clear hfz57_4
                          try clear hfz57_5
                          try clear hfz57_6
                          try clear hfz62_0
                          try clear hfz62_1
                          try clear hfz62_2
                          try clear hfz62_3
                          try clear hfz62_4
                          try clear hfz62_5
                          try clear hfz62_6
                          try clear hfz64_0
                          try clear hfz64_1
                          try clear hfz64_2
                          try clear hfz64_3
                          try clear hfz64_4
                          try clear hfz64_5
                          try clear hfz64_6
                          try clear p2
                          obtain ⟨kq, x106_57, rfl, HA, HJ57, BK533, BK560, HB⟩ := hcut
                          cases kq with
                          | zero => exact absurd HA.out (by simp [abacuslaw13_DirectiveSingle.j2])
                          | succ kj57 =>
                            have H := HA.out
                            clear HA
                            simp only [abacuslaw13_DirectiveSingle.j2] at H
                            by_cases c65 : x106_57 = true
                            · subst c65
                              have H1 : (if t559 = true then (some false) else (if t553.toList = ([] : List UInt8) then (if t558.toList = ([] : List UInt8) then (some (t554 == 0 && (t555 == 0 && (t556 == 0 && (t557 == 0))))) else (some false)) else (some false))) = some true := by rw [if_pos rfl] at H; exact H
                              clear H
                              have H := H1
                              clear H1
                              by_cases c66 : t559 = true
                              · subst c66
                                have H1 : (some false) = some true := by rw [if_pos rfl] at H; exact H
                                clear H
                                have H := H1
                                clear H1
                                exact absurd H (by simp)
                              · replace c66 := Bool.eq_false_iff.mpr c66
                                subst c66
                                have H1 : (if t553.toList = ([] : List UInt8) then (if t558.toList = ([] : List UInt8) then (some (t554 == 0 && (t555 == 0 && (t556 == 0 && (t557 == 0))))) else (some false)) else (some false)) = some true := by rw [if_neg (show ¬ (false = true) by decide)] at H; exact H
                                clear H
                                have H := H1
                                clear H1
                                by_cases c67 : t553.toList = ([] : List UInt8)
                                · rw [if_pos c67] at H
                                  have c67b0 : (t553.toList == ([] : List UInt8)) = true := beq_iff_eq.mpr c67
                                  have c67b1 : (t553.toList != ([] : List UInt8)) = false := bne_eq_false_iff_eq.mpr c67
                                  clear c67
                                  by_cases c68 : t558.toList = ([] : List UInt8)
                                  · rw [if_pos c68] at H
                                    have c68b0 : (t558.toList == ([] : List UInt8)) = true := beq_iff_eq.mpr c68
                                    have c68b1 : (t558.toList != ([] : List UInt8)) = false := bne_eq_false_iff_eq.mpr c68
                                    clear c68
                                    have HX := Aside0.mk (Option.some.inj H)
                                    clear H
                                    have hnb69 := NB560_533.out
                                    have hnc69 := NB533_560.out
                                    have hcz70_0 : wc.cell? ⟨gb560, 0, none⟩ = some (.int .u8 t554) := (blk_cell BK560.out 0).trans rfl
                                    have hcz70_1 : wc.cell? ⟨gb560, 1, none⟩ = some (.int .i64 t555) := (blk_cell BK560.out 1).trans rfl
                                    have hcz70_2 : wc.cell? ⟨gb560, 2, none⟩ = some (.int .i64 t556) := (blk_cell BK560.out 2).trans rfl
                                    have hcz70_3 : wc.cell? ⟨gb560, 3, none⟩ = some (.int .i64 t557) := (blk_cell BK560.out 3).trans rfl
                                    have hfz70_0 := blk_frozen BK560.out 0
                                    have hfz70_1 := blk_frozen BK560.out 1
                                    have hfz70_2 := blk_frozen BK560.out 2
                                    have hfz70_3 := blk_frozen BK560.out 3
                                    go_wp2
                                    go_ret
                                    exact ⟨by first | exact congrArg (fun b_ => Ending.returned (Value.bool b_)) HX.out | (have hx_ := HX.out; simp at hx_ ⊢; done) | (have hx_ := HX.out; simp at hx_ ⊢; exact hx_) | (have hx_ := HX.out; simp_all) | (simp [*, errW_none, errW_some] <;> rfl), by repeat (first | (with_reducible first | exact HB.out | apply below_alloc | apply pw_below_drewN | apply below_drew1 | refine below_set ?_ GE533.out | refine below_set ?_ GE560.out) | exact HB.out)⟩
                                  · rw [if_neg c68] at H
                                    have c68b0 : (t558.toList == ([] : List UInt8)) = false := beq_eq_false_iff_ne.mpr c68
                                    have c68b1 : (t558.toList != ([] : List UInt8)) = true := bne_iff_ne.mpr c68
                                    exact absurd H (by simp)
                                · rw [if_neg c67] at H
                                  have c67b0 : (t553.toList == ([] : List UInt8)) = false := beq_eq_false_iff_ne.mpr c67
                                  have c67b1 : (t553.toList != ([] : List UInt8)) = true := bne_iff_ne.mpr c67
                                  exact absurd H (by simp)
                            · replace c65 := Bool.eq_false_iff.mpr c65
                              subst c65
                              have H1 : ((directive_Settle.f kj57 a1_0 a1_1 a1_2 a1_3 a1_4 a1_5 a1_6 0 0).bind fun bt561 => (if bt561.2.2.2.2 = 0 then (if t559 = true then (if t553.toList = a0.toList then (if t558.toList = a2.toList then (if (!(t554 == bt561.1) || (!(t555 == bt561.2.1) || (!(t556 == bt561.2.2.1) || (!(t557 == bt561.2.2.2.1))))) = true then (some false) else (if t550.size + t550.size ≤ 9223372036854775807 then ((directive_Single.f kj57 (t550 ++ t550)).bind fun bt567 => (some (!bt567.2.2.2.2.2.2))) else (none))) else (some false)) else (some false)) else (some false)) else (some false))) = some true := by rw [if_neg (show ¬ (false = true) by decide)] at H; exact H
                              clear H
                              have H := H1
                              clear H1
                              replace H := Option.bind_eq_some_iff.mp H
                              obtain ⟨⟨t561, t562, t563, t564, t565⟩, A710, H⟩ := H
                              replace H : (if t565 = 0 then (if t559 = true then (if t553.toList = a0.toList then (if t558.toList = a2.toList then (if (!(t554 == t561) || (!(t555 == t562) || (!(t556 == t563) || (!(t557 == t564))))) = true then (some false) else (if t550.size + t550.size ≤ 9223372036854775807 then ((directive_Single.f kj57 (t550 ++ t550)).bind fun bt567 => (some (!bt567.2.2.2.2.2.2))) else (none))) else (some false)) else (some false)) else (some false)) else (some false)) = some true := H
                              have A71 := Aside0.mk A710
                              clear A710
                              by_cases c72 : t565 = 0
                              · rw [if_pos c72] at H
                                have c72b0 : (t565 == 0) = true := beq_iff_eq.mpr c72
                                have c72b1 : (t565 != 0) = false := bne_eq_false_iff_eq.mpr c72
                                clear c72
                                by_cases c73 : t559 = true
                                · subst c73
                                  have H1 : (if t553.toList = a0.toList then (if t558.toList = a2.toList then (if (!(t554 == t561) || (!(t555 == t562) || (!(t556 == t563) || (!(t557 == t564))))) = true then (some false) else (if t550.size + t550.size ≤ 9223372036854775807 then ((directive_Single.f kj57 (t550 ++ t550)).bind fun bt567 => (some (!bt567.2.2.2.2.2.2))) else (none))) else (some false)) else (some false)) = some true := by rw [if_pos rfl] at H; exact H
                                  clear H
                                  have H := H1
                                  clear H1
                                  by_cases c74 : t553.toList = a0.toList
                                  · rw [if_pos c74] at H
                                    have c74b0 : (t553.toList == a0.toList) = true := beq_iff_eq.mpr c74
                                    have c74b1 : (t553.toList != a0.toList) = false := bne_eq_false_iff_eq.mpr c74
                                    clear c74
                                    by_cases c75 : t558.toList = a2.toList
                                    · rw [if_pos c75] at H
                                      have c75b0 : (t558.toList == a2.toList) = true := beq_iff_eq.mpr c75
                                      have c75b1 : (t558.toList != a2.toList) = false := bne_eq_false_iff_eq.mpr c75
                                      clear c75
                                      by_cases c76 : (!(t554 == t561) || (!(t555 == t562) || (!(t556 == t563) || (!(t557 == t564))))) = true
                                      · rw [if_pos c76] at H
                                        have c76b0 : (!(t554 == t561) || (!(t555 == t562) || (!(t556 == t563) || (!(t557 == t564))))) = true := c76
                                        clear c76
                                        exact absurd H (by simp)
                                      · rw [if_neg c76] at H
                                        have c76b0 : (!(t554 == t561) || (!(t555 == t562) || (!(t556 == t563) || (!(t557 == t564))))) = false := by simpa using c76
                                        clear c76
                                        by_cases c77 : t550.size + t550.size ≤ 9223372036854775807
                                        · rw [if_pos c77] at H
                                          have c77b0 := eq_true c77
                                          have c77b1 : decide (t550.size + t550.size ≤ 9223372036854775807) = true := decide_eq_true c77
                                          try have c77b2 : (9223372036854775807 < t550.size + t550.size) = False := eq_false (Nat.not_lt.2 c77)
                                          replace H := Option.bind_eq_some_iff.mp H
                                          obtain ⟨⟨t567, t568, t569, t570, t571, t572, t573⟩, A780, H⟩ := H
                                          replace H : (some (!t573)) = some true := H
                                          have A78 := Aside0.mk A780
                                          clear A780
                                          have HX := Aside0.mk (Option.some.inj H)
                                          clear H
                                          have hnb79 := NB533_560.out
                                          have hnc79 := NB560_533.out
                                          have hcz80_0 : wc.cell? ⟨gb533, 0, none⟩ = some (.string a1_0) := (blk_cell BK533.out 0).trans rfl
                                          have hcz80_1 : wc.cell? ⟨gb533, 1, none⟩ = some (.int .u8 a1_1) := (blk_cell BK533.out 1).trans rfl
                                          have hcz80_2 : wc.cell? ⟨gb533, 2, none⟩ = some (.int .i64 a1_2) := (blk_cell BK533.out 2).trans rfl
                                          have hcz80_3 : wc.cell? ⟨gb533, 3, none⟩ = some (.int .i64 a1_3) := (blk_cell BK533.out 3).trans rfl
                                          have hcz80_4 : wc.cell? ⟨gb533, 4, none⟩ = some (.int .i64 a1_4) := (blk_cell BK533.out 4).trans rfl
                                          have hcz80_5 : wc.cell? ⟨gb533, 5, none⟩ = some (.int .i64 a1_5) := (blk_cell BK533.out 5).trans rfl
                                          have hcz80_6 : wc.cell? ⟨gb533, 6, none⟩ = some (.int .i64 a1_6) := (blk_cell BK533.out 6).trans rfl
                                          have hfz80_0 := blk_frozen BK533.out 0
                                          have hfz80_1 := blk_frozen BK533.out 1
                                          have hfz80_2 := blk_frozen BK533.out 2
                                          have hfz80_3 := blk_frozen BK533.out 3
                                          have hfz80_4 := blk_frozen BK533.out 4
                                          have hfz80_5 := blk_frozen BK533.out 5
                                          have hfz80_6 := blk_frozen BK533.out 6
                                          go_wp2_with (first | ((with_reducible refine gate_callee (f := 16) rfl ?_); refine goesL_ (some 124) rfl rfl Tryd.func16 (by kernel_rfl) rfl #[.agg #[.string a1_0, .int .u8 a1_1, .int .i64 a1_2, .int .i64 a1_3, .int .i64 a1_4, .int .i64 a1_5, .int .i64 a1_6], .int .i64 0, .int .i64 0] rfl (by (try simp only [List.map_toArray, List.map_cons, List.map_nil]); first | done | rfl | (simp only [List.length_drop, List.length_take]; rfl)) ?_; (with_reducible refine (directive_Settle.calls kj57 a1_0 a1_1 a1_2 a1_3 a1_4 a1_5 a1_6 0 0 t561 t562 t563 t564 t565 _ A71.out).mono ?_); rintro e w81 ⟨rfl, hb⟩; refine ⟨_, rfl, ?_⟩; have n0_ := Aside0.mk (blk_below (g := gb533) (o := .cells #[.string a1_0, .int .u8 a1_1, .int .i64 a1_2, .int .i64 a1_3, .int .i64 a1_4, .int .i64 a1_5, .int .i64 a1_6] 25 (0, 0)) (by (with_reducible repeat (first | refine blk_drewN ?_ _ | refine blk_drew ?_ | refine blk_alloc ?_ _)); exact BK533.out) hb); have n1_ := Aside0.mk (blk_below (g := gb560) (o := .cells #[.int .u8 t554, .int .i64 t555, .int .i64 t556, .int .i64 t557] 37 (0, 0)) (by (with_reducible repeat (first | refine blk_drewN ?_ _ | refine blk_drew ?_ | refine blk_alloc ?_ _)); exact BK560.out) hb); have n2_ := Aside0.mk (below_step (by repeat (first | (with_reducible first | exact HB.out | apply below_alloc | apply pw_below_drewN | apply below_drew1 | refine below_set ?_ GE533.out | refine below_set ?_ GE560.out) | exact HB.out)) hb); clear BK533; clear BK560; clear HB; have BK533 := n0_; have BK560 := n1_; have HB := n2_; clear n0_ n1_ n2_; (try clear hb); (try clear hb2); (try clear hk); (try clear hi)) | ((with_reducible refine gate_dst (N := 15) rfl ?_); (try (refine gate_guard (by rfl) ?_; dsimp only)); refine box_event ?hg (N := 15) ?hd (cs := #[.int .u8 0, .int .i64 0, .int .i64 0, .int .i64 0]) (t := 37) ?hr ?_; (case hd => rfl); (case hg => rfl); (case hr => first | (go_simp; done) | (go_simp; rfl)); intro gb566 hg w82 hbox hb; have n0_ := Aside0.mk (blk_below (g := gb533) (o := .cells #[.string a1_0, .int .u8 a1_1, .int .i64 a1_2, .int .i64 a1_3, .int .i64 a1_4, .int .i64 a1_5, .int .i64 a1_6] 25 (0, 0)) (by (with_reducible repeat (first | refine blk_drewN ?_ _ | refine blk_drew ?_ | refine blk_alloc ?_ _)); exact BK533.out) hb); have n1_ := Aside0.mk (blk_below (g := gb560) (o := .cells #[.int .u8 t554, .int .i64 t555, .int .i64 t556, .int .i64 t557] 37 (0, 0)) (by (with_reducible repeat (first | refine blk_drewN ?_ _ | refine blk_drew ?_ | refine blk_alloc ?_ _)); exact BK560.out) hb); have n2_ := Aside0.mk (below_step (by repeat (first | (with_reducible first | exact HB.out | apply below_alloc | apply pw_below_drewN | apply below_drew1 | refine below_set ?_ GE533.out | refine below_set ?_ GE560.out) | exact HB.out)) hb); have n3_ := Aside0.mk (hbox); have n4_ := Aside0.mk ((by rw [hg]; exact (below_size (by repeat (first | (with_reducible first | exact HB.out | apply below_alloc | apply pw_below_drewN | apply below_drew1 | refine below_set ?_ GE533.out | refine below_set ?_ GE560.out) | exact HB.out))) : w.heap.size ≤ gb566)); have n5_ := Aside0.mk ((by rw [hg]; exact (below_size (by repeat (first | (with_reducible first | exact HB.out | apply below_alloc | apply pw_below_drewN | apply below_drew1 | refine below_set ?_ GE533.out | refine below_set ?_ GE560.out) | exact HB.out))) : w.heap.size ≤ gb566)); have n6_ := Aside0.mk ((by rw [hg]; exact Nat.ne_of_lt (blk_lt (g := gb533) (o := .cells #[.string a1_0, .int .u8 a1_1, .int .i64 a1_2, .int .i64 a1_3, .int .i64 a1_4, .int .i64 a1_5, .int .i64 a1_6] 25 (0, 0)) (by (with_reducible repeat (first | refine blk_drewN ?_ _ | refine blk_drew ?_ | refine blk_alloc ?_ _)); exact BK533.out)) : gb533 ≠ gb566)); have n7_ := Aside0.mk ((by rw [hg]; exact Nat.ne_of_gt (blk_lt (g := gb533) (o := .cells #[.string a1_0, .int .u8 a1_1, .int .i64 a1_2, .int .i64 a1_3, .int .i64 a1_4, .int .i64 a1_5, .int .i64 a1_6] 25 (0, 0)) (by (with_reducible repeat (first | refine blk_drewN ?_ _ | refine blk_drew ?_ | refine blk_alloc ?_ _)); exact BK533.out)) : gb566 ≠ gb533)); have n8_ := Aside0.mk ((by rw [hg]; exact Nat.ne_of_lt (blk_lt (g := gb560) (o := .cells #[.int .u8 t554, .int .i64 t555, .int .i64 t556, .int .i64 t557] 37 (0, 0)) (by (with_reducible repeat (first | refine blk_drewN ?_ _ | refine blk_drew ?_ | refine blk_alloc ?_ _)); exact BK560.out)) : gb560 ≠ gb566)); have n9_ := Aside0.mk ((by rw [hg]; exact Nat.ne_of_gt (blk_lt (g := gb560) (o := .cells #[.int .u8 t554, .int .i64 t555, .int .i64 t556, .int .i64 t557] 37 (0, 0)) (by (with_reducible repeat (first | refine blk_drewN ?_ _ | refine blk_drew ?_ | refine blk_alloc ?_ _)); exact BK560.out)) : gb566 ≠ gb560)); clear BK533; clear BK560; clear HB; have BK533 := n0_; have BK560 := n1_; have HB := n2_; have BK566 := n3_; have GW566 := n4_; have GE566 := n5_; have NB533_566 := n6_; have NB566_533 := n7_; have NB560_566 := n8_; have NB566_560 := n9_; clear n0_ n1_ n2_ n3_ n4_ n5_ n6_ n7_ n8_ n9_; clear hb hbox hg; have hnb83 := NB566_533.out; have hnc83 := NB533_566.out; have hnb84 := NB566_560.out; have hnc84 := NB560_566.out; have hcz85_0 : w82.cell? ⟨gb566, 0, none⟩ = some (.int .u8 0) := (blk_cell BK566.out 0).trans rfl; have hcz85_1 : w82.cell? ⟨gb566, 1, none⟩ = some (.int .i64 0) := (blk_cell BK566.out 1).trans rfl; have hcz85_2 : w82.cell? ⟨gb566, 2, none⟩ = some (.int .i64 0) := (blk_cell BK566.out 2).trans rfl; have hcz85_3 : w82.cell? ⟨gb566, 3, none⟩ = some (.int .i64 0) := (blk_cell BK566.out 3).trans rfl; have hfz85_0 := blk_frozen BK566.out 0; have hfz85_1 := blk_frozen BK566.out 1; have hfz85_2 := blk_frozen BK566.out 2; have hfz85_3 := blk_frozen BK566.out 3; have hcz86_0 : w82.cell? ⟨gb560, 0, none⟩ = some (.int .u8 t554) := (blk_cell BK560.out 0).trans rfl; have hcz86_1 : w82.cell? ⟨gb560, 1, none⟩ = some (.int .i64 t555) := (blk_cell BK560.out 1).trans rfl; have hcz86_2 : w82.cell? ⟨gb560, 2, none⟩ = some (.int .i64 t556) := (blk_cell BK560.out 2).trans rfl; have hcz86_3 : w82.cell? ⟨gb560, 3, none⟩ = some (.int .i64 t557) := (blk_cell BK560.out 3).trans rfl; have hfz86_0 := blk_frozen BK560.out 0; have hfz86_1 := blk_frozen BK560.out 1; have hfz86_2 := blk_frozen BK560.out 2; have hfz86_3 := blk_frozen BK560.out 3) | ((with_reducible refine gate_callee (f := 23) rfl ?_); refine goesL_ (some 152) rfl rfl Tryd.func23 (by kernel_rfl) rfl #[.string (t550 ++ t550)] rfl (by (try simp only [List.map_toArray, List.map_cons, List.map_nil]); first | done | rfl | (simp only [List.length_drop, List.length_take]; rfl)) ?_; (with_reducible refine (directive_Single.calls kj57 (t550 ++ t550) t567 t568 t569 t570 t571 t572 t573 _ A78.out).mono ?_); rintro e w87 ⟨rfl, hb⟩; refine ⟨_, rfl, ?_⟩; have n0_ := Aside0.mk (blk_below (g := gb533) (o := .cells #[.string a1_0, .int .u8 a1_1, .int .i64 a1_2, .int .i64 a1_3, .int .i64 a1_4, .int .i64 a1_5, .int .i64 a1_6] 25 (0, 0)) (by (with_reducible repeat (first | refine blk_drewN ?_ _ | refine blk_drew ?_ | refine blk_alloc ?_ _)); refine blk_far ?_ NB533_566.out _; (with_reducible repeat (first | refine blk_drewN ?_ _ | refine blk_drew ?_ | refine blk_alloc ?_ _)); refine blk_far ?_ NB533_566.out _; (with_reducible repeat (first | refine blk_drewN ?_ _ | refine blk_drew ?_ | refine blk_alloc ?_ _)); refine blk_far ?_ NB533_566.out _; (with_reducible repeat (first | refine blk_drewN ?_ _ | refine blk_drew ?_ | refine blk_alloc ?_ _)); refine blk_far ?_ NB533_566.out _; (with_reducible repeat (first | refine blk_drewN ?_ _ | refine blk_drew ?_ | refine blk_alloc ?_ _)); exact BK533.out) hb); have n1_ := Aside0.mk (blk_below (g := gb560) (o := .cells #[.int .u8 t554, .int .i64 t555, .int .i64 t556, .int .i64 t557] 37 (0, 0)) (by (with_reducible repeat (first | refine blk_drewN ?_ _ | refine blk_drew ?_ | refine blk_alloc ?_ _)); refine blk_far ?_ NB560_566.out _; (with_reducible repeat (first | refine blk_drewN ?_ _ | refine blk_drew ?_ | refine blk_alloc ?_ _)); refine blk_far ?_ NB560_566.out _; (with_reducible repeat (first | refine blk_drewN ?_ _ | refine blk_drew ?_ | refine blk_alloc ?_ _)); refine blk_far ?_ NB560_566.out _; (with_reducible repeat (first | refine blk_drewN ?_ _ | refine blk_drew ?_ | refine blk_alloc ?_ _)); refine blk_far ?_ NB560_566.out _; (with_reducible repeat (first | refine blk_drewN ?_ _ | refine blk_drew ?_ | refine blk_alloc ?_ _)); exact BK560.out) hb); have n2_ := Aside0.mk (blk_below (g := gb566) (o := .cells #[.int .u8 t561, .int .i64 t562, .int .i64 t563, .int .i64 t564] 37 (0, 0)) (by (with_reducible repeat (first | refine blk_drewN ?_ _ | refine blk_drew ?_ | refine blk_alloc ?_ _)); refine blk_put (cs := #[.int .u8 t561, .int .i64 t562, .int .i64 t563, .int .i64 0]) ?_ 3 _ rfl; (with_reducible repeat (first | refine blk_drewN ?_ _ | refine blk_drew ?_ | refine blk_alloc ?_ _)); refine blk_put (cs := #[.int .u8 t561, .int .i64 t562, .int .i64 0, .int .i64 0]) ?_ 2 _ rfl; (with_reducible repeat (first | refine blk_drewN ?_ _ | refine blk_drew ?_ | refine blk_alloc ?_ _)); refine blk_put (cs := #[.int .u8 t561, .int .i64 0, .int .i64 0, .int .i64 0]) ?_ 1 _ rfl; (with_reducible repeat (first | refine blk_drewN ?_ _ | refine blk_drew ?_ | refine blk_alloc ?_ _)); refine blk_put (cs := #[.int .u8 0, .int .i64 0, .int .i64 0, .int .i64 0]) ?_ 0 _ rfl; (with_reducible repeat (first | refine blk_drewN ?_ _ | refine blk_drew ?_ | refine blk_alloc ?_ _)); exact BK566.out) hb); have n3_ := Aside0.mk (below_step (by repeat (first | (with_reducible first | exact HB.out | apply below_alloc | apply pw_below_drewN | apply below_drew1 | refine below_set ?_ GE533.out | refine below_set ?_ GE560.out | refine below_set ?_ GE566.out) | exact HB.out)) hb); clear BK533; clear BK560; clear BK566; clear HB; have BK533 := n0_; have BK560 := n1_; have BK566 := n2_; have HB := n3_; clear n0_ n1_ n2_ n3_; (try clear hb); (try clear hb2); (try clear hk); (try clear hi)) | ((with_reducible refine gate_dst (N := 17) rfl ?_); (try (refine gate_guard (by rfl) ?_; dsimp only)); refine box_event ?hg (N := 17) ?hd (cs := #[.int .u8 0, .int .i64 0, .int .i64 0, .int .i64 0]) (t := 37) ?hr ?_; (case hd => rfl); (case hg => rfl); (case hr => first | (go_simp; done) | (go_simp; rfl)); intro gb574 hg w88 hbox hb; have n0_ := Aside0.mk (blk_below (g := gb533) (o := .cells #[.string a1_0, .int .u8 a1_1, .int .i64 a1_2, .int .i64 a1_3, .int .i64 a1_4, .int .i64 a1_5, .int .i64 a1_6] 25 (0, 0)) (by (with_reducible repeat (first | refine blk_drewN ?_ _ | refine blk_drew ?_ | refine blk_alloc ?_ _)); exact BK533.out) hb); have n1_ := Aside0.mk (blk_below (g := gb560) (o := .cells #[.int .u8 t554, .int .i64 t555, .int .i64 t556, .int .i64 t557] 37 (0, 0)) (by (with_reducible repeat (first | refine blk_drewN ?_ _ | refine blk_drew ?_ | refine blk_alloc ?_ _)); exact BK560.out) hb); have n2_ := Aside0.mk (blk_below (g := gb566) (o := .cells #[.int .u8 t561, .int .i64 t562, .int .i64 t563, .int .i64 t564] 37 (0, 0)) (by (with_reducible repeat (first | refine blk_drewN ?_ _ | refine blk_drew ?_ | refine blk_alloc ?_ _)); exact BK566.out) hb); have n3_ := Aside0.mk (below_step (by repeat (first | (with_reducible first | exact HB.out | apply below_alloc | apply pw_below_drewN | apply below_drew1 | refine below_set ?_ GE533.out | refine below_set ?_ GE560.out | refine below_set ?_ GE566.out) | exact HB.out)) hb); have n4_ := Aside0.mk (hbox); have n5_ := Aside0.mk ((by rw [hg]; exact (below_size (by repeat (first | (with_reducible first | exact HB.out | apply below_alloc | apply pw_below_drewN | apply below_drew1 | refine below_set ?_ GE533.out | refine below_set ?_ GE560.out | refine below_set ?_ GE566.out) | exact HB.out))) : w.heap.size ≤ gb574)); have n6_ := Aside0.mk ((by rw [hg]; exact (below_size (by repeat (first | (with_reducible first | exact HB.out | apply below_alloc | apply pw_below_drewN | apply below_drew1 | refine below_set ?_ GE533.out | refine below_set ?_ GE560.out | refine below_set ?_ GE566.out) | exact HB.out))) : w.heap.size ≤ gb574)); have n7_ := Aside0.mk ((by rw [hg]; exact Nat.ne_of_lt (blk_lt (g := gb533) (o := .cells #[.string a1_0, .int .u8 a1_1, .int .i64 a1_2, .int .i64 a1_3, .int .i64 a1_4, .int .i64 a1_5, .int .i64 a1_6] 25 (0, 0)) (by (with_reducible repeat (first | refine blk_drewN ?_ _ | refine blk_drew ?_ | refine blk_alloc ?_ _)); exact BK533.out)) : gb533 ≠ gb574)); have n8_ := Aside0.mk ((by rw [hg]; exact Nat.ne_of_gt (blk_lt (g := gb533) (o := .cells #[.string a1_0, .int .u8 a1_1, .int .i64 a1_2, .int .i64 a1_3, .int .i64 a1_4, .int .i64 a1_5, .int .i64 a1_6] 25 (0, 0)) (by (with_reducible repeat (first | refine blk_drewN ?_ _ | refine blk_drew ?_ | refine blk_alloc ?_ _)); exact BK533.out)) : gb574 ≠ gb533)); have n9_ := Aside0.mk ((by rw [hg]; exact Nat.ne_of_lt (blk_lt (g := gb560) (o := .cells #[.int .u8 t554, .int .i64 t555, .int .i64 t556, .int .i64 t557] 37 (0, 0)) (by (with_reducible repeat (first | refine blk_drewN ?_ _ | refine blk_drew ?_ | refine blk_alloc ?_ _)); exact BK560.out)) : gb560 ≠ gb574)); have n10_ := Aside0.mk ((by rw [hg]; exact Nat.ne_of_gt (blk_lt (g := gb560) (o := .cells #[.int .u8 t554, .int .i64 t555, .int .i64 t556, .int .i64 t557] 37 (0, 0)) (by (with_reducible repeat (first | refine blk_drewN ?_ _ | refine blk_drew ?_ | refine blk_alloc ?_ _)); exact BK560.out)) : gb574 ≠ gb560)); have n11_ := Aside0.mk ((by rw [hg]; exact Nat.ne_of_lt (blk_lt (g := gb566) (o := .cells #[.int .u8 t561, .int .i64 t562, .int .i64 t563, .int .i64 t564] 37 (0, 0)) (by (with_reducible repeat (first | refine blk_drewN ?_ _ | refine blk_drew ?_ | refine blk_alloc ?_ _)); exact BK566.out)) : gb566 ≠ gb574)); have n12_ := Aside0.mk ((by rw [hg]; exact Nat.ne_of_gt (blk_lt (g := gb566) (o := .cells #[.int .u8 t561, .int .i64 t562, .int .i64 t563, .int .i64 t564] 37 (0, 0)) (by (with_reducible repeat (first | refine blk_drewN ?_ _ | refine blk_drew ?_ | refine blk_alloc ?_ _)); exact BK566.out)) : gb574 ≠ gb566)); clear BK533; clear BK560; clear BK566; clear HB; have BK533 := n0_; have BK560 := n1_; have BK566 := n2_; have HB := n3_; have BK574 := n4_; have GW574 := n5_; have GE574 := n6_; have NB533_574 := n7_; have NB574_533 := n8_; have NB560_574 := n9_; have NB574_560 := n10_; have NB566_574 := n11_; have NB574_566 := n12_; clear n0_ n1_ n2_ n3_ n4_ n5_ n6_ n7_ n8_ n9_ n10_ n11_ n12_; clear hb hbox hg; have hnb89 := NB574_533.out; have hnc89 := NB533_574.out; have hnb90 := NB574_560.out; have hnc90 := NB560_574.out; have hnb91 := NB574_566.out; have hnc91 := NB566_574.out; have hcz92_0 : w88.cell? ⟨gb574, 0, none⟩ = some (.int .u8 0) := (blk_cell BK574.out 0).trans rfl; have hcz92_1 : w88.cell? ⟨gb574, 1, none⟩ = some (.int .i64 0) := (blk_cell BK574.out 1).trans rfl; have hcz92_2 : w88.cell? ⟨gb574, 2, none⟩ = some (.int .i64 0) := (blk_cell BK574.out 2).trans rfl; have hcz92_3 : w88.cell? ⟨gb574, 3, none⟩ = some (.int .i64 0) := (blk_cell BK574.out 3).trans rfl; have hfz92_0 := blk_frozen BK574.out 0; have hfz92_1 := blk_frozen BK574.out 1; have hfz92_2 := blk_frozen BK574.out 2; have hfz92_3 := blk_frozen BK574.out 3))
                                          go_ret
                                          exact ⟨by first | exact congrArg (fun b_ => Ending.returned (Value.bool b_)) HX.out | (have hx_ := HX.out; simp at hx_ ⊢; done) | (have hx_ := HX.out; simp at hx_ ⊢; exact hx_) | (have hx_ := HX.out; simp_all) | (simp [*, errW_none, errW_some] <;> rfl), by repeat (first | (with_reducible first | exact HB.out | apply below_alloc | apply pw_below_drewN | apply below_drew1 | refine below_set ?_ GE533.out | refine below_set ?_ GE560.out | refine below_set ?_ GE566.out | refine below_set ?_ GE574.out) | exact HB.out)⟩
                                        · rw [if_neg c77] at H
                                          exact absurd H (by simp)
                                    · rw [if_neg c75] at H
                                      have c75b0 : (t558.toList == a2.toList) = false := beq_eq_false_iff_ne.mpr c75
                                      have c75b1 : (t558.toList != a2.toList) = true := bne_iff_ne.mpr c75
                                      exact absurd H (by simp)
                                  · rw [if_neg c74] at H
                                    have c74b0 : (t553.toList == a0.toList) = false := beq_eq_false_iff_ne.mpr c74
                                    have c74b1 : (t553.toList != a0.toList) = true := bne_iff_ne.mpr c74
                                    exact absurd H (by simp)
                                · replace c73 := Bool.eq_false_iff.mpr c73
                                  subst c73
                                  have H1 : (some false) = some true := by rw [if_neg (show ¬ (false = true) by decide)] at H; exact H
                                  clear H
                                  have H := H1
                                  clear H1
                                  exact absurd H (by simp)
                              · rw [if_neg c72] at H
                                have c72b0 : (t565 == 0) = false := beq_eq_false_iff_ne.mpr c72
                                have c72b1 : (t565 != 0) = true := bne_iff_ne.mpr c72
                                exact absurd H (by simp)
                  · rw [if_neg c22] at H
                    have c22b0 : (t551 == 0) = false := beq_eq_false_iff_ne.mpr c22
                    have c22b1 : (t551 != 0) = true := bne_iff_ne.mpr c22
                    exact absurd H (by simp)
                · rw [if_neg c21] at H
                  have c21b0 : (t552 == 0) = false := beq_eq_false_iff_ne.mpr c21
                  have c21b1 : (t552 != 0) = true := bne_iff_ne.mpr c21
                  have HX := Aside0.mk (Option.some.inj H)
                  clear H
                  go_wp2_with (first | ((with_reducible refine gate_callee (f := 22) rfl ?_); refine goesL_ (some 38) rfl rfl Tryd.func22 (by kernel_rfl) rfl #[.string a0] rfl (by (try simp only [List.map_toArray, List.map_cons, List.map_nil]); first | done | rfl | (simp only [List.length_drop, List.length_take]; rfl)) ?_; (with_reducible refine (abacuslaw13_cut.calls kj5 a0 t535 _ A14.out).mono ?_); rintro e w93 ⟨v536, rfl, ho0, hb⟩; refine ⟨_, rfl, ?_⟩; have n0_ := Aside0.mk (Kd.R_lower (Kd.R_newB ho0 (g := gb533) (o := .cells #[.string a1_0, .int .u8 a1_1, .int .i64 a1_2, .int .i64 a1_3, .int .i64 a1_4, .int .i64 a1_5, .int .i64 a1_6] 25 (0, 0)) (by (with_reducible repeat (first | refine blk_drewN ?_ _ | refine blk_drew ?_ | refine blk_alloc ?_ _)); exact BK533.out)) (below_size (by repeat (first | (with_reducible first | exact HB.out | apply below_alloc | apply pw_below_drewN | apply below_drew1 | refine below_set ?_ GE533.out) | exact HB.out)))); have n1_ := Aside0.mk (blk_below (g := gb533) (o := .cells #[.string a1_0, .int .u8 a1_1, .int .i64 a1_2, .int .i64 a1_3, .int .i64 a1_4, .int .i64 a1_5, .int .i64 a1_6] 25 (0, 0)) (by (with_reducible repeat (first | refine blk_drewN ?_ _ | refine blk_drew ?_ | refine blk_alloc ?_ _)); exact BK533.out) hb); have n2_ := Aside0.mk (below_step (by repeat (first | (with_reducible first | exact HB.out | apply below_alloc | apply pw_below_drewN | apply below_drew1 | refine below_set ?_ GE533.out) | exact HB.out)) hb); clear BK533; clear HB; have HO537 := n0_; have BK533 := n1_; have HB := n2_; clear n0_ n1_ n2_; (try clear hb); (try clear hb2); (try clear hk); (try clear hi); (try clear ho0); obtain ⟨Ao95, co95, eo95⟩ := Kd.R_slice HO537.out; subst eo95) | ((with_reducible refine gate_builtin (b := .append) (xs := #[.tmp 36, .tmp 38]) rfl ?_); (try (refine gate_guard (by rfl) ?_; dsimp only)); at_builtin; refine Kd.R_append_rows k25 (w0 := w) w.heap.size rfl (.tmp 36) (.tmp 38) 22 25 (.agg #[(.string ⟨#[]⟩), (.int .u8 0), (.int .i64 0), (.int .i64 0), (.int .i64 0), (.int .i64 0), (.int .i64 0)]) 64 rfl Tryd.underlying22 info25 rfl (by decide) (by omega) (.slice none 0 0) ([] : List (S25)) t535 _ _ _ (fun k_ => some k_ ≠ (.slice Ao95 t535.length co95 : Value).ownBlock ∧ k_ ≠ gb533) (fun _ => False) rfl rfl ?aO ?aR (fun _ _ h => h) (fun _ h => h.elim) ?aF ?aB ?aS ?aL ?_; (case aR => repeat (first | exact (Kd.R_reads' HO537.out).2.2 | (with_reducible refine Kd.C_alloc ?_ _) | (with_reducible refine Kd.C_drewN ?_ _) | (with_reducible refine Kd.C_drew ?_))); (case aB => exact (by repeat (first | (with_reducible first | exact HB.out | apply below_alloc | apply pw_below_drewN | apply below_drew1 | refine below_set ?_ GE533.out) | exact HB.out))); (case aF => exact (fun k_ hk => ⟨Kd.fresh' (Kd.R_lt (by (with_reducible repeat (first | apply Kd.R_alloc | apply Kd.R_drewN | apply Kd.R_drew)); exact HO537.out)) k_ hk, Kd.freshB (g := gb533) (o := .cells #[.string a1_0, .int .u8 a1_1, .int .i64 a1_2, .int .i64 a1_3, .int .i64 a1_4, .int .i64 a1_5, .int .i64 a1_6] 25 (0, 0)) (by (with_reducible repeat (first | refine blk_drewN ?_ _ | refine blk_drew ?_ | refine blk_alloc ?_ _)); exact BK533.out) k_ hk⟩)); (case aO => exact ((Kd.R_nil _ _ _ _ (fun k_ => some k_ ≠ (.slice Ao95 t535.length co95 : Value).ownBlock ∧ k_ ≠ gb533)))); (case aS => exact (below_size (by repeat (first | (with_reducible first | exact HB.out | apply below_alloc | apply pw_below_drewN | apply below_drew1 | refine below_set ?_ GE533.out) | exact HB.out)))); (case aL => have := LMc15.out; omega); intro v539 w94 ho hb hg hat; rw [← Ny538.out] at ho; have n0_ := Aside0.mk (blk_grown (g := gb533) (o := .cells #[.string a1_0, .int .u8 a1_1, .int .i64 a1_2, .int .i64 a1_3, .int .i64 a1_4, .int .i64 a1_5, .int .i64 a1_6] 25 (0, 0)) (by (with_reducible repeat (first | refine blk_drewN ?_ _ | refine blk_drew ?_ | refine blk_alloc ?_ _)); exact BK533.out) hg (by simp [Value.ownBlock])); have n1_ := Aside0.mk (Kd.R_after (Kd.R_apart_nil (by (with_reducible repeat (first | apply Kd.R_alloc | apply Kd.R_drewN | apply Kd.R_drew)); exact HO537.out)) hg hat); have n2_ := Aside0.mk (hb); have n3_ := Aside0.mk (ho); clear BK533; clear HO537; clear HB; have BK533 := n0_; have HO537 := n1_; have HB := n2_; have HO540 := n3_; clear n0_ n1_ n2_ n3_; clear ho hb hg hat; have hcz96_0 : w94.cell? ⟨gb533, 0, none⟩ = some (.string a1_0) := (blk_cell BK533.out 0).trans rfl; have hcz96_1 : w94.cell? ⟨gb533, 1, none⟩ = some (.int .u8 a1_1) := (blk_cell BK533.out 1).trans rfl; have hcz96_2 : w94.cell? ⟨gb533, 2, none⟩ = some (.int .i64 a1_2) := (blk_cell BK533.out 2).trans rfl; have hcz96_3 : w94.cell? ⟨gb533, 3, none⟩ = some (.int .i64 a1_3) := (blk_cell BK533.out 3).trans rfl; have hcz96_4 : w94.cell? ⟨gb533, 4, none⟩ = some (.int .i64 a1_4) := (blk_cell BK533.out 4).trans rfl; have hcz96_5 : w94.cell? ⟨gb533, 5, none⟩ = some (.int .i64 a1_5) := (blk_cell BK533.out 5).trans rfl; have hcz96_6 : w94.cell? ⟨gb533, 6, none⟩ = some (.int .i64 a1_6) := (blk_cell BK533.out 6).trans rfl; have hfz96_0 := blk_frozen BK533.out 0; have hfz96_1 := blk_frozen BK533.out 1; have hfz96_2 := blk_frozen BK533.out 2; have hfz96_3 := blk_frozen BK533.out 3; have hfz96_4 := blk_frozen BK533.out 4; have hfz96_5 := blk_frozen BK533.out 5; have hfz96_6 := blk_frozen BK533.out 6) | ((with_reducible refine gate_builtin (b := .append) (xs := #[.tmp 40, .tmp 42]) rfl ?_); (try (refine gate_guard (by rfl) ?_; dsimp only)); at_builtin; refine Kd.R_append k25 (w0 := w) w.heap.size rfl (.tmp 40) (.tmp 42) 22 25 (.agg #[(.string ⟨#[]⟩), (.int .u8 0), (.int .i64 0), (.int .i64 0), (.int .i64 0), (.int .i64 0), (.int .i64 0)]) 64 rfl Tryd.underlying22 info25 rfl (by decide) (by omega) v539 y538 (⟨a1_0, a1_1, a1_2, a1_3, a1_4, a1_5, a1_6⟩ : S25) [.string a1_0, .int .u8 a1_1, .int .i64 a1_2, .int .i64 a1_3, .int .i64 a1_4, .int .i64 a1_5, .int .i64 a1_6] (fun k_ => some k_ ≠ (.slice Ao95 t535.length co95 : Value).ownBlock ∧ k_ ≠ gb533) (fun _ => False) rfl rfl ?aP (fun _ hk => hk.elim) ?aF ?aO ?aB ?aS ?aL ?_; (case aP => exact k25_mkM _ _ _ (⟨a1_0, a1_1, a1_2, a1_3, a1_4, a1_5, a1_6⟩ : S25)); (case aB => exact (by repeat (first | (with_reducible first | exact HB.out | apply below_alloc | apply pw_below_drewN | apply below_drew1 | refine below_set ?_ GE533.out) | exact HB.out))); (case aF => exact (fun k_ hk => ⟨Kd.fresh' (Kd.R_lt (by (with_reducible repeat (first | apply Kd.R_alloc | apply Kd.R_drewN | apply Kd.R_drew)); exact HO537.out)) k_ hk, Kd.freshB (g := gb533) (o := .cells #[.string a1_0, .int .u8 a1_1, .int .i64 a1_2, .int .i64 a1_3, .int .i64 a1_4, .int .i64 a1_5, .int .i64 a1_6] 25 (0, 0)) (by (with_reducible repeat (first | refine blk_drewN ?_ _ | refine blk_drew ?_ | refine blk_alloc ?_ _)); exact BK533.out) k_ hk⟩)); (case aO => exact (by (with_reducible repeat (first | apply Kd.R_alloc | apply Kd.R_drewN | apply Kd.R_drew)); exact HO540.out)); (case aS => exact (below_size (by repeat (first | (with_reducible first | exact HB.out | apply below_alloc | apply pw_below_drewN | apply below_drew1 | refine below_set ?_ GE533.out) | exact HB.out)))); (case aL => have := LMc16.out; omega); intro v542 w97 ho hb hg hat; rw [← Ny541.out] at ho; have n0_ := Aside0.mk (blk_grown (g := gb533) (o := .cells #[.string a1_0, .int .u8 a1_1, .int .i64 a1_2, .int .i64 a1_3, .int .i64 a1_4, .int .i64 a1_5, .int .i64 a1_6] 25 (0, 0)) (by (with_reducible repeat (first | refine blk_drewN ?_ _ | refine blk_drew ?_ | refine blk_alloc ?_ _)); exact BK533.out) hg (Kd.R_away HO540.out (fun _ hk => hk.2))); have n1_ := Aside0.mk (Kd.R_after (ok := (fun k_ => k_ ≠ gb533)) (by (with_reducible repeat (first | apply Kd.R_alloc | apply Kd.R_drewN | apply Kd.R_drew)); exact Kd.R_mono HO537.out (fun _ hk => ⟨hk.1.2, hk.2⟩)) hg hat); have n2_ := Aside0.mk (hb); have n3_ := Aside0.mk (ho); clear BK533; clear HO537; clear HB; clear HO540; have BK533 := n0_; have HO537 := n1_; have HB := n2_; have HO543 := n3_; clear n0_ n1_ n2_ n3_; clear ho hb hg hat) | ((with_reducible refine gate_callee (f := 22) rfl ?_); refine goesL_ (some 46) rfl rfl Tryd.func22 (by kernel_rfl) rfl #[.string a2] rfl (by (try simp only [List.map_toArray, List.map_cons, List.map_nil]); first | done | rfl | (simp only [List.length_drop, List.length_take]; rfl)) ?_; (with_reducible refine (abacuslaw13_cut.calls kj5 a2 t544 _ A17.out).mono ?_); rintro e w98 ⟨v545, rfl, ho0, hb⟩; refine ⟨_, rfl, ?_⟩; have n0_ := Aside0.mk (Kd.R_elder' (by (with_reducible repeat (first | apply Kd.R_alloc | apply Kd.R_drewN | apply Kd.R_drew)); exact HO537.out) (Kd.R_base ho0) hb); have n1_ := Aside0.mk (Kd.R_elder' (by (with_reducible repeat (first | apply Kd.R_alloc | apply Kd.R_drewN | apply Kd.R_drew)); exact HO543.out) (Kd.R_base ho0) hb); have n2_ := Aside0.mk (Kd.R_lower (Kd.R_newB (Kd.R_new' (Kd.R_new' ho0 (Kd.R_lt (by (with_reducible repeat (first | apply Kd.R_alloc | apply Kd.R_drewN | apply Kd.R_drew)); exact HO537.out))) (Kd.R_lt (by (with_reducible repeat (first | apply Kd.R_alloc | apply Kd.R_drewN | apply Kd.R_drew)); exact HO543.out))) (g := gb533) (o := .cells #[.string a1_0, .int .u8 a1_1, .int .i64 a1_2, .int .i64 a1_3, .int .i64 a1_4, .int .i64 a1_5, .int .i64 a1_6] 25 (0, 0)) (by (with_reducible repeat (first | refine blk_drewN ?_ _ | refine blk_drew ?_ | refine blk_alloc ?_ _)); exact BK533.out)) (below_size (by repeat (first | (with_reducible first | exact HB.out | apply below_alloc | apply pw_below_drewN | apply below_drew1 | refine below_set ?_ GE533.out) | exact HB.out)))); have n3_ := Aside0.mk (blk_below (g := gb533) (o := .cells #[.string a1_0, .int .u8 a1_1, .int .i64 a1_2, .int .i64 a1_3, .int .i64 a1_4, .int .i64 a1_5, .int .i64 a1_6] 25 (0, 0)) (by (with_reducible repeat (first | refine blk_drewN ?_ _ | refine blk_drew ?_ | refine blk_alloc ?_ _)); exact BK533.out) hb); have n4_ := Aside0.mk (below_step (by repeat (first | (with_reducible first | exact HB.out | apply below_alloc | apply pw_below_drewN | apply below_drew1 | refine below_set ?_ GE533.out) | exact HB.out)) hb); clear HO537; clear HO543; clear BK533; clear HB; have HO537 := n0_; have HO543 := n1_; have HO546 := n2_; have BK533 := n3_; have HB := n4_; clear n0_ n1_ n2_ n3_ n4_; (try clear hb); (try clear hb2); (try clear hk); (try clear hi); (try clear ho0); obtain ⟨Ao100, co100, eo100⟩ := Kd.R_slice HO546.out; subst eo100) | ((with_reducible refine gate_builtin (b := .append) (xs := #[.tmp 44, .tmp 46]) rfl ?_); (try (refine gate_guard (by rfl) ?_; dsimp only)); at_builtin; refine Kd.R_append_rows k25 (w0 := w) w.heap.size rfl (.tmp 44) (.tmp 46) 22 25 (.agg #[(.string ⟨#[]⟩), (.int .u8 0), (.int .i64 0), (.int .i64 0), (.int .i64 0), (.int .i64 0), (.int .i64 0)]) 64 rfl Tryd.underlying22 info25 rfl (by decide) (by omega) v542 y541 t544 _ _ _ (fun k_ => some k_ ≠ (.slice Ao95 t535.length co95 : Value).ownBlock ∧ some k_ ≠ (.slice Ao100 t544.length co100 : Value).ownBlock ∧ k_ ≠ gb533) (fun _ => False) rfl rfl ?aO ?aR (fun _ _ h => h) (fun _ h => h.elim) ?aF ?aB ?aS ?aL ?_; (case aR => repeat (first | exact (Kd.R_reads' HO546.out).2.2 | (with_reducible refine Kd.C_alloc ?_ _) | (with_reducible refine Kd.C_drewN ?_ _) | (with_reducible refine Kd.C_drew ?_))); (case aB => exact (by repeat (first | (with_reducible first | exact HB.out | apply below_alloc | apply pw_below_drewN | apply below_drew1 | refine below_set ?_ GE533.out) | exact HB.out))); (case aF => exact (fun k_ hk => ⟨Kd.fresh' (Kd.R_lt (by (with_reducible repeat (first | apply Kd.R_alloc | apply Kd.R_drewN | apply Kd.R_drew)); exact HO537.out)) k_ hk, Kd.fresh' (Kd.R_lt (by (with_reducible repeat (first | apply Kd.R_alloc | apply Kd.R_drewN | apply Kd.R_drew)); exact HO546.out)) k_ hk, Kd.freshB (g := gb533) (o := .cells #[.string a1_0, .int .u8 a1_1, .int .i64 a1_2, .int .i64 a1_3, .int .i64 a1_4, .int .i64 a1_5, .int .i64 a1_6] 25 (0, 0)) (by (with_reducible repeat (first | refine blk_drewN ?_ _ | refine blk_drew ?_ | refine blk_alloc ?_ _)); exact BK533.out) k_ hk⟩)); (case aO => exact (by (with_reducible repeat (first | apply Kd.R_alloc | apply Kd.R_drewN | apply Kd.R_drew)); exact Kd.R_mono HO543.out (fun _ hk => ⟨hk.1.1, ⟨hk.2, hk.1.2⟩⟩))); (case aS => exact (below_size (by repeat (first | (with_reducible first | exact HB.out | apply below_alloc | apply pw_below_drewN | apply below_drew1 | refine below_set ?_ GE533.out) | exact HB.out)))); (case aL => have := LMc18.out; omega); intro v548 w99 ho hb hg hat; rw [← Ny547.out] at ho; have n0_ := Aside0.mk (blk_grown (g := gb533) (o := .cells #[.string a1_0, .int .u8 a1_1, .int .i64 a1_2, .int .i64 a1_3, .int .i64 a1_4, .int .i64 a1_5, .int .i64 a1_6] 25 (0, 0)) (by (with_reducible repeat (first | refine blk_drewN ?_ _ | refine blk_drew ?_ | refine blk_alloc ?_ _)); exact BK533.out) hg (Kd.R_away HO543.out (fun _ hk => hk.1.2))); have n1_ := Aside0.mk (Kd.R_after (ok := (fun k_ => some k_ ≠ (.slice Ao100 t544.length co100 : Value).ownBlock ∧ k_ ≠ gb533)) (by (with_reducible repeat (first | apply Kd.R_alloc | apply Kd.R_drewN | apply Kd.R_drew)); exact Kd.R_mono HO537.out (fun _ hk => ⟨⟨hk.2, hk.1.1⟩, hk.1.2⟩)) hg hat); have n2_ := Aside0.mk (Kd.R_after (ok := (fun k_ => some k_ ≠ (.slice Ao95 t535.length co95 : Value).ownBlock ∧ k_ ≠ gb533)) (by (with_reducible repeat (first | apply Kd.R_alloc | apply Kd.R_drewN | apply Kd.R_drew)); exact Kd.R_mono HO546.out (fun _ hk => ⟨⟨hk.1.1.2, hk.2⟩, hk.1.2⟩)) hg hat); have n3_ := Aside0.mk (hb); have n4_ := Aside0.mk (ho); clear BK533; clear HO537; clear HO546; clear HB; clear HO543; have BK533 := n0_; have HO537 := n1_; have HO546 := n2_; have HB := n3_; have HO549 := n4_; clear n0_ n1_ n2_ n3_ n4_; clear ho hb hg hat; obtain ⟨Ao101, co101, eo101⟩ := Kd.R_slice HO549.out; subst eo101) | ((with_reducible refine gate_callee (f := 12) rfl ?_); refine goesL_ (some 50) rfl rfl Tryd.func12 (by kernel_rfl) rfl #[.slice Ao101 y547.length co101] rfl (by (try simp only [List.map_toArray, List.map_cons, List.map_nil]); first | done | rfl | (simp only [List.length_drop, List.length_take]; rfl)) ?_; (with_reducible refine (directive_Print.calls kj5 _ _ y547 t550 t551 _ ?side1 ?side2 ?side3 A19.out).mono ?_); (case side1 => repeat (first | exact (Kd.R_reads' HO549.out).2.2 | (with_reducible refine Kd.C_alloc ?_ _) | (with_reducible refine Kd.C_drewN ?_ _) | (with_reducible refine Kd.C_drew ?_))); (case side2 => exact (Kd.R_reads' HO549.out).2.1); (case side3 => exact GW.below HG.out (by repeat (first | (with_reducible first | exact HB.out | apply below_alloc | apply pw_below_drewN | apply below_drew1 | refine below_set ?_ GE533.out) | exact HB.out))); rintro e w102 ⟨rfl, hb⟩; refine ⟨_, rfl, ?_⟩; have n0_ := Aside0.mk (Kd.R_below (by (with_reducible repeat (first | apply Kd.R_alloc | apply Kd.R_drewN | apply Kd.R_drew)); exact HO537.out) hb); have n1_ := Aside0.mk (Kd.R_below (by (with_reducible repeat (first | apply Kd.R_alloc | apply Kd.R_drewN | apply Kd.R_drew)); exact HO546.out) hb); have n2_ := Aside0.mk (Kd.R_below (by (with_reducible repeat (first | apply Kd.R_alloc | apply Kd.R_drewN | apply Kd.R_drew)); exact HO549.out) hb); have n3_ := Aside0.mk (blk_below (g := gb533) (o := .cells #[.string a1_0, .int .u8 a1_1, .int .i64 a1_2, .int .i64 a1_3, .int .i64 a1_4, .int .i64 a1_5, .int .i64 a1_6] 25 (0, 0)) (by (with_reducible repeat (first | refine blk_drewN ?_ _ | refine blk_drew ?_ | refine blk_alloc ?_ _)); exact BK533.out) hb); have n4_ := Aside0.mk (below_step (by repeat (first | (with_reducible first | exact HB.out | apply below_alloc | apply pw_below_drewN | apply below_drew1 | refine below_set ?_ GE533.out) | exact HB.out)) hb); clear HO537; clear HO546; clear HO549; clear BK533; clear HB; have HO537 := n0_; have HO546 := n1_; have HO549 := n2_; have BK533 := n3_; have HB := n4_; clear n0_ n1_ n2_ n3_ n4_; (try clear hb); (try clear hb2); (try clear hk); (try clear hi); have hcz103_0 : w102.cell? ⟨gb533, 0, none⟩ = some (.string a1_0) := (blk_cell BK533.out 0).trans rfl; have hcz103_1 : w102.cell? ⟨gb533, 1, none⟩ = some (.int .u8 a1_1) := (blk_cell BK533.out 1).trans rfl; have hcz103_2 : w102.cell? ⟨gb533, 2, none⟩ = some (.int .i64 a1_2) := (blk_cell BK533.out 2).trans rfl; have hcz103_3 : w102.cell? ⟨gb533, 3, none⟩ = some (.int .i64 a1_3) := (blk_cell BK533.out 3).trans rfl; have hcz103_4 : w102.cell? ⟨gb533, 4, none⟩ = some (.int .i64 a1_4) := (blk_cell BK533.out 4).trans rfl; have hcz103_5 : w102.cell? ⟨gb533, 5, none⟩ = some (.int .i64 a1_5) := (blk_cell BK533.out 5).trans rfl; have hcz103_6 : w102.cell? ⟨gb533, 6, none⟩ = some (.int .i64 a1_6) := (blk_cell BK533.out 6).trans rfl; have hfz103_0 := blk_frozen BK533.out 0; have hfz103_1 := blk_frozen BK533.out 1; have hfz103_2 := blk_frozen BK533.out 2; have hfz103_3 := blk_frozen BK533.out 3; have hfz103_4 := blk_frozen BK533.out 4; have hfz103_5 := blk_frozen BK533.out 5; have hfz103_6 := blk_frozen BK533.out 6) | ((with_reducible refine gate_callee (f := 11) rfl ?_); refine goesL_ (some 54) rfl rfl Tryd.func11 (by kernel_rfl) rfl #[.agg #[.string a1_0, .int .u8 a1_1, .int .i64 a1_2, .int .i64 a1_3, .int .i64 a1_4, .int .i64 a1_5, .int .i64 a1_6]] rfl (by (try simp only [List.map_toArray, List.map_cons, List.map_nil]); first | done | rfl | (simp only [List.length_drop, List.length_take]; rfl)) ?_; (with_reducible refine (directive_Check.calls kj5 a1_0 a1_1 a1_2 a1_3 a1_4 a1_5 a1_6 t552 _ A20.out).mono ?_); rintro e w104 ⟨rfl, hb⟩; refine ⟨_, rfl, ?_⟩; have n0_ := Aside0.mk (Kd.R_below (by (with_reducible repeat (first | apply Kd.R_alloc | apply Kd.R_drewN | apply Kd.R_drew)); exact HO537.out) hb); have n1_ := Aside0.mk (Kd.R_below (by (with_reducible repeat (first | apply Kd.R_alloc | apply Kd.R_drewN | apply Kd.R_drew)); exact HO546.out) hb); have n2_ := Aside0.mk (Kd.R_below (by (with_reducible repeat (first | apply Kd.R_alloc | apply Kd.R_drewN | apply Kd.R_drew)); exact HO549.out) hb); have n3_ := Aside0.mk (blk_below (g := gb533) (o := .cells #[.string a1_0, .int .u8 a1_1, .int .i64 a1_2, .int .i64 a1_3, .int .i64 a1_4, .int .i64 a1_5, .int .i64 a1_6] 25 (0, 0)) (by (with_reducible repeat (first | refine blk_drewN ?_ _ | refine blk_drew ?_ | refine blk_alloc ?_ _)); exact BK533.out) hb); have n4_ := Aside0.mk (below_step (by repeat (first | (with_reducible first | exact HB.out | apply below_alloc | apply pw_below_drewN | apply below_drew1 | refine below_set ?_ GE533.out) | exact HB.out)) hb); clear HO537; clear HO546; clear HO549; clear BK533; clear HB; have HO537 := n0_; have HO546 := n1_; have HO549 := n2_; have BK533 := n3_; have HB := n4_; clear n0_ n1_ n2_ n3_ n4_; (try clear hb); (try clear hb2); (try clear hk); (try clear hi)))
                  go_ret
                  exact ⟨by first | exact congrArg (fun b_ => Ending.returned (Value.bool b_)) HX.out | (have hx_ := HX.out; simp at hx_ ⊢; done) | (have hx_ := HX.out; simp at hx_ ⊢; exact hx_) | (have hx_ := HX.out; simp_all) | (simp [*, errW_none, errW_some] <;> rfl), by repeat (first | (with_reducible first | exact HB.out | apply below_alloc | apply pw_below_drewN | apply below_drew1 | refine below_set ?_ GE533.out) | exact HB.out)⟩
              · rw [if_neg c18] at H
                exact absurd H (by simp)
            · rw [if_neg c16] at H
              exact absurd H (by simp)
          · rw [if_neg c15] at H
            exact absurd H (by simp)
  · replace c5 := Bool.eq_false_iff.mpr c5
    subst c5
    have H1 : (some false) = some true := by rw [if_neg (show ¬ (false = true) by decide)] at H; exact H
    clear H
    have H := H1
    clear H1
    exact absurd H (by simp)
end Go.Proofs.YtlmijjekaelhcaaDoor.EDi
