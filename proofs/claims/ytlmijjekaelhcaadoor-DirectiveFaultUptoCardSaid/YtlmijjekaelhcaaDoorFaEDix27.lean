/-
  A text of this session's own.
-/
import Derived.Test.YtlmijjekaelhcaaDoorFaEDix0
import Derived.Test.YtlmijjekaelhcaaDoorFaEDix22
import Derived.Test.YtlmijjekaelhcaaDoorFaEDix24
import Derived.Test.YtlmijjekaelhcaaDoorFaX
namespace Go.Proofs.YtlmijjekaelhcaaDoor.EDi
open Go.RowKit Go.Proofs.YtlmijjekaelhcaaDoorW.PrintWords Go.Proofs.YtlmijjekaelhcaaDoorW.PrintLast Go.Proofs.YtlmijjekaelhcaaDoorW.PrintMore
attribute [local go_sem] max2_int min2_int max_two min_two max_three min_three max_four min_four   -- for this text's walks alone
set_option linter.unusedVariables false
set_option linter.unusedSimpArgs false
open Go.Proofs.YtlmijjekaelhcaaDoor.X
mutual
def abacuslaw13_DirectiveFault.j0 : Nat → ByteArray → ByteArray → Int → Int → Bool → Option (Bool)
  | 0, _, _, _, _, _ => none
  | k + 1, x0, x1, x6, x7, x69 => if x69 = true then (some false) else (if 0 ≤ x6 then (if x6 ≤ (x0.size : Int) then ((directive_Parse.f k (x0.extract 0 (x6 : Int).toNat)).bind fun bt429 => (if bt429.2.2 = 131 then (abacuslaw13_DirectiveFault.j1 k x0 x1 x6 x7 (bt429.2.1 != x6)) else (abacuslaw13_DirectiveFault.j1 k x0 x1 x6 x7 true))) else (none)) else (none))
def abacuslaw13_DirectiveFault.j1 : Nat → ByteArray → ByteArray → Int → Int → Bool → Option (Bool)
  | 0, _, _, _, _, _ => none
  | k + 1, x0, x1, x6, x7, x84 => if x84 = true then (some false) else (if x7 = 131 then (some (x6 == (x0.size : Int))) else (abacuslaw13_DirectiveFault.l0 k x0 x1 x6 x7 (wrap64 (x6 + 1))))
def abacuslaw13_DirectiveFault.l0 : Nat → ByteArray → ByteArray → Int → Int → Int → Option (Bool)
  | 0, _, _, _, _, _ => none
  | k + 1, x0, x1, x6, x7, x15 => if x7 = 6 then (if x15 < (x0.size : Int) then (if 0 ≤ x15 then (if (bt x0 x15) ≥ 48 then (if (bt x0 x15) ≤ 57 then (abacuslaw13_DirectiveFault.l0 k x0 x1 x6 x7 (wrap64 (x15 + 1))) else (if x15 ≤ (x0.size : Int) then (if (x0.extract 0 (x15 : Int).toNat).size + x1.size ≤ 9223372036854775807 then ((directive_Parse.f k ((x0.extract 0 (x15 : Int).toNat) ++ x1)).bind fun bt434 => (if bt434.2.2 = x7 then (some (bt434.2.1 == x6)) else (some false))) else (none)) else (none))) else (if x15 ≤ (x0.size : Int) then (if (x0.extract 0 (x15 : Int).toNat).size + x1.size ≤ 9223372036854775807 then ((directive_Parse.f k ((x0.extract 0 (x15 : Int).toNat) ++ x1)).bind fun bt439 => (if bt439.2.2 = x7 then (some (bt439.2.1 == x6)) else (some false))) else (none)) else (none))) else (none)) else (if 0 ≤ x15 then (if x15 ≤ (x0.size : Int) then (if (x0.extract 0 (x15 : Int).toNat).size + x1.size ≤ 9223372036854775807 then ((directive_Parse.f k ((x0.extract 0 (x15 : Int).toNat) ++ x1)).bind fun bt444 => (if bt444.2.2 = x7 then (some (bt444.2.1 == x6)) else (some false))) else (none)) else (none)) else (none))) else (if 0 ≤ x15 then (if x15 ≤ (x0.size : Int) then (if (x0.extract 0 (x15 : Int).toNat).size + x1.size ≤ 9223372036854775807 then ((directive_Parse.f k ((x0.extract 0 (x15 : Int).toNat) ++ x1)).bind fun bt449 => (if bt449.2.2 = x7 then (some (bt449.2.1 == x6)) else (some false))) else (none)) else (none)) else (none))
end
def abacuslaw13_DirectiveFault.f (k : Nat) (a0 : ByteArray) (a1 : ByteArray) : Option (Bool) := (abacuslaw13_awake.f k).bind fun t413 => (if t413 = true then ((directive_Parse.f k a0).bind fun bt414 => (if bt414.2.2 = 0 then (if (a1.size : Int) > (a0.size : Int) then (if 0 ≤ (a0.size : Int) then (if (a0.size : Int) ≤ (a0.size : Int) then ((directive_Parse.f k (a0.extract 0 ((a0.size : Int) : Int).toNat)).bind fun bt419 => (if bt419.2.2 = 0 then (if bt419.2.1 = 0 then (some true) else (if bt419.2.2 = 131 then (some (bt419.2.1 == (a0.size : Int))) else (some false))) else (if bt419.2.2 = 131 then (some (bt419.2.1 == (a0.size : Int))) else (some false)))) else (none)) else (none)) else (if 0 ≤ (a1.size : Int) then (if (a1.size : Int) ≤ (a0.size : Int) then ((directive_Parse.f k (a0.extract 0 ((a1.size : Int) : Int).toNat)).bind fun bt424 => (if bt424.2.2 = 0 then (if bt424.2.1 = 0 then (some true) else (if bt424.2.2 = 131 then (some (bt424.2.1 == (a1.size : Int))) else (some false))) else (if bt424.2.2 = 131 then (some (bt424.2.1 == (a1.size : Int))) else (some false)))) else (none)) else (none))) else (if (bt414.1.length : Int) = 0 then (if bt414.2.1 < 0 then (abacuslaw13_DirectiveFault.j0 k a0 a1 bt414.2.1 bt414.2.2 true) else (abacuslaw13_DirectiveFault.j0 k a0 a1 bt414.2.1 bt414.2.2 (decide (bt414.2.1 > (a0.size : Int))))) else (abacuslaw13_DirectiveFault.j0 k a0 a1 bt414.2.1 bt414.2.2 true)))) else (some false))
theorem abacuslaw13_DirectiveFault.mono_l : ∀ k, (∀ y0 y1 y2 y3 y4, LeO (abacuslaw13_DirectiveFault.j0 k y0 y1 y2 y3 y4) (abacuslaw13_DirectiveFault.j0 (k + 1) y0 y1 y2 y3 y4)) ∧ (∀ y0 y1 y2 y3 y4, LeO (abacuslaw13_DirectiveFault.j1 k y0 y1 y2 y3 y4) (abacuslaw13_DirectiveFault.j1 (k + 1) y0 y1 y2 y3 y4)) ∧ (∀ y0 y1 y2 y3 y4, LeO (abacuslaw13_DirectiveFault.l0 k y0 y1 y2 y3 y4) (abacuslaw13_DirectiveFault.l0 (k + 1) y0 y1 y2 y3 y4))
  | 0 => ⟨fun _ _ _ _ _ r h => by simp [abacuslaw13_DirectiveFault.j0] at h, fun _ _ _ _ _ r h => by simp [abacuslaw13_DirectiveFault.j1] at h, fun _ _ _ _ _ r h => by simp [abacuslaw13_DirectiveFault.l0] at h⟩
  | k + 1 => by
    obtain ⟨ih0, ih1, ih2⟩ := abacuslaw13_DirectiveFault.mono_l k
    refine ⟨?_, ?_, ?_⟩
    · intro y0 y1 y2 y3 y4
      unfold abacuslaw13_DirectiveFault.j0
      repeat' first
      | (with_reducible exact ih0 _ _ _ _ _)
      | (with_reducible exact ih1 _ _ _ _ _)
      | (with_reducible exact ih2 _ _ _ _ _)
      | (with_reducible exact abacuslaw13_awake.mono _)
      | (with_reducible exact directive_Parse.mono _ _)
      | (with_reducible exact LeO.refl _)
      | (with_reducible exact LeO.none _)
      | (with_reducible refine LeO.ite ?_ ?_)
      | (with_reducible refine LeO.bind ?_ (fun _ => ?_))
      | exact ih0 _ _ _ _ _
      | exact ih1 _ _ _ _ _
      | exact ih2 _ _ _ _ _
      | exact abacuslaw13_awake.mono _
      | exact directive_Parse.mono _ _
      | exact LeO.none _
      | refine LeO.ite ?_ ?_
      | refine LeO.bind ?_ (fun _ => ?_)
    · intro y0 y1 y2 y3 y4
      unfold abacuslaw13_DirectiveFault.j1
      repeat' first
      | (with_reducible exact ih0 _ _ _ _ _)
      | (with_reducible exact ih1 _ _ _ _ _)
      | (with_reducible exact ih2 _ _ _ _ _)
      | (with_reducible exact abacuslaw13_awake.mono _)
      | (with_reducible exact directive_Parse.mono _ _)
      | (with_reducible exact LeO.refl _)
      | (with_reducible exact LeO.none _)
      | (with_reducible refine LeO.ite ?_ ?_)
      | (with_reducible refine LeO.bind ?_ (fun _ => ?_))
      | exact ih0 _ _ _ _ _
      | exact ih1 _ _ _ _ _
      | exact ih2 _ _ _ _ _
      | exact abacuslaw13_awake.mono _
      | exact directive_Parse.mono _ _
      | exact LeO.none _
      | refine LeO.ite ?_ ?_
      | refine LeO.bind ?_ (fun _ => ?_)
    · intro y0 y1 y2 y3 y4
      unfold abacuslaw13_DirectiveFault.l0
      repeat' first
      | (with_reducible exact ih0 _ _ _ _ _)
      | (with_reducible exact ih1 _ _ _ _ _)
      | (with_reducible exact ih2 _ _ _ _ _)
      | (with_reducible exact abacuslaw13_awake.mono _)
      | (with_reducible exact directive_Parse.mono _ _)
      | (with_reducible exact LeO.refl _)
      | (with_reducible exact LeO.none _)
      | (with_reducible refine LeO.ite ?_ ?_)
      | (with_reducible refine LeO.bind ?_ (fun _ => ?_))
      | exact ih0 _ _ _ _ _
      | exact ih1 _ _ _ _ _
      | exact ih2 _ _ _ _ _
      | exact abacuslaw13_awake.mono _
      | exact directive_Parse.mono _ _
      | exact LeO.none _
      | refine LeO.ite ?_ ?_
      | refine LeO.bind ?_ (fun _ => ?_)
set_option maxHeartbeats 8000000 in
set_option maxRecDepth 100000 in
theorem abacuslaw13_DirectiveFault.calls (k : Nat) (a0 : ByteArray) (a1 : ByteArray) (w : World) (hG : GW w) (h : abacuslaw13_DirectiveFault.f k a0 a1 = some true) :
    Calls Tryd.prog 4 #[.string a0, .string a1] w fun e w' => e = .returned (.bool true) ∧ Below w.heap.size w w' := by
  have HB := Aside0.mk (Below.refl w.heap.size w)
  have HG := Aside0.mk hG
  clear hG
  have H : ((abacuslaw13_awake.f k).bind fun t413 => (if t413 = true then ((directive_Parse.f k a0).bind fun bt414 => (if bt414.2.2 = 0 then (if (a1.size : Int) > (a0.size : Int) then (if 0 ≤ (a0.size : Int) then (if (a0.size : Int) ≤ (a0.size : Int) then ((directive_Parse.f k (a0.extract 0 ((a0.size : Int) : Int).toNat)).bind fun bt419 => (if bt419.2.2 = 0 then (if bt419.2.1 = 0 then (some true) else (if bt419.2.2 = 131 then (some (bt419.2.1 == (a0.size : Int))) else (some false))) else (if bt419.2.2 = 131 then (some (bt419.2.1 == (a0.size : Int))) else (some false)))) else (none)) else (none)) else (if 0 ≤ (a1.size : Int) then (if (a1.size : Int) ≤ (a0.size : Int) then ((directive_Parse.f k (a0.extract 0 ((a1.size : Int) : Int).toNat)).bind fun bt424 => (if bt424.2.2 = 0 then (if bt424.2.1 = 0 then (some true) else (if bt424.2.2 = 131 then (some (bt424.2.1 == (a1.size : Int))) else (some false))) else (if bt424.2.2 = 131 then (some (bt424.2.1 == (a1.size : Int))) else (some false)))) else (none)) else (none))) else (if (bt414.1.length : Int) = 0 then (if bt414.2.1 < 0 then (abacuslaw13_DirectiveFault.j0 k a0 a1 bt414.2.1 bt414.2.2 true) else (abacuslaw13_DirectiveFault.j0 k a0 a1 bt414.2.1 bt414.2.2 (decide (bt414.2.1 > (a0.size : Int))))) else (abacuslaw13_DirectiveFault.j0 k a0 a1 bt414.2.1 bt414.2.2 true)))) else (some false))) = some true := h
  clear h
  replace H := Option.bind_eq_some_iff.mp H
  obtain ⟨t413, A30, H⟩ := H
  replace H : (if t413 = true then ((directive_Parse.f k a0).bind fun bt414 => (if bt414.2.2 = 0 then (if (a1.size : Int) > (a0.size : Int) then (if 0 ≤ (a0.size : Int) then (if (a0.size : Int) ≤ (a0.size : Int) then ((directive_Parse.f k (a0.extract 0 ((a0.size : Int) : Int).toNat)).bind fun bt419 => (if bt419.2.2 = 0 then (if bt419.2.1 = 0 then (some true) else (if bt419.2.2 = 131 then (some (bt419.2.1 == (a0.size : Int))) else (some false))) else (if bt419.2.2 = 131 then (some (bt419.2.1 == (a0.size : Int))) else (some false)))) else (none)) else (none)) else (if 0 ≤ (a1.size : Int) then (if (a1.size : Int) ≤ (a0.size : Int) then ((directive_Parse.f k (a0.extract 0 ((a1.size : Int) : Int).toNat)).bind fun bt424 => (if bt424.2.2 = 0 then (if bt424.2.1 = 0 then (some true) else (if bt424.2.2 = 131 then (some (bt424.2.1 == (a1.size : Int))) else (some false))) else (if bt424.2.2 = 131 then (some (bt424.2.1 == (a1.size : Int))) else (some false)))) else (none)) else (none))) else (if (bt414.1.length : Int) = 0 then (if bt414.2.1 < 0 then (abacuslaw13_DirectiveFault.j0 k a0 a1 bt414.2.1 bt414.2.2 true) else (abacuslaw13_DirectiveFault.j0 k a0 a1 bt414.2.1 bt414.2.2 (decide (bt414.2.1 > (a0.size : Int))))) else (abacuslaw13_DirectiveFault.j0 k a0 a1 bt414.2.1 bt414.2.2 true)))) else (some false)) = some true := H
  have A3 := Aside0.mk A30
  clear A30
  by_cases c4 : t413 = true
  · subst c4
    have H1 : ((directive_Parse.f k a0).bind fun bt414 => (if bt414.2.2 = 0 then (if (a1.size : Int) > (a0.size : Int) then (if 0 ≤ (a0.size : Int) then (if (a0.size : Int) ≤ (a0.size : Int) then ((directive_Parse.f k (a0.extract 0 ((a0.size : Int) : Int).toNat)).bind fun bt419 => (if bt419.2.2 = 0 then (if bt419.2.1 = 0 then (some true) else (if bt419.2.2 = 131 then (some (bt419.2.1 == (a0.size : Int))) else (some false))) else (if bt419.2.2 = 131 then (some (bt419.2.1 == (a0.size : Int))) else (some false)))) else (none)) else (none)) else (if 0 ≤ (a1.size : Int) then (if (a1.size : Int) ≤ (a0.size : Int) then ((directive_Parse.f k (a0.extract 0 ((a1.size : Int) : Int).toNat)).bind fun bt424 => (if bt424.2.2 = 0 then (if bt424.2.1 = 0 then (some true) else (if bt424.2.2 = 131 then (some (bt424.2.1 == (a1.size : Int))) else (some false))) else (if bt424.2.2 = 131 then (some (bt424.2.1 == (a1.size : Int))) else (some false)))) else (none)) else (none))) else (if (bt414.1.length : Int) = 0 then (if bt414.2.1 < 0 then (abacuslaw13_DirectiveFault.j0 k a0 a1 bt414.2.1 bt414.2.2 true) else (abacuslaw13_DirectiveFault.j0 k a0 a1 bt414.2.1 bt414.2.2 (decide (bt414.2.1 > (a0.size : Int))))) else (abacuslaw13_DirectiveFault.j0 k a0 a1 bt414.2.1 bt414.2.2 true)))) = some true := by rw [if_pos rfl] at H; exact H
    clear H
    have H := H1
    clear H1
    replace H := Option.bind_eq_some_iff.mp H
    obtain ⟨⟨t414, t415, t416⟩, A50, H⟩ := H
    replace H : (if t416 = 0 then (if (a1.size : Int) > (a0.size : Int) then (if 0 ≤ (a0.size : Int) then (if (a0.size : Int) ≤ (a0.size : Int) then ((directive_Parse.f k (a0.extract 0 ((a0.size : Int) : Int).toNat)).bind fun bt419 => (if bt419.2.2 = 0 then (if bt419.2.1 = 0 then (some true) else (if bt419.2.2 = 131 then (some (bt419.2.1 == (a0.size : Int))) else (some false))) else (if bt419.2.2 = 131 then (some (bt419.2.1 == (a0.size : Int))) else (some false)))) else (none)) else (none)) else (if 0 ≤ (a1.size : Int) then (if (a1.size : Int) ≤ (a0.size : Int) then ((directive_Parse.f k (a0.extract 0 ((a1.size : Int) : Int).toNat)).bind fun bt424 => (if bt424.2.2 = 0 then (if bt424.2.1 = 0 then (some true) else (if bt424.2.2 = 131 then (some (bt424.2.1 == (a1.size : Int))) else (some false))) else (if bt424.2.2 = 131 then (some (bt424.2.1 == (a1.size : Int))) else (some false)))) else (none)) else (none))) else (if (t414.length : Int) = 0 then (if t415 < 0 then (abacuslaw13_DirectiveFault.j0 k a0 a1 t415 t416 true) else (abacuslaw13_DirectiveFault.j0 k a0 a1 t415 t416 (decide (t415 > (a0.size : Int))))) else (abacuslaw13_DirectiveFault.j0 k a0 a1 t415 t416 true))) = some true := H
    have A5 := Aside0.mk A50
    clear A50
    by_cases c6 : t416 = 0
    · rw [if_pos c6] at H
      have c6b0 : (t416 == 0) = true := beq_iff_eq.mpr c6
      have c6b1 : (t416 != 0) = false := bne_eq_false_iff_eq.mpr c6
      clear c6
      by_cases c7 : (a1.size : Int) > (a0.size : Int)
      · rw [if_pos c7] at H
        have c7b0 : decide ((a0.size : Int) < (a1.size : Int)) = true := decide_eq_true c7
        have c7b1 : decide (a0.size < a1.size) = true := decide_eq_true (Int.ofNat_lt.mp c7)
        clear c7
        by_cases c8 : 0 ≤ (a0.size : Int)
        · rw [if_pos c8] at H
          have c8b0 := eq_true c8
          have c8b1 : decide (0 ≤ (a0.size : Int)) = true := decide_eq_true c8
          clear c8
          by_cases c9 : (a0.size : Int) ≤ (a0.size : Int)
          · rw [if_pos c9] at H
            have c9b0 := eq_true c9
            have c9b1 : decide ((a0.size : Int) ≤ (a0.size : Int)) = true := decide_eq_true c9
            clear c9
            replace H := Option.bind_eq_some_iff.mp H
            obtain ⟨⟨t419, t420, t421⟩, A100, H⟩ := H
            replace H : (if t421 = 0 then (if t420 = 0 then (some true) else (if t421 = 131 then (some (t420 == (a0.size : Int))) else (some false))) else (if t421 = 131 then (some (t420 == (a0.size : Int))) else (some false))) = some true := H
            have A10 := Aside0.mk A100
            clear A100
            by_cases c11 : t421 = 0
            · rw [if_pos c11] at H
              have c11b0 : (t421 == 0) = true := beq_iff_eq.mpr c11
              have c11b1 : (t421 != 0) = false := bne_eq_false_iff_eq.mpr c11
              clear c11
              by_cases c12 : t420 = 0
              · rw [if_pos c12] at H
                have c12b0 : (t420 == 0) = true := beq_iff_eq.mpr c12
                have c12b1 : (t420 != 0) = false := bne_eq_false_iff_eq.mpr c12
                clear c12
                clear H
                go_enter Tryd.func4, Tryd.ntmps4
                have hx_ := A10.out
                rw [show a0.extract 0 ((a0.size : Int) : Int).toNat = a0 from by simp] at hx_
                clear A10
                have A10 := Aside0.mk hx_
                clear hx_
                go_wp2_with (first | ((with_reducible refine gate_callee (f := 10) rfl ?_); refine goesL_ (some 16) rfl rfl Tryd.func10 (by kernel_rfl) rfl #[] rfl (by (try simp only [List.map_toArray, List.map_cons, List.map_nil]); first | done | rfl | (simp only [List.length_drop, List.length_take]; rfl)) ?_; (with_reducible refine (abacuslaw13_awake.calls k  true _ ?side1 A3.out).mono ?_); (case side1 => exact GW.below HG.out (by repeat (first | (with_reducible first | exact HB.out | apply below_alloc | apply pw_below_drewN | apply below_drew1) | exact HB.out))); rintro e w13 ⟨rfl, hb⟩; refine ⟨_, rfl, ?_⟩; have n0_ := Aside0.mk (below_step (by repeat (first | (with_reducible first | exact HB.out | apply below_alloc | apply pw_below_drewN | apply below_drew1) | exact HB.out)) hb); clear HB; have HB := n0_; clear n0_; (try clear hb); (try clear hb2); (try clear hk); (try clear hi)) | ((with_reducible refine gate_callee (f := 13) rfl ?_); refine goesL_ (some 20) rfl rfl Tryd.func13 (by kernel_rfl) rfl #[.string a0] rfl (by (try simp only [List.map_toArray, List.map_cons, List.map_nil]); first | done | rfl | (simp only [List.length_drop, List.length_take]; rfl)) ?_; (with_reducible refine (directive_Parse.calls k a0 t414 t415 t416 _ A5.out).mono ?_); rintro e w14 ⟨v417, rfl, ho0, hb⟩; refine ⟨_, rfl, ?_⟩; have n0_ := Aside0.mk (Kd.R_lower ho0 (below_size (by repeat (first | (with_reducible first | exact HB.out | apply below_alloc | apply pw_below_drewN | apply below_drew1) | exact HB.out)))); have n1_ := Aside0.mk (below_step (by repeat (first | (with_reducible first | exact HB.out | apply below_alloc | apply pw_below_drewN | apply below_drew1) | exact HB.out)) hb); clear HB; have HO418 := n0_; have HB := n1_; clear n0_ n1_; (try clear hb); (try clear hb2); (try clear hk); (try clear hi); (try clear ho0)) | ((with_reducible refine gate_callee (f := 13) rfl ?_); refine goesL_ (some 38) rfl rfl Tryd.func13 (by kernel_rfl) rfl #[.string a0] rfl (by (try simp only [List.map_toArray, List.map_cons, List.map_nil]); first | done | rfl | (simp only [List.length_drop, List.length_take]; rfl)) ?_; (with_reducible refine (directive_Parse.calls k a0 t419 t420 t421 _ A10.out).mono ?_); rintro e w15 ⟨v422, rfl, ho0, hb⟩; refine ⟨_, rfl, ?_⟩; have n0_ := Aside0.mk (Kd.R_elder' (by (with_reducible repeat (first | apply Kd.R_alloc | apply Kd.R_drewN | apply Kd.R_drew)); exact HO418.out) (Kd.R_base ho0) hb); have n1_ := Aside0.mk (Kd.R_lower (Kd.R_new' ho0 (Kd.R_lt (by (with_reducible repeat (first | apply Kd.R_alloc | apply Kd.R_drewN | apply Kd.R_drew)); exact HO418.out))) (below_size (by repeat (first | (with_reducible first | exact HB.out | apply below_alloc | apply pw_below_drewN | apply below_drew1) | exact HB.out)))); have n2_ := Aside0.mk (below_step (by repeat (first | (with_reducible first | exact HB.out | apply below_alloc | apply pw_below_drewN | apply below_drew1) | exact HB.out)) hb); clear HO418; clear HB; have HO418 := n0_; have HO423 := n1_; have HB := n2_; clear n0_ n1_ n2_; (try clear hb); (try clear hb2); (try clear hk); (try clear hi); (try clear ho0)))
                go_ret
                exact ⟨by first | rfl | (simp [errW_none, errW_some] <;> rfl) | (simp [*, errW_none, errW_some] <;> rfl), by repeat (first | (with_reducible first | exact HB.out | apply below_alloc | apply pw_below_drewN | apply below_drew1) | exact HB.out)⟩
              · rw [if_neg c12] at H
                have c12b0 : (t420 == 0) = false := beq_eq_false_iff_ne.mpr c12
                have c12b1 : (t420 != 0) = true := bne_iff_ne.mpr c12
                by_cases c16 : t421 = 131
                · rw [if_pos c16] at H
                  have c16b0 : (t421 == 131) = true := beq_iff_eq.mpr c16
                  have c16b1 : (t421 != 131) = false := bne_eq_false_iff_eq.mpr c16
                  clear c16
                  have HX := Aside0.mk (Option.some.inj H)
                  clear H
                  go_enter Tryd.func4, Tryd.ntmps4
                  have hx_ := A10.out
                  rw [show a0.extract 0 ((a0.size : Int) : Int).toNat = a0 from by simp] at hx_
                  clear A10
                  have A10 := Aside0.mk hx_
                  clear hx_
                  go_wp2_with (first | ((with_reducible refine gate_callee (f := 10) rfl ?_); refine goesL_ (some 16) rfl rfl Tryd.func10 (by kernel_rfl) rfl #[] rfl (by (try simp only [List.map_toArray, List.map_cons, List.map_nil]); first | done | rfl | (simp only [List.length_drop, List.length_take]; rfl)) ?_; (with_reducible refine (abacuslaw13_awake.calls k  true _ ?side1 A3.out).mono ?_); (case side1 => exact GW.below HG.out (by repeat (first | (with_reducible first | exact HB.out | apply below_alloc | apply pw_below_drewN | apply below_drew1) | exact HB.out))); rintro e w17 ⟨rfl, hb⟩; refine ⟨_, rfl, ?_⟩; have n0_ := Aside0.mk (below_step (by repeat (first | (with_reducible first | exact HB.out | apply below_alloc | apply pw_below_drewN | apply below_drew1) | exact HB.out)) hb); clear HB; have HB := n0_; clear n0_; (try clear hb); (try clear hb2); (try clear hk); (try clear hi)) | ((with_reducible refine gate_callee (f := 13) rfl ?_); refine goesL_ (some 20) rfl rfl Tryd.func13 (by kernel_rfl) rfl #[.string a0] rfl (by (try simp only [List.map_toArray, List.map_cons, List.map_nil]); first | done | rfl | (simp only [List.length_drop, List.length_take]; rfl)) ?_; (with_reducible refine (directive_Parse.calls k a0 t414 t415 t416 _ A5.out).mono ?_); rintro e w18 ⟨v417, rfl, ho0, hb⟩; refine ⟨_, rfl, ?_⟩; have n0_ := Aside0.mk (Kd.R_lower ho0 (below_size (by repeat (first | (with_reducible first | exact HB.out | apply below_alloc | apply pw_below_drewN | apply below_drew1) | exact HB.out)))); have n1_ := Aside0.mk (below_step (by repeat (first | (with_reducible first | exact HB.out | apply below_alloc | apply pw_below_drewN | apply below_drew1) | exact HB.out)) hb); clear HB; have HO418 := n0_; have HB := n1_; clear n0_ n1_; (try clear hb); (try clear hb2); (try clear hk); (try clear hi); (try clear ho0)) | ((with_reducible refine gate_callee (f := 13) rfl ?_); refine goesL_ (some 38) rfl rfl Tryd.func13 (by kernel_rfl) rfl #[.string a0] rfl (by (try simp only [List.map_toArray, List.map_cons, List.map_nil]); first | done | rfl | (simp only [List.length_drop, List.length_take]; rfl)) ?_; (with_reducible refine (directive_Parse.calls k a0 t419 t420 t421 _ A10.out).mono ?_); rintro e w19 ⟨v422, rfl, ho0, hb⟩; refine ⟨_, rfl, ?_⟩; have n0_ := Aside0.mk (Kd.R_elder' (by (with_reducible repeat (first | apply Kd.R_alloc | apply Kd.R_drewN | apply Kd.R_drew)); exact HO418.out) (Kd.R_base ho0) hb); have n1_ := Aside0.mk (Kd.R_lower (Kd.R_new' ho0 (Kd.R_lt (by (with_reducible repeat (first | apply Kd.R_alloc | apply Kd.R_drewN | apply Kd.R_drew)); exact HO418.out))) (below_size (by repeat (first | (with_reducible first | exact HB.out | apply below_alloc | apply pw_below_drewN | apply below_drew1) | exact HB.out)))); have n2_ := Aside0.mk (below_step (by repeat (first | (with_reducible first | exact HB.out | apply below_alloc | apply pw_below_drewN | apply below_drew1) | exact HB.out)) hb); clear HO418; clear HB; have HO418 := n0_; have HO423 := n1_; have HB := n2_; clear n0_ n1_ n2_; (try clear hb); (try clear hb2); (try clear hk); (try clear hi); (try clear ho0)))
                  go_ret
                  exact ⟨by first | exact congrArg (fun b_ => Ending.returned (Value.bool b_)) HX.out | (have hx_ := HX.out; simp at hx_ ⊢; done) | (have hx_ := HX.out; simp at hx_ ⊢; exact hx_) | (have hx_ := HX.out; simp_all) | (simp [*, errW_none, errW_some] <;> rfl), by repeat (first | (with_reducible first | exact HB.out | apply below_alloc | apply pw_below_drewN | apply below_drew1) | exact HB.out)⟩
                · rw [if_neg c16] at H
                  have c16b0 : (t421 == 131) = false := beq_eq_false_iff_ne.mpr c16
                  have c16b1 : (t421 != 131) = true := bne_iff_ne.mpr c16
                  exact absurd H (by simp)
            · rw [if_neg c11] at H
              have c11b0 : (t421 == 0) = false := beq_eq_false_iff_ne.mpr c11
              have c11b1 : (t421 != 0) = true := bne_iff_ne.mpr c11
              by_cases c20 : t421 = 131
              · rw [if_pos c20] at H
                have c20b0 : (t421 == 131) = true := beq_iff_eq.mpr c20
                have c20b1 : (t421 != 131) = false := bne_eq_false_iff_eq.mpr c20
                clear c20
                have HX := Aside0.mk (Option.some.inj H)
                clear H
                go_enter Tryd.func4, Tryd.ntmps4
                have hx_ := A10.out
                rw [show a0.extract 0 ((a0.size : Int) : Int).toNat = a0 from by simp] at hx_
                clear A10
                have A10 := Aside0.mk hx_
                clear hx_
                go_wp2_with (first | ((with_reducible refine gate_callee (f := 10) rfl ?_); refine goesL_ (some 16) rfl rfl Tryd.func10 (by kernel_rfl) rfl #[] rfl (by (try simp only [List.map_toArray, List.map_cons, List.map_nil]); first | done | rfl | (simp only [List.length_drop, List.length_take]; rfl)) ?_; (with_reducible refine (abacuslaw13_awake.calls k  true _ ?side1 A3.out).mono ?_); (case side1 => exact GW.below HG.out (by repeat (first | (with_reducible first | exact HB.out | apply below_alloc | apply pw_below_drewN | apply below_drew1) | exact HB.out))); rintro e w21 ⟨rfl, hb⟩; refine ⟨_, rfl, ?_⟩; have n0_ := Aside0.mk (below_step (by repeat (first | (with_reducible first | exact HB.out | apply below_alloc | apply pw_below_drewN | apply below_drew1) | exact HB.out)) hb); clear HB; have HB := n0_; clear n0_; (try clear hb); (try clear hb2); (try clear hk); (try clear hi)) | ((with_reducible refine gate_callee (f := 13) rfl ?_); refine goesL_ (some 20) rfl rfl Tryd.func13 (by kernel_rfl) rfl #[.string a0] rfl (by (try simp only [List.map_toArray, List.map_cons, List.map_nil]); first | done | rfl | (simp only [List.length_drop, List.length_take]; rfl)) ?_; (with_reducible refine (directive_Parse.calls k a0 t414 t415 t416 _ A5.out).mono ?_); rintro e w22 ⟨v417, rfl, ho0, hb⟩; refine ⟨_, rfl, ?_⟩; have n0_ := Aside0.mk (Kd.R_lower ho0 (below_size (by repeat (first | (with_reducible first | exact HB.out | apply below_alloc | apply pw_below_drewN | apply below_drew1) | exact HB.out)))); have n1_ := Aside0.mk (below_step (by repeat (first | (with_reducible first | exact HB.out | apply below_alloc | apply pw_below_drewN | apply below_drew1) | exact HB.out)) hb); clear HB; have HO418 := n0_; have HB := n1_; clear n0_ n1_; (try clear hb); (try clear hb2); (try clear hk); (try clear hi); (try clear ho0)) | ((with_reducible refine gate_callee (f := 13) rfl ?_); refine goesL_ (some 38) rfl rfl Tryd.func13 (by kernel_rfl) rfl #[.string a0] rfl (by (try simp only [List.map_toArray, List.map_cons, List.map_nil]); first | done | rfl | (simp only [List.length_drop, List.length_take]; rfl)) ?_; (with_reducible refine (directive_Parse.calls k a0 t419 t420 t421 _ A10.out).mono ?_); rintro e w23 ⟨v422, rfl, ho0, hb⟩; refine ⟨_, rfl, ?_⟩; have n0_ := Aside0.mk (Kd.R_elder' (by (with_reducible repeat (first | apply Kd.R_alloc | apply Kd.R_drewN | apply Kd.R_drew)); exact HO418.out) (Kd.R_base ho0) hb); have n1_ := Aside0.mk (Kd.R_lower (Kd.R_new' ho0 (Kd.R_lt (by (with_reducible repeat (first | apply Kd.R_alloc | apply Kd.R_drewN | apply Kd.R_drew)); exact HO418.out))) (below_size (by repeat (first | (with_reducible first | exact HB.out | apply below_alloc | apply pw_below_drewN | apply below_drew1) | exact HB.out)))); have n2_ := Aside0.mk (below_step (by repeat (first | (with_reducible first | exact HB.out | apply below_alloc | apply pw_below_drewN | apply below_drew1) | exact HB.out)) hb); clear HO418; clear HB; have HO418 := n0_; have HO423 := n1_; have HB := n2_; clear n0_ n1_ n2_; (try clear hb); (try clear hb2); (try clear hk); (try clear hi); (try clear ho0)))
                go_ret
                exact ⟨by first | exact congrArg (fun b_ => Ending.returned (Value.bool b_)) HX.out | (have hx_ := HX.out; simp at hx_ ⊢; done) | (have hx_ := HX.out; simp at hx_ ⊢; exact hx_) | (have hx_ := HX.out; simp_all) | (simp [*, errW_none, errW_some] <;> rfl), by repeat (first | (with_reducible first | exact HB.out | apply below_alloc | apply pw_below_drewN | apply below_drew1) | exact HB.out)⟩
              · rw [if_neg c20] at H
                have c20b0 : (t421 == 131) = false := beq_eq_false_iff_ne.mpr c20
                have c20b1 : (t421 != 131) = true := bne_iff_ne.mpr c20
                exact absurd H (by simp)
          · rw [if_neg c9] at H
            exact absurd H (by simp)
        · rw [if_neg c8] at H
          exact absurd H (by simp)
      · rw [if_neg c7] at H
        have c7b0 : decide ((a0.size : Int) < (a1.size : Int)) = false := decide_eq_false c7
        have c7b1 : decide (a0.size < a1.size) = false := decide_eq_false (fun h => c7 (Int.ofNat_lt.mpr h))
        clear c7
        by_cases c24 : 0 ≤ (a1.size : Int)
        · rw [if_pos c24] at H
          have c24b0 := eq_true c24
          have c24b1 : decide (0 ≤ (a1.size : Int)) = true := decide_eq_true c24
          clear c24
          by_cases c25 : (a1.size : Int) ≤ (a0.size : Int)
          · rw [if_pos c25] at H
            have c25b0 := eq_true c25
            have c25b1 : decide ((a1.size : Int) ≤ (a0.size : Int)) = true := decide_eq_true c25
            clear c25
            replace H := Option.bind_eq_some_iff.mp H
            obtain ⟨⟨t424, t425, t426⟩, A260, H⟩ := H
            replace H : (if t426 = 0 then (if t425 = 0 then (some true) else (if t426 = 131 then (some (t425 == (a1.size : Int))) else (some false))) else (if t426 = 131 then (some (t425 == (a1.size : Int))) else (some false))) = some true := H
            have A26 := Aside0.mk A260
            clear A260
            by_cases c27 : t426 = 0
            · rw [if_pos c27] at H
              have c27b0 : (t426 == 0) = true := beq_iff_eq.mpr c27
              have c27b1 : (t426 != 0) = false := bne_eq_false_iff_eq.mpr c27
              clear c27
              by_cases c28 : t425 = 0
              · rw [if_pos c28] at H
                have c28b0 : (t425 == 0) = true := beq_iff_eq.mpr c28
                have c28b1 : (t425 != 0) = false := bne_eq_false_iff_eq.mpr c28
                clear c28
                clear H
                go_enter Tryd.func4, Tryd.ntmps4
                go_wp2_with (first | ((with_reducible refine gate_callee (f := 10) rfl ?_); refine goesL_ (some 16) rfl rfl Tryd.func10 (by kernel_rfl) rfl #[] rfl (by (try simp only [List.map_toArray, List.map_cons, List.map_nil]); first | done | rfl | (simp only [List.length_drop, List.length_take]; rfl)) ?_; (with_reducible refine (abacuslaw13_awake.calls k  true _ ?side1 A3.out).mono ?_); (case side1 => exact GW.below HG.out (by repeat (first | (with_reducible first | exact HB.out | apply below_alloc | apply pw_below_drewN | apply below_drew1) | exact HB.out))); rintro e w29 ⟨rfl, hb⟩; refine ⟨_, rfl, ?_⟩; have n0_ := Aside0.mk (below_step (by repeat (first | (with_reducible first | exact HB.out | apply below_alloc | apply pw_below_drewN | apply below_drew1) | exact HB.out)) hb); clear HB; have HB := n0_; clear n0_; (try clear hb); (try clear hb2); (try clear hk); (try clear hi)) | ((with_reducible refine gate_callee (f := 13) rfl ?_); refine goesL_ (some 20) rfl rfl Tryd.func13 (by kernel_rfl) rfl #[.string a0] rfl (by (try simp only [List.map_toArray, List.map_cons, List.map_nil]); first | done | rfl | (simp only [List.length_drop, List.length_take]; rfl)) ?_; (with_reducible refine (directive_Parse.calls k a0 t414 t415 t416 _ A5.out).mono ?_); rintro e w30 ⟨v417, rfl, ho0, hb⟩; refine ⟨_, rfl, ?_⟩; have n0_ := Aside0.mk (Kd.R_lower ho0 (below_size (by repeat (first | (with_reducible first | exact HB.out | apply below_alloc | apply pw_below_drewN | apply below_drew1) | exact HB.out)))); have n1_ := Aside0.mk (below_step (by repeat (first | (with_reducible first | exact HB.out | apply below_alloc | apply pw_below_drewN | apply below_drew1) | exact HB.out)) hb); clear HB; have HO418 := n0_; have HB := n1_; clear n0_ n1_; (try clear hb); (try clear hb2); (try clear hk); (try clear hi); (try clear ho0)) | ((with_reducible refine gate_callee (f := 13) rfl ?_); refine goesL_ (some 38) rfl rfl Tryd.func13 (by kernel_rfl) rfl #[.string (a0.extract 0 ((a1.size : Int) : Int).toNat)] rfl (by (try simp only [List.map_toArray, List.map_cons, List.map_nil]); first | done | rfl | (simp only [List.length_drop, List.length_take]; rfl)) ?_; (with_reducible refine (directive_Parse.calls k (a0.extract 0 ((a1.size : Int) : Int).toNat) t424 t425 t426 _ A26.out).mono ?_); rintro e w31 ⟨v427, rfl, ho0, hb⟩; refine ⟨_, rfl, ?_⟩; have n0_ := Aside0.mk (Kd.R_elder' (by (with_reducible repeat (first | apply Kd.R_alloc | apply Kd.R_drewN | apply Kd.R_drew)); exact HO418.out) (Kd.R_base ho0) hb); have n1_ := Aside0.mk (Kd.R_lower (Kd.R_new' ho0 (Kd.R_lt (by (with_reducible repeat (first | apply Kd.R_alloc | apply Kd.R_drewN | apply Kd.R_drew)); exact HO418.out))) (below_size (by repeat (first | (with_reducible first | exact HB.out | apply below_alloc | apply pw_below_drewN | apply below_drew1) | exact HB.out)))); have n2_ := Aside0.mk (below_step (by repeat (first | (with_reducible first | exact HB.out | apply below_alloc | apply pw_below_drewN | apply below_drew1) | exact HB.out)) hb); clear HO418; clear HB; have HO418 := n0_; have HO428 := n1_; have HB := n2_; clear n0_ n1_ n2_; (try clear hb); (try clear hb2); (try clear hk); (try clear hi); (try clear ho0)))
                go_ret
                exact ⟨by first | rfl | (simp [errW_none, errW_some] <;> rfl) | (simp [*, errW_none, errW_some] <;> rfl), by repeat (first | (with_reducible first | exact HB.out | apply below_alloc | apply pw_below_drewN | apply below_drew1) | exact HB.out)⟩
              · rw [if_neg c28] at H
                have c28b0 : (t425 == 0) = false := beq_eq_false_iff_ne.mpr c28
                have c28b1 : (t425 != 0) = true := bne_iff_ne.mpr c28
                by_cases c32 : t426 = 131
                · rw [if_pos c32] at H
                  have c32b0 : (t426 == 131) = true := beq_iff_eq.mpr c32
                  have c32b1 : (t426 != 131) = false := bne_eq_false_iff_eq.mpr c32
                  clear c32
                  have HX := Aside0.mk (Option.some.inj H)
                  clear H
                  go_enter Tryd.func4, Tryd.ntmps4
                  go_wp2_with (first | ((with_reducible refine gate_callee (f := 10) rfl ?_); refine goesL_ (some 16) rfl rfl Tryd.func10 (by kernel_rfl) rfl #[] rfl (by (try simp only [List.map_toArray, List.map_cons, List.map_nil]); first | done | rfl | (simp only [List.length_drop, List.length_take]; rfl)) ?_; (with_reducible refine (abacuslaw13_awake.calls k  true _ ?side1 A3.out).mono ?_); (case side1 => exact GW.below HG.out (by repeat (first | (with_reducible first | exact HB.out | apply below_alloc | apply pw_below_drewN | apply below_drew1) | exact HB.out))); rintro e w33 ⟨rfl, hb⟩; refine ⟨_, rfl, ?_⟩; have n0_ := Aside0.mk (below_step (by repeat (first | (with_reducible first | exact HB.out | apply below_alloc | apply pw_below_drewN | apply below_drew1) | exact HB.out)) hb); clear HB; have HB := n0_; clear n0_; (try clear hb); (try clear hb2); (try clear hk); (try clear hi)) | ((with_reducible refine gate_callee (f := 13) rfl ?_); refine goesL_ (some 20) rfl rfl Tryd.func13 (by kernel_rfl) rfl #[.string a0] rfl (by (try simp only [List.map_toArray, List.map_cons, List.map_nil]); first | done | rfl | (simp only [List.length_drop, List.length_take]; rfl)) ?_; (with_reducible refine (directive_Parse.calls k a0 t414 t415 t416 _ A5.out).mono ?_); rintro e w34 ⟨v417, rfl, ho0, hb⟩; refine ⟨_, rfl, ?_⟩; have n0_ := Aside0.mk (Kd.R_lower ho0 (below_size (by repeat (first | (with_reducible first | exact HB.out | apply below_alloc | apply pw_below_drewN | apply below_drew1) | exact HB.out)))); have n1_ := Aside0.mk (below_step (by repeat (first | (with_reducible first | exact HB.out | apply below_alloc | apply pw_below_drewN | apply below_drew1) | exact HB.out)) hb); clear HB; have HO418 := n0_; have HB := n1_; clear n0_ n1_; (try clear hb); (try clear hb2); (try clear hk); (try clear hi); (try clear ho0)) | ((with_reducible refine gate_callee (f := 13) rfl ?_); refine goesL_ (some 38) rfl rfl Tryd.func13 (by kernel_rfl) rfl #[.string (a0.extract 0 ((a1.size : Int) : Int).toNat)] rfl (by (try simp only [List.map_toArray, List.map_cons, List.map_nil]); first | done | rfl | (simp only [List.length_drop, List.length_take]; rfl)) ?_; (with_reducible refine (directive_Parse.calls k (a0.extract 0 ((a1.size : Int) : Int).toNat) t424 t425 t426 _ A26.out).mono ?_); rintro e w35 ⟨v427, rfl, ho0, hb⟩; refine ⟨_, rfl, ?_⟩; have n0_ := Aside0.mk (Kd.R_elder' (by (with_reducible repeat (first | apply Kd.R_alloc | apply Kd.R_drewN | apply Kd.R_drew)); exact HO418.out) (Kd.R_base ho0) hb); have n1_ := Aside0.mk (Kd.R_lower (Kd.R_new' ho0 (Kd.R_lt (by (with_reducible repeat (first | apply Kd.R_alloc | apply Kd.R_drewN | apply Kd.R_drew)); exact HO418.out))) (below_size (by repeat (first | (with_reducible first | exact HB.out | apply below_alloc | apply pw_below_drewN | apply below_drew1) | exact HB.out)))); have n2_ := Aside0.mk (below_step (by repeat (first | (with_reducible first | exact HB.out | apply below_alloc | apply pw_below_drewN | apply below_drew1) | exact HB.out)) hb); clear HO418; clear HB; have HO418 := n0_; have HO428 := n1_; have HB := n2_; clear n0_ n1_ n2_; (try clear hb); (try clear hb2); (try clear hk); (try clear hi); (try clear ho0)))
                  go_ret
                  exact ⟨by first | exact congrArg (fun b_ => Ending.returned (Value.bool b_)) HX.out | (have hx_ := HX.out; simp at hx_ ⊢; done) | (have hx_ := HX.out; simp at hx_ ⊢; exact hx_) | (have hx_ := HX.out; simp_all) | (simp [*, errW_none, errW_some] <;> rfl), by repeat (first | (with_reducible first | exact HB.out | apply below_alloc | apply pw_below_drewN | apply below_drew1) | exact HB.out)⟩
                · rw [if_neg c32] at H
                  have c32b0 : (t426 == 131) = false := beq_eq_false_iff_ne.mpr c32
                  have c32b1 : (t426 != 131) = true := bne_iff_ne.mpr c32
                  exact absurd H (by simp)
            · rw [if_neg c27] at H
              have c27b0 : (t426 == 0) = false := beq_eq_false_iff_ne.mpr c27
              have c27b1 : (t426 != 0) = true := bne_iff_ne.mpr c27
              by_cases c36 : t426 = 131
              · rw [if_pos c36] at H
                have c36b0 : (t426 == 131) = true := beq_iff_eq.mpr c36
                have c36b1 : (t426 != 131) = false := bne_eq_false_iff_eq.mpr c36
                clear c36
                have HX := Aside0.mk (Option.some.inj H)
                clear H
                go_enter Tryd.func4, Tryd.ntmps4
                go_wp2_with (first | ((with_reducible refine gate_callee (f := 10) rfl ?_); refine goesL_ (some 16) rfl rfl Tryd.func10 (by kernel_rfl) rfl #[] rfl (by (try simp only [List.map_toArray, List.map_cons, List.map_nil]); first | done | rfl | (simp only [List.length_drop, List.length_take]; rfl)) ?_; (with_reducible refine (abacuslaw13_awake.calls k  true _ ?side1 A3.out).mono ?_); (case side1 => exact GW.below HG.out (by repeat (first | (with_reducible first | exact HB.out | apply below_alloc | apply pw_below_drewN | apply below_drew1) | exact HB.out))); rintro e w37 ⟨rfl, hb⟩; refine ⟨_, rfl, ?_⟩; have n0_ := Aside0.mk (below_step (by repeat (first | (with_reducible first | exact HB.out | apply below_alloc | apply pw_below_drewN | apply below_drew1) | exact HB.out)) hb); clear HB; have HB := n0_; clear n0_; (try clear hb); (try clear hb2); (try clear hk); (try clear hi)) | ((with_reducible refine gate_callee (f := 13) rfl ?_); refine goesL_ (some 20) rfl rfl Tryd.func13 (by kernel_rfl) rfl #[.string a0] rfl (by (try simp only [List.map_toArray, List.map_cons, List.map_nil]); first | done | rfl | (simp only [List.length_drop, List.length_take]; rfl)) ?_; (with_reducible refine (directive_Parse.calls k a0 t414 t415 t416 _ A5.out).mono ?_); rintro e w38 ⟨v417, rfl, ho0, hb⟩; refine ⟨_, rfl, ?_⟩; have n0_ := Aside0.mk (Kd.R_lower ho0 (below_size (by repeat (first | (with_reducible first | exact HB.out | apply below_alloc | apply pw_below_drewN | apply below_drew1) | exact HB.out)))); have n1_ := Aside0.mk (below_step (by repeat (first | (with_reducible first | exact HB.out | apply below_alloc | apply pw_below_drewN | apply below_drew1) | exact HB.out)) hb); clear HB; have HO418 := n0_; have HB := n1_; clear n0_ n1_; (try clear hb); (try clear hb2); (try clear hk); (try clear hi); (try clear ho0)) | ((with_reducible refine gate_callee (f := 13) rfl ?_); refine goesL_ (some 38) rfl rfl Tryd.func13 (by kernel_rfl) rfl #[.string (a0.extract 0 ((a1.size : Int) : Int).toNat)] rfl (by (try simp only [List.map_toArray, List.map_cons, List.map_nil]); first | done | rfl | (simp only [List.length_drop, List.length_take]; rfl)) ?_; (with_reducible refine (directive_Parse.calls k (a0.extract 0 ((a1.size : Int) : Int).toNat) t424 t425 t426 _ A26.out).mono ?_); rintro e w39 ⟨v427, rfl, ho0, hb⟩; refine ⟨_, rfl, ?_⟩; have n0_ := Aside0.mk (Kd.R_elder' (by (with_reducible repeat (first | apply Kd.R_alloc | apply Kd.R_drewN | apply Kd.R_drew)); exact HO418.out) (Kd.R_base ho0) hb); have n1_ := Aside0.mk (Kd.R_lower (Kd.R_new' ho0 (Kd.R_lt (by (with_reducible repeat (first | apply Kd.R_alloc | apply Kd.R_drewN | apply Kd.R_drew)); exact HO418.out))) (below_size (by repeat (first | (with_reducible first | exact HB.out | apply below_alloc | apply pw_below_drewN | apply below_drew1) | exact HB.out)))); have n2_ := Aside0.mk (below_step (by repeat (first | (with_reducible first | exact HB.out | apply below_alloc | apply pw_below_drewN | apply below_drew1) | exact HB.out)) hb); clear HO418; clear HB; have HO418 := n0_; have HO428 := n1_; have HB := n2_; clear n0_ n1_ n2_; (try clear hb); (try clear hb2); (try clear hk); (try clear hi); (try clear ho0)))
                go_ret
                exact ⟨by first | exact congrArg (fun b_ => Ending.returned (Value.bool b_)) HX.out | (have hx_ := HX.out; simp at hx_ ⊢; done) | (have hx_ := HX.out; simp at hx_ ⊢; exact hx_) | (have hx_ := HX.out; simp_all) | (simp [*, errW_none, errW_some] <;> rfl), by repeat (first | (with_reducible first | exact HB.out | apply below_alloc | apply pw_below_drewN | apply below_drew1) | exact HB.out)⟩
              · rw [if_neg c36] at H
                have c36b0 : (t426 == 131) = false := beq_eq_false_iff_ne.mpr c36
                have c36b1 : (t426 != 131) = true := bne_iff_ne.mpr c36
                exact absurd H (by simp)
          · rw [if_neg c25] at H
            exact absurd H (by simp)
        · rw [if_neg c24] at H
          exact absurd H (by simp)
    · rw [if_neg c6] at H
      have c6b0 : (t416 == 0) = false := beq_eq_false_iff_ne.mpr c6
      have c6b1 : (t416 != 0) = true := bne_iff_ne.mpr c6
      have HC40 := Aside0.mk H
      clear H
      go_enter Tryd.func4, Tryd.ntmps4
      go_upto_region 10 with (first | ((with_reducible refine gate_callee (f := 10) rfl ?_); refine goesL_ (some 16) rfl rfl Tryd.func10 (by kernel_rfl) rfl #[] rfl (by (try simp only [List.map_toArray, List.map_cons, List.map_nil]); first | done | rfl | (simp only [List.length_drop, List.length_take]; rfl)) ?_; (with_reducible refine (abacuslaw13_awake.calls k  true _ ?side1 A3.out).mono ?_); (case side1 => exact GW.below HG.out (by repeat (first | (with_reducible first | exact HB.out | apply below_alloc | apply pw_below_drewN | apply below_drew1) | exact HB.out))); rintro e w41 ⟨rfl, hb⟩; refine ⟨_, rfl, ?_⟩; have n0_ := Aside0.mk (below_step (by repeat (first | (with_reducible first | exact HB.out | apply below_alloc | apply pw_below_drewN | apply below_drew1) | exact HB.out)) hb); clear HB; have HB := n0_; clear n0_; (try clear hb); (try clear hb2); (try clear hk); (try clear hi)) | ((with_reducible refine gate_callee (f := 13) rfl ?_); refine goesL_ (some 20) rfl rfl Tryd.func13 (by kernel_rfl) rfl #[.string a0] rfl (by (try simp only [List.map_toArray, List.map_cons, List.map_nil]); first | done | rfl | (simp only [List.length_drop, List.length_take]; rfl)) ?_; (with_reducible refine (directive_Parse.calls k a0 t414 t415 t416 _ A5.out).mono ?_); rintro e w42 ⟨v417, rfl, ho0, hb⟩; refine ⟨_, rfl, ?_⟩; have n0_ := Aside0.mk (Kd.R_lower ho0 (below_size (by repeat (first | (with_reducible first | exact HB.out | apply below_alloc | apply pw_below_drewN | apply below_drew1) | exact HB.out)))); have n1_ := Aside0.mk (below_step (by repeat (first | (with_reducible first | exact HB.out | apply below_alloc | apply pw_below_drewN | apply below_drew1) | exact HB.out)) hb); clear HB; have HO418 := n0_; have HB := n1_; clear n0_ n1_; (try clear hb); (try clear hb2); (try clear hk); (try clear hi); (try clear ho0)))
      (try simp only [Act.put, List.setIfInBounds_toArray, List.set_cons_zero, List.set_cons_succ])
      go_cut [69] (fun v69 wc => ∃ (kq : Nat) (x69_39 : Bool), v69 = .bool x69_39 ∧ Aside0 (abacuslaw13_DirectiveFault.j0 kq a0 a1 t415 t416 x69_39 = some true) ∧ Aside0 (kq ≤ k) ∧ Aside0 (Below w.heap.size w wc))
      case first =>
        have H := HC40.out
        clear HC40
        by_cases c43 : (t414.length : Int) = 0
        · rw [if_pos c43] at H
          have c43b0 : ((t414.length : Int) == 0) = true := beq_iff_eq.mpr c43
          have c43b1 : ((t414.length : Int) != 0) = false := bne_eq_false_iff_eq.mpr c43
          clear c43
          (first | rw [c43b0] | (simp only [i64_w, i32_w]; rw [c43b0]) | skip)
          by_cases c44 : t415 < 0
          · rw [if_pos c44] at H
            have c44b0 : decide (t415 < 0) = true := decide_eq_true c44
            clear c44
            have H' := Aside0.mk H
            clear H
            obtain ⟨Ao45, co45, eo45⟩ := Kd.R_slice HO418.out
            subst eo45
            go_wp2
            go_meet
            case rel => exact ⟨_, (true), (by first | rfl | (simp; done) | (simp [*]; done)), H', ⟨by first | omega | exact Nat.le_refl _⟩, ⟨by repeat (first | (with_reducible first | exact HB.out | apply below_alloc | apply pw_below_drewN | apply below_drew1) | exact HB.out)⟩⟩
          · rw [if_neg c44] at H
            have c44b0 : decide (t415 < 0) = false := decide_eq_false c44
            clear c44
            have H' := Aside0.mk H
            clear H
            obtain ⟨Ao46, co46, eo46⟩ := Kd.R_slice HO418.out
            subst eo46
            go_wp2
            go_meet
            case rel => exact ⟨_, (decide (t415 > (a0.size : Int))), (by first | rfl | (simp; done) | (simp [*]; done)), H', ⟨by first | omega | exact Nat.le_refl _⟩, ⟨by repeat (first | (with_reducible first | exact HB.out | apply below_alloc | apply pw_below_drewN | apply below_drew1) | exact HB.out)⟩⟩
        · rw [if_neg c43] at H
          have c43b0 : ((t414.length : Int) == 0) = false := beq_eq_false_iff_ne.mpr c43
          have c43b1 : ((t414.length : Int) != 0) = true := bne_iff_ne.mpr c43
          have c43b2 : ¬ (t414 = []) := fun h_ => c43 (by rw [h_]; rfl)
          (first | rw [c43b0] | (simp only [i64_w, i32_w]; rw [c43b0]) | skip)
          have H' := Aside0.mk H
          clear H
          obtain ⟨Ao47, co47, eo47⟩ := Kd.R_slice HO418.out
          subst eo47
          go_wp2
          go_meet
          case rel => exact ⟨_, (true), (by first | rfl | (simp; done) | (simp [*]; done)), H', ⟨by first | omega | exact Nat.le_refl _⟩, ⟨by repeat (first | (with_reducible first | exact HB.out | apply below_alloc | apply pw_below_drewN | apply below_drew1) | exact HB.out)⟩⟩
      case rest =>
        clear HC40
        try clear c1
        try clear c2
        try clear p2
        try clear c3
        try clear c4
        try clear c6
        try clear c6b0
        try clear c6b1
        try clear c7
        try clear c7b0
        try clear c7b1
        try clear c8
        try clear c8b0
        try clear c8b1
        try clear c9
        try clear c9b0
        try clear c9b1
        try clear c10
        try clear c11
        try clear c11b0
        try clear c11b1
        try clear c12
        try clear c12b0
        try clear c12b1
        try clear c13
        try clear c16
        try clear c16b0
        try clear c16b1
        try clear c20
        try clear c20b0
        try clear c20b1
        try clear c24
        try clear c24b0
        try clear c24b1
        try clear c25
        try clear c25b0
        try clear c25b1
        try clear c27
        try clear c27b0
        try clear c27b1
        try clear c28
        try clear c28b0
        try clear c28b1
        try clear c32
        try clear c32b0
        try clear c32b1
        try clear c36
        try clear c36b0
        try clear c36b1
        try clear c43
        try clear c43b0
        try clear c43b1
        try clear c43b2
        try clear c44
        try clear c44b0
        obtain ⟨kq, x69_39, rfl, HA, HJ39, HB⟩ := hcut
        cases kq with
        | zero => exact absurd HA.out (by simp [abacuslaw13_DirectiveFault.j0])
        | succ kj39 =>
          have H := HA.out
          clear HA
          simp only [abacuslaw13_DirectiveFault.j0] at H
          by_cases c48 : x69_39 = true
          · subst c48
            have H1 : (some false) = some true := by rw [if_pos rfl] at H; exact H
            clear H
            have H := H1
            clear H1
            exact absurd H (by simp)
          · replace c48 := Bool.eq_false_iff.mpr c48
            subst c48
            have H1 : (if 0 ≤ t415 then (if t415 ≤ (a0.size : Int) then ((directive_Parse.f kj39 (a0.extract 0 (t415 : Int).toNat)).bind fun bt429 => (if bt429.2.2 = 131 then (abacuslaw13_DirectiveFault.j1 kj39 a0 a1 t415 t416 (bt429.2.1 != t415)) else (abacuslaw13_DirectiveFault.j1 kj39 a0 a1 t415 t416 true))) else (none)) else (none)) = some true := by rw [if_neg (show ¬ (false = true) by decide)] at H; exact H
            clear H
            have H := H1
            clear H1
            by_cases c49 : 0 ≤ t415
            · rw [if_pos c49] at H
              have c49b0 := eq_true c49
              have c49b1 : decide (0 ≤ t415) = true := decide_eq_true c49
              clear c49
              by_cases c50 : t415 ≤ (a0.size : Int)
              · rw [if_pos c50] at H
                have c50b0 := eq_true c50
                have c50b1 : decide (t415 ≤ (a0.size : Int)) = true := decide_eq_true c50
                clear c50
                replace H := Option.bind_eq_some_iff.mp H
                obtain ⟨⟨t429, t430, t431⟩, A510, H⟩ := H
                replace H : (if t431 = 131 then (abacuslaw13_DirectiveFault.j1 kj39 a0 a1 t415 t416 (t430 != t415)) else (abacuslaw13_DirectiveFault.j1 kj39 a0 a1 t415 t416 true)) = some true := H
                have A51 := Aside0.mk A510
                clear A510
                have HC52 := Aside0.mk H
                clear H
                go_upto_region 13 with (first | ((with_reducible refine gate_callee (f := 13) rfl ?_); refine goesL_ (some 74) rfl rfl Tryd.func13 (by kernel_rfl) rfl #[.string (a0.extract 0 (t415 : Int).toNat)] rfl (by (try simp only [List.map_toArray, List.map_cons, List.map_nil]); first | done | rfl | (simp only [List.length_drop, List.length_take]; rfl)) ?_; (with_reducible refine (directive_Parse.calls kj39 (a0.extract 0 (t415 : Int).toNat) t429 t430 t431 _ A51.out).mono ?_); rintro e w53 ⟨v432, rfl, ho0, hb⟩; refine ⟨_, rfl, ?_⟩; have n0_ := Aside0.mk (Kd.R_lower ho0 (below_size (by repeat (first | (with_reducible first | exact HB.out | apply below_alloc | apply pw_below_drewN | apply below_drew1) | exact HB.out)))); have n1_ := Aside0.mk (below_step (by repeat (first | (with_reducible first | exact HB.out | apply below_alloc | apply pw_below_drewN | apply below_drew1) | exact HB.out)) hb); clear HB; have HO433 := n0_; have HB := n1_; clear n0_ n1_; (try clear hb); (try clear hb2); (try clear hk); (try clear hi); (try clear ho0)))
                (try simp only [Act.put, List.setIfInBounds_toArray, List.set_cons_zero, List.set_cons_succ])
                go_cut [84] (fun v84 wc => ∃ (kq : Nat) (x84_51 : Bool), v84 = .bool x84_51 ∧ Aside0 (abacuslaw13_DirectiveFault.j1 kq a0 a1 t415 t416 x84_51 = some true) ∧ Aside0 (kq ≤ kj39) ∧ Aside0 (Below w.heap.size w wc))
                case first =>
                  have H := HC52.out
                  clear HC52
                  by_cases c54 : t431 = 131
                  · rw [if_pos c54] at H
                    have c54b0 : (t431 == 131) = true := beq_iff_eq.mpr c54
                    have c54b1 : (t431 != 131) = false := bne_eq_false_iff_eq.mpr c54
                    clear c54
                    (first | rw [c54b0] | (simp only [i64_w, i32_w]; rw [c54b0]) | skip)
                    have H' := Aside0.mk H
                    clear H
                    go_wp2
                    go_meet
                    case rel => exact ⟨_, ((t430 != t415)), (by first | rfl | (simp; done) | (simp [*]; done)), H', ⟨by have := HJ39.out; first | omega | exact Nat.le_refl _⟩, ⟨by repeat (first | (with_reducible first | exact HB.out | apply below_alloc | apply pw_below_drewN | apply below_drew1) | exact HB.out)⟩⟩
                  · rw [if_neg c54] at H
                    have c54b0 : (t431 == 131) = false := beq_eq_false_iff_ne.mpr c54
                    have c54b1 : (t431 != 131) = true := bne_iff_ne.mpr c54
                    (first | rw [c54b0] | (simp only [i64_w, i32_w]; rw [c54b0]) | skip)
                    have H' := Aside0.mk H
                    clear H
                    go_wp2
                    go_meet
                    case rel => exact ⟨_, (true), (by first | rfl | (simp; done) | (simp [*]; done)), H', ⟨by have := HJ39.out; first | omega | exact Nat.le_refl _⟩, ⟨by repeat (first | (with_reducible first | exact HB.out | apply below_alloc | apply pw_below_drewN | apply below_drew1) | exact HB.out)⟩⟩
                case rest =>
                  clear HC52
                  try clear c1
                  try clear c2
                  try clear p2
                  try clear c3
                  try clear c4
                  try clear c5
                  try clear c6
                  try clear c6b0
                  try clear c6b1
                  try clear c7
                  try clear c7b0
                  try clear c7b1
                  try clear c8
                  try clear c8b0
                  try clear c8b1
                  try clear c9
                  try clear c9b0
                  try clear c9b1
                  try clear c10
                  try clear c11
                  try clear c11b0
                  try clear c11b1
                  try clear c12
                  try clear c12b0
                  try clear c12b1
                  try clear c13
                  try clear c16
                  try clear c16b0
                  try clear c16b1
                  try clear c20
                  try clear c20b0
                  try clear c20b1
                  try clear c24
                  try clear c24b0
                  try clear c24b1
                  try clear c25
                  try clear c25b0
                  try clear c25b1
                  try clear c27
                  try clear c27b0
                  try clear c27b1
                  try clear c28
                  try clear c28b0
                  try clear c28b1
                  try clear c32
                  try clear c32b0
                  try clear c32b1
                  try clear c36
                  try clear c36b0
                  try clear c36b1
                  try clear c43
                  try clear c43b0
                  try clear c43b1
                  try clear c43b2
                  try clear c44
                  try clear c44b0
                  try clear c48
                  try clear c49
                  try clear c49b0
                  try clear c49b1
                  try clear c50
                  try clear c50b0
                  try clear c50b1
                  try clear c54
                  try clear c54b0
                  try clear c54b1
                  try clear p2
                  obtain ⟨kq, x84_51, rfl, HA, HJ51, HB⟩ := hcut
                  cases kq with
                  | zero => exact absurd HA.out (by simp [abacuslaw13_DirectiveFault.j1])
                  | succ kj51 =>
                    have H := HA.out
                    clear HA
                    simp only [abacuslaw13_DirectiveFault.j1] at H
                    by_cases c55 : x84_51 = true
                    · subst c55
                      have H1 : (some false) = some true := by rw [if_pos rfl] at H; exact H
                      clear H
                      have H := H1
                      clear H1
                      exact absurd H (by simp)
                    · replace c55 := Bool.eq_false_iff.mpr c55
                      subst c55
                      have H1 : (if t416 = 131 then (some (t415 == (a0.size : Int))) else (abacuslaw13_DirectiveFault.l0 kj51 a0 a1 t415 t416 (wrap64 (t415 + 1)))) = some true := by rw [if_neg (show ¬ (false = true) by decide)] at H; exact H
                      clear H
                      have H := H1
                      clear H1
                      by_cases c56 : t416 = 131
                      · rw [if_pos c56] at H
                        have c56b0 : (t416 == 131) = true := beq_iff_eq.mpr c56
                        have c56b1 : (t416 != 131) = false := bne_eq_false_iff_eq.mpr c56
                        clear c56
                        have HX := Aside0.mk (Option.some.inj H)
                        clear H
                        go_wp2
                        go_ret
                        exact ⟨by first | exact congrArg (fun b_ => Ending.returned (Value.bool b_)) HX.out | (have hx_ := HX.out; simp at hx_ ⊢; done) | (have hx_ := HX.out; simp at hx_ ⊢; exact hx_) | (have hx_ := HX.out; simp_all) | (simp [*, errW_none, errW_some] <;> rfl), by repeat (first | (with_reducible first | exact HB.out | apply below_alloc | apply pw_below_drewN | apply below_drew1) | exact HB.out)⟩
                      · rw [if_neg c56] at H
                        have c56b0 : (t416 == 131) = false := beq_eq_false_iff_ne.mpr c56
                        have c56b1 : (t416 != 131) = true := bne_iff_ne.mpr c56
                        have H' := Aside0.mk H
                        clear H
                        go_wp2
                        go_loopg [15] kj51 (fun kq v15 w' => ∃ (x15_3 : Int), v15 = .int .i64 x15_3 ∧ Aside0 (abacuslaw13_DirectiveFault.l0 kq a0 a1 t415 t416 x15_3 = some true) ∧ Aside0 (kq ≤ kj51) ∧ Aside0 (Below w.heap.size w w'))
                        case atStart => exact ⟨(wrap64 (t415 + 1)), (by first | rfl | (simp; done) | (simp [*]; done)), H', ⟨Nat.le_refl _⟩, ⟨by repeat (first | (with_reducible first | exact HB.out | apply below_alloc | apply pw_below_drewN | apply below_drew1) | exact HB.out)⟩⟩
                        case round =>
                          clear H'
                          try clear c1
                          try clear c2
                          try clear p2
                          try clear c3
                          try clear c4
                          try clear c5
                          try clear c6
                          try clear c6b0
                          try clear c6b1
                          try clear p6
                          try clear c7
                          try clear c7b0
                          try clear c7b1
                          try clear c8
                          try clear c8b0
                          try clear c8b1
                          try clear c9
                          try clear c9b0
                          try clear c9b1
                          try clear c10
                          try clear c11
                          try clear c11b0
                          try clear c11b1
                          try clear c12
                          try clear c12b0
                          try clear c12b1
                          try clear c13
                          try clear c16
                          try clear c16b0
                          try clear c16b1
                          try clear c20
                          try clear c20b0
                          try clear c20b1
                          try clear c24
                          try clear c24b0
                          try clear c24b1
                          try clear c25
                          try clear c25b0
                          try clear c25b1
                          try clear c27
                          try clear c27b0
                          try clear c27b1
                          try clear c28
                          try clear c28b0
                          try clear c28b1
                          try clear c32
                          try clear c32b0
                          try clear c32b1
                          try clear c36
                          try clear c36b0
                          try clear c36b1
                          try clear c43
                          try clear c43b0
                          try clear c43b1
                          try clear c43b2
                          try clear c44
                          try clear c44b0
                          try clear c48
                          try clear c49
                          try clear c49b0
                          try clear c49b1
                          try clear c50
                          try clear c50b0
                          try clear c50b1
                          try clear c54
                          try clear c54b0
                          try clear c54b1
                          try clear c55
                          try clear c56
                          try clear c56b0
                          try clear c56b1
                          try clear p2
                          obtain ⟨x15_3, rfl, HA, HK3, HB⟩ := hrel
                          cases gk with
                          | zero => exact absurd HA.out (by simp [abacuslaw13_DirectiveFault.l0])
                          | succ k3 =>
                            have H := HA.out
                            clear HA
                            simp only [abacuslaw13_DirectiveFault.l0] at H
                            by_cases c57 : t416 = 6
                            · rw [if_pos c57] at H
                              have c57b0 : (t416 == 6) = true := beq_iff_eq.mpr c57
                              have c57b1 : (t416 != 6) = false := bne_eq_false_iff_eq.mpr c57
                              clear c57
                              by_cases c58 : x15_3 < (a0.size : Int)
                              · rw [if_pos c58] at H
                                have c58b0 : decide (x15_3 < (a0.size : Int)) = true := decide_eq_true c58
                                clear c58
                                by_cases c59 : 0 ≤ x15_3
                                · rw [if_pos c59] at H
                                  have c59b0 : decide (0 ≤ x15_3) = true := decide_eq_true c59
                                  clear c59
                                  by_cases c61 : (bt a0 x15_3) ≥ 48
                                  · rw [if_pos c61] at H
                                    have c61b0 : decide (48 ≤ (bt a0 x15_3)) = true := decide_eq_true c61
                                    clear c61
                                    by_cases c63 : (bt a0 x15_3) ≤ 57
                                    · rw [if_pos c63] at H
                                      have c63b0 : decide ((bt a0 x15_3) ≤ 57) = true := decide_eq_true c63
                                      clear c63
                                      have H' := Aside0.mk H
                                      clear H
                                      have p60 : 0 ≤ (x15_3 : Int) := of_decide_eq_true (by first | (with_reducible assumption) | assumption)
                                      have q60 : x15_3 < (a0.size : Int) := of_decide_eq_true (by first | (with_reducible assumption) | assumption)
                                      have hx60 := bt_at a0 x15_3
                                      replace p60 := eq_true p60
                                      replace q60 := eq_true q60
                                      have p62 : 0 ≤ (x15_3 : Int) := of_decide_eq_true (by first | (with_reducible assumption) | assumption)
                                      have q62 : x15_3 < (a0.size : Int) := of_decide_eq_true (by first | (with_reducible assumption) | assumption)
                                      have hx62 := bt_at a0 x15_3
                                      replace p62 := eq_true p62
                                      replace q62 := eq_true q62
                                      go_wp2
                                      go_roundg k3
                                      case measure => have := HJ39.out; have := HJ51.out; have := HK3.out; omega
                                      case rel => exact ⟨(wrap64 (x15_3 + 1)), (by first | rfl | (simp; done) | (simp [*]; done)), H', ⟨by have := HJ39.out; have := HJ51.out; have := HK3.out; omega⟩, ⟨by repeat (first | (with_reducible first | exact HB.out | apply below_alloc | apply pw_below_drewN | apply below_drew1) | exact HB.out)⟩⟩
                                    · rw [if_neg c63] at H
                                      have c63b0 : decide ((bt a0 x15_3) ≤ 57) = false := decide_eq_false c63
                                      clear c63
                                      have c64b0 := eq_true (of_decide_eq_true (by first | (with_reducible assumption) | assumption) : 0 ≤ x15_3)
                                      by_cases c65 : x15_3 ≤ (a0.size : Int)
                                      · rw [if_pos c65] at H
                                        have c65b0 := eq_true c65
                                        have c65b1 : decide (x15_3 ≤ (a0.size : Int)) = true := decide_eq_true c65
                                        clear c65
                                        by_cases c66 : (a0.extract 0 (x15_3 : Int).toNat).size + a1.size ≤ 9223372036854775807
                                        · rw [if_pos c66] at H
                                          have c66b0 := eq_true c66
                                          have c66b1 : decide ((a0.extract 0 (x15_3 : Int).toNat).size + a1.size ≤ 9223372036854775807) = true := decide_eq_true c66
                                          try have c66b2 : (9223372036854775807 < (a0.extract 0 (x15_3 : Int).toNat).size + a1.size) = False := eq_false (Nat.not_lt.2 c66)
                                          replace H := Option.bind_eq_some_iff.mp H
                                          obtain ⟨⟨t434, t435, t436⟩, A670, H⟩ := H
                                          replace H : (if t436 = t416 then (some (t435 == t415)) else (some false)) = some true := H
                                          have A67 := Aside0.mk A670
                                          clear A670
                                          by_cases c68 : t436 = t416
                                          · rw [if_pos c68] at H
                                            have c68b0 : (t436 == t416) = true := beq_iff_eq.mpr c68
                                            have c68b1 : (t436 != t416) = false := bne_eq_false_iff_eq.mpr c68
                                            clear c68
                                            have HX := Aside0.mk (Option.some.inj H)
                                            clear H
                                            have p60 : 0 ≤ (x15_3 : Int) := of_decide_eq_true (by first | (with_reducible assumption) | assumption)
                                            have q60 : x15_3 < (a0.size : Int) := of_decide_eq_true (by first | (with_reducible assumption) | assumption)
                                            have hx60 := bt_at a0 x15_3
                                            replace p60 := eq_true p60
                                            replace q60 := eq_true q60
                                            have p62 : 0 ≤ (x15_3 : Int) := of_decide_eq_true (by first | (with_reducible assumption) | assumption)
                                            have q62 : x15_3 < (a0.size : Int) := of_decide_eq_true (by first | (with_reducible assumption) | assumption)
                                            have hx62 := bt_at a0 x15_3
                                            replace p62 := eq_true p62
                                            replace q62 := eq_true q62
                                            go_wp2_with (first | ((with_reducible refine gate_callee (f := 13) rfl ?_); refine goesL_ (some 121) rfl rfl Tryd.func13 (by kernel_rfl) rfl #[.string ((a0.extract 0 (x15_3 : Int).toNat) ++ a1)] rfl (by (try simp only [List.map_toArray, List.map_cons, List.map_nil]); first | done | rfl | (simp only [List.length_drop, List.length_take]; rfl)) ?_; (with_reducible refine (directive_Parse.calls k3 ((a0.extract 0 (x15_3 : Int).toNat) ++ a1) t434 t435 t436 _ A67.out).mono ?_); rintro e w69 ⟨v437, rfl, ho0, hb⟩; refine ⟨_, rfl, ?_⟩; have n0_ := Aside0.mk (Kd.R_lower ho0 (below_size (by repeat (first | (with_reducible first | exact HB.out | apply below_alloc | apply pw_below_drewN | apply below_drew1) | exact HB.out)))); have n1_ := Aside0.mk (below_step (by repeat (first | (with_reducible first | exact HB.out | apply below_alloc | apply pw_below_drewN | apply below_drew1) | exact HB.out)) hb); clear HB; have HO438 := n0_; have HB := n1_; clear n0_ n1_; (try clear hb); (try clear hb2); (try clear hk); (try clear hi); (try clear ho0)))
                                            go_ret
                                            exact ⟨by first | exact congrArg (fun b_ => Ending.returned (Value.bool b_)) HX.out | (have hx_ := HX.out; simp at hx_ ⊢; done) | (have hx_ := HX.out; simp at hx_ ⊢; exact hx_) | (have hx_ := HX.out; simp_all) | (simp [*, errW_none, errW_some] <;> rfl), by repeat (first | (with_reducible first | exact HB.out | apply below_alloc | apply pw_below_drewN | apply below_drew1) | exact HB.out)⟩
                                          · rw [if_neg c68] at H
                                            have c68b0 : (t436 == t416) = false := beq_eq_false_iff_ne.mpr c68
                                            have c68b1 : (t436 != t416) = true := bne_iff_ne.mpr c68
                                            exact absurd H (by simp)
                                        · rw [if_neg c66] at H
                                          exact absurd H (by simp)
                                      · rw [if_neg c65] at H
                                        exact absurd H (by simp)
                                  · rw [if_neg c61] at H
                                    have c61b0 : decide (48 ≤ (bt a0 x15_3)) = false := decide_eq_false c61
                                    clear c61
                                    have c70b0 := eq_true (of_decide_eq_true (by first | (with_reducible assumption) | assumption) : 0 ≤ x15_3)
                                    by_cases c71 : x15_3 ≤ (a0.size : Int)
                                    · rw [if_pos c71] at H
                                      have c71b0 := eq_true c71
                                      have c71b1 : decide (x15_3 ≤ (a0.size : Int)) = true := decide_eq_true c71
                                      clear c71
                                      by_cases c72 : (a0.extract 0 (x15_3 : Int).toNat).size + a1.size ≤ 9223372036854775807
                                      · rw [if_pos c72] at H
                                        have c72b0 := eq_true c72
                                        have c72b1 : decide ((a0.extract 0 (x15_3 : Int).toNat).size + a1.size ≤ 9223372036854775807) = true := decide_eq_true c72
                                        try have c72b2 : (9223372036854775807 < (a0.extract 0 (x15_3 : Int).toNat).size + a1.size) = False := eq_false (Nat.not_lt.2 c72)
                                        replace H := Option.bind_eq_some_iff.mp H
                                        obtain ⟨⟨t439, t440, t441⟩, A730, H⟩ := H
                                        replace H : (if t441 = t416 then (some (t440 == t415)) else (some false)) = some true := H
                                        have A73 := Aside0.mk A730
                                        clear A730
                                        by_cases c74 : t441 = t416
                                        · rw [if_pos c74] at H
                                          have c74b0 : (t441 == t416) = true := beq_iff_eq.mpr c74
                                          have c74b1 : (t441 != t416) = false := bne_eq_false_iff_eq.mpr c74
                                          clear c74
                                          have HX := Aside0.mk (Option.some.inj H)
                                          clear H
                                          have p60 : 0 ≤ (x15_3 : Int) := of_decide_eq_true (by first | (with_reducible assumption) | assumption)
                                          have q60 : x15_3 < (a0.size : Int) := of_decide_eq_true (by first | (with_reducible assumption) | assumption)
                                          have hx60 := bt_at a0 x15_3
                                          replace p60 := eq_true p60
                                          replace q60 := eq_true q60
                                          go_wp2_with (first | ((with_reducible refine gate_callee (f := 13) rfl ?_); refine goesL_ (some 121) rfl rfl Tryd.func13 (by kernel_rfl) rfl #[.string ((a0.extract 0 (x15_3 : Int).toNat) ++ a1)] rfl (by (try simp only [List.map_toArray, List.map_cons, List.map_nil]); first | done | rfl | (simp only [List.length_drop, List.length_take]; rfl)) ?_; (with_reducible refine (directive_Parse.calls k3 ((a0.extract 0 (x15_3 : Int).toNat) ++ a1) t439 t440 t441 _ A73.out).mono ?_); rintro e w75 ⟨v442, rfl, ho0, hb⟩; refine ⟨_, rfl, ?_⟩; have n0_ := Aside0.mk (Kd.R_lower ho0 (below_size (by repeat (first | (with_reducible first | exact HB.out | apply below_alloc | apply pw_below_drewN | apply below_drew1) | exact HB.out)))); have n1_ := Aside0.mk (below_step (by repeat (first | (with_reducible first | exact HB.out | apply below_alloc | apply pw_below_drewN | apply below_drew1) | exact HB.out)) hb); clear HB; have HO443 := n0_; have HB := n1_; clear n0_ n1_; (try clear hb); (try clear hb2); (try clear hk); (try clear hi); (try clear ho0)))
                                          go_ret
                                          exact ⟨by first | exact congrArg (fun b_ => Ending.returned (Value.bool b_)) HX.out | (have hx_ := HX.out; simp at hx_ ⊢; done) | (have hx_ := HX.out; simp at hx_ ⊢; exact hx_) | (have hx_ := HX.out; simp_all) | (simp [*, errW_none, errW_some] <;> rfl), by repeat (first | (with_reducible first | exact HB.out | apply below_alloc | apply pw_below_drewN | apply below_drew1) | exact HB.out)⟩
                                        · rw [if_neg c74] at H
                                          have c74b0 : (t441 == t416) = false := beq_eq_false_iff_ne.mpr c74
                                          have c74b1 : (t441 != t416) = true := bne_iff_ne.mpr c74
                                          exact absurd H (by simp)
                                      · rw [if_neg c72] at H
                                        exact absurd H (by simp)
                                    · rw [if_neg c71] at H
                                      exact absurd H (by simp)
                                · rw [if_neg c59] at H
                                  exact absurd H (by simp)
                              · rw [if_neg c58] at H
                                have c58b0 : decide (x15_3 < (a0.size : Int)) = false := decide_eq_false c58
                                clear c58
                                by_cases c76 : 0 ≤ x15_3
                                · rw [if_pos c76] at H
                                  have c76b0 := eq_true c76
                                  have c76b1 : decide (0 ≤ x15_3) = true := decide_eq_true c76
                                  clear c76
                                  by_cases c77 : x15_3 ≤ (a0.size : Int)
                                  · rw [if_pos c77] at H
                                    have c77b0 := eq_true c77
                                    have c77b1 : decide (x15_3 ≤ (a0.size : Int)) = true := decide_eq_true c77
                                    clear c77
                                    by_cases c78 : (a0.extract 0 (x15_3 : Int).toNat).size + a1.size ≤ 9223372036854775807
                                    · rw [if_pos c78] at H
                                      have c78b0 := eq_true c78
                                      have c78b1 : decide ((a0.extract 0 (x15_3 : Int).toNat).size + a1.size ≤ 9223372036854775807) = true := decide_eq_true c78
                                      try have c78b2 : (9223372036854775807 < (a0.extract 0 (x15_3 : Int).toNat).size + a1.size) = False := eq_false (Nat.not_lt.2 c78)
                                      replace H := Option.bind_eq_some_iff.mp H
                                      obtain ⟨⟨t444, t445, t446⟩, A790, H⟩ := H
                                      replace H : (if t446 = t416 then (some (t445 == t415)) else (some false)) = some true := H
                                      have A79 := Aside0.mk A790
                                      clear A790
                                      by_cases c80 : t446 = t416
                                      · rw [if_pos c80] at H
                                        have c80b0 : (t446 == t416) = true := beq_iff_eq.mpr c80
                                        have c80b1 : (t446 != t416) = false := bne_eq_false_iff_eq.mpr c80
                                        clear c80
                                        have HX := Aside0.mk (Option.some.inj H)
                                        clear H
                                        go_wp2_with (first | ((with_reducible refine gate_callee (f := 13) rfl ?_); refine goesL_ (some 121) rfl rfl Tryd.func13 (by kernel_rfl) rfl #[.string ((a0.extract 0 (x15_3 : Int).toNat) ++ a1)] rfl (by (try simp only [List.map_toArray, List.map_cons, List.map_nil]); first | done | rfl | (simp only [List.length_drop, List.length_take]; rfl)) ?_; (with_reducible refine (directive_Parse.calls k3 ((a0.extract 0 (x15_3 : Int).toNat) ++ a1) t444 t445 t446 _ A79.out).mono ?_); rintro e w81 ⟨v447, rfl, ho0, hb⟩; refine ⟨_, rfl, ?_⟩; have n0_ := Aside0.mk (Kd.R_lower ho0 (below_size (by repeat (first | (with_reducible first | exact HB.out | apply below_alloc | apply pw_below_drewN | apply below_drew1) | exact HB.out)))); have n1_ := Aside0.mk (below_step (by repeat (first | (with_reducible first | exact HB.out | apply below_alloc | apply pw_below_drewN | apply below_drew1) | exact HB.out)) hb); clear HB; have HO448 := n0_; have HB := n1_; clear n0_ n1_; (try clear hb); (try clear hb2); (try clear hk); (try clear hi); (try clear ho0)))
                                        go_ret
                                        exact ⟨by first | exact congrArg (fun b_ => Ending.returned (Value.bool b_)) HX.out | (have hx_ := HX.out; simp at hx_ ⊢; done) | (have hx_ := HX.out; simp at hx_ ⊢; exact hx_) | (have hx_ := HX.out; simp_all) | (simp [*, errW_none, errW_some] <;> rfl), by repeat (first | (with_reducible first | exact HB.out | apply below_alloc | apply pw_below_drewN | apply below_drew1) | exact HB.out)⟩
                                      · rw [if_neg c80] at H
                                        have c80b0 : (t446 == t416) = false := beq_eq_false_iff_ne.mpr c80
                                        have c80b1 : (t446 != t416) = true := bne_iff_ne.mpr c80
                                        exact absurd H (by simp)
                                    · rw [if_neg c78] at H
                                      exact absurd H (by simp)
                                  · rw [if_neg c77] at H
                                    exact absurd H (by simp)
                                · rw [if_neg c76] at H
                                  exact absurd H (by simp)
                            · rw [if_neg c57] at H
                              have c57b0 : (t416 == 6) = false := beq_eq_false_iff_ne.mpr c57
                              have c57b1 : (t416 != 6) = true := bne_iff_ne.mpr c57
                              by_cases c82 : 0 ≤ x15_3
                              · rw [if_pos c82] at H
                                have c82b0 := eq_true c82
                                have c82b1 : decide (0 ≤ x15_3) = true := decide_eq_true c82
                                clear c82
                                by_cases c83 : x15_3 ≤ (a0.size : Int)
                                · rw [if_pos c83] at H
                                  have c83b0 := eq_true c83
                                  have c83b1 : decide (x15_3 ≤ (a0.size : Int)) = true := decide_eq_true c83
                                  clear c83
                                  by_cases c84 : (a0.extract 0 (x15_3 : Int).toNat).size + a1.size ≤ 9223372036854775807
                                  · rw [if_pos c84] at H
                                    have c84b0 := eq_true c84
                                    have c84b1 : decide ((a0.extract 0 (x15_3 : Int).toNat).size + a1.size ≤ 9223372036854775807) = true := decide_eq_true c84
                                    try have c84b2 : (9223372036854775807 < (a0.extract 0 (x15_3 : Int).toNat).size + a1.size) = False := eq_false (Nat.not_lt.2 c84)
                                    replace H := Option.bind_eq_some_iff.mp H
                                    obtain ⟨⟨t449, t450, t451⟩, A850, H⟩ := H
                                    replace H : (if t451 = t416 then (some (t450 == t415)) else (some false)) = some true := H
                                    have A85 := Aside0.mk A850
                                    clear A850
                                    by_cases c86 : t451 = t416
                                    · rw [if_pos c86] at H
                                      have c86b0 : (t451 == t416) = true := beq_iff_eq.mpr c86
                                      have c86b1 : (t451 != t416) = false := bne_eq_false_iff_eq.mpr c86
                                      clear c86
                                      have HX := Aside0.mk (Option.some.inj H)
                                      clear H
                                      go_wp2_with (first | ((with_reducible refine gate_callee (f := 13) rfl ?_); refine goesL_ (some 121) rfl rfl Tryd.func13 (by kernel_rfl) rfl #[.string ((a0.extract 0 (x15_3 : Int).toNat) ++ a1)] rfl (by (try simp only [List.map_toArray, List.map_cons, List.map_nil]); first | done | rfl | (simp only [List.length_drop, List.length_take]; rfl)) ?_; (with_reducible refine (directive_Parse.calls k3 ((a0.extract 0 (x15_3 : Int).toNat) ++ a1) t449 t450 t451 _ A85.out).mono ?_); rintro e w87 ⟨v452, rfl, ho0, hb⟩; refine ⟨_, rfl, ?_⟩; have n0_ := Aside0.mk (Kd.R_lower ho0 (below_size (by repeat (first | (with_reducible first | exact HB.out | apply below_alloc | apply pw_below_drewN | apply below_drew1) | exact HB.out)))); have n1_ := Aside0.mk (below_step (by repeat (first | (with_reducible first | exact HB.out | apply below_alloc | apply pw_below_drewN | apply below_drew1) | exact HB.out)) hb); clear HB; have HO453 := n0_; have HB := n1_; clear n0_ n1_; (try clear hb); (try clear hb2); (try clear hk); (try clear hi); (try clear ho0)))
                                      go_ret
                                      exact ⟨by first | exact congrArg (fun b_ => Ending.returned (Value.bool b_)) HX.out | (have hx_ := HX.out; simp at hx_ ⊢; done) | (have hx_ := HX.out; simp at hx_ ⊢; exact hx_) | (have hx_ := HX.out; simp_all) | (simp [*, errW_none, errW_some] <;> rfl), by repeat (first | (with_reducible first | exact HB.out | apply below_alloc | apply pw_below_drewN | apply below_drew1) | exact HB.out)⟩
                                    · rw [if_neg c86] at H
                                      have c86b0 : (t451 == t416) = false := beq_eq_false_iff_ne.mpr c86
                                      have c86b1 : (t451 != t416) = true := bne_iff_ne.mpr c86
                                      exact absurd H (by simp)
                                  · rw [if_neg c84] at H
                                    exact absurd H (by simp)
                                · rw [if_neg c83] at H
                                  exact absurd H (by simp)
                              · rw [if_neg c82] at H
                                exact absurd H (by simp)
              · rw [if_neg c50] at H
                exact absurd H (by simp)
            · rw [if_neg c49] at H
              exact absurd H (by simp)
  · replace c4 := Bool.eq_false_iff.mpr c4
    subst c4
    have H1 : (some false) = some true := by rw [if_neg (show ¬ (false = true) by decide)] at H; exact H
    clear H
    have H := H1
    clear H1
    exact absurd H (by simp)
end Go.Proofs.YtlmijjekaelhcaaDoor.EDi
