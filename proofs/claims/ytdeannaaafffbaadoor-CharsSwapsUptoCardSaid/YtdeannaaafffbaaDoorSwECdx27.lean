/-
  A text of this session's own.
-/
import Derived.Test.YtdeannaaafffbaaDoorSwECdx0
import Derived.Test.YtdeannaaafffbaaDoorSwECdx4
import Derived.Test.YtdeannaaafffbaaDoorSwECdx5
import Derived.Test.YtdeannaaafffbaaDoorSwECdx26
import Derived.Test.YtdeannaaafffbaaDoorSwX
namespace Go.Proofs.YtdeannaaafffbaaDoor.ECd
open Go.RowKit Go.Proofs.YtdeannaaafffbaaDoorW.PrintWords Go.Proofs.YtdeannaaafffbaaDoorW.PrintLast Go.Proofs.YtdeannaaafffbaaDoorW.PrintMore
attribute [local go_sem] max2_int min2_int max_two min_two max_three min_three max_four min_four   -- for this text's walks alone
set_option linter.unusedVariables false
set_option linter.unusedSimpArgs false
open Go.Proofs.YtdeannaaafffbaaDoor.X
mutual
def abacuslaw20_CharsSwaps.j0 : Nat → ByteArray → ByteArray → ByteArray → Int → Bool → Option (Bool)
  | 0, _, _, _, _, _ => none
  | k + 1, x0, x1, x2, x3, x32 => if x32 = true then (some false) else (if x0.toList = ([] : List UInt8) then (abacuslaw20_CharsSwaps.j1 k x0 x1 x2 x3 true) else (if x1.toList = ([] : List UInt8) then (abacuslaw20_CharsSwaps.j1 k x0 x1 x2 x3 true) else (if x1.toList = ([32] : List UInt8) then (abacuslaw20_CharsSwaps.j1 k x0 x1 x2 x3 true) else (if (x0.size : Int) > 1048576 then (abacuslaw20_CharsSwaps.j1 k x0 x1 x2 x3 true) else (if (x2.size : Int) > 0 then (if (x2.size : Int) = 0 then (none) else (abacuslaw20_CharsSwaps.j1 k x0 x1 x2 x3 (decide ((x0.size : Int) > (wrap64 ((1048576 : Int) / (x2.size : Int))))))) else (abacuslaw20_CharsSwaps.j1 k x0 x1 x2 x3 false))))))
def abacuslaw20_CharsSwaps.j1 : Nat → ByteArray → ByteArray → ByteArray → Int → Bool → Option (Bool)
  | 0, _, _, _, _, _ => none
  | k + 1, x0, x1, x2, x3, x60 => if x60 = true then (some true) else ((chars_Split.f k x0 x1).bind fun t310 => ((chars_Join.f k t310 x2).bind fun bt313 => ((chars_Replace.f k x0 x1 x2 (-1)).bind fun bt315 => (if bt315.2.2 = 0 then (if bt313.2 = 0 then (if bt315.1.toList = bt313.1.toList then (if bt315.2.1 = (wrap64 ((t310.length : Int) - 1)) then (abacuslaw20_CharsSwaps.j2 k x0 x1 x2 x3 t310 (decide (bt315.2.1 < 0))) else (abacuslaw20_CharsSwaps.j2 k x0 x1 x2 x3 t310 true)) else (abacuslaw20_CharsSwaps.j2 k x0 x1 x2 x3 t310 true)) else (abacuslaw20_CharsSwaps.j2 k x0 x1 x2 x3 t310 true)) else (abacuslaw20_CharsSwaps.j2 k x0 x1 x2 x3 t310 true)))))
def abacuslaw20_CharsSwaps.j2 : Nat → ByteArray → ByteArray → ByteArray → Int → List ByteArray → Bool → Option (Bool)
  | 0, _, _, _, _, _, _ => none
  | k + 1, x0, x1, x2, x3, x12, x99 => if x99 = true then (some false) else ((chars_Replace.f k x0 x1 x1 (-1)).bind fun bt318 => (if bt318.2.2 = 0 then (if bt318.1.toList = x0.toList then (abacuslaw20_CharsSwaps.j3 k x0 x1 x2 x3 x12 (bt318.2.1 != (wrap64 ((x12.length : Int) - 1)))) else (abacuslaw20_CharsSwaps.j3 k x0 x1 x2 x3 x12 true)) else (abacuslaw20_CharsSwaps.j3 k x0 x1 x2 x3 x12 true)))
def abacuslaw20_CharsSwaps.j3 : Nat → ByteArray → ByteArray → ByteArray → Int → List ByteArray → Bool → Option (Bool)
  | 0, _, _, _, _, _, _ => none
  | k + 1, x0, x1, x2, x3, x12, x121 => if x121 = true then (some false) else (if x3 < 0 then (abacuslaw20_CharsSwaps.j4 k x0 x1 x2 x3 x12 true) else (abacuslaw20_CharsSwaps.j4 k x0 x1 x2 x3 x12 (decide (x3 ≥ (x12.length : Int)))))
def abacuslaw20_CharsSwaps.j4 : Nat → ByteArray → ByteArray → ByteArray → Int → List ByteArray → Bool → Option (Bool)
  | 0, _, _, _, _, _, _ => none
  | k + 1, x0, x1, x2, x3, x12, x129 => if x129 = true then (some true) else (if 0 ≤ (wrap64 (x3 + 1)) then (if (wrap64 (x3 + 1)) ≤ (x12.length : Int) then ((chars_Join.f k (x12.take ((wrap64 (x3 + 1)) : Int).toNat) x2).bind fun bt325 => (if 0 ≤ x3 then (if x3 ≤ (x12.length : Int) then ((chars_Join.f k (x12.drop (x3 : Int).toNat) x1).bind fun bt331 => (if bt325.2 = 0 then (if bt331.2 = 0 then (if x3 < (x12.length : Int) then (if (bt331.1.size : Int) < ((rdOf ByteArray.empty x12 x3).size : Int) then (some false) else ((chars_Replace.f k x0 x1 x2 x3).bind fun bt334 => (if bt334.2.2 = 0 then (if bt334.2.1 = x3 then (if 0 ≤ ((rdOf ByteArray.empty x12 x3).size : Int) then (if ((rdOf ByteArray.empty x12 x3).size : Int) ≤ (bt331.1.size : Int) then (if bt325.1.size + (bt331.1.extract (((rdOf ByteArray.empty x12 x3).size : Int) : Int).toNat bt331.1.size).size ≤ 9223372036854775807 then (some (bt334.1.toList == (bt325.1 ++ (bt331.1.extract (((rdOf ByteArray.empty x12 x3).size : Int) : Int).toNat bt331.1.size)).toList)) else (none)) else (none)) else (none)) else (some false)) else (some false)))) else (none)) else (some false)) else (some false))) else (none)) else (none))) else (none)) else (none))
end
def abacuslaw20_CharsSwaps.f (k : Nat) (a0 : ByteArray) (a1 : ByteArray) (a2 : ByteArray) (a3 : Int) : Option (Bool) := (chars_Replace.f k (⟨#[98, 97, 110, 97, 110, 97]⟩ : ByteArray) (⟨#[97, 110]⟩ : ByteArray) (⟨#[60, 62]⟩ : ByteArray) (-1)).bind fun bt307 => (if bt307.2.2 = 0 then (if bt307.2.1 = 2 then (abacuslaw20_CharsSwaps.j0 k a0 a1 a2 a3 (bt307.1.toList != ([98, 60, 62, 60, 62, 97] : List UInt8))) else (abacuslaw20_CharsSwaps.j0 k a0 a1 a2 a3 true)) else (abacuslaw20_CharsSwaps.j0 k a0 a1 a2 a3 true))
theorem wq_ (n : Nat) : wrap64 ((1048576 : Int) / (n : Int)) = (1048576 : Int) / (n : Int) := by
  have h0 : 0 ≤ (1048576 : Int) / (n : Int) := Int.ediv_nonneg (by omega) (by omega)
  have h1 : (1048576 : Int) / (n : Int) ≤ 1048576 := Int.ediv_le_self _ (by omega)
  unfold wrap64
  omega
set_option maxHeartbeats 8000000 in
set_option maxRecDepth 100000 in
theorem abacuslaw20_CharsSwaps.calls (k : Nat) (a0 : ByteArray) (a1 : ByteArray) (a2 : ByteArray) (a3 : Int) (w : World) (hG : GW w) (h : abacuslaw20_CharsSwaps.f k a0 a1 a2 a3 = some true) :
    Calls Tryd.prog 6 #[.string a0, .string a1, .string a2, .int .i64 a3] w fun e w' => e = .returned (.bool true) ∧ Below w.heap.size w w' := by
  have HB := Aside0.mk (Below.refl w.heap.size w)
  have HG := Aside0.mk hG
  clear hG
  have H : ((chars_Replace.f k (⟨#[98, 97, 110, 97, 110, 97]⟩ : ByteArray) (⟨#[97, 110]⟩ : ByteArray) (⟨#[60, 62]⟩ : ByteArray) (-1)).bind fun bt307 => (if bt307.2.2 = 0 then (if bt307.2.1 = 2 then (abacuslaw20_CharsSwaps.j0 k a0 a1 a2 a3 (bt307.1.toList != ([98, 60, 62, 60, 62, 97] : List UInt8))) else (abacuslaw20_CharsSwaps.j0 k a0 a1 a2 a3 true)) else (abacuslaw20_CharsSwaps.j0 k a0 a1 a2 a3 true))) = some true := h
  clear h
  replace H := Option.bind_eq_some_iff.mp H
  obtain ⟨⟨t307, t308, t309⟩, A50, H⟩ := H
  replace H : (if t309 = 0 then (if t308 = 2 then (abacuslaw20_CharsSwaps.j0 k a0 a1 a2 a3 (t307.toList != ([98, 60, 62, 60, 62, 97] : List UInt8))) else (abacuslaw20_CharsSwaps.j0 k a0 a1 a2 a3 true)) else (abacuslaw20_CharsSwaps.j0 k a0 a1 a2 a3 true)) = some true := H
  have A5 := Aside0.mk A50
  clear A50
  have HC6 := Aside0.mk H
  clear H
  go_enter Tryd.func6, Tryd.ntmps6
  go_upto_region 2 with (first | ((with_reducible refine gate_callee (f := 18) rfl ?_); refine goesL_ (some 19) rfl rfl Tryd.func18 (by kernel_rfl) rfl #[.string (⟨#[98, 97, 110, 97, 110, 97]⟩ : ByteArray), .string (⟨#[97, 110]⟩ : ByteArray), .string (⟨#[60, 62]⟩ : ByteArray), .int .i64 (-1)] rfl (by (try simp only [List.map_toArray, List.map_cons, List.map_nil]); first | done | rfl | (simp only [List.length_drop, List.length_take]; rfl)) ?_; (with_reducible refine (chars_Replace.calls k (⟨#[98, 97, 110, 97, 110, 97]⟩ : ByteArray) (⟨#[97, 110]⟩ : ByteArray) (⟨#[60, 62]⟩ : ByteArray) (-1) t307 t308 t309 _ ?side1 A5.out).mono ?_); (case side1 => exact GW.below HG.out (by repeat (first | (with_reducible first | exact HB.out | apply below_alloc | apply pw_below_drewN | apply below_drew1) | exact HB.out))); rintro e w7 ⟨rfl, hb⟩; refine ⟨_, rfl, ?_⟩; have n0_ := Aside0.mk (below_step (by repeat (first | (with_reducible first | exact HB.out | apply below_alloc | apply pw_below_drewN | apply below_drew1) | exact HB.out)) hb); clear HB; have HB := n0_; clear n0_; (try clear hb); (try clear hb2); (try clear hk); (try clear hi)))
  (try simp only [Act.put, List.setIfInBounds_toArray, List.set_cons_zero, List.set_cons_succ])
  go_cut [32] (fun v32 wc => ∃ (kq : Nat) (x32_5 : Bool), v32 = .bool x32_5 ∧ Aside0 (abacuslaw20_CharsSwaps.j0 kq a0 a1 a2 a3 x32_5 = some true) ∧ Aside0 (kq ≤ k) ∧ Aside0 (Below w.heap.size w wc))
  case first => as_aux_lemma =>
    have H := HC6.out
    clear HC6
    by_cases c8 : t309 = 0
    · rw [if_pos c8] at H
      have c8b0 : (t309 == 0) = true := beq_iff_eq.mpr c8
      have c8b1 : (t309 != 0) = false := bne_eq_false_iff_eq.mpr c8
      clear c8
      (first | rw [c8b0] | (simp only [i64_w, i32_w]; rw [c8b0]) | skip)
      by_cases c9 : t308 = 2
      · rw [if_pos c9] at H
        have c9b0 : (t308 == 2) = true := beq_iff_eq.mpr c9
        have c9b1 : (t308 != 2) = false := bne_eq_false_iff_eq.mpr c9
        clear c9
        have H' := Aside0.mk H
        clear H
        go_wp2
        go_meet
        case rel => exact ⟨_, ((t307.toList != ([98, 60, 62, 60, 62, 97] : List UInt8))), (by first | rfl | (simp; done) | (simp [*]; done)), H', ⟨by first | omega | exact Nat.le_refl _⟩, ⟨by repeat (first | (with_reducible first | exact HB.out | apply below_alloc | apply pw_below_drewN | apply below_drew1) | exact HB.out)⟩⟩
      · rw [if_neg c9] at H
        have c9b0 : (t308 == 2) = false := beq_eq_false_iff_ne.mpr c9
        have c9b1 : (t308 != 2) = true := bne_iff_ne.mpr c9
        have H' := Aside0.mk H
        clear H
        go_wp2
        go_meet
        case rel => exact ⟨_, (true), (by first | rfl | (simp; done) | (simp [*]; done)), H', ⟨by first | omega | exact Nat.le_refl _⟩, ⟨by repeat (first | (with_reducible first | exact HB.out | apply below_alloc | apply pw_below_drewN | apply below_drew1) | exact HB.out)⟩⟩
    · rw [if_neg c8] at H
      have c8b0 : (t309 == 0) = false := beq_eq_false_iff_ne.mpr c8
      have c8b1 : (t309 != 0) = true := bne_iff_ne.mpr c8
      (first | rw [c8b0] | (simp only [i64_w, i32_w]; rw [c8b0]) | skip)
      have H' := Aside0.mk H
      clear H
      go_wp2
      go_meet
      case rel => exact ⟨_, (true), (by first | rfl | (simp; done) | (simp [*]; done)), H', ⟨by first | omega | exact Nat.le_refl _⟩, ⟨by repeat (first | (with_reducible first | exact HB.out | apply below_alloc | apply pw_below_drewN | apply below_drew1) | exact HB.out)⟩⟩
  case rest => as_aux_lemma =>
    clear HC6
    try clear c1
    try clear p2
    try clear c6
    try clear c8
    try clear c8b0
    try clear c8b1
    try clear c9
    try clear c9b0
    try clear c9b1
    obtain ⟨kq, x32_5, rfl, HA, HJ5, HB⟩ := hcut
    cases kq with
    | zero => exact absurd HA.out (by simp [abacuslaw20_CharsSwaps.j0])
    | succ kj5 =>
      have H := HA.out
      clear HA
      simp only [abacuslaw20_CharsSwaps.j0] at H
      by_cases c10 : x32_5 = true
      · subst c10
        have H1 : (some false) = some true := by rw [if_pos rfl] at H; exact H
        clear H
        have H := H1
        clear H1
        exact absurd H (by simp)
      · replace c10 := Bool.eq_false_iff.mpr c10
        subst c10
        have H1 : (if a0.toList = ([] : List UInt8) then (abacuslaw20_CharsSwaps.j1 kj5 a0 a1 a2 a3 true) else (if a1.toList = ([] : List UInt8) then (abacuslaw20_CharsSwaps.j1 kj5 a0 a1 a2 a3 true) else (if a1.toList = ([32] : List UInt8) then (abacuslaw20_CharsSwaps.j1 kj5 a0 a1 a2 a3 true) else (if (a0.size : Int) > 1048576 then (abacuslaw20_CharsSwaps.j1 kj5 a0 a1 a2 a3 true) else (if (a2.size : Int) > 0 then (if (a2.size : Int) = 0 then (none) else (abacuslaw20_CharsSwaps.j1 kj5 a0 a1 a2 a3 (decide ((a0.size : Int) > (wrap64 ((1048576 : Int) / (a2.size : Int))))))) else (abacuslaw20_CharsSwaps.j1 kj5 a0 a1 a2 a3 false)))))) = some true := by rw [if_neg (show ¬ (false = true) by decide)] at H; exact H
        clear H
        have H := H1
        clear H1
        have HC11 := Aside0.mk H
        clear H
        go_upto_region 4 with (fail)
        go_cut [60] (fun v60 wc => ∃ (kq : Nat) (x60_10 : Bool), v60 = .bool x60_10 ∧ Aside0 (abacuslaw20_CharsSwaps.j1 kq a0 a1 a2 a3 x60_10 = some true) ∧ Aside0 (kq ≤ kj5) ∧ Aside0 (Below w.heap.size w wc))
        case first => as_aux_lemma =>
          have H := HC11.out
          clear HC11
          by_cases c12 : a0.toList = ([] : List UInt8)
          · rw [if_pos c12] at H
            have c12b0 : (a0.toList == ([] : List UInt8)) = true := beq_iff_eq.mpr c12
            have c12b1 : (a0.toList != ([] : List UInt8)) = false := bne_eq_false_iff_eq.mpr c12
            clear c12
            (first | rw [c12b0] | (simp only [i64_w, i32_w]; rw [c12b0]) | skip)
            have H' := Aside0.mk H
            clear H
            go_wp2
            go_meet
            case rel => exact ⟨_, (true), (by first | rfl | (simp; done) | (simp [*]; done)), H', ⟨by have := HJ5.out; first | omega | exact Nat.le_refl _⟩, ⟨by repeat (first | (with_reducible first | exact HB.out | apply below_alloc | apply pw_below_drewN | apply below_drew1) | exact HB.out)⟩⟩
          · rw [if_neg c12] at H
            have c12b0 : (a0.toList == ([] : List UInt8)) = false := beq_eq_false_iff_ne.mpr c12
            have c12b1 : (a0.toList != ([] : List UInt8)) = true := bne_iff_ne.mpr c12
            (first | rw [c12b0] | (simp only [i64_w, i32_w]; rw [c12b0]) | skip)
            by_cases c13 : a1.toList = ([] : List UInt8)
            · rw [if_pos c13] at H
              have c13b0 : (a1.toList == ([] : List UInt8)) = true := beq_iff_eq.mpr c13
              have c13b1 : (a1.toList != ([] : List UInt8)) = false := bne_eq_false_iff_eq.mpr c13
              clear c13
              have H' := Aside0.mk H
              clear H
              go_wp2
              go_meet
              case rel => exact ⟨_, (true), (by first | rfl | (simp; done) | (simp [*]; done)), H', ⟨by have := HJ5.out; first | omega | exact Nat.le_refl _⟩, ⟨by repeat (first | (with_reducible first | exact HB.out | apply below_alloc | apply pw_below_drewN | apply below_drew1) | exact HB.out)⟩⟩
            · rw [if_neg c13] at H
              have c13b0 : (a1.toList == ([] : List UInt8)) = false := beq_eq_false_iff_ne.mpr c13
              have c13b1 : (a1.toList != ([] : List UInt8)) = true := bne_iff_ne.mpr c13
              by_cases c14 : a1.toList = ([32] : List UInt8)
              · rw [if_pos c14] at H
                have c14b0 : (a1.toList == ([32] : List UInt8)) = true := beq_iff_eq.mpr c14
                have c14b1 : (a1.toList != ([32] : List UInt8)) = false := bne_eq_false_iff_eq.mpr c14
                clear c14
                have H' := Aside0.mk H
                clear H
                go_wp2
                go_meet
                case rel => exact ⟨_, (true), (by first | rfl | (simp; done) | (simp [*]; done)), H', ⟨by have := HJ5.out; first | omega | exact Nat.le_refl _⟩, ⟨by repeat (first | (with_reducible first | exact HB.out | apply below_alloc | apply pw_below_drewN | apply below_drew1) | exact HB.out)⟩⟩
              · rw [if_neg c14] at H
                have c14b0 : (a1.toList == ([32] : List UInt8)) = false := beq_eq_false_iff_ne.mpr c14
                have c14b1 : (a1.toList != ([32] : List UInt8)) = true := bne_iff_ne.mpr c14
                by_cases c15 : (a0.size : Int) > 1048576
                · rw [if_pos c15] at H
                  have c15b0 : decide (1048576 < (a0.size : Int)) = true := decide_eq_true c15
                  have c15b1 : decide (1048576 < a0.size) = true := decide_eq_true (by omega)
                  clear c15
                  have H' := Aside0.mk H
                  clear H
                  go_wp2
                  go_meet
                  case rel => exact ⟨_, (true), (by first | rfl | (simp; done) | (simp [*]; done)), H', ⟨by have := HJ5.out; first | omega | exact Nat.le_refl _⟩, ⟨by repeat (first | (with_reducible first | exact HB.out | apply below_alloc | apply pw_below_drewN | apply below_drew1) | exact HB.out)⟩⟩
                · rw [if_neg c15] at H
                  have c15b0 : decide (1048576 < (a0.size : Int)) = false := decide_eq_false c15
                  have c15b1 : decide (1048576 < a0.size) = false := decide_eq_false (by omega)
                  clear c15
                  by_cases c16 : (a2.size : Int) > 0
                  · rw [if_pos c16] at H
                    have c16b0 : decide (0 < (a2.size : Int)) = true := decide_eq_true c16
                    have c16b1 : decide (0 < a2.size) = true := decide_eq_true (by omega)
                    clear c16
                    by_cases c17 : (a2.size : Int) = 0
                    · rw [if_pos c17] at H
                      exact absurd H (by simp)
                    · rw [if_neg c17] at H
                      have c17b0 : ((a2.size : Int) == 0) = false := beq_eq_false_iff_ne.mpr c17
                      have c17b1 : ((a2.size : Int) != 0) = true := bne_iff_ne.mpr c17
                      have H' := Aside0.mk H
                      clear H
                      go_wp2
                      go_meet
                      case rel => exact ⟨_, (decide ((a0.size : Int) > (wrap64 ((1048576 : Int) / (a2.size : Int))))), (by first | rfl | (simp; done) | (simp [*]; done) | (rw [wq_])), H', ⟨by have := HJ5.out; first | omega | exact Nat.le_refl _⟩, ⟨by repeat (first | (with_reducible first | exact HB.out | apply below_alloc | apply pw_below_drewN | apply below_drew1) | exact HB.out)⟩⟩
                  · rw [if_neg c16] at H
                    have c16b0 : decide (0 < (a2.size : Int)) = false := decide_eq_false c16
                    have c16b1 : decide (0 < a2.size) = false := decide_eq_false (by omega)
                    clear c16
                    have H' := Aside0.mk H
                    clear H
                    go_wp2
                    go_meet
                    case rel => exact ⟨_, (false), (by first | rfl | (simp; done) | (simp [*]; done)), H', ⟨by have := HJ5.out; first | omega | exact Nat.le_refl _⟩, ⟨by repeat (first | (with_reducible first | exact HB.out | apply below_alloc | apply pw_below_drewN | apply below_drew1) | exact HB.out)⟩⟩
        case rest => as_aux_lemma =>
          clear HC11
          try clear c1
          try clear p2
          try clear c6
          try clear p6
          try clear c8
          try clear c8b0
          try clear c8b1
          try clear c9
          try clear c9b0
          try clear c9b1
          try clear c10
          try clear c12
          try clear c12b0
          try clear c12b1
          try clear c13
          try clear c13b0
          try clear c13b1
          try clear c14
          try clear c14b0
          try clear c14b1
          try clear c15
          try clear c15b0
          try clear c15b1
          try clear c16
          try clear c16b0
          try clear c16b1
          try clear c17
          try clear c17b0
          try clear c17b1
          try clear p2
          obtain ⟨kq, x60_10, rfl, HA, HJ10, HB⟩ := hcut
          cases kq with
          | zero => exact absurd HA.out (by simp [abacuslaw20_CharsSwaps.j1])
          | succ kj10 =>
            have H := HA.out
            clear HA
            simp only [abacuslaw20_CharsSwaps.j1] at H
            by_cases c18 : x60_10 = true
            · subst c18
              have H1 : (some true) = some true := rfl
              clear H
              have H := H1
              clear H1
              clear H
              go_wp2
              go_ret
              exact ⟨by first | rfl | (simp [errW_none, errW_some] <;> rfl) | (simp [*, errW_none, errW_some] <;> rfl), by repeat (first | (with_reducible first | exact HB.out | apply below_alloc | apply pw_below_drewN | apply below_drew1) | exact HB.out)⟩
            · replace c18 := Bool.eq_false_iff.mpr c18
              subst c18
              have H1 : ((chars_Split.f kj10 a0 a1).bind fun t310 => ((chars_Join.f kj10 t310 a2).bind fun bt313 => ((chars_Replace.f kj10 a0 a1 a2 (-1)).bind fun bt315 => (if bt315.2.2 = 0 then (if bt313.2 = 0 then (if bt315.1.toList = bt313.1.toList then (if bt315.2.1 = (wrap64 ((t310.length : Int) - 1)) then (abacuslaw20_CharsSwaps.j2 kj10 a0 a1 a2 a3 t310 (decide (bt315.2.1 < 0))) else (abacuslaw20_CharsSwaps.j2 kj10 a0 a1 a2 a3 t310 true)) else (abacuslaw20_CharsSwaps.j2 kj10 a0 a1 a2 a3 t310 true)) else (abacuslaw20_CharsSwaps.j2 kj10 a0 a1 a2 a3 t310 true)) else (abacuslaw20_CharsSwaps.j2 kj10 a0 a1 a2 a3 t310 true))))) = some true := by rw [if_neg (show ¬ (false = true) by decide)] at H; exact H
              clear H
              have H := H1
              clear H1
              replace H := Option.bind_eq_some_iff.mp H
              obtain ⟨t310, A190, H⟩ := H
              replace H : ((chars_Join.f kj10 t310 a2).bind fun bt313 => ((chars_Replace.f kj10 a0 a1 a2 (-1)).bind fun bt315 => (if bt315.2.2 = 0 then (if bt313.2 = 0 then (if bt315.1.toList = bt313.1.toList then (if bt315.2.1 = (wrap64 ((t310.length : Int) - 1)) then (abacuslaw20_CharsSwaps.j2 kj10 a0 a1 a2 a3 t310 (decide (bt315.2.1 < 0))) else (abacuslaw20_CharsSwaps.j2 kj10 a0 a1 a2 a3 t310 true)) else (abacuslaw20_CharsSwaps.j2 kj10 a0 a1 a2 a3 t310 true)) else (abacuslaw20_CharsSwaps.j2 kj10 a0 a1 a2 a3 t310 true)) else (abacuslaw20_CharsSwaps.j2 kj10 a0 a1 a2 a3 t310 true)))) = some true := H
              have A19 := Aside0.mk A190
              clear A190
              replace H := Option.bind_eq_some_iff.mp H
              obtain ⟨⟨t313, t314⟩, A200, H⟩ := H
              replace H : ((chars_Replace.f kj10 a0 a1 a2 (-1)).bind fun bt315 => (if bt315.2.2 = 0 then (if t314 = 0 then (if bt315.1.toList = t313.toList then (if bt315.2.1 = (wrap64 ((t310.length : Int) - 1)) then (abacuslaw20_CharsSwaps.j2 kj10 a0 a1 a2 a3 t310 (decide (bt315.2.1 < 0))) else (abacuslaw20_CharsSwaps.j2 kj10 a0 a1 a2 a3 t310 true)) else (abacuslaw20_CharsSwaps.j2 kj10 a0 a1 a2 a3 t310 true)) else (abacuslaw20_CharsSwaps.j2 kj10 a0 a1 a2 a3 t310 true)) else (abacuslaw20_CharsSwaps.j2 kj10 a0 a1 a2 a3 t310 true))) = some true := H
              have A20 := Aside0.mk A200
              clear A200
              replace H := Option.bind_eq_some_iff.mp H
              obtain ⟨⟨t315, t316, t317⟩, A210, H⟩ := H
              replace H : (if t317 = 0 then (if t314 = 0 then (if t315.toList = t313.toList then (if t316 = (wrap64 ((t310.length : Int) - 1)) then (abacuslaw20_CharsSwaps.j2 kj10 a0 a1 a2 a3 t310 (decide (t316 < 0))) else (abacuslaw20_CharsSwaps.j2 kj10 a0 a1 a2 a3 t310 true)) else (abacuslaw20_CharsSwaps.j2 kj10 a0 a1 a2 a3 t310 true)) else (abacuslaw20_CharsSwaps.j2 kj10 a0 a1 a2 a3 t310 true)) else (abacuslaw20_CharsSwaps.j2 kj10 a0 a1 a2 a3 t310 true)) = some true := H
              have A21 := Aside0.mk A210
              clear A210
              have HC22 := Aside0.mk H
              clear H
              go_upto_region 9 with (first | ((with_reducible refine gate_callee (f := 10) rfl ?_); refine goesL_ (some 63) rfl rfl Tryd.func10 (by kernel_rfl) rfl #[.string a0, .string a1] rfl (by (try simp only [List.map_toArray, List.map_cons, List.map_nil]); first | done | rfl | (simp only [List.length_drop, List.length_take]; rfl)) ?_; (with_reducible refine (chars_Split.calls kj10 a0 a1 t310 _ ?side1 A19.out).mono ?_); (case side1 => exact GW.below HG.out (by repeat (first | (with_reducible first | exact HB.out | apply below_alloc | apply pw_below_drewN | apply below_drew1) | exact HB.out))); rintro e w23 ⟨v311, rfl, ho0, hb⟩; refine ⟨_, rfl, ?_⟩; have n0_ := Aside0.mk (Kd.R_lower ho0 (below_size (by repeat (first | (with_reducible first | exact HB.out | apply below_alloc | apply pw_below_drewN | apply below_drew1) | exact HB.out)))); have n1_ := Aside0.mk (below_step (by repeat (first | (with_reducible first | exact HB.out | apply below_alloc | apply pw_below_drewN | apply below_drew1) | exact HB.out)) hb); clear HB; have HO312 := n0_; have HB := n1_; clear n0_ n1_; (try clear hb); (try clear hb2); (try clear hk); (try clear hi); (try clear ho0); obtain ⟨Ao24, co24, eo24⟩ := Kd.R_slice HO312.out; subst eo24) | ((with_reducible refine gate_callee (f := 13) rfl ?_); refine goesL_ (some 67) rfl rfl Tryd.func13 (by kernel_rfl) rfl #[.slice Ao24 t310.length co24, .string a2] rfl (by (try simp only [List.map_toArray, List.map_cons, List.map_nil]); first | done | rfl | (simp only [List.length_drop, List.length_take]; rfl)) ?_; (with_reducible refine (chars_Join.calls kj10 _ _ t310 a2 t313 t314 _ ?side1 ?side2 ?side3 A20.out).mono ?_); (case side1 => repeat (first | exact (Kd.R_reads' HO312.out).2.2 | (with_reducible refine Kd.C_alloc ?_ _) | (with_reducible refine Kd.C_drewN ?_ _) | (with_reducible refine Kd.C_drew ?_))); (case side2 => exact (Kd.R_reads' HO312.out).2.1); (case side3 => exact GW.below HG.out (by repeat (first | (with_reducible first | exact HB.out | apply below_alloc | apply pw_below_drewN | apply below_drew1) | exact HB.out))); rintro e w25 ⟨rfl, hb⟩; refine ⟨_, rfl, ?_⟩; have n0_ := Aside0.mk (Kd.R_below (by (with_reducible repeat (first | apply Kd.R_alloc | apply Kd.R_drewN | apply Kd.R_drew)); exact HO312.out) hb); have n1_ := Aside0.mk (below_step (by repeat (first | (with_reducible first | exact HB.out | apply below_alloc | apply pw_below_drewN | apply below_drew1) | exact HB.out)) hb); clear HO312; clear HB; have HO312 := n0_; have HB := n1_; clear n0_ n1_; (try clear hb); (try clear hb2); (try clear hk); (try clear hi)) | ((with_reducible refine gate_callee (f := 18) rfl ?_); refine goesL_ (some 74) rfl rfl Tryd.func18 (by kernel_rfl) rfl #[.string a0, .string a1, .string a2, .int .i64 (-1)] rfl (by (try simp only [List.map_toArray, List.map_cons, List.map_nil]); first | done | rfl | (simp only [List.length_drop, List.length_take]; rfl)) ?_; (with_reducible refine (chars_Replace.calls kj10 a0 a1 a2 (-1) t315 t316 t317 _ ?side1 A21.out).mono ?_); (case side1 => exact GW.below HG.out (by repeat (first | (with_reducible first | exact HB.out | apply below_alloc | apply pw_below_drewN | apply below_drew1) | exact HB.out))); rintro e w26 ⟨rfl, hb⟩; refine ⟨_, rfl, ?_⟩; have n0_ := Aside0.mk (Kd.R_below (by (with_reducible repeat (first | apply Kd.R_alloc | apply Kd.R_drewN | apply Kd.R_drew)); exact HO312.out) hb); have n1_ := Aside0.mk (below_step (by repeat (first | (with_reducible first | exact HB.out | apply below_alloc | apply pw_below_drewN | apply below_drew1) | exact HB.out)) hb); clear HO312; clear HB; have HO312 := n0_; have HB := n1_; clear n0_ n1_; (try clear hb); (try clear hb2); (try clear hk); (try clear hi)))
              (try simp only [Act.put, List.setIfInBounds_toArray, List.set_cons_zero, List.set_cons_succ])
              go_cut [99] (fun v99 wc => ∃ (kq : Nat) (x99_21 : Bool), v99 = .bool x99_21 ∧ Aside0 (abacuslaw20_CharsSwaps.j2 kq a0 a1 a2 a3 t310 x99_21 = some true) ∧ Aside0 (kq ≤ kj10) ∧ Aside0 (Kd.R Kd.string 9 wc w.heap.size (fun _ => True) (.slice Ao24 t310.length co24) t310) ∧ Aside0 (Below w.heap.size w wc))
              case first => as_aux_lemma =>
                have H := HC22.out
                clear HC22
                by_cases c27 : t317 = 0
                · rw [if_pos c27] at H
                  have c27b0 : (t317 == 0) = true := beq_iff_eq.mpr c27
                  have c27b1 : (t317 != 0) = false := bne_eq_false_iff_eq.mpr c27
                  clear c27
                  (first | rw [c27b0] | (simp only [i64_w, i32_w]; rw [c27b0]) | skip)
                  by_cases c28 : t314 = 0
                  · rw [if_pos c28] at H
                    have c28b0 : (t314 == 0) = true := beq_iff_eq.mpr c28
                    have c28b1 : (t314 != 0) = false := bne_eq_false_iff_eq.mpr c28
                    clear c28
                    by_cases c29 : t315.toList = t313.toList
                    · rw [if_pos c29] at H
                      have c29b0 : (t315.toList == t313.toList) = true := beq_iff_eq.mpr c29
                      have c29b1 : (t315.toList != t313.toList) = false := bne_eq_false_iff_eq.mpr c29
                      clear c29
                      by_cases c30 : t316 = (wrap64 ((t310.length : Int) - 1))
                      · rw [if_pos c30] at H
                        have c30b0 : (t316 == (wrap64 ((t310.length : Int) - 1))) = true := beq_iff_eq.mpr c30
                        have c30b1 : (t316 != (wrap64 ((t310.length : Int) - 1))) = false := bne_eq_false_iff_eq.mpr c30
                        clear c30
                        have H' := Aside0.mk H
                        clear H
                        go_wp2
                        go_meet
                        case rel => exact ⟨_, (decide (t316 < 0)), (by first | rfl | (simp; done) | (simp [*]; done)), H', ⟨by have := HJ5.out; have := HJ10.out; first | omega | exact Nat.le_refl _⟩, ⟨by (with_reducible repeat (first | apply Kd.R_alloc | apply Kd.R_drewN | apply Kd.R_drew)); exact HO312.out⟩, ⟨by repeat (first | (with_reducible first | exact HB.out | apply below_alloc | apply pw_below_drewN | apply below_drew1) | exact HB.out)⟩⟩
                      · rw [if_neg c30] at H
                        have c30b0 : (t316 == (wrap64 ((t310.length : Int) - 1))) = false := beq_eq_false_iff_ne.mpr c30
                        have c30b1 : (t316 != (wrap64 ((t310.length : Int) - 1))) = true := bne_iff_ne.mpr c30
                        have H' := Aside0.mk H
                        clear H
                        go_wp2
                        go_meet
                        case rel => exact ⟨_, (true), (by first | rfl | (simp; done) | (simp [*]; done)), H', ⟨by have := HJ5.out; have := HJ10.out; first | omega | exact Nat.le_refl _⟩, ⟨by (with_reducible repeat (first | apply Kd.R_alloc | apply Kd.R_drewN | apply Kd.R_drew)); exact HO312.out⟩, ⟨by repeat (first | (with_reducible first | exact HB.out | apply below_alloc | apply pw_below_drewN | apply below_drew1) | exact HB.out)⟩⟩
                    · rw [if_neg c29] at H
                      have c29b0 : (t315.toList == t313.toList) = false := beq_eq_false_iff_ne.mpr c29
                      have c29b1 : (t315.toList != t313.toList) = true := bne_iff_ne.mpr c29
                      have H' := Aside0.mk H
                      clear H
                      go_wp2
                      go_meet
                      case rel => exact ⟨_, (true), (by first | rfl | (simp; done) | (simp [*]; done)), H', ⟨by have := HJ5.out; have := HJ10.out; first | omega | exact Nat.le_refl _⟩, ⟨by (with_reducible repeat (first | apply Kd.R_alloc | apply Kd.R_drewN | apply Kd.R_drew)); exact HO312.out⟩, ⟨by repeat (first | (with_reducible first | exact HB.out | apply below_alloc | apply pw_below_drewN | apply below_drew1) | exact HB.out)⟩⟩
                  · rw [if_neg c28] at H
                    have c28b0 : (t314 == 0) = false := beq_eq_false_iff_ne.mpr c28
                    have c28b1 : (t314 != 0) = true := bne_iff_ne.mpr c28
                    have H' := Aside0.mk H
                    clear H
                    go_wp2
                    go_meet
                    case rel => exact ⟨_, (true), (by first | rfl | (simp; done) | (simp [*]; done)), H', ⟨by have := HJ5.out; have := HJ10.out; first | omega | exact Nat.le_refl _⟩, ⟨by (with_reducible repeat (first | apply Kd.R_alloc | apply Kd.R_drewN | apply Kd.R_drew)); exact HO312.out⟩, ⟨by repeat (first | (with_reducible first | exact HB.out | apply below_alloc | apply pw_below_drewN | apply below_drew1) | exact HB.out)⟩⟩
                · rw [if_neg c27] at H
                  have c27b0 : (t317 == 0) = false := beq_eq_false_iff_ne.mpr c27
                  have c27b1 : (t317 != 0) = true := bne_iff_ne.mpr c27
                  (first | rw [c27b0] | (simp only [i64_w, i32_w]; rw [c27b0]) | skip)
                  have H' := Aside0.mk H
                  clear H
                  go_wp2
                  go_meet
                  case rel => exact ⟨_, (true), (by first | rfl | (simp; done) | (simp [*]; done)), H', ⟨by have := HJ5.out; have := HJ10.out; first | omega | exact Nat.le_refl _⟩, ⟨by (with_reducible repeat (first | apply Kd.R_alloc | apply Kd.R_drewN | apply Kd.R_drew)); exact HO312.out⟩, ⟨by repeat (first | (with_reducible first | exact HB.out | apply below_alloc | apply pw_below_drewN | apply below_drew1) | exact HB.out)⟩⟩
              case rest => as_aux_lemma =>
                clear HC22
                try clear c1
                try clear c2
                try clear p2
                try clear c3
                try clear c6
                try clear p6
                try clear c8
                try clear c8b0
                try clear c8b1
                try clear c9
                try clear c9b0
                try clear c9b1
                try clear c10
                try clear c12
                try clear c12b0
                try clear c12b1
                try clear c13
                try clear c13b0
                try clear c13b1
                try clear c14
                try clear c14b0
                try clear c14b1
                try clear c15
                try clear c15b0
                try clear c15b1
                try clear c16
                try clear c16b0
                try clear c16b1
                try clear c17
                try clear c17b0
                try clear c17b1
                try clear c18
                try clear c27
                try clear c27b0
                try clear c27b1
                try clear c28
                try clear c28b0
                try clear c28b1
                try clear c29
                try clear c29b0
                try clear c29b1
                try clear c30
                try clear c30b0
                try clear c30b1
                try clear p2
                try clear p6
                obtain ⟨kq, x99_21, rfl, HA, HJ21, HO_12, HB⟩ := hcut
                cases kq with
                | zero => exact absurd HA.out (by simp [abacuslaw20_CharsSwaps.j2])
                | succ kj21 =>
                  have H := HA.out
                  clear HA
                  simp only [abacuslaw20_CharsSwaps.j2] at H
                  by_cases c31 : x99_21 = true
                  · subst c31
                    have H1 : (some false) = some true := by rw [if_pos rfl] at H; exact H
                    clear H
                    have H := H1
                    clear H1
                    exact absurd H (by simp)
                  · replace c31 := Bool.eq_false_iff.mpr c31
                    subst c31
                    have H1 : ((chars_Replace.f kj21 a0 a1 a1 (-1)).bind fun bt318 => (if bt318.2.2 = 0 then (if bt318.1.toList = a0.toList then (abacuslaw20_CharsSwaps.j3 kj21 a0 a1 a2 a3 t310 (bt318.2.1 != (wrap64 ((t310.length : Int) - 1)))) else (abacuslaw20_CharsSwaps.j3 kj21 a0 a1 a2 a3 t310 true)) else (abacuslaw20_CharsSwaps.j3 kj21 a0 a1 a2 a3 t310 true))) = some true := by rw [if_neg (show ¬ (false = true) by decide)] at H; exact H
                    clear H
                    have H := H1
                    clear H1
                    replace H := Option.bind_eq_some_iff.mp H
                    obtain ⟨⟨t318, t319, t320⟩, A320, H⟩ := H
                    replace H : (if t320 = 0 then (if t318.toList = a0.toList then (abacuslaw20_CharsSwaps.j3 kj21 a0 a1 a2 a3 t310 (t319 != (wrap64 ((t310.length : Int) - 1)))) else (abacuslaw20_CharsSwaps.j3 kj21 a0 a1 a2 a3 t310 true)) else (abacuslaw20_CharsSwaps.j3 kj21 a0 a1 a2 a3 t310 true)) = some true := H
                    have A32 := Aside0.mk A320
                    clear A320
                    have HC33 := Aside0.mk H
                    clear H
                    go_upto_region 12 with (first | ((with_reducible refine gate_callee (f := 18) rfl ?_); refine goesL_ (some 104) rfl rfl Tryd.func18 (by kernel_rfl) rfl #[.string a0, .string a1, .string a1, .int .i64 (-1)] rfl (by (try simp only [List.map_toArray, List.map_cons, List.map_nil]); first | done | rfl | (simp only [List.length_drop, List.length_take]; rfl)) ?_; (with_reducible refine (chars_Replace.calls kj21 a0 a1 a1 (-1) t318 t319 t320 _ ?side1 A32.out).mono ?_); (case side1 => exact GW.below HG.out (by repeat (first | (with_reducible first | exact HB.out | apply below_alloc | apply pw_below_drewN | apply below_drew1) | exact HB.out))); rintro e w34 ⟨rfl, hb⟩; refine ⟨_, rfl, ?_⟩; have n0_ := Aside0.mk (Kd.R_below (by (with_reducible repeat (first | apply Kd.R_alloc | apply Kd.R_drewN | apply Kd.R_drew)); exact HO_12.out) hb); have n1_ := Aside0.mk (below_step (by repeat (first | (with_reducible first | exact HB.out | apply below_alloc | apply pw_below_drewN | apply below_drew1) | exact HB.out)) hb); clear HO_12; clear HB; have HO_12 := n0_; have HB := n1_; clear n0_ n1_; (try clear hb); (try clear hb2); (try clear hk); (try clear hi)))
                    (try simp only [Act.put, List.setIfInBounds_toArray, List.set_cons_zero, List.set_cons_succ])
                    go_cut [121] (fun v121 wc => ∃ (kq : Nat) (x121_32 : Bool), v121 = .bool x121_32 ∧ Aside0 (abacuslaw20_CharsSwaps.j3 kq a0 a1 a2 a3 t310 x121_32 = some true) ∧ Aside0 (kq ≤ kj21) ∧ Aside0 (Kd.R Kd.string 9 wc w.heap.size (fun _ => True) (.slice Ao24 t310.length co24) t310) ∧ Aside0 (Below w.heap.size w wc))
                    case first => as_aux_lemma =>
                      have H := HC33.out
                      clear HC33
                      by_cases c35 : t320 = 0
                      · rw [if_pos c35] at H
                        have c35b0 : (t320 == 0) = true := beq_iff_eq.mpr c35
                        have c35b1 : (t320 != 0) = false := bne_eq_false_iff_eq.mpr c35
                        clear c35
                        (first | rw [c35b0] | (simp only [i64_w, i32_w]; rw [c35b0]) | skip)
                        by_cases c36 : t318.toList = a0.toList
                        · rw [if_pos c36] at H
                          have c36b0 : (t318.toList == a0.toList) = true := beq_iff_eq.mpr c36
                          have c36b1 : (t318.toList != a0.toList) = false := bne_eq_false_iff_eq.mpr c36
                          clear c36
                          have H' := Aside0.mk H
                          clear H
                          go_wp2
                          go_meet
                          case rel => exact ⟨_, ((t319 != (wrap64 ((t310.length : Int) - 1)))), (by first | rfl | (simp; done) | (simp [*]; done)), H', ⟨by have := HJ5.out; have := HJ10.out; have := HJ21.out; first | omega | exact Nat.le_refl _⟩, ⟨by (with_reducible repeat (first | apply Kd.R_alloc | apply Kd.R_drewN | apply Kd.R_drew)); exact HO_12.out⟩, ⟨by repeat (first | (with_reducible first | exact HB.out | apply below_alloc | apply pw_below_drewN | apply below_drew1) | exact HB.out)⟩⟩
                        · rw [if_neg c36] at H
                          have c36b0 : (t318.toList == a0.toList) = false := beq_eq_false_iff_ne.mpr c36
                          have c36b1 : (t318.toList != a0.toList) = true := bne_iff_ne.mpr c36
                          have H' := Aside0.mk H
                          clear H
                          go_wp2
                          go_meet
                          case rel => exact ⟨_, (true), (by first | rfl | (simp; done) | (simp [*]; done)), H', ⟨by have := HJ5.out; have := HJ10.out; have := HJ21.out; first | omega | exact Nat.le_refl _⟩, ⟨by (with_reducible repeat (first | apply Kd.R_alloc | apply Kd.R_drewN | apply Kd.R_drew)); exact HO_12.out⟩, ⟨by repeat (first | (with_reducible first | exact HB.out | apply below_alloc | apply pw_below_drewN | apply below_drew1) | exact HB.out)⟩⟩
                      · rw [if_neg c35] at H
                        have c35b0 : (t320 == 0) = false := beq_eq_false_iff_ne.mpr c35
                        have c35b1 : (t320 != 0) = true := bne_iff_ne.mpr c35
                        (first | rw [c35b0] | (simp only [i64_w, i32_w]; rw [c35b0]) | skip)
                        have H' := Aside0.mk H
                        clear H
                        go_wp2
                        go_meet
                        case rel => exact ⟨_, (true), (by first | rfl | (simp; done) | (simp [*]; done)), H', ⟨by have := HJ5.out; have := HJ10.out; have := HJ21.out; first | omega | exact Nat.le_refl _⟩, ⟨by (with_reducible repeat (first | apply Kd.R_alloc | apply Kd.R_drewN | apply Kd.R_drew)); exact HO_12.out⟩, ⟨by repeat (first | (with_reducible first | exact HB.out | apply below_alloc | apply pw_below_drewN | apply below_drew1) | exact HB.out)⟩⟩
                    case rest => as_aux_lemma =>
                      clear HC33
                      try clear c1
                      try clear c2
                      try clear p2
                      try clear c3
                      try clear c6
                      try clear p6
                      try clear c8
                      try clear c8b0
                      try clear c8b1
                      try clear c9
                      try clear c9b0
                      try clear c9b1
                      try clear c10
                      try clear c12
                      try clear c12b0
                      try clear c12b1
                      try clear c13
                      try clear c13b0
                      try clear c13b1
                      try clear c14
                      try clear c14b0
                      try clear c14b1
                      try clear c15
                      try clear c15b0
                      try clear c15b1
                      try clear c16
                      try clear c16b0
                      try clear c16b1
                      try clear c17
                      try clear c17b0
                      try clear c17b1
                      try clear c18
                      try clear c27
                      try clear c27b0
                      try clear c27b1
                      try clear c28
                      try clear c28b0
                      try clear c28b1
                      try clear c29
                      try clear c29b0
                      try clear c29b1
                      try clear c30
                      try clear c30b0
                      try clear c30b1
                      try clear c31
                      try clear c35
                      try clear c35b0
                      try clear c35b1
                      try clear c36
                      try clear c36b0
                      try clear c36b1
                      try clear p2
                      try clear p6
                      obtain ⟨kq, x121_32, rfl, HA, HJ32, HO_12, HB⟩ := hcut
                      cases kq with
                      | zero => exact absurd HA.out (by simp [abacuslaw20_CharsSwaps.j3])
                      | succ kj32 =>
                        have H := HA.out
                        clear HA
                        simp only [abacuslaw20_CharsSwaps.j3] at H
                        by_cases c37 : x121_32 = true
                        · subst c37
                          have H1 : (some false) = some true := by rw [if_pos rfl] at H; exact H
                          clear H
                          have H := H1
                          clear H1
                          exact absurd H (by simp)
                        · replace c37 := Bool.eq_false_iff.mpr c37
                          subst c37
                          have H1 : (if a3 < 0 then (abacuslaw20_CharsSwaps.j4 kj32 a0 a1 a2 a3 t310 true) else (abacuslaw20_CharsSwaps.j4 kj32 a0 a1 a2 a3 t310 (decide (a3 ≥ (t310.length : Int))))) = some true := by rw [if_neg (show ¬ (false = true) by decide)] at H; exact H
                          clear H
                          have H := H1
                          clear H1
                          have HC38 := Aside0.mk H
                          clear H
                          go_upto_region 14 with (fail)
                          go_cut [129] (fun v129 wc => ∃ (kq : Nat) (x129_37 : Bool), v129 = .bool x129_37 ∧ Aside0 (abacuslaw20_CharsSwaps.j4 kq a0 a1 a2 a3 t310 x129_37 = some true) ∧ Aside0 (kq ≤ kj32) ∧ Aside0 (Kd.R Kd.string 9 wc w.heap.size (fun _ => True) (.slice Ao24 t310.length co24) t310) ∧ Aside0 (Below w.heap.size w wc))
                          case first => as_aux_lemma =>
                            have H := HC38.out
                            clear HC38
                            by_cases c39 : a3 < 0
                            · rw [if_pos c39] at H
                              have c39b0 : decide (a3 < 0) = true := decide_eq_true c39
                              clear c39
                              (first | rw [c39b0] | (simp only [i64_w, i32_w]; rw [c39b0]) | skip)
                              have H' := Aside0.mk H
                              clear H
                              go_wp2
                              go_meet
                              case rel => exact ⟨_, (true), (by first | rfl | (simp; done) | (simp [*]; done)), H', ⟨by have := HJ5.out; have := HJ10.out; have := HJ21.out; have := HJ32.out; first | omega | exact Nat.le_refl _⟩, ⟨by (with_reducible repeat (first | apply Kd.R_alloc | apply Kd.R_drewN | apply Kd.R_drew)); exact HO_12.out⟩, ⟨by repeat (first | (with_reducible first | exact HB.out | apply below_alloc | apply pw_below_drewN | apply below_drew1) | exact HB.out)⟩⟩
                            · rw [if_neg c39] at H
                              have c39b0 : decide (a3 < 0) = false := decide_eq_false c39
                              clear c39
                              (first | rw [c39b0] | (simp only [i64_w, i32_w]; rw [c39b0]) | skip)
                              have H' := Aside0.mk H
                              clear H
                              go_wp2
                              go_meet
                              case rel => exact ⟨_, (decide (a3 ≥ (t310.length : Int))), (by first | rfl | (simp; done) | (simp [*]; done)), H', ⟨by have := HJ5.out; have := HJ10.out; have := HJ21.out; have := HJ32.out; first | omega | exact Nat.le_refl _⟩, ⟨by (with_reducible repeat (first | apply Kd.R_alloc | apply Kd.R_drewN | apply Kd.R_drew)); exact HO_12.out⟩, ⟨by repeat (first | (with_reducible first | exact HB.out | apply below_alloc | apply pw_below_drewN | apply below_drew1) | exact HB.out)⟩⟩
                          case rest => as_aux_lemma =>
                            clear HC38
                            try clear c1
                            try clear c2
                            try clear p2
                            try clear c3
                            try clear c6
                            try clear p6
                            try clear c8
                            try clear c8b0
                            try clear c8b1
                            try clear c9
                            try clear c9b0
                            try clear c9b1
                            try clear c10
                            try clear c12
                            try clear c12b0
                            try clear c12b1
                            try clear c13
                            try clear c13b0
                            try clear c13b1
                            try clear c14
                            try clear c14b0
                            try clear c14b1
                            try clear c15
                            try clear c15b0
                            try clear c15b1
                            try clear c16
                            try clear c16b0
                            try clear c16b1
                            try clear c17
                            try clear c17b0
                            try clear c17b1
                            try clear c18
                            try clear c27
                            try clear c27b0
                            try clear c27b1
                            try clear c28
                            try clear c28b0
                            try clear c28b1
                            try clear c29
                            try clear c29b0
                            try clear c29b1
                            try clear c30
                            try clear c30b0
                            try clear c30b1
                            try clear c31
                            try clear c35
                            try clear c35b0
                            try clear c35b1
                            try clear c36
                            try clear c36b0
                            try clear c36b1
                            try clear c37
                            try clear c39
                            try clear c39b0
                            try clear p2
                            try clear p6
                            obtain ⟨kq, x129_37, rfl, HA, HJ37, HO_12, HB⟩ := hcut
                            cases kq with
                            | zero => exact absurd HA.out (by simp [abacuslaw20_CharsSwaps.j4])
                            | succ kj37 =>
                              have H := HA.out
                              clear HA
                              simp only [abacuslaw20_CharsSwaps.j4] at H
                              by_cases c40 : x129_37 = true
                              · subst c40
                                have H1 : (some true) = some true := rfl
                                clear H
                                have H := H1
                                clear H1
                                clear H
                                go_wp2
                                go_ret
                                exact ⟨by first | rfl | (simp [errW_none, errW_some] <;> rfl) | (simp [*, errW_none, errW_some] <;> rfl), by repeat (first | (with_reducible first | exact HB.out | apply below_alloc | apply pw_below_drewN | apply below_drew1) | exact HB.out)⟩
                              · replace c40 := Bool.eq_false_iff.mpr c40
                                subst c40
                                have H1 : (if 0 ≤ (wrap64 (a3 + 1)) then (if (wrap64 (a3 + 1)) ≤ (t310.length : Int) then ((chars_Join.f kj37 (t310.take ((wrap64 (a3 + 1)) : Int).toNat) a2).bind fun bt325 => (if 0 ≤ a3 then (if a3 ≤ (t310.length : Int) then ((chars_Join.f kj37 (t310.drop (a3 : Int).toNat) a1).bind fun bt331 => (if bt325.2 = 0 then (if bt331.2 = 0 then (if a3 < (t310.length : Int) then (if (bt331.1.size : Int) < ((rdOf ByteArray.empty t310 a3).size : Int) then (some false) else ((chars_Replace.f kj37 a0 a1 a2 a3).bind fun bt334 => (if bt334.2.2 = 0 then (if bt334.2.1 = a3 then (if 0 ≤ ((rdOf ByteArray.empty t310 a3).size : Int) then (if ((rdOf ByteArray.empty t310 a3).size : Int) ≤ (bt331.1.size : Int) then (if bt325.1.size + (bt331.1.extract (((rdOf ByteArray.empty t310 a3).size : Int) : Int).toNat bt331.1.size).size ≤ 9223372036854775807 then (some (bt334.1.toList == (bt325.1 ++ (bt331.1.extract (((rdOf ByteArray.empty t310 a3).size : Int) : Int).toNat bt331.1.size)).toList)) else (none)) else (none)) else (none)) else (some false)) else (some false)))) else (none)) else (some false)) else (some false))) else (none)) else (none))) else (none)) else (none)) = some true := by rw [if_neg (show ¬ (false = true) by decide)] at H; exact H
                                clear H
                                have H := H1
                                clear H1
                                obtain ⟨ji41, hji41⟩ : ∃ j_ : Int, (wrap64 (a3 + 1)) = j_ := ⟨_, rfl⟩
                                replace H : (if 0 ≤ (ji41) then (if (ji41) ≤ (t310.length : Int) then ((chars_Join.f kj37 (t310.take ((ji41) : Int).toNat) a2).bind fun bt325 => (if 0 ≤ a3 then (if a3 ≤ (t310.length : Int) then ((chars_Join.f kj37 (t310.drop (a3 : Int).toNat) a1).bind fun bt331 => (if bt325.2 = 0 then (if bt331.2 = 0 then (if a3 < (t310.length : Int) then (if (bt331.1.size : Int) < ((rdOf ByteArray.empty t310 a3).size : Int) then (some false) else ((chars_Replace.f kj37 a0 a1 a2 a3).bind fun bt334 => (if bt334.2.2 = 0 then (if bt334.2.1 = a3 then (if 0 ≤ ((rdOf ByteArray.empty t310 a3).size : Int) then (if ((rdOf ByteArray.empty t310 a3).size : Int) ≤ (bt331.1.size : Int) then (if bt325.1.size + (bt331.1.extract (((rdOf ByteArray.empty t310 a3).size : Int) : Int).toNat bt331.1.size).size ≤ 9223372036854775807 then (some (bt334.1.toList == (bt325.1 ++ (bt331.1.extract (((rdOf ByteArray.empty t310 a3).size : Int) : Int).toNat bt331.1.size)).toList)) else (none)) else (none)) else (none)) else (some false)) else (some false)))) else (none)) else (some false)) else (some false))) else (none)) else (none))) else (none)) else (none)) = some true := by first | (rw [hji41] at H; exact H) | (simp only [hji41] at H ⊢; exact H)
                                have hji41w : (IntKind.i64.wrap (a3 + 1)) = ji41 := (i64_w _).trans hji41
                                by_cases c42 : 0 ≤ (ji41)
                                · rw [if_pos c42] at H
                                  have c42b0 := eq_true c42
                                  have c42b1 : decide (0 ≤ (ji41)) = true := decide_eq_true c42
                                  clear c42
                                  by_cases c43 : (ji41) ≤ (t310.length : Int)
                                  · rw [if_pos c43] at H
                                    have c43b0 := eq_true c43
                                    have c43b1 : decide ((ji41) ≤ (t310.length : Int)) = true := decide_eq_true c43
                                    clear c43
                                    obtain ⟨y321, hy321⟩ : ∃ y_ : List ByteArray, y_ = (t310.take ((ji41) : Int).toNat) := ⟨_, rfl⟩
                                    replace H : ((chars_Join.f kj37 y321 a2).bind fun bt325 => (if 0 ≤ a3 then (if a3 ≤ (t310.length : Int) then ((chars_Join.f kj37 (t310.drop (a3 : Int).toNat) a1).bind fun bt331 => (if bt325.2 = 0 then (if bt331.2 = 0 then (if a3 < (t310.length : Int) then (if (bt331.1.size : Int) < ((rdOf ByteArray.empty t310 a3).size : Int) then (some false) else ((chars_Replace.f kj37 a0 a1 a2 a3).bind fun bt334 => (if bt334.2.2 = 0 then (if bt334.2.1 = a3 then (if 0 ≤ ((rdOf ByteArray.empty t310 a3).size : Int) then (if ((rdOf ByteArray.empty t310 a3).size : Int) ≤ (bt331.1.size : Int) then (if bt325.1.size + (bt331.1.extract (((rdOf ByteArray.empty t310 a3).size : Int) : Int).toNat bt331.1.size).size ≤ 9223372036854775807 then (some (bt334.1.toList == (bt325.1 ++ (bt331.1.extract (((rdOf ByteArray.empty t310 a3).size : Int) : Int).toNat bt331.1.size)).toList)) else (none)) else (none)) else (none)) else (some false)) else (some false)))) else (none)) else (some false)) else (some false))) else (none)) else (none))) = some true := by first | (rw [hy321]; with_reducible exact H) | (have H2_ := (Option.bind_some _ _).symm.trans H; rw [hy321]; with_reducible exact H2_) | (have H2_ := (Option.bind_some _ _).symm.trans H; with_reducible exact H2_) | with_reducible exact H | (rw [hy321]; exact H) | exact H
                                    have Ny321 := Aside0.mk hy321
                                    clear hy321
                                    replace H := Option.bind_eq_some_iff.mp H
                                    obtain ⟨⟨t325, t326⟩, A440, H⟩ := H
                                    replace H : (if 0 ≤ a3 then (if a3 ≤ (t310.length : Int) then ((chars_Join.f kj37 (t310.drop (a3 : Int).toNat) a1).bind fun bt331 => (if t326 = 0 then (if bt331.2 = 0 then (if a3 < (t310.length : Int) then (if (bt331.1.size : Int) < ((rdOf ByteArray.empty t310 a3).size : Int) then (some false) else ((chars_Replace.f kj37 a0 a1 a2 a3).bind fun bt334 => (if bt334.2.2 = 0 then (if bt334.2.1 = a3 then (if 0 ≤ ((rdOf ByteArray.empty t310 a3).size : Int) then (if ((rdOf ByteArray.empty t310 a3).size : Int) ≤ (bt331.1.size : Int) then (if t325.size + (bt331.1.extract (((rdOf ByteArray.empty t310 a3).size : Int) : Int).toNat bt331.1.size).size ≤ 9223372036854775807 then (some (bt334.1.toList == (t325 ++ (bt331.1.extract (((rdOf ByteArray.empty t310 a3).size : Int) : Int).toNat bt331.1.size)).toList)) else (none)) else (none)) else (none)) else (some false)) else (some false)))) else (none)) else (some false)) else (some false))) else (none)) else (none)) = some true := H
                                    have A44 := Aside0.mk A440
                                    clear A440
                                    by_cases c45 : 0 ≤ a3
                                    · rw [if_pos c45] at H
                                      have c45b0 := eq_true c45
                                      have c45b1 : decide (0 ≤ a3) = true := decide_eq_true c45
                                      clear c45
                                      by_cases c46 : a3 ≤ (t310.length : Int)
                                      · rw [if_pos c46] at H
                                        have c46b0 := eq_true c46
                                        have c46b1 : decide (a3 ≤ (t310.length : Int)) = true := decide_eq_true c46
                                        clear c46
                                        obtain ⟨y327, hy327⟩ : ∃ y_ : List ByteArray, y_ = (t310.drop (a3 : Int).toNat) := ⟨_, rfl⟩
                                        replace H : ((chars_Join.f kj37 y327 a1).bind fun bt331 => (if t326 = 0 then (if bt331.2 = 0 then (if a3 < (t310.length : Int) then (if (bt331.1.size : Int) < ((rdOf ByteArray.empty t310 a3).size : Int) then (some false) else ((chars_Replace.f kj37 a0 a1 a2 a3).bind fun bt334 => (if bt334.2.2 = 0 then (if bt334.2.1 = a3 then (if 0 ≤ ((rdOf ByteArray.empty t310 a3).size : Int) then (if ((rdOf ByteArray.empty t310 a3).size : Int) ≤ (bt331.1.size : Int) then (if t325.size + (bt331.1.extract (((rdOf ByteArray.empty t310 a3).size : Int) : Int).toNat bt331.1.size).size ≤ 9223372036854775807 then (some (bt334.1.toList == (t325 ++ (bt331.1.extract (((rdOf ByteArray.empty t310 a3).size : Int) : Int).toNat bt331.1.size)).toList)) else (none)) else (none)) else (none)) else (some false)) else (some false)))) else (none)) else (some false)) else (some false))) = some true := by first | (rw [hy327]; with_reducible exact H) | (have H2_ := (Option.bind_some _ _).symm.trans H; rw [hy327]; with_reducible exact H2_) | (have H2_ := (Option.bind_some _ _).symm.trans H; with_reducible exact H2_) | with_reducible exact H | (rw [hy327]; exact H) | exact H
                                        have Ny327 := Aside0.mk hy327
                                        clear hy327
                                        replace H := Option.bind_eq_some_iff.mp H
                                        obtain ⟨⟨t331, t332⟩, A470, H⟩ := H
                                        replace H : (if t326 = 0 then (if t332 = 0 then (if a3 < (t310.length : Int) then (if (t331.size : Int) < ((rdOf ByteArray.empty t310 a3).size : Int) then (some false) else ((chars_Replace.f kj37 a0 a1 a2 a3).bind fun bt334 => (if bt334.2.2 = 0 then (if bt334.2.1 = a3 then (if 0 ≤ ((rdOf ByteArray.empty t310 a3).size : Int) then (if ((rdOf ByteArray.empty t310 a3).size : Int) ≤ (t331.size : Int) then (if t325.size + (t331.extract (((rdOf ByteArray.empty t310 a3).size : Int) : Int).toNat t331.size).size ≤ 9223372036854775807 then (some (bt334.1.toList == (t325 ++ (t331.extract (((rdOf ByteArray.empty t310 a3).size : Int) : Int).toNat t331.size)).toList)) else (none)) else (none)) else (none)) else (some false)) else (some false)))) else (none)) else (some false)) else (some false)) = some true := H
                                        have A47 := Aside0.mk A470
                                        clear A470
                                        by_cases c48 : t326 = 0
                                        · rw [if_pos c48] at H
                                          have c48b0 : (t326 == 0) = true := beq_iff_eq.mpr c48
                                          have c48b1 : (t326 != 0) = false := bne_eq_false_iff_eq.mpr c48
                                          clear c48
                                          by_cases c49 : t332 = 0
                                          · rw [if_pos c49] at H
                                            have c49b0 : (t332 == 0) = true := beq_iff_eq.mpr c49
                                            have c49b1 : (t332 != 0) = false := bne_eq_false_iff_eq.mpr c49
                                            clear c49
                                            by_cases c50 : a3 < (t310.length : Int)
                                            · rw [if_pos c50] at H
                                              have c50b0 : decide (a3 < (t310.length : Int)) = true := decide_eq_true c50
                                              clear c50
                                              by_cases c51 : (t331.size : Int) < ((rdOf ByteArray.empty t310 a3).size : Int)
                                              · rw [if_pos c51] at H
                                                have c51b0 : decide ((t331.size : Int) < ((rdOf ByteArray.empty t310 a3).size : Int)) = true := decide_eq_true c51
                                                have c51b1 : decide (t331.size < (rdOf ByteArray.empty t310 a3).size) = true := decide_eq_true (Int.ofNat_lt.mp c51)
                                                clear c51
                                                exact absurd H (by simp)
                                              · rw [if_neg c51] at H
                                                have c51b0 : decide ((t331.size : Int) < ((rdOf ByteArray.empty t310 a3).size : Int)) = false := decide_eq_false c51
                                                have c51b1 : decide (t331.size < (rdOf ByteArray.empty t310 a3).size) = false := decide_eq_false (fun h => c51 (Int.ofNat_lt.mpr h))
                                                clear c51
                                                replace H := Option.bind_eq_some_iff.mp H
                                                obtain ⟨⟨t334, t335, t336⟩, A520, H⟩ := H
                                                replace H : (if t336 = 0 then (if t335 = a3 then (if 0 ≤ ((rdOf ByteArray.empty t310 a3).size : Int) then (if ((rdOf ByteArray.empty t310 a3).size : Int) ≤ (t331.size : Int) then (if t325.size + (t331.extract (((rdOf ByteArray.empty t310 a3).size : Int) : Int).toNat t331.size).size ≤ 9223372036854775807 then (some (t334.toList == (t325 ++ (t331.extract (((rdOf ByteArray.empty t310 a3).size : Int) : Int).toNat t331.size)).toList)) else (none)) else (none)) else (none)) else (some false)) else (some false)) = some true := H
                                                have A52 := Aside0.mk A520
                                                clear A520
                                                by_cases c53 : t336 = 0
                                                · rw [if_pos c53] at H
                                                  have c53b0 : (t336 == 0) = true := beq_iff_eq.mpr c53
                                                  have c53b1 : (t336 != 0) = false := bne_eq_false_iff_eq.mpr c53
                                                  clear c53
                                                  by_cases c54 : t335 = a3
                                                  · rw [if_pos c54] at H
                                                    have c54b0 : (t335 == a3) = true := beq_iff_eq.mpr c54
                                                    have c54b1 : (t335 != a3) = false := bne_eq_false_iff_eq.mpr c54
                                                    clear c54
                                                    by_cases c55 : 0 ≤ ((rdOf ByteArray.empty t310 a3).size : Int)
                                                    · rw [if_pos c55] at H
                                                      have c55b0 := eq_true c55
                                                      have c55b1 : decide (0 ≤ ((rdOf ByteArray.empty t310 a3).size : Int)) = true := decide_eq_true c55
                                                      clear c55
                                                      by_cases c56 : ((rdOf ByteArray.empty t310 a3).size : Int) ≤ (t331.size : Int)
                                                      · rw [if_pos c56] at H
                                                        have c56b0 := eq_true c56
                                                        have c56b1 : decide (((rdOf ByteArray.empty t310 a3).size : Int) ≤ (t331.size : Int)) = true := decide_eq_true c56
                                                        clear c56
                                                        by_cases c57 : t325.size + (t331.extract (((rdOf ByteArray.empty t310 a3).size : Int) : Int).toNat t331.size).size ≤ 9223372036854775807
                                                        · rw [if_pos c57] at H
                                                          have c57b0 := eq_true c57
                                                          have c57b1 : decide (t325.size + (t331.extract (((rdOf ByteArray.empty t310 a3).size : Int) : Int).toNat t331.size).size ≤ 9223372036854775807) = true := decide_eq_true c57
                                                          have c57b4 : (9223372036854775807 < t325.size + (t331.size - (rdOf ByteArray.empty t310 a3).size)) = False := eq_false (by have h_ := of_decide_eq_true c57b1; rw [ByteArray.size_extract, Int.toNat_natCast, Nat.min_self] at h_; omega)
                                                          try have c57b2 : (9223372036854775807 < t325.size + (t331.extract (((rdOf ByteArray.empty t310 a3).size : Int) : Int).toNat t331.size).size) = False := eq_false (Nat.not_lt.2 c57)
                                                          have HX := Aside0.mk (Option.some.inj H)
                                                          clear H
                                                          have q58 : ((ji41) : Int) ≤ ((t310.length : Int) : Int) := of_decide_eq_true (by first | (with_reducible assumption) | assumption)
                                                          obtain ⟨i058, hi058, _, hsz58, _⟩ := info_parts info9
                                                          have hroom58 : t310.length ≤ co24 := (Kd.R_reads' HO_12.out).2.1
                                                          have hC58 : Kd.C Kd.string _ Ao24 t310.length t310 := (Kd.R_reads' HO_12.out).2.2
                                                          have hcut58 := cut_to (P := Tryd.prog) 24 9 .i64 Tryd.underlying24 hi058 Ao24 t310.length co24 (ji41) (of_decide_eq_true (by first | (with_reducible assumption) | assumption)) q58 hroom58
                                                          have hr58 := Kd.C_take (m := ((ji41) : Int).toNat) hC58 (by omega)
                                                          have hy58 : y321.length = ((ji41) : Int).toNat := (by rw [Ny321.out, List.length_take]; omega)
                                                          rw [← Ny321.out] at hr58
                                                          rw [← hy58] at hcut58
                                                          have HR324 := Aside0.mk hr58
                                                          have HC324 := Aside0.mk (show y321.length ≤ co24 from by omega)
                                                          clear hr58 hC58 hroom58 hi058 hsz58
                                                          have KY58 := Aside0.mk hy58
                                                          clear hy58
                                                          have KL58 := Aside0.mk (show ((ji41) : Int).toNat ≤ t310.length from by omega)
                                                          replace q58 := eq_true q58
                                                          go_wp2_with (first | ((with_reducible refine gate_callee (f := 13) rfl ?_); refine goesL_ (some 136) rfl rfl Tryd.func13 (by kernel_rfl) rfl #[.slice Ao24 y321.length co24, .string a2] rfl (by (try simp only [List.map_toArray, List.map_cons, List.map_nil]); first | done | rfl | (simp only [List.length_drop, List.length_take]; rfl)) ?_; (with_reducible refine (chars_Join.calls kj37 _ _ y321 a2 t325 t326 _ ?side1 ?side2 ?side3 A44.out).mono ?_); (case side1 => repeat (first | exact (by repeat (first | (with_reducible exact HR324.out) | (with_reducible refine Kd.C_alloc ?_ _) | (with_reducible refine Kd.C_drewN ?_ _) | (with_reducible refine Kd.C_drew ?_) | exact HR324.out)) | (with_reducible refine Kd.C_alloc ?_ _) | (with_reducible refine Kd.C_drewN ?_ _) | (with_reducible refine Kd.C_drew ?_))); (case side2 => exact HC324.out); (case side3 => exact GW.below HG.out (by repeat (first | (with_reducible first | exact HB.out | apply below_alloc | apply pw_below_drewN | apply below_drew1) | exact HB.out))); rintro e w59 ⟨rfl, hb⟩; refine ⟨_, rfl, ?_⟩; have n0_ := Aside0.mk (Kd.R_below (by (with_reducible repeat (first | apply Kd.R_alloc | apply Kd.R_drewN | apply Kd.R_drew)); exact HO_12.out) hb); have n1_ := Aside0.mk (Kd.C_below (by repeat (first | (with_reducible exact HR324.out) | (with_reducible refine Kd.C_alloc ?_ _) | (with_reducible refine Kd.C_drewN ?_ _) | (with_reducible refine Kd.C_drew ?_) | exact HR324.out)) hb); have n2_ := Aside0.mk (below_step (by repeat (first | (with_reducible first | exact HB.out | apply below_alloc | apply pw_below_drewN | apply below_drew1) | exact HB.out)) hb); clear HO_12; clear HR324; clear HB; have HO_12 := n0_; have HR324 := n1_; have HB := n2_; clear n0_ n1_ n2_; (try clear hb); (try clear hb2); (try clear hk); (try clear hi); have q60 : (a3 : Int) ≤ ((t310.length : Int) : Int) := of_decide_eq_true (by first | (with_reducible assumption) | assumption); obtain ⟨i060, hi060, _, hsz60, _⟩ := info_parts info9; have hroom60 : t310.length ≤ co24 := (Kd.R_reads' HO_12.out).2.1; have hC60 : Kd.C Kd.string _ Ao24 t310.length t310 := (Kd.R_reads' HO_12.out).2.2; have q060 : (0 : Int) ≤ (a3 : Int) := of_decide_eq_true (by first | (with_reducible assumption) | assumption); have hcut60 := cut_from (P := Tryd.prog) 24 9 .i64 Tryd.underlying24 hi060 1 hsz60 Ao24 t310.length co24 a3 q060 q60; have hr60 := Kd.C_drop (m := (a3 : Int).toNat) (c := co24) hC60 (by omega) hroom60; obtain ⟨A60, hA60⟩ : ∃ A1, A1 = (if co24 = (a3 : Int).toNat then Ao24 else (Ao24 : Option Addr).map (·.add ((a3 : Int).toNat * 1))) := ⟨_, rfl⟩; obtain ⟨c60, hc60⟩ : ∃ c1, c1 = co24 - (a3 : Int).toNat := ⟨_, rfl⟩; have hy60 : y327.length = t310.length - (a3 : Int).toNat := (by rw [Ny327.out, List.length_drop] <;> omega); rw [show (t310).drop (a3 : Int).toNat = y327 from Ny327.out.symm] at hr60; replace hr60 : Kd.C Kd.string _ A60 y327.length y327 := (by rw [hA60]; exact hr60); rw [← hy60, ← hA60, ← hc60] at hcut60; have HR330 := Aside0.mk hr60; have HC330 := Aside0.mk (show y327.length ≤ c60 from by rw [hy60, hc60]; exact Nat.sub_le_sub_right hroom60 _); clear hr60 hC60 hroom60 hi060 hsz60 hc60; have KY60 := Aside0.mk hy60; have KA60 := Aside0.mk hA60; clear hy60 hA60; have KL60 := Aside0.mk (show (a3 : Int).toNat ≤ t310.length from by omega); replace q60 := eq_true q60) | ((with_reducible refine gate_callee (f := 13) rfl ?_); refine goesL_ (some 144) rfl rfl Tryd.func13 (by kernel_rfl) rfl #[.slice A60 y327.length c60, .string a1] rfl (by (try simp only [List.map_toArray, List.map_cons, List.map_nil]); first | done | rfl | (simp only [List.length_drop, List.length_take]; rfl)) ?_; (with_reducible refine (chars_Join.calls kj37 _ _ y327 a1 t331 t332 _ ?side1 ?side2 ?side3 A47.out).mono ?_); (case side1 => repeat (first | exact (by repeat (first | (with_reducible exact HR330.out) | (with_reducible refine Kd.C_alloc ?_ _) | (with_reducible refine Kd.C_drewN ?_ _) | (with_reducible refine Kd.C_drew ?_) | exact HR330.out)) | (with_reducible refine Kd.C_alloc ?_ _) | (with_reducible refine Kd.C_drewN ?_ _) | (with_reducible refine Kd.C_drew ?_))); (case side2 => exact HC330.out); (case side3 => exact GW.below HG.out (by repeat (first | (with_reducible first | exact HB.out | apply below_alloc | apply pw_below_drewN | apply below_drew1) | exact HB.out))); rintro e w61 ⟨rfl, hb⟩; refine ⟨_, rfl, ?_⟩; have n0_ := Aside0.mk (Kd.R_below (by (with_reducible repeat (first | apply Kd.R_alloc | apply Kd.R_drewN | apply Kd.R_drew)); exact HO_12.out) hb); have n1_ := Aside0.mk (Kd.C_below (by repeat (first | (with_reducible exact HR324.out) | (with_reducible refine Kd.C_alloc ?_ _) | (with_reducible refine Kd.C_drewN ?_ _) | (with_reducible refine Kd.C_drew ?_) | exact HR324.out)) hb); have n2_ := Aside0.mk (Kd.C_below (by repeat (first | (with_reducible exact HR330.out) | (with_reducible refine Kd.C_alloc ?_ _) | (with_reducible refine Kd.C_drewN ?_ _) | (with_reducible refine Kd.C_drew ?_) | exact HR330.out)) hb); have n3_ := Aside0.mk (below_step (by repeat (first | (with_reducible first | exact HB.out | apply below_alloc | apply pw_below_drewN | apply below_drew1) | exact HB.out)) hb); clear HO_12; clear HR324; clear HR330; clear HB; have HO_12 := n0_; have HR324 := n1_; have HR330 := n2_; have HB := n3_; clear n0_ n1_ n2_ n3_; (try clear hb); (try clear hb2); (try clear hk); (try clear hi); have p333 : 0 ≤ (a3 : Int) := of_decide_eq_true (by first | (with_reducible assumption) | assumption); have q333 : a3 < (t310.length : Int) := of_decide_eq_true (by first | (with_reducible assumption) | assumption); obtain ⟨ad333, e333, hx333_0⟩ := Kd.at_string (Kd.R_reads' HO_12.out).2.2 a3 p333 q333; cases e333; replace p333 := eq_true p333; replace q333 := eq_true q333) | ((with_reducible refine gate_callee (f := 18) rfl ?_); refine goesL_ (some 168) rfl rfl Tryd.func18 (by kernel_rfl) rfl #[.string a0, .string a1, .string a2, .int .i64 a3] rfl (by (try simp only [List.map_toArray, List.map_cons, List.map_nil]); first | done | rfl | (simp only [List.length_drop, List.length_take]; rfl)) ?_; (with_reducible refine (chars_Replace.calls kj37 a0 a1 a2 a3 t334 t335 t336 _ ?side1 A52.out).mono ?_); (case side1 => exact GW.below HG.out (by repeat (first | (with_reducible first | exact HB.out | apply below_alloc | apply pw_below_drewN | apply below_drew1) | exact HB.out))); rintro e w62 ⟨rfl, hb⟩; refine ⟨_, rfl, ?_⟩; have n0_ := Aside0.mk (Kd.R_below (by (with_reducible repeat (first | apply Kd.R_alloc | apply Kd.R_drewN | apply Kd.R_drew)); exact HO_12.out) hb); have n1_ := Aside0.mk (Kd.C_below (by repeat (first | (with_reducible exact HR324.out) | (with_reducible refine Kd.C_alloc ?_ _) | (with_reducible refine Kd.C_drewN ?_ _) | (with_reducible refine Kd.C_drew ?_) | exact HR324.out)) hb); have n2_ := Aside0.mk (Kd.C_below (by repeat (first | (with_reducible exact HR330.out) | (with_reducible refine Kd.C_alloc ?_ _) | (with_reducible refine Kd.C_drewN ?_ _) | (with_reducible refine Kd.C_drew ?_) | exact HR330.out)) hb); have n3_ := Aside0.mk (below_step (by repeat (first | (with_reducible first | exact HB.out | apply below_alloc | apply pw_below_drewN | apply below_drew1) | exact HB.out)) hb); clear HO_12; clear HR324; clear HR330; clear HB; have HO_12 := n0_; have HR324 := n1_; have HR330 := n2_; have HB := n3_; clear n0_ n1_ n2_ n3_; (try clear hb); (try clear hb2); (try clear hk); (try clear hi); have p337 : 0 ≤ (a3 : Int) := of_decide_eq_true (by first | (with_reducible assumption) | assumption); have q337 : a3 < (t310.length : Int) := of_decide_eq_true (by first | (with_reducible assumption) | assumption); obtain ⟨ad337, e337, hx337_0⟩ := Kd.at_string (Kd.R_reads' HO_12.out).2.2 a3 p337 q337; obtain rfl : ad333 = ad337 := (by injection e337); replace p337 := eq_true p337; replace q337 := eq_true q337))
                                                          go_ret
                                                          exact ⟨by first | exact congrArg (fun b_ => Ending.returned (Value.bool b_)) HX.out | (have hx_ := HX.out; simp at hx_ ⊢; done) | (have hx_ := HX.out; simp at hx_ ⊢; exact hx_) | (have hx_ := HX.out; simp_all) | (simp only [← hji41]; first | rfl | (simp [errW_none, errW_some] <;> rfl)) | (simp [*, errW_none, errW_some] <;> rfl), by repeat (first | (with_reducible first | exact HB.out | apply below_alloc | apply pw_below_drewN | apply below_drew1) | exact HB.out)⟩
                                                        · rw [if_neg c57] at H
                                                          exact absurd H (by simp)
                                                      · rw [if_neg c56] at H
                                                        exact absurd H (by simp)
                                                    · rw [if_neg c55] at H
                                                      exact absurd H (by simp)
                                                  · rw [if_neg c54] at H
                                                    have c54b0 : (t335 == a3) = false := beq_eq_false_iff_ne.mpr c54
                                                    have c54b1 : (t335 != a3) = true := bne_iff_ne.mpr c54
                                                    exact absurd H (by simp)
                                                · rw [if_neg c53] at H
                                                  have c53b0 : (t336 == 0) = false := beq_eq_false_iff_ne.mpr c53
                                                  have c53b1 : (t336 != 0) = true := bne_iff_ne.mpr c53
                                                  exact absurd H (by simp)
                                            · rw [if_neg c50] at H
                                              exact absurd H (by simp)
                                          · rw [if_neg c49] at H
                                            have c49b0 : (t332 == 0) = false := beq_eq_false_iff_ne.mpr c49
                                            have c49b1 : (t332 != 0) = true := bne_iff_ne.mpr c49
                                            exact absurd H (by simp)
                                        · rw [if_neg c48] at H
                                          have c48b0 : (t326 == 0) = false := beq_eq_false_iff_ne.mpr c48
                                          have c48b1 : (t326 != 0) = true := bne_iff_ne.mpr c48
                                          exact absurd H (by simp)
                                      · rw [if_neg c46] at H
                                        exact absurd H (by simp)
                                    · rw [if_neg c45] at H
                                      exact absurd H (by simp)
                                  · rw [if_neg c43] at H
                                    exact absurd H (by simp)
                                · rw [if_neg c42] at H
                                  exact absurd H (by simp)
end Go.Proofs.YtdeannaaafffbaaDoor.ECd
