-- Written by eprint.py (a program of this session's, over the kit's print), not by hand.
import Derived.Test.YtcgjfckhnpimbaaDoorEScanx0
import Derived.Test.YtcgjfckhnpimbaaDoorEScanx11
namespace Go.Proofs.YtcgjfckhnpimbaaDoor.EScan
open Go.RowKit Go.Proofs.YtcgjfckhnpimbaaDoorW.PrintWords Go.Proofs.YtcgjfckhnpimbaaDoorW.PrintLast Go.Proofs.YtcgjfckhnpimbaaDoorW.PrintMore
attribute [local go_sem] max2_int min2_int max_two min_two max_three min_three max_four min_four   -- for this text's walks alone
set_option linter.unusedVariables false
set_option linter.unusedSimpArgs false

/-! ### abacuslaw08_blanks: function 14 -/
def abacuslaw08_blanks.l0 : Nat → Int → Option (Bool)
  | 0, _ => none
  | k + 1, x1 => if x1 < 256 then ((scan_Blank.f ((x1) % 256)).bind fun t178 => (if x1 = 9 then (if (t178 != true) = true then (some false) else (abacuslaw08_blanks.l0 k (wrap64 (x1 + 1)))) else (if x1 = 10 then (if (t178 != true) = true then (some false) else (abacuslaw08_blanks.l0 k (wrap64 (x1 + 1)))) else (if x1 = 11 then (if (t178 != true) = true then (some false) else (abacuslaw08_blanks.l0 k (wrap64 (x1 + 1)))) else (if x1 = 12 then (if (t178 != true) = true then (some false) else (abacuslaw08_blanks.l0 k (wrap64 (x1 + 1)))) else (if x1 = 13 then (if (t178 != true) = true then (some false) else (abacuslaw08_blanks.l0 k (wrap64 (x1 + 1)))) else (if (t178 != (x1 == 32)) = true then (some false) else (abacuslaw08_blanks.l0 k (wrap64 (x1 + 1)))))))))) else (some true)
def abacuslaw08_blanks.f (k : Nat)  : Option (Bool) := abacuslaw08_blanks.l0 k 0
theorem abacuslaw08_blanks.mono_l : ∀ k, (∀ y0, LeO (abacuslaw08_blanks.l0 k y0) (abacuslaw08_blanks.l0 (k + 1) y0))
  | 0 => fun _ r h => by simp [abacuslaw08_blanks.l0] at h
  | k + 1 => by
    have ih0 := abacuslaw08_blanks.mono_l k
    · intro y0
      unfold abacuslaw08_blanks.l0
      repeat' first
      | (with_reducible exact ih0 _)
      | (with_reducible exact LeO.refl _)
      | (with_reducible exact LeO.none _)
      | (with_reducible refine LeO.ite ?_ ?_)
      | (with_reducible refine LeO.bind ?_ (fun _ => ?_))
      | exact ih0 _
      | exact LeO.none _
      | refine LeO.ite ?_ ?_
      | refine LeO.bind ?_ (fun _ => ?_)
theorem abacuslaw08_blanks.mono : ∀ k, LeO (abacuslaw08_blanks.f k ) (abacuslaw08_blanks.f (k + 1) ) := by
  intro  k
  have ih0 := abacuslaw08_blanks.mono_l k
  unfold abacuslaw08_blanks.f
  repeat' first
      | (with_reducible exact ih0 _)
      | (with_reducible exact LeO.refl _)
      | (with_reducible exact LeO.none _)
      | (with_reducible refine LeO.ite ?_ ?_)
      | (with_reducible refine LeO.bind ?_ (fun _ => ?_))
      | exact ih0 _
      | exact LeO.none _
      | refine LeO.ite ?_ ?_
      | refine LeO.bind ?_ (fun _ => ?_)
set_option maxHeartbeats 8000000 in
set_option maxRecDepth 100000 in
theorem abacuslaw08_blanks.calls (k : Nat)  (r : Bool) (w : World) (h : abacuslaw08_blanks.f k  = some r) :
    Calls Tryd.prog 14 #[] w fun e w' => e = .returned (.bool r) ∧ Drawn0 w w' := by
  have H : (abacuslaw08_blanks.l0 k 0) = some r := h
  clear h
  have H' := Aside0.mk H
  clear H
  go_enter Tryd.func14, Tryd.ntmps14
  go_wp2
  go_loopg [1] k (fun kq v1 w' => ∃ (x1_1 : Int), v1 = .int .i64 x1_1 ∧ Aside0 (abacuslaw08_blanks.l0 kq x1_1 = some r) ∧ Aside0 (kq ≤ k) ∧ Drawn0 w w')
  case atStart => exact ⟨(0), (by first | rfl | (simp; done) | (simp [*]; done)), H', ⟨Nat.le_refl _⟩, by repeat (first | exact Drawn0.refl _ | apply Drawn0.step)⟩
  case round =>
    clear H'
    obtain ⟨x1_1, rfl, HA, HK1, ⟨m1, rfl⟩⟩ := hrel
    cases gk with
    | zero => exact absurd HA.out (by simp [abacuslaw08_blanks.l0])
    | succ k1 =>
      have H := HA.out
      clear HA
      simp only [abacuslaw08_blanks.l0] at H
      by_cases c1 : x1_1 < 256
      · rw [if_pos c1] at H
        have c1b0 : decide (x1_1 < 256) = true := decide_eq_true c1
        clear c1
        replace H := Option.bind_eq_some_iff.mp H
        obtain ⟨t178, A20, H⟩ := H
        replace H : (if x1_1 = 9 then (if (t178 != true) = true then (some false) else (abacuslaw08_blanks.l0 k1 (wrap64 (x1_1 + 1)))) else (if x1_1 = 10 then (if (t178 != true) = true then (some false) else (abacuslaw08_blanks.l0 k1 (wrap64 (x1_1 + 1)))) else (if x1_1 = 11 then (if (t178 != true) = true then (some false) else (abacuslaw08_blanks.l0 k1 (wrap64 (x1_1 + 1)))) else (if x1_1 = 12 then (if (t178 != true) = true then (some false) else (abacuslaw08_blanks.l0 k1 (wrap64 (x1_1 + 1)))) else (if x1_1 = 13 then (if (t178 != true) = true then (some false) else (abacuslaw08_blanks.l0 k1 (wrap64 (x1_1 + 1)))) else (if (t178 != (x1_1 == 32)) = true then (some false) else (abacuslaw08_blanks.l0 k1 (wrap64 (x1_1 + 1))))))))) = some r := H
        have A2 := Aside0.mk A20
        clear A20
        by_cases c3 : x1_1 = 9
        · rw [if_pos c3] at H
          have c3b0 : (x1_1 == 9) = true := beq_iff_eq.mpr c3
          have c3b1 : (x1_1 != 9) = false := bne_eq_false_iff_eq.mpr c3
          clear c3
          by_cases c4 : (t178 != true) = true
          · rw [if_pos c4] at H
            have c4b0 : (t178 != true) = true := c4
            (try (have c4b1 : decide (t178 = true) = false := by simpa using c4))
            (try (have c4b2 : (t178 == true) = false := by simpa using c4))
            (try (have c4b3 : ¬ (t178 = true) := by simpa using c4))
            clear c4
            obtain rfl := Option.some.inj H
            go_wp2_with (first | ((with_reducible refine gate_callee (f := 28) rfl ?_); refine goesL_ (some 8) rfl rfl Tryd.func28 (by kernel_rfl) rfl #[.int .u8 ((x1_1) % 256)] rfl (by (try simp only [List.map_toArray, List.map_cons, List.map_nil]); first | done | rfl | (simp only [List.length_drop, List.length_take]; rfl)) ?_; (with_reducible refine (scan_Blank.calls ((x1_1) % 256) t178 _ A2.out).mono ?_); rintro e w' ⟨rfl, ⟨nd, rfl⟩⟩; refine ⟨_, rfl, ?_⟩))
            go_ret
            exact ⟨by first | rfl | (simp; done) | (simp [*]; done), by repeat (first | exact Drawn0.refl _ | apply Drawn0.step)⟩
          · rw [if_neg c4] at H
            have c4b0 : (t178 != true) = false := by simpa using c4
            (try (have c4b1 : decide (t178 = true) = true := by simpa using c4))
            (try (have c4b2 : (t178 == true) = true := by simpa using c4))
            clear c4
            have H' := Aside0.mk H
            clear H
            go_wp2_with (first | ((with_reducible refine gate_callee (f := 28) rfl ?_); refine goesL_ (some 8) rfl rfl Tryd.func28 (by kernel_rfl) rfl #[.int .u8 ((x1_1) % 256)] rfl (by (try simp only [List.map_toArray, List.map_cons, List.map_nil]); first | done | rfl | (simp only [List.length_drop, List.length_take]; rfl)) ?_; (with_reducible refine (scan_Blank.calls ((x1_1) % 256) t178 _ A2.out).mono ?_); rintro e w' ⟨rfl, ⟨nd, rfl⟩⟩; refine ⟨_, rfl, ?_⟩))
            go_roundg k1
            case measure => have := HK1.out; omega
            case rel => exact ⟨(wrap64 (x1_1 + 1)), (by first | rfl | (simp; done) | (simp [*]; done)), H', ⟨by have := HK1.out; omega⟩, by repeat (first | exact Drawn0.refl _ | apply Drawn0.step)⟩
        · rw [if_neg c3] at H
          have c3b0 : (x1_1 == 9) = false := beq_eq_false_iff_ne.mpr c3
          have c3b1 : (x1_1 != 9) = true := bne_iff_ne.mpr c3
          by_cases c5 : x1_1 = 10
          · rw [if_pos c5] at H
            have c5b0 : (x1_1 == 10) = true := beq_iff_eq.mpr c5
            have c5b1 : (x1_1 != 10) = false := bne_eq_false_iff_eq.mpr c5
            clear c5
            by_cases c6 : (t178 != true) = true
            · rw [if_pos c6] at H
              have c6b0 : (t178 != true) = true := c6
              (try (have c6b1 : decide (t178 = true) = false := by simpa using c6))
              (try (have c6b2 : (t178 == true) = false := by simpa using c6))
              (try (have c6b3 : ¬ (t178 = true) := by simpa using c6))
              clear c6
              obtain rfl := Option.some.inj H
              go_wp2_with (first | ((with_reducible refine gate_callee (f := 28) rfl ?_); refine goesL_ (some 8) rfl rfl Tryd.func28 (by kernel_rfl) rfl #[.int .u8 ((x1_1) % 256)] rfl (by (try simp only [List.map_toArray, List.map_cons, List.map_nil]); first | done | rfl | (simp only [List.length_drop, List.length_take]; rfl)) ?_; (with_reducible refine (scan_Blank.calls ((x1_1) % 256) t178 _ A2.out).mono ?_); rintro e w' ⟨rfl, ⟨nd, rfl⟩⟩; refine ⟨_, rfl, ?_⟩))
              go_ret
              exact ⟨by first | rfl | (simp; done) | (simp [*]; done), by repeat (first | exact Drawn0.refl _ | apply Drawn0.step)⟩
            · rw [if_neg c6] at H
              have c6b0 : (t178 != true) = false := by simpa using c6
              (try (have c6b1 : decide (t178 = true) = true := by simpa using c6))
              (try (have c6b2 : (t178 == true) = true := by simpa using c6))
              clear c6
              have H' := Aside0.mk H
              clear H
              go_wp2_with (first | ((with_reducible refine gate_callee (f := 28) rfl ?_); refine goesL_ (some 8) rfl rfl Tryd.func28 (by kernel_rfl) rfl #[.int .u8 ((x1_1) % 256)] rfl (by (try simp only [List.map_toArray, List.map_cons, List.map_nil]); first | done | rfl | (simp only [List.length_drop, List.length_take]; rfl)) ?_; (with_reducible refine (scan_Blank.calls ((x1_1) % 256) t178 _ A2.out).mono ?_); rintro e w' ⟨rfl, ⟨nd, rfl⟩⟩; refine ⟨_, rfl, ?_⟩))
              go_roundg k1
              case measure => have := HK1.out; omega
              case rel => exact ⟨(wrap64 (x1_1 + 1)), (by first | rfl | (simp; done) | (simp [*]; done)), H', ⟨by have := HK1.out; omega⟩, by repeat (first | exact Drawn0.refl _ | apply Drawn0.step)⟩
          · rw [if_neg c5] at H
            have c5b0 : (x1_1 == 10) = false := beq_eq_false_iff_ne.mpr c5
            have c5b1 : (x1_1 != 10) = true := bne_iff_ne.mpr c5
            by_cases c7 : x1_1 = 11
            · rw [if_pos c7] at H
              have c7b0 : (x1_1 == 11) = true := beq_iff_eq.mpr c7
              have c7b1 : (x1_1 != 11) = false := bne_eq_false_iff_eq.mpr c7
              clear c7
              by_cases c8 : (t178 != true) = true
              · rw [if_pos c8] at H
                have c8b0 : (t178 != true) = true := c8
                (try (have c8b1 : decide (t178 = true) = false := by simpa using c8))
                (try (have c8b2 : (t178 == true) = false := by simpa using c8))
                (try (have c8b3 : ¬ (t178 = true) := by simpa using c8))
                clear c8
                obtain rfl := Option.some.inj H
                go_wp2_with (first | ((with_reducible refine gate_callee (f := 28) rfl ?_); refine goesL_ (some 8) rfl rfl Tryd.func28 (by kernel_rfl) rfl #[.int .u8 ((x1_1) % 256)] rfl (by (try simp only [List.map_toArray, List.map_cons, List.map_nil]); first | done | rfl | (simp only [List.length_drop, List.length_take]; rfl)) ?_; (with_reducible refine (scan_Blank.calls ((x1_1) % 256) t178 _ A2.out).mono ?_); rintro e w' ⟨rfl, ⟨nd, rfl⟩⟩; refine ⟨_, rfl, ?_⟩))
                go_ret
                exact ⟨by first | rfl | (simp; done) | (simp [*]; done), by repeat (first | exact Drawn0.refl _ | apply Drawn0.step)⟩
              · rw [if_neg c8] at H
                have c8b0 : (t178 != true) = false := by simpa using c8
                (try (have c8b1 : decide (t178 = true) = true := by simpa using c8))
                (try (have c8b2 : (t178 == true) = true := by simpa using c8))
                clear c8
                have H' := Aside0.mk H
                clear H
                go_wp2_with (first | ((with_reducible refine gate_callee (f := 28) rfl ?_); refine goesL_ (some 8) rfl rfl Tryd.func28 (by kernel_rfl) rfl #[.int .u8 ((x1_1) % 256)] rfl (by (try simp only [List.map_toArray, List.map_cons, List.map_nil]); first | done | rfl | (simp only [List.length_drop, List.length_take]; rfl)) ?_; (with_reducible refine (scan_Blank.calls ((x1_1) % 256) t178 _ A2.out).mono ?_); rintro e w' ⟨rfl, ⟨nd, rfl⟩⟩; refine ⟨_, rfl, ?_⟩))
                go_roundg k1
                case measure => have := HK1.out; omega
                case rel => exact ⟨(wrap64 (x1_1 + 1)), (by first | rfl | (simp; done) | (simp [*]; done)), H', ⟨by have := HK1.out; omega⟩, by repeat (first | exact Drawn0.refl _ | apply Drawn0.step)⟩
            · rw [if_neg c7] at H
              have c7b0 : (x1_1 == 11) = false := beq_eq_false_iff_ne.mpr c7
              have c7b1 : (x1_1 != 11) = true := bne_iff_ne.mpr c7
              by_cases c9 : x1_1 = 12
              · rw [if_pos c9] at H
                have c9b0 : (x1_1 == 12) = true := beq_iff_eq.mpr c9
                have c9b1 : (x1_1 != 12) = false := bne_eq_false_iff_eq.mpr c9
                clear c9
                by_cases c10 : (t178 != true) = true
                · rw [if_pos c10] at H
                  have c10b0 : (t178 != true) = true := c10
                  (try (have c10b1 : decide (t178 = true) = false := by simpa using c10))
                  (try (have c10b2 : (t178 == true) = false := by simpa using c10))
                  (try (have c10b3 : ¬ (t178 = true) := by simpa using c10))
                  clear c10
                  obtain rfl := Option.some.inj H
                  go_wp2_with (first | ((with_reducible refine gate_callee (f := 28) rfl ?_); refine goesL_ (some 8) rfl rfl Tryd.func28 (by kernel_rfl) rfl #[.int .u8 ((x1_1) % 256)] rfl (by (try simp only [List.map_toArray, List.map_cons, List.map_nil]); first | done | rfl | (simp only [List.length_drop, List.length_take]; rfl)) ?_; (with_reducible refine (scan_Blank.calls ((x1_1) % 256) t178 _ A2.out).mono ?_); rintro e w' ⟨rfl, ⟨nd, rfl⟩⟩; refine ⟨_, rfl, ?_⟩))
                  go_ret
                  exact ⟨by first | rfl | (simp; done) | (simp [*]; done), by repeat (first | exact Drawn0.refl _ | apply Drawn0.step)⟩
                · rw [if_neg c10] at H
                  have c10b0 : (t178 != true) = false := by simpa using c10
                  (try (have c10b1 : decide (t178 = true) = true := by simpa using c10))
                  (try (have c10b2 : (t178 == true) = true := by simpa using c10))
                  clear c10
                  have H' := Aside0.mk H
                  clear H
                  go_wp2_with (first | ((with_reducible refine gate_callee (f := 28) rfl ?_); refine goesL_ (some 8) rfl rfl Tryd.func28 (by kernel_rfl) rfl #[.int .u8 ((x1_1) % 256)] rfl (by (try simp only [List.map_toArray, List.map_cons, List.map_nil]); first | done | rfl | (simp only [List.length_drop, List.length_take]; rfl)) ?_; (with_reducible refine (scan_Blank.calls ((x1_1) % 256) t178 _ A2.out).mono ?_); rintro e w' ⟨rfl, ⟨nd, rfl⟩⟩; refine ⟨_, rfl, ?_⟩))
                  go_roundg k1
                  case measure => have := HK1.out; omega
                  case rel => exact ⟨(wrap64 (x1_1 + 1)), (by first | rfl | (simp; done) | (simp [*]; done)), H', ⟨by have := HK1.out; omega⟩, by repeat (first | exact Drawn0.refl _ | apply Drawn0.step)⟩
              · rw [if_neg c9] at H
                have c9b0 : (x1_1 == 12) = false := beq_eq_false_iff_ne.mpr c9
                have c9b1 : (x1_1 != 12) = true := bne_iff_ne.mpr c9
                by_cases c11 : x1_1 = 13
                · rw [if_pos c11] at H
                  have c11b0 : (x1_1 == 13) = true := beq_iff_eq.mpr c11
                  have c11b1 : (x1_1 != 13) = false := bne_eq_false_iff_eq.mpr c11
                  clear c11
                  by_cases c12 : (t178 != true) = true
                  · rw [if_pos c12] at H
                    have c12b0 : (t178 != true) = true := c12
                    (try (have c12b1 : decide (t178 = true) = false := by simpa using c12))
                    (try (have c12b2 : (t178 == true) = false := by simpa using c12))
                    (try (have c12b3 : ¬ (t178 = true) := by simpa using c12))
                    clear c12
                    obtain rfl := Option.some.inj H
                    go_wp2_with (first | ((with_reducible refine gate_callee (f := 28) rfl ?_); refine goesL_ (some 8) rfl rfl Tryd.func28 (by kernel_rfl) rfl #[.int .u8 ((x1_1) % 256)] rfl (by (try simp only [List.map_toArray, List.map_cons, List.map_nil]); first | done | rfl | (simp only [List.length_drop, List.length_take]; rfl)) ?_; (with_reducible refine (scan_Blank.calls ((x1_1) % 256) t178 _ A2.out).mono ?_); rintro e w' ⟨rfl, ⟨nd, rfl⟩⟩; refine ⟨_, rfl, ?_⟩))
                    go_ret
                    exact ⟨by first | rfl | (simp; done) | (simp [*]; done), by repeat (first | exact Drawn0.refl _ | apply Drawn0.step)⟩
                  · rw [if_neg c12] at H
                    have c12b0 : (t178 != true) = false := by simpa using c12
                    (try (have c12b1 : decide (t178 = true) = true := by simpa using c12))
                    (try (have c12b2 : (t178 == true) = true := by simpa using c12))
                    clear c12
                    have H' := Aside0.mk H
                    clear H
                    go_wp2_with (first | ((with_reducible refine gate_callee (f := 28) rfl ?_); refine goesL_ (some 8) rfl rfl Tryd.func28 (by kernel_rfl) rfl #[.int .u8 ((x1_1) % 256)] rfl (by (try simp only [List.map_toArray, List.map_cons, List.map_nil]); first | done | rfl | (simp only [List.length_drop, List.length_take]; rfl)) ?_; (with_reducible refine (scan_Blank.calls ((x1_1) % 256) t178 _ A2.out).mono ?_); rintro e w' ⟨rfl, ⟨nd, rfl⟩⟩; refine ⟨_, rfl, ?_⟩))
                    go_roundg k1
                    case measure => have := HK1.out; omega
                    case rel => exact ⟨(wrap64 (x1_1 + 1)), (by first | rfl | (simp; done) | (simp [*]; done)), H', ⟨by have := HK1.out; omega⟩, by repeat (first | exact Drawn0.refl _ | apply Drawn0.step)⟩
                · rw [if_neg c11] at H
                  have c11b0 : (x1_1 == 13) = false := beq_eq_false_iff_ne.mpr c11
                  have c11b1 : (x1_1 != 13) = true := bne_iff_ne.mpr c11
                  by_cases c13 : (t178 != (x1_1 == 32)) = true
                  · rw [if_pos c13] at H
                    have c13b0 : (t178 != (x1_1 == 32)) = true := c13
                    (try (have c13b1 : decide (t178 = (x1_1 == 32)) = false := by simpa using c13))
                    (try (have c13b2 : (t178 == (x1_1 == 32)) = false := by simpa using c13))
                    (try (have c13b3 : ¬ (t178 = (x1_1 == 32)) := by simpa using c13))
                    clear c13
                    obtain rfl := Option.some.inj H
                    go_wp2_with (first | ((with_reducible refine gate_callee (f := 28) rfl ?_); refine goesL_ (some 8) rfl rfl Tryd.func28 (by kernel_rfl) rfl #[.int .u8 ((x1_1) % 256)] rfl (by (try simp only [List.map_toArray, List.map_cons, List.map_nil]); first | done | rfl | (simp only [List.length_drop, List.length_take]; rfl)) ?_; (with_reducible refine (scan_Blank.calls ((x1_1) % 256) t178 _ A2.out).mono ?_); rintro e w' ⟨rfl, ⟨nd, rfl⟩⟩; refine ⟨_, rfl, ?_⟩))
                    go_ret
                    exact ⟨by first | rfl | (simp; done) | (simp [*]; done), by repeat (first | exact Drawn0.refl _ | apply Drawn0.step)⟩
                  · rw [if_neg c13] at H
                    have c13b0 : (t178 != (x1_1 == 32)) = false := by simpa using c13
                    (try (have c13b1 : decide (t178 = (x1_1 == 32)) = true := by simpa using c13))
                    (try (have c13b2 : (t178 == (x1_1 == 32)) = true := by simpa using c13))
                    clear c13
                    have H' := Aside0.mk H
                    clear H
                    go_wp2_with (first | ((with_reducible refine gate_callee (f := 28) rfl ?_); refine goesL_ (some 8) rfl rfl Tryd.func28 (by kernel_rfl) rfl #[.int .u8 ((x1_1) % 256)] rfl (by (try simp only [List.map_toArray, List.map_cons, List.map_nil]); first | done | rfl | (simp only [List.length_drop, List.length_take]; rfl)) ?_; (with_reducible refine (scan_Blank.calls ((x1_1) % 256) t178 _ A2.out).mono ?_); rintro e w' ⟨rfl, ⟨nd, rfl⟩⟩; refine ⟨_, rfl, ?_⟩))
                    go_roundg k1
                    case measure => have := HK1.out; omega
                    case rel => exact ⟨(wrap64 (x1_1 + 1)), (by first | rfl | (simp; done) | (simp [*]; done)), H', ⟨by have := HK1.out; omega⟩, by repeat (first | exact Drawn0.refl _ | apply Drawn0.step)⟩
      · rw [if_neg c1] at H
        have c1b0 : decide (x1_1 < 256) = false := decide_eq_false c1
        clear c1
        obtain rfl := Option.some.inj H
        go_wp2
        go_ret
        exact ⟨by first | rfl | (simp; done) | (simp [*]; done), by repeat (first | exact Drawn0.refl _ | apply Drawn0.step)⟩

end Go.Proofs.YtcgjfckhnpimbaaDoor.EScan
