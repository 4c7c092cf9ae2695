/-
 A text of this session's own.
-/
import Derived.Test.YtdkejcadoepnnaaDoorTuA0
import Derived.Test.YtdkejcadoepnnaaDoorTuECcx0
import Derived.Test.YtdkejcadoepnnaaDoorTuECcx4
import Derived.Test.YtdkejcadoepnnaaDoorTuECcx5
namespace Go.Proofs.YtdkejcadoepnnaaDoor.ECc
open Go.RowKit Go.Proofs.YtdkejcadoepnnaaDoorW.PrintWords Go.Proofs.YtdkejcadoepnnaaDoorW.PrintLast Go.Proofs.YtdkejcadoepnnaaDoorW.PrintMore
attribute [local go_sem] max2_int min2_int max_two min_two max_three min_three max_four min_four   -- for this text's walks alone
set_option linter.unusedVariables false
set_option linter.unusedSimpArgs false
def code_operand.j0 : Nat → Int → Int → Int → Bool → Option (Bool)
 | 0, _, _, _, _ => none
 | k + 1, x1, x2, x11, x16 => if x16 = true then (some (decide (x1 ≥ 0))) else (if x11 = 3 then ((code_within.f x1 0 255).bind fun t103 => (some t103)) else (if x11 = 4 then ((code_within.f x1 0 63).bind fun t104 => (some t104)) else (if x11 = 5 then ((code_within.f x1 1 6).bind fun t105 => (some t105)) else (if x11 = 6 then ((code_within.f x1 1 4).bind fun t106 => (some t106)) else (if x11 = 7 then (if x1 = 10 then (some true) else (some (x1 == 11))) else (if x11 = 8 then ((code_within.f x1 1 6).bind fun t107 => (some t107)) else (if x11 = 9 then (some (decide (x1 ≥ 1))) else (if x11 = 10 then ((code_within.f x1 1 32768).bind fun t108 => (some t108)) else (if x11 = 11 then ((code_arity.f k x1).bind fun bt109 => (some (decide (bt109.1 ≤ bt109.2)))) else (if x11 = 12 then ((code_arity.f k x2).bind fun bt111 => ((code_within.f x1 bt111.1 bt111.2).bind fun t113 => (some t113))) else (some false)))))))))))
def code_operand.f (k : Nat) (a0 : Int) (a1 : Int) (a2 : Int) : Option (Bool) := if a0 = 0 then (some (a1 == 0)) else (if a0 = 1 then (code_operand.j0 k a1 a2 a0 (a0 == 1)) else (code_operand.j0 k a1 a2 a0 (a0 == 2)))
set_option maxHeartbeats 8000000 in
set_option maxRecDepth 100000 in
theorem code_operand.calls (k : Nat) (a0 : Int) (a1 : Int) (a2 : Int) (r : Bool) (w : World) (h : code_operand.f k a0 a1 a2 = some r) :
  Calls Tryd.prog 48 #[.int .i64 a0, .int .i64 a1, .int .i64 a2] w fun e w' => e = .returned (.bool r) ∧ Drawn0 w w' := by
 have H : (if a0 = 0 then (some (a1 == 0)) else (if a0 = 1 then (code_operand.j0 k a1 a2 a0 (a0 == 1)) else (code_operand.j0 k a1 a2 a0 (a0 == 2)))) = some r := h
 clear h
 by_cases c4 : a0 = 0
 ·rw [if_pos c4] at H
  have c4b0 : (a0 == 0) = true := beq_iff_eq.mpr c4
  have c4b1 : (a0 != 0) = false := bne_eq_false_iff_eq.mpr c4
  clear c4
  obtain rfl := Option.some.inj H
  go_enter Tryd.func48, Tryd.ntmps48
  go_wp2
  go_ret
  exact ⟨by first | rfl | (simp; done) | (simp [*]; done), by repeat (first | exact Drawn0.refl _ | apply Drawn0.step)⟩
 rw [if_neg c4] at H
 have c4b0 : (a0 == 0) = false := beq_eq_false_iff_ne.mpr c4
 have c4b1 : (a0 != 0) = true := bne_iff_ne.mpr c4
 have HC5 := Aside0.mk H
 clear H
 go_enter Tryd.func48, Tryd.ntmps48
 go_upto_if 16 with (fail)
 go_cut [16] (fun v16 wc => ∃ (kq : Nat) (x16_4 : Bool), v16 = .bool x16_4 ∧ Aside0 (code_operand.j0 kq a1 a2 a0 x16_4 = some r) ∧ Aside0 (kq ≤ k) ∧ Drawn0 w wc)
 case first =>
  have H := HC5.out
  clear HC5
  by_cases c6 : a0 = 1
  rotate_left
  ·rw [if_neg c6] at H
   have c6b0 : (a0 == 1) = false := beq_eq_false_iff_ne.mpr c6
   have c6b1 : (a0 != 1) = true := bne_iff_ne.mpr c6
   (first | rw [c6b0] | (simp only [i64_w, i32_w]; rw [c6b0]) | skip)
   have H' := Aside0.mk H
   clear H
   go_wp2
   go_meet
   case rel => exact ⟨_, ((a0 == 2)), tv, H', ⟨by first | omega | exact Nat.le_refl _⟩, by repeat (first | exact Drawn0.refl _ | apply Drawn0.step)⟩
  rw [if_pos c6] at H
  have c6b0 : (a0 == 1) = true := beq_iff_eq.mpr c6
  have c6b1 : (a0 != 1) = false := bne_eq_false_iff_eq.mpr c6
  clear c6
  (first | rw [c6b0] | (simp only [i64_w, i32_w]; rw [c6b0]) | skip)
  have H' := Aside0.mk H
  clear H
  go_wp2
  go_meet
  case rel => exact ⟨_, ((a0 == 1)), tv, H', ⟨by first | omega | exact Nat.le_refl _⟩, by repeat (first | exact Drawn0.refl _ | apply Drawn0.step)⟩
 case rest =>
  clear HC5
  try clear p2
  try clear c4
  try clear c4b0
  try clear c4b1
  try clear c6
  try clear c6b0
  try clear c6b1
  obtain ⟨kq, x16_4, rfl, HA, HJ4, ⟨mc4, rfl⟩⟩ := hcut
  cases kq with
  | zero => exact absurd HA.out (by simp [code_operand.j0])
  | succ kj4 =>
   have H := HA.out
   clear HA
   simp only [code_operand.j0] at H
   by_cases c7 : x16_4 = true
   ·subst c7
    have H1 : (some (decide (a1 ≥ 0))) = some r := by rw [if_pos rfl] at H; exact H
    clear H
    have H := H1
    clear H1
    obtain rfl := Option.some.inj H
    go_wp2
    go_ret
    exact ⟨by first | rfl | (simp; done) | (simp [*]; done), by repeat (first | exact Drawn0.refl _ | apply Drawn0.step)⟩
   replace c7 := Bool.eq_false_iff.mpr c7
   subst c7
   have H1 : (if a0 = 3 then ((code_within.f a1 0 255).bind fun t103 => (some t103)) else (if a0 = 4 then ((code_within.f a1 0 63).bind fun t104 => (some t104)) else (if a0 = 5 then ((code_within.f a1 1 6).bind fun t105 => (some t105)) else (if a0 = 6 then ((code_within.f a1 1 4).bind fun t106 => (some t106)) else (if a0 = 7 then (if a1 = 10 then (some true) else (some (a1 == 11))) else (if a0 = 8 then ((code_within.f a1 1 6).bind fun t107 => (some t107)) else (if a0 = 9 then (some (decide (a1 ≥ 1))) else (if a0 = 10 then ((code_within.f a1 1 32768).bind fun t108 => (some t108)) else (if a0 = 11 then ((code_arity.f kj4 a1).bind fun bt109 => (some (decide (bt109.1 ≤ bt109.2)))) else (if a0 = 12 then ((code_arity.f kj4 a2).bind fun bt111 => ((code_within.f a1 bt111.1 bt111.2).bind fun t113 => (some t113))) else (some false))))))))))) = some r := by rw [if_neg (show ¬ (false = true) by decide)] at H; exact H
   clear H
   have H := H1
   clear H1
   by_cases c8 : a0 = 3
   ·rw [if_pos c8] at H
    have c8b0 : (a0 == 3) = true := beq_iff_eq.mpr c8
    have c8b1 : (a0 != 3) = false := bne_eq_false_iff_eq.mpr c8
    clear c8
    replace H := Option.bind_eq_some_iff.mp H
    obtain ⟨t103, A90, H⟩ := H
    replace H : (some t103) = some r := H
    have A9 := Aside0.mk A90
    clear A90
    obtain rfl := Option.some.inj H
    go_wp2_with (first | ((with_reducible refine gate_callee (f := 47) rfl ?_); refine goesL_ (some 24) rfl rfl Tryd.func47 (by kernel_rfl) rfl #[.int .i64 a1, .int .i64 0, .int .i64 255] rfl ls ?_; (with_reducible refine (code_within.calls a1 0 255 t103 _ A9.out).mono ?_); rintro e w' ⟨rfl, ⟨nd, rfl⟩⟩; refine ⟨_, rfl, ?_⟩))
    go_ret
    exact ⟨by first | rfl | (simp; done) | (simp [*]; done), by repeat (first | exact Drawn0.refl _ | apply Drawn0.step)⟩
   rw [if_neg c8] at H
   have c8b0 : (a0 == 3) = false := beq_eq_false_iff_ne.mpr c8
   have c8b1 : (a0 != 3) = true := bne_iff_ne.mpr c8
   by_cases c10 : a0 = 4
   ·rw [if_pos c10] at H
    have c10b0 : (a0 == 4) = true := beq_iff_eq.mpr c10
    have c10b1 : (a0 != 4) = false := bne_eq_false_iff_eq.mpr c10
    clear c10
    replace H := Option.bind_eq_some_iff.mp H
    obtain ⟨t104, A110, H⟩ := H
    replace H : (some t104) = some r := H
    have A11 := Aside0.mk A110
    clear A110
    obtain rfl := Option.some.inj H
    go_wp2_with (first | ((with_reducible refine gate_callee (f := 47) rfl ?_); refine goesL_ (some 28) rfl rfl Tryd.func47 (by kernel_rfl) rfl #[.int .i64 a1, .int .i64 0, .int .i64 63] rfl ls ?_; (with_reducible refine (code_within.calls a1 0 63 t104 _ A11.out).mono ?_); rintro e w' ⟨rfl, ⟨nd, rfl⟩⟩; refine ⟨_, rfl, ?_⟩))
    go_ret
    exact ⟨by first | rfl | (simp; done) | (simp [*]; done), by repeat (first | exact Drawn0.refl _ | apply Drawn0.step)⟩
   rw [if_neg c10] at H
   have c10b0 : (a0 == 4) = false := beq_eq_false_iff_ne.mpr c10
   have c10b1 : (a0 != 4) = true := bne_iff_ne.mpr c10
   by_cases c12 : a0 = 5
   ·rw [if_pos c12] at H
    have c12b0 : (a0 == 5) = true := beq_iff_eq.mpr c12
    have c12b1 : (a0 != 5) = false := bne_eq_false_iff_eq.mpr c12
    clear c12
    replace H := Option.bind_eq_some_iff.mp H
    obtain ⟨t105, A130, H⟩ := H
    replace H : (some t105) = some r := H
    have A13 := Aside0.mk A130
    clear A130
    obtain rfl := Option.some.inj H
    go_wp2_with (first | ((with_reducible refine gate_callee (f := 47) rfl ?_); refine goesL_ (some 32) rfl rfl Tryd.func47 (by kernel_rfl) rfl #[.int .i64 a1, .int .i64 1, .int .i64 6] rfl ls ?_; (with_reducible refine (code_within.calls a1 1 6 t105 _ A13.out).mono ?_); rintro e w' ⟨rfl, ⟨nd, rfl⟩⟩; refine ⟨_, rfl, ?_⟩))
    go_ret
    exact ⟨by first | rfl | (simp; done) | (simp [*]; done), by repeat (first | exact Drawn0.refl _ | apply Drawn0.step)⟩
   rw [if_neg c12] at H
   have c12b0 : (a0 == 5) = false := beq_eq_false_iff_ne.mpr c12
   have c12b1 : (a0 != 5) = true := bne_iff_ne.mpr c12
   by_cases c14 : a0 = 6
   ·rw [if_pos c14] at H
    have c14b0 : (a0 == 6) = true := beq_iff_eq.mpr c14
    have c14b1 : (a0 != 6) = false := bne_eq_false_iff_eq.mpr c14
    clear c14
    replace H := Option.bind_eq_some_iff.mp H
    obtain ⟨t106, A150, H⟩ := H
    replace H : (some t106) = some r := H
    have A15 := Aside0.mk A150
    clear A150
    obtain rfl := Option.some.inj H
    go_wp2_with (first | ((with_reducible refine gate_callee (f := 47) rfl ?_); refine goesL_ (some 36) rfl rfl Tryd.func47 (by kernel_rfl) rfl #[.int .i64 a1, .int .i64 1, .int .i64 4] rfl ls ?_; (with_reducible refine (code_within.calls a1 1 4 t106 _ A15.out).mono ?_); rintro e w' ⟨rfl, ⟨nd, rfl⟩⟩; refine ⟨_, rfl, ?_⟩))
    go_ret
    exact ⟨by first | rfl | (simp; done) | (simp [*]; done), by repeat (first | exact Drawn0.refl _ | apply Drawn0.step)⟩
   rw [if_neg c14] at H
   have c14b0 : (a0 == 6) = false := beq_eq_false_iff_ne.mpr c14
   have c14b1 : (a0 != 6) = true := bne_iff_ne.mpr c14
   by_cases c16 : a0 = 7
   ·rw [if_pos c16] at H
    have c16b0 : (a0 == 7) = true := beq_iff_eq.mpr c16
    have c16b1 : (a0 != 7) = false := bne_eq_false_iff_eq.mpr c16
    clear c16
    by_cases c17 : a1 = 10
    rotate_left
    ·rw [if_neg c17] at H
     have c17b0 : (a1 == 10) = false := beq_eq_false_iff_ne.mpr c17
     have c17b1 : (a1 != 10) = true := bne_iff_ne.mpr c17
     obtain rfl := Option.some.inj H
     go_wp2
     go_ret
     exact ⟨by first | rfl | (simp; done) | (simp [*]; done), by repeat (first | exact Drawn0.refl _ | apply Drawn0.step)⟩
    rw [if_pos c17] at H
    have c17b0 : (a1 == 10) = true := beq_iff_eq.mpr c17
    have c17b1 : (a1 != 10) = false := bne_eq_false_iff_eq.mpr c17
    clear c17
    obtain rfl := Option.some.inj H
    go_wp2
    go_ret
    exact ⟨by first | rfl | (simp; done) | (simp [*]; done), by repeat (first | exact Drawn0.refl _ | apply Drawn0.step)⟩
   rw [if_neg c16] at H
   have c16b0 : (a0 == 7) = false := beq_eq_false_iff_ne.mpr c16
   have c16b1 : (a0 != 7) = true := bne_iff_ne.mpr c16
   by_cases c18 : a0 = 8
   ·rw [if_pos c18] at H
    have c18b0 : (a0 == 8) = true := beq_iff_eq.mpr c18
    have c18b1 : (a0 != 8) = false := bne_eq_false_iff_eq.mpr c18
    clear c18
    replace H := Option.bind_eq_some_iff.mp H
    obtain ⟨t107, A190, H⟩ := H
    replace H : (some t107) = some r := H
    have A19 := Aside0.mk A190
    clear A190
    obtain rfl := Option.some.inj H
    go_wp2_with (first | ((with_reducible refine gate_callee (f := 47) rfl ?_); refine goesL_ (some 48) rfl rfl Tryd.func47 (by kernel_rfl) rfl #[.int .i64 a1, .int .i64 1, .int .i64 6] rfl ls ?_; (with_reducible refine (code_within.calls a1 1 6 t107 _ A19.out).mono ?_); rintro e w' ⟨rfl, ⟨nd, rfl⟩⟩; refine ⟨_, rfl, ?_⟩))
    go_ret
    exact ⟨by first | rfl | (simp; done) | (simp [*]; done), by repeat (first | exact Drawn0.refl _ | apply Drawn0.step)⟩
   rw [if_neg c18] at H
   have c18b0 : (a0 == 8) = false := beq_eq_false_iff_ne.mpr c18
   have c18b1 : (a0 != 8) = true := bne_iff_ne.mpr c18
   by_cases c20 : a0 = 9
   ·rw [if_pos c20] at H
    have c20b0 : (a0 == 9) = true := beq_iff_eq.mpr c20
    have c20b1 : (a0 != 9) = false := bne_eq_false_iff_eq.mpr c20
    clear c20
    obtain rfl := Option.some.inj H
    go_wp2
    go_ret
    exact ⟨by first | rfl | (simp; done) | (simp [*]; done), by repeat (first | exact Drawn0.refl _ | apply Drawn0.step)⟩
   rw [if_neg c20] at H
   have c20b0 : (a0 == 9) = false := beq_eq_false_iff_ne.mpr c20
   have c20b1 : (a0 != 9) = true := bne_iff_ne.mpr c20
   by_cases c21 : a0 = 10
   ·rw [if_pos c21] at H
    have c21b0 : (a0 == 10) = true := beq_iff_eq.mpr c21
    have c21b1 : (a0 != 10) = false := bne_eq_false_iff_eq.mpr c21
    clear c21
    replace H := Option.bind_eq_some_iff.mp H
    obtain ⟨t108, A220, H⟩ := H
    replace H : (some t108) = some r := H
    have A22 := Aside0.mk A220
    clear A220
    obtain rfl := Option.some.inj H
    go_wp2_with (first | ((with_reducible refine gate_callee (f := 47) rfl ?_); refine goesL_ (some 56) rfl rfl Tryd.func47 (by kernel_rfl) rfl #[.int .i64 a1, .int .i64 1, .int .i64 32768] rfl ls ?_; (with_reducible refine (code_within.calls a1 1 32768 t108 _ A22.out).mono ?_); rintro e w' ⟨rfl, ⟨nd, rfl⟩⟩; refine ⟨_, rfl, ?_⟩))
    go_ret
    exact ⟨by first | rfl | (simp; done) | (simp [*]; done), by repeat (first | exact Drawn0.refl _ | apply Drawn0.step)⟩
   rw [if_neg c21] at H
   have c21b0 : (a0 == 10) = false := beq_eq_false_iff_ne.mpr c21
   have c21b1 : (a0 != 10) = true := bne_iff_ne.mpr c21
   by_cases c23 : a0 = 11
   ·rw [if_pos c23] at H
    have c23b0 : (a0 == 11) = true := beq_iff_eq.mpr c23
    have c23b1 : (a0 != 11) = false := bne_eq_false_iff_eq.mpr c23
    clear c23
    replace H := Option.bind_eq_some_iff.mp H
    obtain ⟨⟨t109, t110⟩, A240, H⟩ := H
    replace H : (some (decide (t109 ≤ t110))) = some r := H
    have A24 := Aside0.mk A240
    clear A240
    obtain rfl := Option.some.inj H
    go_wp2_with (first | ((with_reducible refine gate_callee (f := 66) rfl ?_); refine goesL_ (some 61) rfl rfl Tryd.func66 (by kernel_rfl) rfl #[.int .i64 a1] rfl ls ?_; (with_reducible refine (code_arity.calls kj4 a1 t109 t110 _ A24.out).mono ?_); rintro e w' ⟨rfl, ⟨nd, rfl⟩⟩; refine ⟨_, rfl, ?_⟩))
    go_ret
    exact ⟨by first | rfl | (simp; done) | (simp [*]; done), by repeat (first | exact Drawn0.refl _ | apply Drawn0.step)⟩
   rw [if_neg c23] at H
   have c23b0 : (a0 == 11) = false := beq_eq_false_iff_ne.mpr c23
   have c23b1 : (a0 != 11) = true := bne_iff_ne.mpr c23
   by_cases c25 : a0 = 12
   rotate_left
   ·rw [if_neg c25] at H
    have c25b0 : (a0 == 12) = false := beq_eq_false_iff_ne.mpr c25
    have c25b1 : (a0 != 12) = true := bne_iff_ne.mpr c25
    obtain rfl := Option.some.inj H
    go_wp2
    go_ret
    exact ⟨by first | rfl | (simp; done) | (simp [*]; done), by repeat (first | exact Drawn0.refl _ | apply Drawn0.step)⟩
   rw [if_pos c25] at H
   have c25b0 : (a0 == 12) = true := beq_iff_eq.mpr c25
   have c25b1 : (a0 != 12) = false := bne_eq_false_iff_eq.mpr c25
   clear c25
   replace H := Option.bind_eq_some_iff.mp H
   obtain ⟨⟨t111, t112⟩, A260, H⟩ := H
   replace H : ((code_within.f a1 t111 t112).bind fun t113 => (some t113)) = some r := H
   have A26 := Aside0.mk A260
   clear A260
   replace H := Option.bind_eq_some_iff.mp H
   obtain ⟨t113, A270, H⟩ := H
   replace H : (some t113) = some r := H
   have A27 := Aside0.mk A270
   clear A270
   obtain rfl := Option.some.inj H
   go_wp2_with (first | ((with_reducible refine gate_callee (f := 66) rfl ?_); refine goesL_ (some 71) rfl rfl Tryd.func66 (by kernel_rfl) rfl #[.int .i64 a2] rfl ls ?_; (with_reducible refine (code_arity.calls kj4 a2 t111 t112 _ A26.out).mono ?_); rintro e w' ⟨rfl, ⟨nd, rfl⟩⟩; refine ⟨_, rfl, ?_⟩) | ((with_reducible refine gate_callee (f := 47) rfl ?_); refine goesL_ (some 77) rfl rfl Tryd.func47 (by kernel_rfl) rfl #[.int .i64 a1, .int .i64 t111, .int .i64 t112] rfl ls ?_; (with_reducible refine (code_within.calls a1 t111 t112 t113 _ A27.out).mono ?_); rintro e w' ⟨rfl, ⟨nd, rfl⟩⟩; refine ⟨_, rfl, ?_⟩))
   go_ret
   exact ⟨by first | rfl | (simp; done) | (simp [*]; done), by repeat (first | exact Drawn0.refl _ | apply Drawn0.step)⟩
end Go.Proofs.YtdkejcadoepnnaaDoor.ECc
