-- Written by eprint.py (a program of this session's, over the kit's print), not by hand.
import Derived.Test.YtdeannaaafffbaaEChx0
import Derived.Test.YtdeannaaafffbaaEChx5
namespace Go.Proofs.Ytdeannaaafffbaa.ECh
open Go.RowKit Go.Proofs.YtdeannaaafffbaaW.PrintWords Go.Proofs.YtdeannaaafffbaaW.PrintLast Go.Proofs.YtdeannaaafffbaaW.PrintMore
attribute [local go_sem] max2_int min2_int max_two min_two max_three min_three max_four min_four   -- for this text's walks alone
set_option linter.unusedVariables false
set_option linter.unusedSimpArgs false

/-! ### abacusref20_Replace: function 21 -/
mutual
def abacusref20_Replace.l0 : Nat → ByteArray → ByteArray → ByteArray → Int → List Int → Int → Option (ByteArray × Int × Int)
  | 0, _, _, _, _, _, _ => none
  | k + 1, x0, x1, x2, x3, x11, x12 => if x12 ≤ (x0.size : Int) then (if x3 < 0 then (abacusref20_Replace.j1 k x0 x1 x2 x3 x11 x12 true) else (abacusref20_Replace.j1 k x0 x1 x2 x3 x11 x12 (decide ((x11.length : Int) < x3)))) else (abacusref20_Replace.j1 k x0 x1 x2 x3 x11 x12 false)
def abacusref20_Replace.j1 : Nat → ByteArray → ByteArray → ByteArray → Int → List Int → Int → Bool → Option (ByteArray × Int × Int)
  | 0, _, _, _, _, _, _, _ => none
  | k + 1, x0, x1, x2, x3, x11, x12, x31 => if x31 = true then ((abacusref20_Stands.f x0 x12 x1).bind fun t135 => (if t135 = true then (if x11.length < 17592186044416 then ((some (x11 ++ [x12] : List Int)).bind fun y136 => (if x1.toList = ([] : List UInt8) then (abacusref20_Replace.l0 k x0 x1 x2 x3 y136 (wrap64 (x12 + 1))) else (abacusref20_Replace.l0 k x0 x1 x2 x3 y136 (wrap64 (x12 + (x1.size : Int)))))) else (none)) else (abacusref20_Replace.l0 k x0 x1 x2 x3 x11 (wrap64 (x12 + 1))))) else (if (x11.length : Int) > 0 then (if (wrap64 ((x2.size : Int) - (x1.size : Int))) > 0 then (if (wrap64 ((x2.size : Int) - (x1.size : Int))) = 0 then (none) else (abacusref20_Replace.j2 k x0 x1 x2 x11 (x11.length : Int) (wrap64 ((x2.size : Int) - (x1.size : Int))) (decide ((x11.length : Int) > (wrap64 ((16777216 : Int) / (wrap64 ((x2.size : Int) - (x1.size : Int))))))))) else (abacusref20_Replace.j2 k x0 x1 x2 x11 (x11.length : Int) (wrap64 ((x2.size : Int) - (x1.size : Int))) false)) else (abacusref20_Replace.j2 k x0 x1 x2 x11 (x11.length : Int) (wrap64 ((x2.size : Int) - (x1.size : Int))) false))
def abacusref20_Replace.j2 : Nat → ByteArray → ByteArray → ByteArray → List Int → Int → Int → Bool → Option (ByteArray × Int × Int)
  | 0, _, _, _, _, _, _, _ => none
  | k + 1, x0, x1, x2, x11, x13, x14, x66 => if x66 = true then (some ((⟨#[]⟩ : ByteArray), 0, 3)) else (if (wrap64 ((x0.size : Int) + (wrap64 (x13 * x14)))) > 16777216 then (some ((⟨#[]⟩ : ByteArray), 0, 3)) else (abacusref20_Replace.l1 k x0 x1 x2 x11 x13 ([] : List Int) 0 0))
def abacusref20_Replace.l1 : Nat → ByteArray → ByteArray → ByteArray → List Int → Int → List Int → Int → Int → Option (ByteArray × Int × Int)
  | 0, _, _, _, _, _, _, _, _ => none
  | k + 1, x0, x1, x2, x11, x13, x15, x16, x17 => if x17 < x13 then (if 0 ≤ x17 then (if x17 < (x11.length : Int) then (if 0 ≤ x16 then (if x16 ≤ (rd x11 x17) then (if (rd x11 x17) ≤ (x0.size : Int) then (if x15.length + (x0.extract (x16 : Int).toNat ((rd x11 x17) : Int).toNat).size < 140737488355328 then ((some (x15 ++ bytesOf (x0.extract (x16 : Int).toNat ((rd x11 x17) : Int).toNat) : List Int)).bind fun y140 => (if y140.length + x2.size < 140737488355328 then (abacusref20_Replace.l1 k x0 x1 x2 x11 x13 (y140 ++ bytesOf x2) (wrap64 ((rd x11 x17) + (x1.size : Int))) (wrap64 (x17 + 1))) else (none))) else (none)) else (none)) else (none)) else (none)) else (none)) else (none)) else (if 0 ≤ x16 then (if x16 ≤ (x0.size : Int) then (if x15.length + (x0.extract (x16 : Int).toNat x0.size).size < 140737488355328 then (some (strOfNums (x15 ++ bytesOf (x0.extract (x16 : Int).toNat x0.size)), x13, 0)) else (none)) else (none)) else (none))
end
def abacusref20_Replace.f (k : Nat) (a0 : ByteArray) (a1 : ByteArray) (a2 : ByteArray) (a3 : Int) : Option (ByteArray × Int × Int) := abacusref20_Replace.l0 k a0 a1 a2 a3 ([] : List Int) 0
theorem abacusref20_Replace.mono_l : ∀ k, (∀ y0 y1 y2 y3 y4 y5, LeO (abacusref20_Replace.l0 k y0 y1 y2 y3 y4 y5) (abacusref20_Replace.l0 (k + 1) y0 y1 y2 y3 y4 y5)) ∧ (∀ y0 y1 y2 y3 y4 y5 y6, LeO (abacusref20_Replace.j1 k y0 y1 y2 y3 y4 y5 y6) (abacusref20_Replace.j1 (k + 1) y0 y1 y2 y3 y4 y5 y6)) ∧ (∀ y0 y1 y2 y3 y4 y5 y6, LeO (abacusref20_Replace.j2 k y0 y1 y2 y3 y4 y5 y6) (abacusref20_Replace.j2 (k + 1) y0 y1 y2 y3 y4 y5 y6)) ∧ (∀ y0 y1 y2 y3 y4 y5 y6 y7, LeO (abacusref20_Replace.l1 k y0 y1 y2 y3 y4 y5 y6 y7) (abacusref20_Replace.l1 (k + 1) y0 y1 y2 y3 y4 y5 y6 y7))
  | 0 => ⟨fun _ _ _ _ _ _ r h => by simp [abacusref20_Replace.l0] at h, fun _ _ _ _ _ _ _ r h => by simp [abacusref20_Replace.j1] at h, fun _ _ _ _ _ _ _ r h => by simp [abacusref20_Replace.j2] at h, fun _ _ _ _ _ _ _ _ r h => by simp [abacusref20_Replace.l1] at h⟩
  | k + 1 => by
    obtain ⟨ih0, ih1, ih2, ih3⟩ := abacusref20_Replace.mono_l k
    refine ⟨?_, ?_, ?_, ?_⟩
    · intro y0 y1 y2 y3 y4 y5
      unfold abacusref20_Replace.l0
      repeat' first
      | (with_reducible exact ih0 _ _ _ _ _ _)
      | (with_reducible exact ih1 _ _ _ _ _ _ _)
      | (with_reducible exact ih2 _ _ _ _ _ _ _)
      | (with_reducible exact ih3 _ _ _ _ _ _ _ _)
      | (with_reducible exact LeO.refl _)
      | (with_reducible exact LeO.none _)
      | (with_reducible refine LeO.ite ?_ ?_)
      | (with_reducible refine LeO.bind ?_ (fun _ => ?_))
      | exact ih0 _ _ _ _ _ _
      | exact ih1 _ _ _ _ _ _ _
      | exact ih2 _ _ _ _ _ _ _
      | exact ih3 _ _ _ _ _ _ _ _
      | exact LeO.none _
      | refine LeO.ite ?_ ?_
      | refine LeO.bind ?_ (fun _ => ?_)
    · intro y0 y1 y2 y3 y4 y5 y6
      unfold abacusref20_Replace.j1
      repeat' first
      | (with_reducible exact ih0 _ _ _ _ _ _)
      | (with_reducible exact ih1 _ _ _ _ _ _ _)
      | (with_reducible exact ih2 _ _ _ _ _ _ _)
      | (with_reducible exact ih3 _ _ _ _ _ _ _ _)
      | (with_reducible exact LeO.refl _)
      | (with_reducible exact LeO.none _)
      | (with_reducible refine LeO.ite ?_ ?_)
      | (with_reducible refine LeO.bind ?_ (fun _ => ?_))
      | exact ih0 _ _ _ _ _ _
      | exact ih1 _ _ _ _ _ _ _
      | exact ih2 _ _ _ _ _ _ _
      | exact ih3 _ _ _ _ _ _ _ _
      | exact LeO.none _
      | refine LeO.ite ?_ ?_
      | refine LeO.bind ?_ (fun _ => ?_)
    · intro y0 y1 y2 y3 y4 y5 y6
      unfold abacusref20_Replace.j2
      repeat' first
      | (with_reducible exact ih0 _ _ _ _ _ _)
      | (with_reducible exact ih1 _ _ _ _ _ _ _)
      | (with_reducible exact ih2 _ _ _ _ _ _ _)
      | (with_reducible exact ih3 _ _ _ _ _ _ _ _)
      | (with_reducible exact LeO.refl _)
      | (with_reducible exact LeO.none _)
      | (with_reducible refine LeO.ite ?_ ?_)
      | (with_reducible refine LeO.bind ?_ (fun _ => ?_))
      | exact ih0 _ _ _ _ _ _
      | exact ih1 _ _ _ _ _ _ _
      | exact ih2 _ _ _ _ _ _ _
      | exact ih3 _ _ _ _ _ _ _ _
      | exact LeO.none _
      | refine LeO.ite ?_ ?_
      | refine LeO.bind ?_ (fun _ => ?_)
    · intro y0 y1 y2 y3 y4 y5 y6 y7
      unfold abacusref20_Replace.l1
      repeat' first
      | (with_reducible exact ih0 _ _ _ _ _ _)
      | (with_reducible exact ih1 _ _ _ _ _ _ _)
      | (with_reducible exact ih2 _ _ _ _ _ _ _)
      | (with_reducible exact ih3 _ _ _ _ _ _ _ _)
      | (with_reducible exact LeO.refl _)
      | (with_reducible exact LeO.none _)
      | (with_reducible refine LeO.ite ?_ ?_)
      | (with_reducible refine LeO.bind ?_ (fun _ => ?_))
      | exact ih0 _ _ _ _ _ _
      | exact ih1 _ _ _ _ _ _ _
      | exact ih2 _ _ _ _ _ _ _
      | exact ih3 _ _ _ _ _ _ _ _
      | exact LeO.none _
      | refine LeO.ite ?_ ?_
      | refine LeO.bind ?_ (fun _ => ?_)
theorem abacusref20_Replace.mono : ∀ a0 a1 a2 a3 k, LeO (abacusref20_Replace.f k a0 a1 a2 a3) (abacusref20_Replace.f (k + 1) a0 a1 a2 a3) := by
  intro a0 a1 a2 a3 k
  obtain ⟨ih0, ih1, ih2, ih3⟩ := abacusref20_Replace.mono_l k
  unfold abacusref20_Replace.f
  repeat' first
      | (with_reducible exact ih0 _ _ _ _ _ _)
      | (with_reducible exact ih1 _ _ _ _ _ _ _)
      | (with_reducible exact ih2 _ _ _ _ _ _ _)
      | (with_reducible exact ih3 _ _ _ _ _ _ _ _)
      | (with_reducible exact LeO.refl _)
      | (with_reducible exact LeO.none _)
      | (with_reducible refine LeO.ite ?_ ?_)
      | (with_reducible refine LeO.bind ?_ (fun _ => ?_))
      | exact ih0 _ _ _ _ _ _
      | exact ih1 _ _ _ _ _ _ _
      | exact ih2 _ _ _ _ _ _ _
      | exact ih3 _ _ _ _ _ _ _ _
      | exact LeO.none _
      | refine LeO.ite ?_ ?_
      | refine LeO.bind ?_ (fun _ => ?_)
set_option maxHeartbeats 8000000 in
set_option maxRecDepth 100000 in
theorem abacusref20_Replace.calls (k : Nat) (a0 : ByteArray) (a1 : ByteArray) (a2 : ByteArray) (a3 : Int) (r1 : ByteArray) (r2 : Int) (r3 : Int) (w : World) (h : abacusref20_Replace.f k a0 a1 a2 a3 = some (r1, r2, r3)) :
    Calls Try.prog 21 #[.string a0, .string a1, .string a2, .int .i64 a3] w fun e w' => e = .returned (.tuple #[.string r1, .int .i64 r2, .int .i64 r3]) ∧ Below w.heap.size w w' := by
  have HB := Aside0.mk (Below.refl w.heap.size w)
  have H : (abacusref20_Replace.l0 k a0 a1 a2 a3 ([] : List Int) 0) = some (r1, r2, r3) := h
  clear h
  have H' := Aside0.mk H
  clear H
  go_enter Try.func21, Try.ntmps21
  go_wp2
  go_loopg [11, 12] k (fun kq v11 v12 w' => ∃ (x11_1 : List Int) (x12_1 : Int), v12 = .int .i64 x12_1 ∧ Aside0 (abacusref20_Replace.l0 kq a0 a1 a2 a3 x11_1 x12_1 = some (r1, r2, r3)) ∧ Aside0 (kq ≤ k) ∧ Aside0 (Kd.R (Kd.int .i64) 3 w' w.heap.size (fun _ => True) v11 x11_1) ∧ Aside0 (Below w.heap.size w w'))
  case atStart => exact ⟨(([] : List Int)), (0), (by first | rfl | (simp; done) | (simp [*]; done)), H', ⟨Nat.le_refl _⟩, ⟨by first | exact Kd.R_nil _ _ _ _ _ | exact Kd.N_nil _ _ _ _ _ | exact Kd.V_nil _ _ _ _ _ | exact Kd.Q_nil _ _ _ _ _ | exact Kd.S_nil _ _ _ _ _⟩, ⟨by repeat (first | (with_reducible first | exact HB.out | apply below_alloc | apply pw_below_drewN | apply below_drew1) | exact HB.out)⟩⟩
  case round =>
    clear H'
    try clear c2
    try clear p2
    obtain ⟨x11_1, x12_1, rfl, HA, HK1, HO_11, HB⟩ := hrel
    cases gk with
    | zero => exact absurd HA.out (by simp [abacusref20_Replace.l0])
    | succ k1 =>
      have H := HA.out
      clear HA
      simp only [abacusref20_Replace.l0] at H
      have HC5 := Aside0.mk H
      clear H
      go_upto_region 3 with (fail)
      go_cut [31] (fun v31 wc => ∃ (kq : Nat) (x31_4 : Bool), v31 = .bool x31_4 ∧ Aside0 (abacusref20_Replace.j1 kq a0 a1 a2 a3 x11_1 x12_1 x31_4 = some (r1, r2, r3)) ∧ Aside0 (kq ≤ k1) ∧ Aside0 (Kd.R (Kd.int .i64) 3 wc w.heap.size (fun _ => True) u11 x11_1) ∧ Aside0 (Below w.heap.size w wc))
      case first =>
        have H := HC5.out
        clear HC5
        by_cases c6 : x12_1 ≤ (a0.size : Int)
        · rw [if_pos c6] at H
          have c6b0 : decide (x12_1 ≤ (a0.size : Int)) = true := decide_eq_true c6
          clear c6
          (first | rw [c6b0] | (simp only [i64_w, i32_w]; rw [c6b0]) | skip)
          by_cases c7 : a3 < 0
          · rw [if_pos c7] at H
            have c7b0 : decide (a3 < 0) = true := decide_eq_true c7
            clear c7
            have H' := Aside0.mk H
            clear H
            go_wp2
            go_meet
            case rel => exact ⟨_, (true), (by first | rfl | (simp; done) | (simp [*]; done)), H', ⟨by have := HK1.out; first | omega | exact Nat.le_refl _⟩, ⟨by (with_reducible repeat (first | apply Kd.R_alloc | apply Kd.R_drewN | apply Kd.R_drew)); exact HO_11.out⟩, ⟨by repeat (first | (with_reducible first | exact HB.out | apply below_alloc | apply pw_below_drewN | apply below_drew1) | exact HB.out)⟩⟩
          · rw [if_neg c7] at H
            have c7b0 : decide (a3 < 0) = false := decide_eq_false c7
            clear c7
            have H' := Aside0.mk H
            clear H
            obtain ⟨Ao8, co8, eo8⟩ := Kd.R_slice HO_11.out
            subst eo8
            go_wp2
            go_meet
            case rel => exact ⟨_, (decide ((x11_1.length : Int) < a3)), (by first | rfl | (simp; done) | (simp [*]; done)), H', ⟨by have := HK1.out; first | omega | exact Nat.le_refl _⟩, ⟨by (with_reducible repeat (first | apply Kd.R_alloc | apply Kd.R_drewN | apply Kd.R_drew)); exact HO_11.out⟩, ⟨by repeat (first | (with_reducible first | exact HB.out | apply below_alloc | apply pw_below_drewN | apply below_drew1) | exact HB.out)⟩⟩
        · rw [if_neg c6] at H
          have c6b0 : decide (x12_1 ≤ (a0.size : Int)) = false := decide_eq_false c6
          clear c6
          (first | rw [c6b0] | (simp only [i64_w, i32_w]; rw [c6b0]) | skip)
          have H' := Aside0.mk H
          clear H
          go_wp2
          go_meet
          case rel => exact ⟨_, (false), (by first | rfl | (simp; done) | (simp [*]; done)), H', ⟨by have := HK1.out; first | omega | exact Nat.le_refl _⟩, ⟨by (with_reducible repeat (first | apply Kd.R_alloc | apply Kd.R_drewN | apply Kd.R_drew)); exact HO_11.out⟩, ⟨by repeat (first | (with_reducible first | exact HB.out | apply below_alloc | apply pw_below_drewN | apply below_drew1) | exact HB.out)⟩⟩
      case rest =>
        clear HC5
        try clear c2
        try clear p2
        try clear c6
        try clear c6b0
        try clear c7
        try clear c7b0
        try clear p2
        obtain ⟨kq, x31_4, rfl, HA, HJ4, HO_11, HB⟩ := hcut
        cases kq with
        | zero => exact absurd HA.out (by simp [abacusref20_Replace.j1])
        | succ kj4 =>
          have H := HA.out
          clear HA
          simp only [abacusref20_Replace.j1] at H
          by_cases c9 : x31_4 = true
          · subst c9
            have H1 : ((abacusref20_Stands.f a0 x12_1 a1).bind fun t135 => (if t135 = true then (if x11_1.length < 17592186044416 then ((some (x11_1 ++ [x12_1] : List Int)).bind fun y136 => (if a1.toList = ([] : List UInt8) then (abacusref20_Replace.l0 kj4 a0 a1 a2 a3 y136 (wrap64 (x12_1 + 1))) else (abacusref20_Replace.l0 kj4 a0 a1 a2 a3 y136 (wrap64 (x12_1 + (a1.size : Int)))))) else (none)) else (abacusref20_Replace.l0 kj4 a0 a1 a2 a3 x11_1 (wrap64 (x12_1 + 1))))) = some (r1, r2, r3) := by rw [if_pos rfl] at H; exact H
            clear H
            have H := H1
            clear H1
            replace H := Option.bind_eq_some_iff.mp H
            obtain ⟨t135, A100, H⟩ := H
            replace H : (if t135 = true then (if x11_1.length < 17592186044416 then ((some (x11_1 ++ [x12_1] : List Int)).bind fun y136 => (if a1.toList = ([] : List UInt8) then (abacusref20_Replace.l0 kj4 a0 a1 a2 a3 y136 (wrap64 (x12_1 + 1))) else (abacusref20_Replace.l0 kj4 a0 a1 a2 a3 y136 (wrap64 (x12_1 + (a1.size : Int)))))) else (none)) else (abacusref20_Replace.l0 kj4 a0 a1 a2 a3 x11_1 (wrap64 (x12_1 + 1)))) = some (r1, r2, r3) := H
            have A10 := Aside0.mk A100
            clear A100
            by_cases c11 : t135 = true
            · subst c11
              have H1 : (if x11_1.length < 17592186044416 then ((some (x11_1 ++ [x12_1] : List Int)).bind fun y136 => (if a1.toList = ([] : List UInt8) then (abacusref20_Replace.l0 kj4 a0 a1 a2 a3 y136 (wrap64 (x12_1 + 1))) else (abacusref20_Replace.l0 kj4 a0 a1 a2 a3 y136 (wrap64 (x12_1 + (a1.size : Int)))))) else (none)) = some (r1, r2, r3) := by rw [if_pos rfl] at H; exact H
              clear H
              have H := H1
              clear H1
              by_cases c12 : x11_1.length < 17592186044416
              · rw [if_pos c12] at H
                have LMc12 := Aside0.mk c12
                clear c12
                obtain ⟨y136, hy136⟩ : ∃ y_ : List Int, y_ = (x11_1 ++ [x12_1]) := ⟨_, rfl⟩
                replace H : (if a1.toList = ([] : List UInt8) then (abacusref20_Replace.l0 kj4 a0 a1 a2 a3 y136 (wrap64 (x12_1 + 1))) else (abacusref20_Replace.l0 kj4 a0 a1 a2 a3 y136 (wrap64 (x12_1 + (a1.size : Int))))) = some (r1, r2, r3) := by first | (rw [hy136]; with_reducible exact H) | (have H2_ := (Option.bind_some _ _).symm.trans H; rw [hy136]; with_reducible exact H2_) | (have H2_ := (Option.bind_some _ _).symm.trans H; with_reducible exact H2_) | with_reducible exact H | (rw [hy136]; exact H) | exact H
                have Ny136 := Aside0.mk hy136
                clear hy136
                by_cases c13 : a1.toList = ([] : List UInt8)
                · rw [if_pos c13] at H
                  have c13b0 : (a1.toList == ([] : List UInt8)) = true := beq_iff_eq.mpr c13
                  have c13b1 : (a1.toList != ([] : List UInt8)) = false := bne_eq_false_iff_eq.mpr c13
                  clear c13
                  have H' := Aside0.mk H
                  clear H
                  go_wp2_with (first | ((with_reducible refine gate_callee (f := 19) rfl ?_); refine goesL_ (some 35) rfl rfl Try.func19 (by kernel_rfl) rfl #[.string a0, .int .i64 x12_1, .string a1] rfl (by (try simp only [List.map_toArray, List.map_cons, List.map_nil]); first | done | rfl | (simp only [List.length_drop, List.length_take]; rfl)) ?_; (with_reducible refine (abacusref20_Stands.calls a0 x12_1 a1 true _ A10.out).mono ?_); rintro e w' ⟨rfl, ⟨nd, rfl⟩⟩; refine ⟨_, rfl, ?_⟩) | ((with_reducible refine gate_builtin (b := .append) (xs := #[.tmp 36, .tmp 38]) rfl ?_); (try (refine gate_guard (by rfl) ?_; dsimp only)); at_builtin; refine Kd.R_append (Kd.int .i64) (w0 := w) w.heap.size rfl (.tmp 36) (.tmp 38) 51 3 (.int .i64 0) 8 rfl Try.underlying51 info3 rfl (by decide) (by omega) u11 x11_1 x12_1 [.int .i64 x12_1] (fun _ => True) (fun _ => False) rfl rfl ?aP (fun _ hk => hk.elim) ?aF ?aO ?aB ?aS ?aL ?_; (case aP => exact rfl); (case aB => exact (by repeat (first | (with_reducible first | exact HB.out | apply below_alloc | apply pw_below_drewN | apply below_drew1) | exact HB.out))); (case aF => exact (fun _ _ => trivial)); (case aO => exact (by (with_reducible repeat (first | apply Kd.R_alloc | apply Kd.R_drewN | apply Kd.R_drew)); exact HO_11.out)); (case aS => exact (below_size (by repeat (first | (with_reducible first | exact HB.out | apply below_alloc | apply pw_below_drewN | apply below_drew1) | exact HB.out)))); (case aL => have := LMc12.out; omega); intro v137 w14 ho hb hg hat; rw [← Ny136.out] at ho; have n0_ := Aside0.mk (hb); have n1_ := Aside0.mk (ho); clear HB; clear HO_11; have HB := n0_; have HO138 := n1_; clear n0_ n1_; clear ho hb hg hat))
                  go_roundg kj4
                  case measure => have := HK1.out; have := HJ4.out; omega
                  case rel => exact ⟨(y136), (wrap64 (x12_1 + 1)), (by first | rfl | (simp; done) | (simp [*]; done)), H', ⟨by have := HK1.out; have := HJ4.out; omega⟩, ⟨by (with_reducible repeat (first | apply Kd.R_alloc | apply Kd.R_drewN | apply Kd.R_drew)); exact HO138.out⟩, ⟨by repeat (first | (with_reducible first | exact HB.out | apply below_alloc | apply pw_below_drewN | apply below_drew1) | exact HB.out)⟩⟩
                · rw [if_neg c13] at H
                  have c13b0 : (a1.toList == ([] : List UInt8)) = false := beq_eq_false_iff_ne.mpr c13
                  have c13b1 : (a1.toList != ([] : List UInt8)) = true := bne_iff_ne.mpr c13
                  have H' := Aside0.mk H
                  clear H
                  go_wp2_with (first | ((with_reducible refine gate_callee (f := 19) rfl ?_); refine goesL_ (some 35) rfl rfl Try.func19 (by kernel_rfl) rfl #[.string a0, .int .i64 x12_1, .string a1] rfl (by (try simp only [List.map_toArray, List.map_cons, List.map_nil]); first | done | rfl | (simp only [List.length_drop, List.length_take]; rfl)) ?_; (with_reducible refine (abacusref20_Stands.calls a0 x12_1 a1 true _ A10.out).mono ?_); rintro e w' ⟨rfl, ⟨nd, rfl⟩⟩; refine ⟨_, rfl, ?_⟩) | ((with_reducible refine gate_builtin (b := .append) (xs := #[.tmp 36, .tmp 38]) rfl ?_); (try (refine gate_guard (by rfl) ?_; dsimp only)); at_builtin; refine Kd.R_append (Kd.int .i64) (w0 := w) w.heap.size rfl (.tmp 36) (.tmp 38) 51 3 (.int .i64 0) 8 rfl Try.underlying51 info3 rfl (by decide) (by omega) u11 x11_1 x12_1 [.int .i64 x12_1] (fun _ => True) (fun _ => False) rfl rfl ?aP (fun _ hk => hk.elim) ?aF ?aO ?aB ?aS ?aL ?_; (case aP => exact rfl); (case aB => exact (by repeat (first | (with_reducible first | exact HB.out | apply below_alloc | apply pw_below_drewN | apply below_drew1) | exact HB.out))); (case aF => exact (fun _ _ => trivial)); (case aO => exact (by (with_reducible repeat (first | apply Kd.R_alloc | apply Kd.R_drewN | apply Kd.R_drew)); exact HO_11.out)); (case aS => exact (below_size (by repeat (first | (with_reducible first | exact HB.out | apply below_alloc | apply pw_below_drewN | apply below_drew1) | exact HB.out)))); (case aL => have := LMc12.out; omega); intro v137 w15 ho hb hg hat; rw [← Ny136.out] at ho; have n0_ := Aside0.mk (hb); have n1_ := Aside0.mk (ho); clear HB; clear HO_11; have HB := n0_; have HO138 := n1_; clear n0_ n1_; clear ho hb hg hat))
                  go_roundg kj4
                  case measure => have := HK1.out; have := HJ4.out; omega
                  case rel => exact ⟨(y136), (wrap64 (x12_1 + (a1.size : Int))), (by first | rfl | (simp; done) | (simp [*]; done)), H', ⟨by have := HK1.out; have := HJ4.out; omega⟩, ⟨by (with_reducible repeat (first | apply Kd.R_alloc | apply Kd.R_drewN | apply Kd.R_drew)); exact HO138.out⟩, ⟨by repeat (first | (with_reducible first | exact HB.out | apply below_alloc | apply pw_below_drewN | apply below_drew1) | exact HB.out)⟩⟩
              · rw [if_neg c12] at H
                exact absurd H (by simp)
            · replace c11 := Bool.eq_false_iff.mpr c11
              subst c11
              have H1 : (abacusref20_Replace.l0 kj4 a0 a1 a2 a3 x11_1 (wrap64 (x12_1 + 1))) = some (r1, r2, r3) := by rw [if_neg (show ¬ (false = true) by decide)] at H; exact H
              clear H
              have H := H1
              clear H1
              have H' := Aside0.mk H
              clear H
              go_wp2_with (first | ((with_reducible refine gate_callee (f := 19) rfl ?_); refine goesL_ (some 35) rfl rfl Try.func19 (by kernel_rfl) rfl #[.string a0, .int .i64 x12_1, .string a1] rfl (by (try simp only [List.map_toArray, List.map_cons, List.map_nil]); first | done | rfl | (simp only [List.length_drop, List.length_take]; rfl)) ?_; (with_reducible refine (abacusref20_Stands.calls a0 x12_1 a1 false _ A10.out).mono ?_); rintro e w' ⟨rfl, ⟨nd, rfl⟩⟩; refine ⟨_, rfl, ?_⟩))
              go_roundg kj4
              case measure => have := HK1.out; have := HJ4.out; omega
              case rel => exact ⟨(x11_1), (wrap64 (x12_1 + 1)), (by first | rfl | (simp; done) | (simp [*]; done)), H', ⟨by have := HK1.out; have := HJ4.out; omega⟩, ⟨by (with_reducible repeat (first | apply Kd.R_alloc | apply Kd.R_drewN | apply Kd.R_drew)); exact HO_11.out⟩, ⟨by repeat (first | (with_reducible first | exact HB.out | apply below_alloc | apply pw_below_drewN | apply below_drew1) | exact HB.out)⟩⟩
          · replace c9 := Bool.eq_false_iff.mpr c9
            subst c9
            have H1 : (if (x11_1.length : Int) > 0 then (if (wrap64 ((a2.size : Int) - (a1.size : Int))) > 0 then (if (wrap64 ((a2.size : Int) - (a1.size : Int))) = 0 then (none) else (abacusref20_Replace.j2 kj4 a0 a1 a2 x11_1 (x11_1.length : Int) (wrap64 ((a2.size : Int) - (a1.size : Int))) (decide ((x11_1.length : Int) > (wrap64 ((16777216 : Int) / (wrap64 ((a2.size : Int) - (a1.size : Int))))))))) else (abacusref20_Replace.j2 kj4 a0 a1 a2 x11_1 (x11_1.length : Int) (wrap64 ((a2.size : Int) - (a1.size : Int))) false)) else (abacusref20_Replace.j2 kj4 a0 a1 a2 x11_1 (x11_1.length : Int) (wrap64 ((a2.size : Int) - (a1.size : Int))) false)) = some (r1, r2, r3) := by rw [if_neg (show ¬ (false = true) by decide)] at H; exact H
            clear H
            have H := H1
            clear H1
            have HC16 := Aside0.mk H
            clear H
            obtain ⟨Ao17, co17, eo17⟩ := Kd.R_slice HO_11.out
            subst eo17
            go_upto_region 11 with (fail)
            go_cut [66] (fun v66 wc => ∃ (kq : Nat) (x66_15 : Bool), v66 = .bool x66_15 ∧ Aside0 (abacusref20_Replace.j2 kq a0 a1 a2 x11_1 (x11_1.length : Int) (wrap64 ((a2.size : Int) - (a1.size : Int))) x66_15 = some (r1, r2, r3)) ∧ Aside0 (kq ≤ kj4) ∧ Aside0 (Kd.R (Kd.int .i64) 3 wc w.heap.size (fun _ => True) (.slice Ao17 x11_1.length co17) x11_1) ∧ Aside0 (Below w.heap.size w wc))
            case first =>
              have H := HC16.out
              clear HC16
              by_cases c18 : (x11_1.length : Int) > 0
              · rw [if_pos c18] at H
                have c18b0 : decide (0 < (x11_1.length : Int)) = true := decide_eq_true c18
                have c18b1 : decide (0 < x11_1.length) = true := decide_eq_true (by omega)
                clear c18
                (first | rw [c18b0] | (simp only [i64_w, i32_w]; rw [c18b0]) | skip)
                by_cases c19 : (wrap64 ((a2.size : Int) - (a1.size : Int))) > 0
                · rw [if_pos c19] at H
                  have c19b0 : decide (0 < (wrap64 ((a2.size : Int) - (a1.size : Int)))) = true := decide_eq_true c19
                  clear c19
                  by_cases c20 : (wrap64 ((a2.size : Int) - (a1.size : Int))) = 0
                  · rw [if_pos c20] at H
                    exact absurd H (by simp)
                  · rw [if_neg c20] at H
                    have c20b0 : ((wrap64 ((a2.size : Int) - (a1.size : Int))) == 0) = false := beq_eq_false_iff_ne.mpr c20
                    have c20b1 : ((wrap64 ((a2.size : Int) - (a1.size : Int))) != 0) = true := bne_iff_ne.mpr c20
                    have H' := Aside0.mk H
                    clear H
                    go_wp2
                    go_meet
                    case rel => exact ⟨_, (decide ((x11_1.length : Int) > (wrap64 ((16777216 : Int) / (wrap64 ((a2.size : Int) - (a1.size : Int))))))), (by first | rfl | (simp; done) | (simp [*]; done) | (rw [show ((16777216 : Int) / (wrap64 ((a2.size : Int) - (a1.size : Int)))) = Int.tdiv 16777216 (wrap64 ((a2.size : Int) - (a1.size : Int))) from (Int.tdiv_eq_ediv_of_nonneg (by decide)).symm])), H', ⟨by have := HK1.out; have := HJ4.out; first | omega | exact Nat.le_refl _⟩, ⟨by (with_reducible repeat (first | apply Kd.R_alloc | apply Kd.R_drewN | apply Kd.R_drew)); exact HO_11.out⟩, ⟨by repeat (first | (with_reducible first | exact HB.out | apply below_alloc | apply pw_below_drewN | apply below_drew1) | exact HB.out)⟩⟩
                · rw [if_neg c19] at H
                  have c19b0 : decide (0 < (wrap64 ((a2.size : Int) - (a1.size : Int)))) = false := decide_eq_false c19
                  clear c19
                  have H' := Aside0.mk H
                  clear H
                  go_wp2
                  go_meet
                  case rel => exact ⟨_, (false), (by first | rfl | (simp; done) | (simp [*]; done)), H', ⟨by have := HK1.out; have := HJ4.out; first | omega | exact Nat.le_refl _⟩, ⟨by (with_reducible repeat (first | apply Kd.R_alloc | apply Kd.R_drewN | apply Kd.R_drew)); exact HO_11.out⟩, ⟨by repeat (first | (with_reducible first | exact HB.out | apply below_alloc | apply pw_below_drewN | apply below_drew1) | exact HB.out)⟩⟩
              · rw [if_neg c18] at H
                have c18b0 : decide (0 < (x11_1.length : Int)) = false := decide_eq_false c18
                have c18b1 : decide (0 < x11_1.length) = false := decide_eq_false (by omega)
                clear c18
                (first | rw [c18b0] | (simp only [i64_w, i32_w]; rw [c18b0]) | skip)
                have H' := Aside0.mk H
                clear H
                go_wp2
                go_meet
                case rel => exact ⟨_, (false), (by first | rfl | (simp; done) | (simp [*]; done)), H', ⟨by have := HK1.out; have := HJ4.out; first | omega | exact Nat.le_refl _⟩, ⟨by (with_reducible repeat (first | apply Kd.R_alloc | apply Kd.R_drewN | apply Kd.R_drew)); exact HO_11.out⟩, ⟨by repeat (first | (with_reducible first | exact HB.out | apply below_alloc | apply pw_below_drewN | apply below_drew1) | exact HB.out)⟩⟩
            case rest =>
              clear HC16
              try clear c1
              try clear c2
              try clear p2
              try clear c6
              try clear c6b0
              try clear p6
              try clear c7
              try clear c7b0
              try clear c9
              try clear c11
              try clear c12
              try clear c13
              try clear c13b0
              try clear c13b1
              try clear c18
              try clear c18b0
              try clear c18b1
              try clear c19
              try clear c19b0
              try clear c20
              try clear c20b0
              try clear c20b1
              try clear p2
              obtain ⟨kq, x66_15, rfl, HA, HJ15, HO_11, HB⟩ := hcut
              cases kq with
              | zero => exact absurd HA.out (by simp [abacusref20_Replace.j2])
              | succ kj15 =>
                have H := HA.out
                clear HA
                simp only [abacusref20_Replace.j2] at H
                by_cases c21 : x66_15 = true
                · subst c21
                  have H1 : (some ((⟨#[]⟩ : ByteArray), 0, 3)) = some (r1, r2, r3) := by rw [if_pos rfl] at H; exact H
                  clear H
                  have H := H1
                  clear H1
                  simp only [Option.some.injEq, Prod.mk.injEq] at H
                  obtain ⟨rfl, rfl, rfl⟩ := H
                  go_wp2
                  go_ret3
                  exact ⟨by first | rfl | (simp [errW_none, errW_some] <;> rfl) | (simp [*, errW_none, errW_some] <;> rfl), by repeat (first | (with_reducible first | exact HB.out | apply below_alloc | apply pw_below_drewN | apply below_drew1) | exact HB.out)⟩
                · replace c21 := Bool.eq_false_iff.mpr c21
                  subst c21
                  have H1 : (if (wrap64 ((a0.size : Int) + (wrap64 ((x11_1.length : Int) * (wrap64 ((a2.size : Int) - (a1.size : Int))))))) > 16777216 then (some ((⟨#[]⟩ : ByteArray), 0, 3)) else (abacusref20_Replace.l1 kj15 a0 a1 a2 x11_1 (x11_1.length : Int) ([] : List Int) 0 0)) = some (r1, r2, r3) := by rw [if_neg (show ¬ (false = true) by decide)] at H; exact H
                  clear H
                  have H := H1
                  clear H1
                  by_cases c22 : (wrap64 ((a0.size : Int) + (wrap64 ((x11_1.length : Int) * (wrap64 ((a2.size : Int) - (a1.size : Int))))))) > 16777216
                  · rw [if_pos c22] at H
                    have c22b0 : decide (16777216 < (wrap64 ((a0.size : Int) + (wrap64 ((x11_1.length : Int) * (wrap64 ((a2.size : Int) - (a1.size : Int)))))))) = true := decide_eq_true c22
                    clear c22
                    simp only [Option.some.injEq, Prod.mk.injEq] at H
                    obtain ⟨rfl, rfl, rfl⟩ := H
                    go_wp2
                    go_ret3
                    exact ⟨by first | rfl | (simp [errW_none, errW_some] <;> rfl) | (simp [*, errW_none, errW_some] <;> rfl), by repeat (first | (with_reducible first | exact HB.out | apply below_alloc | apply pw_below_drewN | apply below_drew1) | exact HB.out)⟩
                  · rw [if_neg c22] at H
                    have c22b0 : decide (16777216 < (wrap64 ((a0.size : Int) + (wrap64 ((x11_1.length : Int) * (wrap64 ((a2.size : Int) - (a1.size : Int)))))))) = false := decide_eq_false c22
                    clear c22
                    have H' := Aside0.mk H
                    clear H
                    go_wp2
                    go_loopg [15, 16, 17] kj15 (fun kq v15 v16 v17 w' => ∃ (x15_4 : List Int) (x16_4 : Int) (x17_4 : Int), v16 = .int .i64 x16_4 ∧ v17 = .int .i64 x17_4 ∧ Aside0 (abacusref20_Replace.l1 kq a0 a1 a2 x11_1 (x11_1.length : Int) x15_4 x16_4 x17_4 = some (r1, r2, r3)) ∧ Aside0 (kq ≤ kj15) ∧ Aside0 (Kd.R (Kd.int .i64) 3 w' w.heap.size (fun _ => True) (.slice Ao17 x11_1.length co17) x11_1) ∧ Aside0 (Kd.R (Kd.int .u8) 5 w' w.heap.size (fun _ => True) v15 x15_4) ∧ Aside0 (Below w.heap.size w w'))
                    case atStart => exact ⟨(([] : List Int)), (0), (0), (by first | rfl | (simp; done) | (simp [*]; done)), (by first | rfl | (simp; done) | (simp [*]; done)), H', ⟨Nat.le_refl _⟩, ⟨by (with_reducible repeat (first | apply Kd.R_alloc | apply Kd.R_drewN | apply Kd.R_drew)); exact HO_11.out⟩, ⟨by first | exact Kd.R_nil _ _ _ _ _ | exact Kd.N_nil _ _ _ _ _ | exact Kd.V_nil _ _ _ _ _ | exact Kd.Q_nil _ _ _ _ _ | exact Kd.S_nil _ _ _ _ _⟩, ⟨by repeat (first | (with_reducible first | exact HB.out | apply below_alloc | apply pw_below_drewN | apply below_drew1) | exact HB.out)⟩⟩
                    case round =>
                      clear H'
                      try clear c1
                      try clear c2
                      try clear p2
                      try clear c6
                      try clear c6b0
                      try clear p6
                      try clear c7
                      try clear c7b0
                      try clear c9
                      try clear c11
                      try clear c12
                      try clear c13
                      try clear c13b0
                      try clear c13b1
                      try clear c18
                      try clear c18b0
                      try clear c18b1
                      try clear c19
                      try clear c19b0
                      try clear c20
                      try clear c20b0
                      try clear c20b1
                      try clear c21
                      try clear c22
                      try clear c22b0
                      try clear p2
                      try clear p6
                      obtain ⟨x15_4, x16_4, x17_4, rfl, rfl, HA, HK4, HO_11, HO_15, HB⟩ := hrel
                      cases gk with
                      | zero => exact absurd HA.out (by simp [abacusref20_Replace.l1])
                      | succ k4 =>
                        have H := HA.out
                        clear HA
                        simp only [abacusref20_Replace.l1] at H
                        by_cases c23 : x17_4 < (x11_1.length : Int)
                        · rw [if_pos c23] at H
                          have c23b0 : decide (x17_4 < (x11_1.length : Int)) = true := decide_eq_true c23
                          clear c23
                          by_cases c24 : 0 ≤ x17_4
                          · rw [if_pos c24] at H
                            have c24b0 : decide (0 ≤ x17_4) = true := decide_eq_true c24
                            clear c24
                            by_cases c25 : x17_4 < (x11_1.length : Int)
                            · rw [if_pos c25] at H
                              have c25b0 : decide (x17_4 < (x11_1.length : Int)) = true := decide_eq_true c25
                              clear c25
                              by_cases c26 : 0 ≤ x16_4
                              · rw [if_pos c26] at H
                                have c26b0 := eq_true c26
                                have c26b1 : decide (0 ≤ x16_4) = true := decide_eq_true c26
                                clear c26
                                by_cases c27 : x16_4 ≤ (rd x11_1 x17_4)
                                · rw [if_pos c27] at H
                                  have c27b0 := eq_true c27
                                  have c27b1 : decide (x16_4 ≤ (rd x11_1 x17_4)) = true := decide_eq_true c27
                                  clear c27
                                  by_cases c28 : (rd x11_1 x17_4) ≤ (a0.size : Int)
                                  · rw [if_pos c28] at H
                                    have c28b0 := eq_true c28
                                    have c28b1 : decide ((rd x11_1 x17_4) ≤ (a0.size : Int)) = true := decide_eq_true c28
                                    clear c28
                                    by_cases c29 : x15_4.length + (a0.extract (x16_4 : Int).toNat ((rd x11_1 x17_4) : Int).toNat).size < 140737488355328
                                    · rw [if_pos c29] at H
                                      have LMc29 := Aside0.mk c29
                                      clear c29
                                      obtain ⟨y140, hy140⟩ : ∃ y_ : List Int, y_ = (x15_4 ++ bytesOf (a0.extract (x16_4 : Int).toNat ((rd x11_1 x17_4) : Int).toNat)) := ⟨_, rfl⟩
                                      replace H : (if y140.length + a2.size < 140737488355328 then (abacusref20_Replace.l1 k4 a0 a1 a2 x11_1 (x11_1.length : Int) (y140 ++ bytesOf a2) (wrap64 ((rd x11_1 x17_4) + (a1.size : Int))) (wrap64 (x17_4 + 1))) else (none)) = some (r1, r2, r3) := by first | (rw [hy140]; with_reducible exact H) | (have H2_ := (Option.bind_some _ _).symm.trans H; rw [hy140]; with_reducible exact H2_) | (have H2_ := (Option.bind_some _ _).symm.trans H; with_reducible exact H2_) | with_reducible exact H | (rw [hy140]; exact H) | exact H
                                      have Ny140 := Aside0.mk hy140
                                      clear hy140
                                      by_cases c30 : y140.length + a2.size < 140737488355328
                                      · rw [if_pos c30] at H
                                        have LMc30 := Aside0.mk c30
                                        clear c30
                                        obtain ⟨y143, hy143⟩ : ∃ y_ : List Int, y_ = (y140 ++ bytesOf a2) := ⟨_, rfl⟩
                                        replace H : (abacusref20_Replace.l1 k4 a0 a1 a2 x11_1 (x11_1.length : Int) y143 (wrap64 ((rd x11_1 x17_4) + (a1.size : Int))) (wrap64 (x17_4 + 1))) = some (r1, r2, r3) := by first | (rw [hy143]; with_reducible exact H) | (have H2_ := (Option.bind_some _ _).symm.trans H; rw [hy143]; with_reducible exact H2_) | (have H2_ := (Option.bind_some _ _).symm.trans H; with_reducible exact H2_) | with_reducible exact H | (rw [hy143]; exact H) | exact H
                                        have Ny143 := Aside0.mk hy143
                                        clear hy143
                                        have H' := Aside0.mk H
                                        clear H
                                        have p139 : 0 ≤ (x17_4 : Int) := of_decide_eq_true (by first | (with_reducible assumption) | assumption)
                                        have q139 : x17_4 < (x11_1.length : Int) := of_decide_eq_true (by first | (with_reducible assumption) | assumption)
                                        obtain ⟨ad139, e139, hx139_0⟩ := Kd.at_int (Kd.R_reads' HO_11.out).2.2 x17_4 p139 q139
                                        cases e139
                                        replace p139 := eq_true p139
                                        replace q139 := eq_true q139
                                        go_wp2_with (first | (at_builtin; refine print_append_str (w0 := w) w.heap.size rfl (.tmp 79) _ 41 9 5 rfl Try.underlying41 Try.underlying9 info5 u15 x15_4 (a0.extract (x16_4 : Int).toNat ((rd x11_1 x17_4) : Int).toNat) rfl rfl ?aO ?aB ?aS ?aL ?_; (case aB => exact (by repeat (first | (with_reducible first | exact HB.out | apply below_alloc | apply pw_below_drewN | apply below_drew1) | exact HB.out))); (case aO => exact (Kd.own_of_R (by (with_reducible repeat (first | apply Kd.R_alloc | apply Kd.R_drewN | apply Kd.R_drew)); exact HO_15.out))); (case aS => exact (below_size (by repeat (first | (with_reducible first | exact HB.out | apply below_alloc | apply pw_below_drewN | apply below_drew1) | exact HB.out)))); (case aL => have := LMc29.out; omega); intro v141 w31 ho0 hb hg; have ho := Kd.R_of_own (h1 := fun _ => rfl) (ok := fun _ => True) ho0 (fun _ _ => trivial); clear ho0; have hat := True.intro; rw [← Ny140.out] at ho; change Kd.R (Kd.int .u8) 5 w31 w.heap.size (fun _ => True) v141 y140 at ho; have n0_ := Aside0.mk (Kd.R_over' (by (with_reducible repeat (first | apply Kd.R_alloc | apply Kd.R_drewN | apply Kd.R_drew)); exact HO_11.out) (Kd.R_typed (by (with_reducible repeat (first | apply Kd.R_alloc | apply Kd.R_drewN | apply Kd.R_drew)); exact HO_15.out)) (by decide) hg); have n1_ := Aside0.mk (hb); have n2_ := Aside0.mk (ho); clear HO_11; clear HB; clear HO_15; have HO_11 := n0_; have HB := n1_; have HO142 := n2_; clear n0_ n1_ n2_; clear ho hb hg hat) | (at_builtin; refine print_append_str (w0 := w) w.heap.size rfl (.tmp 88) _ 41 9 5 rfl Try.underlying41 Try.underlying9 info5 v141 y140 a2 rfl rfl ?aO ?aB ?aS ?aL ?_; (case aB => exact (by repeat (first | (with_reducible first | exact HB.out | apply below_alloc | apply pw_below_drewN | apply below_drew1) | exact HB.out))); (case aO => exact (Kd.own_of_R (by (with_reducible repeat (first | apply Kd.R_alloc | apply Kd.R_drewN | apply Kd.R_drew)); exact HO142.out))); (case aS => exact (below_size (by repeat (first | (with_reducible first | exact HB.out | apply below_alloc | apply pw_below_drewN | apply below_drew1) | exact HB.out)))); (case aL => have := LMc30.out; omega); intro v144 w32 ho0 hb hg; have ho := Kd.R_of_own (h1 := fun _ => rfl) (ok := fun _ => True) ho0 (fun _ _ => trivial); clear ho0; have hat := True.intro; rw [← Ny143.out] at ho; change Kd.R (Kd.int .u8) 5 w32 w.heap.size (fun _ => True) v144 y143 at ho; have n0_ := Aside0.mk (Kd.R_over' (by (with_reducible repeat (first | apply Kd.R_alloc | apply Kd.R_drewN | apply Kd.R_drew)); exact HO_11.out) (Kd.R_typed (by (with_reducible repeat (first | apply Kd.R_alloc | apply Kd.R_drewN | apply Kd.R_drew)); exact HO142.out)) (by decide) hg); have n1_ := Aside0.mk (hb); have n2_ := Aside0.mk (ho); clear HO_11; clear HB; clear HO142; have HO_11 := n0_; have HB := n1_; have HO145 := n2_; clear n0_ n1_ n2_; clear ho hb hg hat; have p146 : 0 ≤ (x17_4 : Int) := of_decide_eq_true (by first | (with_reducible assumption) | assumption); have q146 : x17_4 < (x11_1.length : Int) := of_decide_eq_true (by first | (with_reducible assumption) | assumption); obtain ⟨ad146, e146, hx146_0⟩ := Kd.at_int (Kd.R_reads' HO_11.out).2.2 x17_4 p146 q146; obtain rfl : ad139 = ad146 := (by injection e146); replace p146 := eq_true p146; replace q146 := eq_true q146))
                                        go_roundg k4
                                        case measure => have := HK1.out; have := HJ4.out; have := HJ15.out; have := HK4.out; omega
                                        case rel => exact ⟨(y143), (wrap64 ((rd x11_1 x17_4) + (a1.size : Int))), (wrap64 (x17_4 + 1)), (by first | rfl | (simp; done) | (simp [*]; done)), (by first | rfl | (simp; done) | (simp [*]; done)), H', ⟨by have := HK1.out; have := HJ4.out; have := HJ15.out; have := HK4.out; omega⟩, ⟨by (with_reducible repeat (first | apply Kd.R_alloc | apply Kd.R_drewN | apply Kd.R_drew)); exact HO_11.out⟩, ⟨by (with_reducible repeat (first | apply Kd.R_alloc | apply Kd.R_drewN | apply Kd.R_drew)); exact HO145.out⟩, ⟨by repeat (first | (with_reducible first | exact HB.out | apply below_alloc | apply pw_below_drewN | apply below_drew1) | exact HB.out)⟩⟩
                                      · rw [if_neg c30] at H
                                        exact absurd H (by simp)
                                    · rw [if_neg c29] at H
                                      exact absurd H (by simp)
                                  · rw [if_neg c28] at H
                                    exact absurd H (by simp)
                                · rw [if_neg c27] at H
                                  exact absurd H (by simp)
                              · rw [if_neg c26] at H
                                exact absurd H (by simp)
                            · rw [if_neg c25] at H
                              exact absurd H (by simp)
                          · rw [if_neg c24] at H
                            exact absurd H (by simp)
                        · rw [if_neg c23] at H
                          have c23b0 : decide (x17_4 < (x11_1.length : Int)) = false := decide_eq_false c23
                          clear c23
                          by_cases c33 : 0 ≤ x16_4
                          · rw [if_pos c33] at H
                            have c33b0 := eq_true c33
                            have c33b1 : decide (0 ≤ x16_4) = true := decide_eq_true c33
                            clear c33
                            by_cases c34 : x16_4 ≤ (a0.size : Int)
                            · rw [if_pos c34] at H
                              have c34b0 := eq_true c34
                              have c34b1 : decide (x16_4 ≤ (a0.size : Int)) = true := decide_eq_true c34
                              clear c34
                              by_cases c35 : x15_4.length + (a0.extract (x16_4 : Int).toNat a0.size).size < 140737488355328
                              · rw [if_pos c35] at H
                                have LMc35 := Aside0.mk c35
                                clear c35
                                obtain ⟨y147, hy147⟩ : ∃ y_ : List Int, y_ = (x15_4 ++ bytesOf (a0.extract (x16_4 : Int).toNat a0.size)) := ⟨_, rfl⟩
                                replace H : (some (strOfNums y147, (x11_1.length : Int), 0)) = some (r1, r2, r3) := by first | (rw [hy147]; with_reducible exact H) | (have H2_ := (Option.bind_some _ _).symm.trans H; rw [hy147]; with_reducible exact H2_) | (have H2_ := (Option.bind_some _ _).symm.trans H; with_reducible exact H2_) | with_reducible exact H | (rw [hy147]; exact H) | exact H
                                have Ny147 := Aside0.mk hy147
                                clear hy147
                                simp only [Option.some.injEq, Prod.mk.injEq] at H
                                obtain ⟨rfl, rfl, rfl⟩ := H
                                go_wp2_with (first | (at_builtin; refine print_append_str (w0 := w) w.heap.size rfl (.tmp 98) _ 41 9 5 rfl Try.underlying41 Try.underlying9 info5 u15 x15_4 (a0.extract (x16_4 : Int).toNat a0.size) rfl rfl ?aO ?aB ?aS ?aL ?_; (case aB => exact (by repeat (first | (with_reducible first | exact HB.out | apply below_alloc | apply pw_below_drewN | apply below_drew1) | exact HB.out))); (case aO => exact (Kd.own_of_R (by (with_reducible repeat (first | apply Kd.R_alloc | apply Kd.R_drewN | apply Kd.R_drew)); exact HO_15.out))); (case aS => exact (below_size (by repeat (first | (with_reducible first | exact HB.out | apply below_alloc | apply pw_below_drewN | apply below_drew1) | exact HB.out)))); (case aL => have := LMc35.out; omega); intro v148 w36 ho0 hb hg; have ho := Kd.R_of_own (h1 := fun _ => rfl) (ok := fun _ => True) ho0 (fun _ _ => trivial); clear ho0; have hat := True.intro; rw [← Ny147.out] at ho; change Kd.R (Kd.int .u8) 5 w36 w.heap.size (fun _ => True) v148 y147 at ho; have n0_ := Aside0.mk (Kd.R_over' (by (with_reducible repeat (first | apply Kd.R_alloc | apply Kd.R_drewN | apply Kd.R_drew)); exact HO_11.out) (Kd.R_typed (by (with_reducible repeat (first | apply Kd.R_alloc | apply Kd.R_drewN | apply Kd.R_drew)); exact HO_15.out)) (by decide) hg); have n1_ := Aside0.mk (hb); have n2_ := Aside0.mk (ho); clear HO_11; clear HB; clear HO_15; have HO_11 := n0_; have HB := n1_; have HO149 := n2_; clear n0_ n1_ n2_; clear ho hb hg hat; have hcv37 := own_string (P := Try.prog) Try.underlying41 Try.underlying5 Try.underlying9 (Kd.own_of_R HO149.out)))
                                go_ret3
                                exact ⟨by first | rfl | (simp [errW_none, errW_some] <;> rfl) | (simp [*, errW_none, errW_some] <;> rfl), by repeat (first | (with_reducible first | exact HB.out | apply below_alloc | apply pw_below_drewN | apply below_drew1) | exact HB.out)⟩
                              · rw [if_neg c35] at H
                                exact absurd H (by simp)
                            · rw [if_neg c34] at H
                              exact absurd H (by simp)
                          · rw [if_neg c33] at H
                            exact absurd H (by simp)

end Go.Proofs.Ytdeannaaafffbaa.ECh
