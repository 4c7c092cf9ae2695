/-
  A text of this session's own.
-/
import Derived.Test.YtlmijjekaelhcaaDoorSiEDix0
import Derived.Test.YtlmijjekaelhcaaDoorSiEDix15
import Derived.Test.YtlmijjekaelhcaaDoorSiEDix16
import Derived.Test.YtlmijjekaelhcaaDoorSiX
namespace Go.Proofs.YtlmijjekaelhcaaDoor.EDi
open Go.RowKit Go.Proofs.YtlmijjekaelhcaaDoorW.PrintWords Go.Proofs.YtlmijjekaelhcaaDoorW.PrintLast Go.Proofs.YtlmijjekaelhcaaDoorW.PrintMore
attribute [local go_sem] max2_int min2_int max_two min_two max_three min_three max_four min_four   -- for this text's walks alone
set_option linter.unusedVariables false
set_option linter.unusedSimpArgs false
open Go.Proofs.YtlmijjekaelhcaaDoor.X
mutual
def directive_reader_begins.j0 : Nat → Int → Bool → ByteArray → Int → Int → Int → ByteArray → Int → Int → Int → Int → Int → Int → Option (Int × ByteArray × Int × Int × Int × ByteArray × Int × Int × Int × Int × Int × Int)
  | 0, _, _, _, _, _, _, _, _, _, _, _, _, _ => none
  | k + 1, x3, x6, x1000, x1001, x1002, x1003, x1004, x1005, x1006, x1007, x1008, x1009, x1010 => if x6 = true then (some (0, x1000, x1001, x1002, x1003, x1004, x1005, x1006, x1007, x1008, x1009, x1010)) else ((directive_digit.f x3).bind fun t139 => (if t139 = true then (directive_reader_begins.j1 k x3 true x1000 x1001 x1002 x1003 x1004 x1005 x1006 x1007 x1008 x1009 x1010) else (directive_reader_begins.j1 k x3 (x3 == 42) x1000 x1001 x1002 x1003 x1004 x1005 x1006 x1007 x1008 x1009 x1010)))
def directive_reader_begins.j1 : Nat → Int → Bool → ByteArray → Int → Int → Int → ByteArray → Int → Int → Int → Int → Int → Int → Option (Int × ByteArray × Int × Int × Int × ByteArray × Int × Int × Int × Int × Int × Int)
  | 0, _, _, _, _, _, _, _, _, _, _, _, _, _ => none
  | k + 1, x3, x14, x1000, x1001, x1002, x1003, x1004, x1005, x1006, x1007, x1008, x1009, x1010 => if x14 = true then (some (1, x1000, x1001, x1002, x1003, x1004, x1005, x1006, x1007, x1008, x1009, x1010)) else (if x3 = 46 then (some (2, x1000, x1001, x1002, x1003, x1004, x1005, x1006, x1007, x1008, x1009, x1010)) else (some (3, x1000, x1001, x1002, x1003, x1004, x1005, x1006, x1007, x1008, x1009, x1010)))
end
def directive_reader_begins.f (k : Nat) (s0_0 : ByteArray) (s0_1 : Int) (s0_2 : Int) (s0_3 : Int) (s0_4 : ByteArray) (s0_5 : Int) (s0_6 : Int) (s0_7 : Int) (s0_8 : Int) (s0_9 : Int) (s0_10 : Int) : Option (Int × ByteArray × Int × Int × Int × ByteArray × Int × Int × Int × Int × Int × Int) := (directive_reader_now.f s0_0 s0_1 s0_2 s0_3 s0_4 s0_5 s0_6 s0_7 s0_8 s0_9 s0_10).bind fun bt126 => (if bt126.1 = 0 then (directive_reader_begins.j0 k bt126.1 false bt126.2.1 bt126.2.2.1 bt126.2.2.2.1 bt126.2.2.2.2.1 bt126.2.2.2.2.2.1 bt126.2.2.2.2.2.2.1 bt126.2.2.2.2.2.2.2.1 bt126.2.2.2.2.2.2.2.2.1 bt126.2.2.2.2.2.2.2.2.2.1 bt126.2.2.2.2.2.2.2.2.2.2.1 bt126.2.2.2.2.2.2.2.2.2.2.2) else ((xIndexByte.f (⟨#[45, 43, 32, 35, 48]⟩ : ByteArray) bt126.1).bind fun t138 => (directive_reader_begins.j0 k bt126.1 (decide (t138 ≥ 0)) bt126.2.1 bt126.2.2.1 bt126.2.2.2.1 bt126.2.2.2.2.1 bt126.2.2.2.2.2.1 bt126.2.2.2.2.2.2.1 bt126.2.2.2.2.2.2.2.1 bt126.2.2.2.2.2.2.2.2.1 bt126.2.2.2.2.2.2.2.2.2.1 bt126.2.2.2.2.2.2.2.2.2.2.1 bt126.2.2.2.2.2.2.2.2.2.2.2)))
theorem directive_reader_begins.mono_l : ∀ k, (∀ y0 y1 y2 y3 y4 y5 y6 y7 y8 y9 y10 y11 y12, LeO (directive_reader_begins.j0 k y0 y1 y2 y3 y4 y5 y6 y7 y8 y9 y10 y11 y12) (directive_reader_begins.j0 (k + 1) y0 y1 y2 y3 y4 y5 y6 y7 y8 y9 y10 y11 y12)) ∧ (∀ y0 y1 y2 y3 y4 y5 y6 y7 y8 y9 y10 y11 y12, LeO (directive_reader_begins.j1 k y0 y1 y2 y3 y4 y5 y6 y7 y8 y9 y10 y11 y12) (directive_reader_begins.j1 (k + 1) y0 y1 y2 y3 y4 y5 y6 y7 y8 y9 y10 y11 y12))
  | 0 => ⟨fun _ _ _ _ _ _ _ _ _ _ _ _ _ r h => by simp [directive_reader_begins.j0] at h, fun _ _ _ _ _ _ _ _ _ _ _ _ _ r h => by simp [directive_reader_begins.j1] at h⟩
  | k + 1 => by
    obtain ⟨ih0, ih1⟩ := directive_reader_begins.mono_l k
    refine ⟨?_, ?_⟩
    · intro y0 y1 y2 y3 y4 y5 y6 y7 y8 y9 y10 y11 y12
      unfold directive_reader_begins.j0
      repeat' first
      | (with_reducible exact ih0 _ _ _ _ _ _ _ _ _ _ _ _ _)
      | (with_reducible exact ih1 _ _ _ _ _ _ _ _ _ _ _ _ _)
      | (with_reducible exact LeO.refl _)
      | (with_reducible exact LeO.none _)
      | (with_reducible refine LeO.ite ?_ ?_)
      | (with_reducible refine LeO.bind ?_ (fun _ => ?_))
      | exact ih0 _ _ _ _ _ _ _ _ _ _ _ _ _
      | exact ih1 _ _ _ _ _ _ _ _ _ _ _ _ _
      | exact LeO.none _
      | refine LeO.ite ?_ ?_
      | refine LeO.bind ?_ (fun _ => ?_)
    · intro y0 y1 y2 y3 y4 y5 y6 y7 y8 y9 y10 y11 y12
      unfold directive_reader_begins.j1
      repeat' first
      | (with_reducible exact ih0 _ _ _ _ _ _ _ _ _ _ _ _ _)
      | (with_reducible exact ih1 _ _ _ _ _ _ _ _ _ _ _ _ _)
      | (with_reducible exact LeO.refl _)
      | (with_reducible exact LeO.none _)
      | (with_reducible refine LeO.ite ?_ ?_)
      | (with_reducible refine LeO.bind ?_ (fun _ => ?_))
      | exact ih0 _ _ _ _ _ _ _ _ _ _ _ _ _
      | exact ih1 _ _ _ _ _ _ _ _ _ _ _ _ _
      | exact LeO.none _
      | refine LeO.ite ?_ ?_
      | refine LeO.bind ?_ (fun _ => ?_)
theorem directive_reader_begins.mono : ∀ a0 a1 a2 a3 a4 a5 a6 a7 a8 a9 a10 k, LeO (directive_reader_begins.f k a0 a1 a2 a3 a4 a5 a6 a7 a8 a9 a10) (directive_reader_begins.f (k + 1) a0 a1 a2 a3 a4 a5 a6 a7 a8 a9 a10) := by
  intro a0 a1 a2 a3 a4 a5 a6 a7 a8 a9 a10 k
  obtain ⟨ih0, ih1⟩ := directive_reader_begins.mono_l k
  unfold directive_reader_begins.f
  repeat' first
      | (with_reducible exact ih0 _ _ _ _ _ _ _ _ _ _ _ _ _)
      | (with_reducible exact ih1 _ _ _ _ _ _ _ _ _ _ _ _ _)
      | (with_reducible exact LeO.refl _)
      | (with_reducible exact LeO.none _)
      | (with_reducible refine LeO.ite ?_ ?_)
      | (with_reducible refine LeO.bind ?_ (fun _ => ?_))
      | exact ih0 _ _ _ _ _ _ _ _ _ _ _ _ _
      | exact ih1 _ _ _ _ _ _ _ _ _ _ _ _ _
      | exact LeO.none _
      | refine LeO.ite ?_ ?_
      | refine LeO.bind ?_ (fun _ => ?_)
set_option maxHeartbeats 8000000 in
set_option maxRecDepth 100000 in
theorem directive_reader_begins.calls (k : Nat) (g : Nat) (s0_0 : ByteArray) (s0_1 : Int) (s0_2 : Int) (s0_3 : Int) (s0_4 : ByteArray) (s0_5 : Int) (s0_6 : Int) (s0_7 : Int) (s0_8 : Int) (s0_9 : Int) (s0_10 : Int) (r1 : Int) (r2 : ByteArray) (r3 : Int) (r4 : Int) (r5 : Int) (r6 : ByteArray) (r7 : Int) (r8 : Int) (r9 : Int) (r10 : Int) (r11 : Int) (r12 : Int) (w0 w : World) (hI : IsS70 w0 w g s0_0 s0_1 s0_2 s0_3 s0_4 s0_5 s0_6 s0_7 s0_8 s0_9 s0_10) (hB : Below w0.heap.size w0 w) (h : directive_reader_begins.f k s0_0 s0_1 s0_2 s0_3 s0_4 s0_5 s0_6 s0_7 s0_8 s0_9 s0_10 = some (r1, r2, r3, r4, r5, r6, r7, r8, r9, r10, r11, r12)) :
    Calls Tryd.prog 45 #[.pointer (some ⟨g, 0, none⟩)] w fun e w' => e = .returned (.int .i64 r1) ∧ IsS70 w0 w' g r2 r3 r4 r5 r6 r7 r8 r9 r10 r11 r12 ∧ Below w0.heap.size w0 w' ∧ KeepBut w w' g none := by
  have HI0 := Aside0.mk hI
  have HK := Aside0.mk (KeepBut.refl w g none)
  have HL := Aside0.mk hB.size
  clear hI
  have HW0 := Aside0.mk hB.size
  have HB := Aside0.mk hB
  clear hB
  have H : ((directive_reader_now.f s0_0 s0_1 s0_2 s0_3 s0_4 s0_5 s0_6 s0_7 s0_8 s0_9 s0_10).bind fun bt126 => (if bt126.1 = 0 then (directive_reader_begins.j0 k bt126.1 false bt126.2.1 bt126.2.2.1 bt126.2.2.2.1 bt126.2.2.2.2.1 bt126.2.2.2.2.2.1 bt126.2.2.2.2.2.2.1 bt126.2.2.2.2.2.2.2.1 bt126.2.2.2.2.2.2.2.2.1 bt126.2.2.2.2.2.2.2.2.2.1 bt126.2.2.2.2.2.2.2.2.2.2.1 bt126.2.2.2.2.2.2.2.2.2.2.2) else ((xIndexByte.f (⟨#[45, 43, 32, 35, 48]⟩ : ByteArray) bt126.1).bind fun t138 => (directive_reader_begins.j0 k bt126.1 (decide (t138 ≥ 0)) bt126.2.1 bt126.2.2.1 bt126.2.2.2.1 bt126.2.2.2.2.1 bt126.2.2.2.2.2.1 bt126.2.2.2.2.2.2.1 bt126.2.2.2.2.2.2.2.1 bt126.2.2.2.2.2.2.2.2.1 bt126.2.2.2.2.2.2.2.2.2.1 bt126.2.2.2.2.2.2.2.2.2.2.1 bt126.2.2.2.2.2.2.2.2.2.2.2)))) = some (r1, r2, r3, r4, r5, r6, r7, r8, r9, r10, r11, r12) := h
  clear h
  replace H := Option.bind_eq_some_iff.mp H
  obtain ⟨⟨t126, t127, t128, t129, t130, t131, t132, t133, t134, t135, t136, t137⟩, A20, H⟩ := H
  replace H : (if t126 = 0 then (directive_reader_begins.j0 k t126 false t127 t128 t129 t130 t131 t132 t133 t134 t135 t136 t137) else ((xIndexByte.f (⟨#[45, 43, 32, 35, 48]⟩ : ByteArray) t126).bind fun t138 => (directive_reader_begins.j0 k t126 (decide (t138 ≥ 0)) t127 t128 t129 t130 t131 t132 t133 t134 t135 t136 t137))) = some (r1, r2, r3, r4, r5, r6, r7, r8, r9, r10, r11, r12) := H
  have A2 := Aside0.mk A20
  clear A20
  have HC3 := Aside0.mk H
  clear H
  go_enter Tryd.func45, Tryd.ntmps45
  go_upto_region 2 with (first | ((with_reducible refine gate_callee (f := 46) rfl ?_); refine goesL_ (some 5) rfl rfl Tryd.func46 (by kernel_rfl) rfl #[.pointer (some ⟨g, 0, none⟩)] rfl (by (try simp only [List.map_toArray, List.map_cons, List.map_nil]); first | done | rfl | (simp only [List.length_drop, List.length_take]; rfl)) ?_; (with_reducible refine (directive_reader_now.calls g s0_0 s0_1 s0_2 s0_3 s0_4 s0_5 s0_6 s0_7 s0_8 s0_9 s0_10 t126 t127 t128 t129 t130 t131 t132 t133 t134 t135 t136 t137 w0 _ ?side1 ?side2 A2.out).mono ?_); (case side1 => repeat (first | (with_reducible first | exact HI0.out | apply IsS70.alloc | apply IsS70.drewN | apply IsS70.drew | apply IsS70.set_0 | apply IsS70.set_1 | apply IsS70.set_2 | apply IsS70.set_3 | apply IsS70.set_4 | apply IsS70.set_5 | apply IsS70.set_6 | apply IsS70.set_7 | apply IsS70.set_8 | apply IsS70.set_9 | apply IsS70.set_10) | exact HI0.out)); (case side2 => repeat (first | (with_reducible first | exact HB.out | apply below_alloc | apply pw_below_drewN | apply below_drew1 | refine below_set ?_ (IsS70.ge HI0.out)) | exact HB.out)); rintro e w4 ⟨rfl, hi, hb, hk⟩; refine ⟨_, rfl, ?_⟩; have n0_ := Aside0.mk (KeepBut.trans (by repeat (first | (with_reducible first | exact HK.out | apply KeepBut.set_ | apply keep_drewN | apply keep_drew | apply keep_alloc) | exact HK.out)) hk (.inl rfl)); have n1_ := Aside0.mk (hb); have n2_ := Aside0.mk (hi); clear HK; clear HB; clear HI0; have HK := n0_; have HB := n1_; have HI0 := n2_; clear n0_ n1_ n2_; (try clear hb); (try clear hb2); (try clear hk); (try clear hi)))
  (try simp only [Act.put, List.setIfInBounds_toArray, List.set_cons_zero, List.set_cons_succ])
  go_cut [6] (fun v6 wc => ∃ (kq : Nat) (x6_2 : Bool), v6 = .bool x6_2 ∧ Aside0 (directive_reader_begins.j0 kq t126 x6_2 t127 t128 t129 t130 t131 t132 t133 t134 t135 t136 t137 = some (r1, r2, r3, r4, r5, r6, r7, r8, r9, r10, r11, r12)) ∧ Aside0 (kq ≤ k) ∧ Aside0 (IsS70 w0 wc g t127 t128 t129 t130 t131 t132 t133 t134 t135 t136 t137) ∧ Aside0 (KeepBut w wc g none) ∧ Aside0 (Below w0.heap.size w0 wc))
  case first =>
    have H := HC3.out
    clear HC3
    by_cases c5 : t126 = 0
    · rw [if_pos c5] at H
      have c5b0 : (t126 == 0) = true := beq_iff_eq.mpr c5
      have c5b1 : (t126 != 0) = false := bne_eq_false_iff_eq.mpr c5
      clear c5
      (first | rw [c5b0] | (simp only [i64_w, i32_w]; rw [c5b0]) | skip)
      have H' := Aside0.mk H
      clear H
      go_wp2
      go_meet
      case rel => exact ⟨_, (false), (by first | rfl | (simp; done) | (simp [*]; done)), H', ⟨by first | omega | exact Nat.le_refl _⟩, ⟨by repeat (first | (with_reducible first | exact HI0.out | apply IsS70.alloc | apply IsS70.drewN | apply IsS70.drew | apply IsS70.set_0 | apply IsS70.set_1 | apply IsS70.set_2 | apply IsS70.set_3 | apply IsS70.set_4 | apply IsS70.set_5 | apply IsS70.set_6 | apply IsS70.set_7 | apply IsS70.set_8 | apply IsS70.set_9 | apply IsS70.set_10) | exact HI0.out)⟩, ⟨by repeat (first | (with_reducible first | exact HK.out | apply KeepBut.set_ | apply keep_drewN | apply keep_drew | apply keep_alloc) | exact HK.out)⟩, ⟨by repeat (first | (with_reducible first | exact HB.out | apply below_alloc | apply pw_below_drewN | apply below_drew1 | refine below_set ?_ (IsS70.ge HI0.out)) | exact HB.out)⟩⟩
    · rw [if_neg c5] at H
      have c5b0 : (t126 == 0) = false := beq_eq_false_iff_ne.mpr c5
      have c5b1 : (t126 != 0) = true := bne_iff_ne.mpr c5
      (first | rw [c5b0] | (simp only [i64_w, i32_w]; rw [c5b0]) | skip)
      replace H := Option.bind_eq_some_iff.mp H
      obtain ⟨t138, A60, H⟩ := H
      replace H : (directive_reader_begins.j0 k t126 (decide (t138 ≥ 0)) t127 t128 t129 t130 t131 t132 t133 t134 t135 t136 t137) = some (r1, r2, r3, r4, r5, r6, r7, r8, r9, r10, r11, r12) := H
      have A6 := Aside0.mk A60
      clear A60
      have H' := Aside0.mk H
      clear H
      go_wp2_with (first | (go_at_call 25; (with_reducible refine (xIndexByte.calls (⟨#[45, 43, 32, 35, 48]⟩ : ByteArray) t126 t138 _ A6.out).mono ?_); rintro e w7 ⟨rfl, hb⟩; have n0_ := Aside0.mk (IsS70.below (by repeat (first | (with_reducible first | exact HI0.out | apply IsS70.alloc | apply IsS70.drewN | apply IsS70.drew | apply IsS70.set_0 | apply IsS70.set_1 | apply IsS70.set_2 | apply IsS70.set_3 | apply IsS70.set_4 | apply IsS70.set_5 | apply IsS70.set_6 | apply IsS70.set_7 | apply IsS70.set_8 | apply IsS70.set_9 | apply IsS70.set_10) | exact HI0.out)) hb); have n1_ := Aside0.mk (KeepBut.trans (by repeat (first | (with_reducible first | exact HK.out | apply KeepBut.set_ | apply keep_drewN | apply keep_drew | apply keep_alloc) | exact HK.out)) (KeepBut.of_below hb g none) (.inl rfl)); have n2_ := Aside0.mk (below_step (by repeat (first | (with_reducible first | exact HB.out | apply below_alloc | apply pw_below_drewN | apply below_drew1 | refine below_set ?_ (IsS70.ge HI0.out)) | exact HB.out)) hb); clear HI0; clear HK; clear HB; have HI0 := n0_; have HK := n1_; have HB := n2_; clear n0_ n1_ n2_; (try clear hb); (try clear hb2); (try clear hk); (try clear hi)))
      go_meet
      case rel => exact ⟨_, (decide (t138 ≥ 0)), (by first | rfl | (simp; done) | (simp [*]; done)), H', ⟨by first | omega | exact Nat.le_refl _⟩, ⟨by repeat (first | (with_reducible first | exact HI0.out | apply IsS70.alloc | apply IsS70.drewN | apply IsS70.drew | apply IsS70.set_0 | apply IsS70.set_1 | apply IsS70.set_2 | apply IsS70.set_3 | apply IsS70.set_4 | apply IsS70.set_5 | apply IsS70.set_6 | apply IsS70.set_7 | apply IsS70.set_8 | apply IsS70.set_9 | apply IsS70.set_10) | exact HI0.out)⟩, ⟨by repeat (first | (with_reducible first | exact HK.out | apply KeepBut.set_ | apply keep_drewN | apply keep_drew | apply keep_alloc) | exact HK.out)⟩, ⟨by repeat (first | (with_reducible first | exact HB.out | apply below_alloc | apply pw_below_drewN | apply below_drew1 | refine below_set ?_ (IsS70.ge HI0.out)) | exact HB.out)⟩⟩
  case rest =>
    clear HC3
    try clear p2
    try clear c4
    try clear c5
    try clear c5b0
    try clear c5b1
    obtain ⟨kq, x6_2, rfl, HA, HJ2, HI0, HK, HB⟩ := hcut
    cases kq with
    | zero => exact absurd HA.out (by simp [directive_reader_begins.j0])
    | succ kj2 =>
      have H := HA.out
      clear HA
      simp only [directive_reader_begins.j0] at H
      by_cases c8 : x6_2 = true
      · subst c8
        have H1 : (some (0, t127, t128, t129, t130, t131, t132, t133, t134, t135, t136, t137)) = some (r1, r2, r3, r4, r5, r6, r7, r8, r9, r10, r11, r12) := by rw [if_pos rfl] at H; exact H
        clear H
        have H := H1
        clear H1
        simp only [Option.some.injEq, Prod.mk.injEq] at H
        obtain ⟨rfl, rfl, rfl, rfl, rfl, rfl, rfl, rfl, rfl, rfl, rfl, rfl⟩ := H
        go_wp2
        go_ret
        exact ⟨by first | rfl | (simp [errW_none, errW_some] <;> rfl) | (simp [*, errW_none, errW_some] <;> rfl), by repeat (first | (with_reducible first | exact HI0.out | apply IsS70.alloc | apply IsS70.drewN | apply IsS70.drew | apply IsS70.set_0 | apply IsS70.set_1 | apply IsS70.set_2 | apply IsS70.set_3 | apply IsS70.set_4 | apply IsS70.set_5 | apply IsS70.set_6 | apply IsS70.set_7 | apply IsS70.set_8 | apply IsS70.set_9 | apply IsS70.set_10) | exact HI0.out), by repeat (first | (with_reducible first | exact HB.out | apply below_alloc | apply pw_below_drewN | apply below_drew1 | refine below_set ?_ (IsS70.ge HI0.out)) | exact HB.out), by repeat (first | (with_reducible first | exact HK.out | apply KeepBut.set_ | apply keep_drewN | apply keep_drew | apply keep_alloc) | exact HK.out)⟩
      · replace c8 := Bool.eq_false_iff.mpr c8
        subst c8
        have H1 : ((directive_digit.f t126).bind fun t139 => (if t139 = true then (directive_reader_begins.j1 kj2 t126 true t127 t128 t129 t130 t131 t132 t133 t134 t135 t136 t137) else (directive_reader_begins.j1 kj2 t126 (t126 == 42) t127 t128 t129 t130 t131 t132 t133 t134 t135 t136 t137))) = some (r1, r2, r3, r4, r5, r6, r7, r8, r9, r10, r11, r12) := by rw [if_neg (show ¬ (false = true) by decide)] at H; exact H
        clear H
        have H := H1
        clear H1
        have HC9 := Aside0.mk H
        clear H
        go_upto_region 4 with (fail)
        go_cut [14] (fun v14 wc => ∃ (kq : Nat) (x14_8 : Bool), v14 = .bool x14_8 ∧ Aside0 (directive_reader_begins.j1 kq t126 x14_8 t127 t128 t129 t130 t131 t132 t133 t134 t135 t136 t137 = some (r1, r2, r3, r4, r5, r6, r7, r8, r9, r10, r11, r12)) ∧ Aside0 (kq ≤ kj2) ∧ Aside0 (IsS70 w0 wc g t127 t128 t129 t130 t131 t132 t133 t134 t135 t136 t137) ∧ Aside0 (KeepBut w wc g none) ∧ Aside0 (Below w0.heap.size w0 wc))
        case first =>
          have H := HC9.out
          clear HC9
          replace H := Option.bind_eq_some_iff.mp H
          obtain ⟨t139, A100, H⟩ := H
          replace H : (if t139 = true then (directive_reader_begins.j1 kj2 t126 true t127 t128 t129 t130 t131 t132 t133 t134 t135 t136 t137) else (directive_reader_begins.j1 kj2 t126 (t126 == 42) t127 t128 t129 t130 t131 t132 t133 t134 t135 t136 t137)) = some (r1, r2, r3, r4, r5, r6, r7, r8, r9, r10, r11, r12) := H
          have A10 := Aside0.mk A100
          clear A100
          by_cases c11 : t139 = true
          · subst c11
            have H1 : (directive_reader_begins.j1 kj2 t126 true t127 t128 t129 t130 t131 t132 t133 t134 t135 t136 t137) = some (r1, r2, r3, r4, r5, r6, r7, r8, r9, r10, r11, r12) := by rw [if_pos rfl] at H; exact H
            clear H
            have H := H1
            clear H1
            have H' := Aside0.mk H
            clear H
            go_wp2_with (first | ((with_reducible refine gate_callee (f := 57) rfl ?_); refine goesL_ (some 16) rfl rfl Tryd.func57 (by kernel_rfl) rfl #[.int .u8 t126] rfl (by (try simp only [List.map_toArray, List.map_cons, List.map_nil]); first | done | rfl | (simp only [List.length_drop, List.length_take]; rfl)) ?_; (with_reducible refine (directive_digit.calls t126 true _ A10.out).mono ?_); rintro e w' ⟨rfl, ⟨nd, rfl⟩⟩; refine ⟨_, rfl, ?_⟩))
            go_meet
            case rel => exact ⟨_, (true), (by first | rfl | (simp; done) | (simp [*]; done)), H', ⟨by have := HJ2.out; first | omega | exact Nat.le_refl _⟩, ⟨by repeat (first | (with_reducible first | exact HI0.out | apply IsS70.alloc | apply IsS70.drewN | apply IsS70.drew | apply IsS70.set_0 | apply IsS70.set_1 | apply IsS70.set_2 | apply IsS70.set_3 | apply IsS70.set_4 | apply IsS70.set_5 | apply IsS70.set_6 | apply IsS70.set_7 | apply IsS70.set_8 | apply IsS70.set_9 | apply IsS70.set_10) | exact HI0.out)⟩, ⟨by repeat (first | (with_reducible first | exact HK.out | apply KeepBut.set_ | apply keep_drewN | apply keep_drew | apply keep_alloc) | exact HK.out)⟩, ⟨by repeat (first | (with_reducible first | exact HB.out | apply below_alloc | apply pw_below_drewN | apply below_drew1 | refine below_set ?_ (IsS70.ge HI0.out)) | exact HB.out)⟩⟩
          · replace c11 := Bool.eq_false_iff.mpr c11
            subst c11
            have H1 : (directive_reader_begins.j1 kj2 t126 (t126 == 42) t127 t128 t129 t130 t131 t132 t133 t134 t135 t136 t137) = some (r1, r2, r3, r4, r5, r6, r7, r8, r9, r10, r11, r12) := by rw [if_neg (show ¬ (false = true) by decide)] at H; exact H
            clear H
            have H := H1
            clear H1
            have H' := Aside0.mk H
            clear H
            go_wp2_with (first | ((with_reducible refine gate_callee (f := 57) rfl ?_); refine goesL_ (some 16) rfl rfl Tryd.func57 (by kernel_rfl) rfl #[.int .u8 t126] rfl (by (try simp only [List.map_toArray, List.map_cons, List.map_nil]); first | done | rfl | (simp only [List.length_drop, List.length_take]; rfl)) ?_; (with_reducible refine (directive_digit.calls t126 false _ A10.out).mono ?_); rintro e w' ⟨rfl, ⟨nd, rfl⟩⟩; refine ⟨_, rfl, ?_⟩))
            go_meet
            case rel => exact ⟨_, ((t126 == 42)), (by first | rfl | (simp; done) | (simp [*]; done)), H', ⟨by have := HJ2.out; first | omega | exact Nat.le_refl _⟩, ⟨by repeat (first | (with_reducible first | exact HI0.out | apply IsS70.alloc | apply IsS70.drewN | apply IsS70.drew | apply IsS70.set_0 | apply IsS70.set_1 | apply IsS70.set_2 | apply IsS70.set_3 | apply IsS70.set_4 | apply IsS70.set_5 | apply IsS70.set_6 | apply IsS70.set_7 | apply IsS70.set_8 | apply IsS70.set_9 | apply IsS70.set_10) | exact HI0.out)⟩, ⟨by repeat (first | (with_reducible first | exact HK.out | apply KeepBut.set_ | apply keep_drewN | apply keep_drew | apply keep_alloc) | exact HK.out)⟩, ⟨by repeat (first | (with_reducible first | exact HB.out | apply below_alloc | apply pw_below_drewN | apply below_drew1 | refine below_set ?_ (IsS70.ge HI0.out)) | exact HB.out)⟩⟩
        case rest =>
          clear HC9
          try clear c1
          try clear p2
          try clear c4
          try clear c5
          try clear c5b0
          try clear c5b1
          try clear c8
          try clear c11
          try clear p2
          obtain ⟨kq, x14_8, rfl, HA, HJ8, HI0, HK, HB⟩ := hcut
          cases kq with
          | zero => exact absurd HA.out (by simp [directive_reader_begins.j1])
          | succ kj8 =>
            have H := HA.out
            clear HA
            simp only [directive_reader_begins.j1] at H
            by_cases c12 : x14_8 = true
            · subst c12
              have H1 : (some (1, t127, t128, t129, t130, t131, t132, t133, t134, t135, t136, t137)) = some (r1, r2, r3, r4, r5, r6, r7, r8, r9, r10, r11, r12) := by rw [if_pos rfl] at H; exact H
              clear H
              have H := H1
              clear H1
              simp only [Option.some.injEq, Prod.mk.injEq] at H
              obtain ⟨rfl, rfl, rfl, rfl, rfl, rfl, rfl, rfl, rfl, rfl, rfl, rfl⟩ := H
              go_wp2
              go_ret
              exact ⟨by first | rfl | (simp [errW_none, errW_some] <;> rfl) | (simp [*, errW_none, errW_some] <;> rfl), by repeat (first | (with_reducible first | exact HI0.out | apply IsS70.alloc | apply IsS70.drewN | apply IsS70.drew | apply IsS70.set_0 | apply IsS70.set_1 | apply IsS70.set_2 | apply IsS70.set_3 | apply IsS70.set_4 | apply IsS70.set_5 | apply IsS70.set_6 | apply IsS70.set_7 | apply IsS70.set_8 | apply IsS70.set_9 | apply IsS70.set_10) | exact HI0.out), by repeat (first | (with_reducible first | exact HB.out | apply below_alloc | apply pw_below_drewN | apply below_drew1 | refine below_set ?_ (IsS70.ge HI0.out)) | exact HB.out), by repeat (first | (with_reducible first | exact HK.out | apply KeepBut.set_ | apply keep_drewN | apply keep_drew | apply keep_alloc) | exact HK.out)⟩
            · replace c12 := Bool.eq_false_iff.mpr c12
              subst c12
              have H1 : (if t126 = 46 then (some (2, t127, t128, t129, t130, t131, t132, t133, t134, t135, t136, t137)) else (some (3, t127, t128, t129, t130, t131, t132, t133, t134, t135, t136, t137))) = some (r1, r2, r3, r4, r5, r6, r7, r8, r9, r10, r11, r12) := by rw [if_neg (show ¬ (false = true) by decide)] at H; exact H
              clear H
              have H := H1
              clear H1
              by_cases c13 : t126 = 46
              · rw [if_pos c13] at H
                have c13b0 : (t126 == 46) = true := beq_iff_eq.mpr c13
                have c13b1 : (t126 != 46) = false := bne_eq_false_iff_eq.mpr c13
                clear c13
                simp only [Option.some.injEq, Prod.mk.injEq] at H
                obtain ⟨rfl, rfl, rfl, rfl, rfl, rfl, rfl, rfl, rfl, rfl, rfl, rfl⟩ := H
                go_wp2
                go_ret
                exact ⟨by first | rfl | (simp [errW_none, errW_some] <;> rfl) | (simp [*, errW_none, errW_some] <;> rfl), by repeat (first | (with_reducible first | exact HI0.out | apply IsS70.alloc | apply IsS70.drewN | apply IsS70.drew | apply IsS70.set_0 | apply IsS70.set_1 | apply IsS70.set_2 | apply IsS70.set_3 | apply IsS70.set_4 | apply IsS70.set_5 | apply IsS70.set_6 | apply IsS70.set_7 | apply IsS70.set_8 | apply IsS70.set_9 | apply IsS70.set_10) | exact HI0.out), by repeat (first | (with_reducible first | exact HB.out | apply below_alloc | apply pw_below_drewN | apply below_drew1 | refine below_set ?_ (IsS70.ge HI0.out)) | exact HB.out), by repeat (first | (with_reducible first | exact HK.out | apply KeepBut.set_ | apply keep_drewN | apply keep_drew | apply keep_alloc) | exact HK.out)⟩
              · rw [if_neg c13] at H
                have c13b0 : (t126 == 46) = false := beq_eq_false_iff_ne.mpr c13
                have c13b1 : (t126 != 46) = true := bne_iff_ne.mpr c13
                simp only [Option.some.injEq, Prod.mk.injEq] at H
                obtain ⟨rfl, rfl, rfl, rfl, rfl, rfl, rfl, rfl, rfl, rfl, rfl, rfl⟩ := H
                go_wp2
                go_ret
                exact ⟨by first | rfl | (simp [errW_none, errW_some] <;> rfl) | (simp [*, errW_none, errW_some] <;> rfl), by repeat (first | (with_reducible first | exact HI0.out | apply IsS70.alloc | apply IsS70.drewN | apply IsS70.drew | apply IsS70.set_0 | apply IsS70.set_1 | apply IsS70.set_2 | apply IsS70.set_3 | apply IsS70.set_4 | apply IsS70.set_5 | apply IsS70.set_6 | apply IsS70.set_7 | apply IsS70.set_8 | apply IsS70.set_9 | apply IsS70.set_10) | exact HI0.out), by repeat (first | (with_reducible first | exact HB.out | apply below_alloc | apply pw_below_drewN | apply below_drew1 | refine below_set ?_ (IsS70.ge HI0.out)) | exact HB.out), by repeat (first | (with_reducible first | exact HK.out | apply KeepBut.set_ | apply keep_drewN | apply keep_drew | apply keep_alloc) | exact HK.out)⟩
end Go.Proofs.YtlmijjekaelhcaaDoor.EDi
