-- Written by eprint.py (a program of this session's, over the kit's print), not by hand.
import Derived.Test.YtdeannaaafffbaaEChx0
import Derived.Test.YtdeannaaafffbaaEChx1
import Derived.Test.YtdeannaaafffbaaEChx3
import Derived.Test.YtdeannaaafffbaaEChx4
import Derived.Test.YtdeannaaafffbaaEChx6
import Derived.Test.YtdeannaaafffbaaEChx8
import Derived.Test.YtdeannaaafffbaaEChx9
import Derived.Test.YtdeannaaafffbaaX
namespace Go.Proofs.Ytdeannaaafffbaa.ECh
open Go.RowKit Go.Proofs.YtdeannaaafffbaaW.PrintWords Go.Proofs.YtdeannaaafffbaaW.PrintLast Go.Proofs.YtdeannaaafffbaaW.PrintMore
attribute [local go_sem] max2_int min2_int max_two min_two max_three min_three max_four min_four   -- for this text's walks alone
set_option linter.unusedVariables false
set_option linter.unusedSimpArgs false

open Go.Proofs.Ytdeannaaafffbaa.X
/-! ### abacuslaw20_CharsIndexes: function 3 -/
mutual
def abacuslaw20_CharsIndexes.j0 : Nat → List (S28) → Bool → Option (Bool)
  | 0, _, _ => none
  | k + 1, x0, x14 => if x14 = true then (some false) else (abacuslaw20_CharsIndexes.l0 k x0 0)
def abacuslaw20_CharsIndexes.l0 : Nat → List (S28) → Int → Option (Bool)
  | 0, _, _ => none
  | k + 1, x0, x3 => if x3 < (x0.length : Int) then (if 0 ≤ x3 then ((chars_Index.f ((rd_T28 x0 x3).f0) ((rd_T28 x0 x3).f1)).bind fun t124 => ((abacusref20_Index.f k ((rd_T28 x0 x3).f0) ((rd_T28 x0 x3).f1)).bind fun t125 => (if t124 = t125 then ((chars_Index.f ((rd_T28 x0 x3).f1) ((rd_T28 x0 x3).f0)).bind fun t126 => ((abacusref20_Index.f k ((rd_T28 x0 x3).f1) ((rd_T28 x0 x3).f0)).bind fun t127 => (abacuslaw20_CharsIndexes.j2 k x0 x3 (t126 != t127) ((rd_T28 x0 x3).f0) ((rd_T28 x0 x3).f1) ((rd_T28 x0 x3).f2) ((rd_T28 x0 x3).f3) ((rd_T28 x0 x3).f4) ((rd_T28 x0 x3).f5) ((rd_T28 x0 x3).f6)))) else (abacuslaw20_CharsIndexes.j2 k x0 x3 true ((rd_T28 x0 x3).f0) ((rd_T28 x0 x3).f1) ((rd_T28 x0 x3).f2) ((rd_T28 x0 x3).f3) ((rd_T28 x0 x3).f4) ((rd_T28 x0 x3).f5) ((rd_T28 x0 x3).f6))))) else (none)) else (some true)
def abacuslaw20_CharsIndexes.j2 : Nat → List (S28) → Int → Bool → ByteArray → ByteArray → ByteArray → Int → Int → List ByteArray → Int → Option (Bool)
  | 0, _, _, _, _, _, _, _, _, _, _ => none
  | k + 1, x0, x3, x48, x124000, x124001, x124002, x124003, x124004, x124005, x124006 => if x48 = true then (some false) else ((chars_Lower.f k x124000).bind fun t128 => ((abacusref20_Lower.f k x124000).bind fun t129 => (if t128.toList = t129.toList then ((chars_Upper.f k x124000).bind fun t130 => ((abacusref20_Upper.f k x124000).bind fun t131 => (if t130.toList = t131.toList then (abacuslaw20_CharsIndexes.l0 k x0 (wrap64 (x3 + 1))) else (some false)))) else (some false))))
end
def abacuslaw20_CharsIndexes.f (k : Nat) (l0 : List (S28)) : Option (Bool) := (chars_Index.f (⟨#[104, 101, 108, 108, 111]⟩ : ByteArray) (⟨#[108, 111]⟩ : ByteArray)).bind fun t119 => (if t119 = 4 then ((chars_Lower.f k (⟨#[65, 98, 90, 91]⟩ : ByteArray)).bind fun t120 => (if t120.toList = ([97, 98, 122, 91] : List UInt8) then ((chars_Upper.f k (⟨#[97, 122, 123]⟩ : ByteArray)).bind fun t121 => (abacuslaw20_CharsIndexes.j0 k l0 (t121.toList != ([65, 90, 123] : List UInt8)))) else (abacuslaw20_CharsIndexes.j0 k l0 true))) else (abacuslaw20_CharsIndexes.j0 k l0 true))
theorem abacuslaw20_CharsIndexes.mono_l : ∀ k, (∀ y0 y1, LeO (abacuslaw20_CharsIndexes.j0 k y0 y1) (abacuslaw20_CharsIndexes.j0 (k + 1) y0 y1)) ∧ (∀ y0 y1, LeO (abacuslaw20_CharsIndexes.l0 k y0 y1) (abacuslaw20_CharsIndexes.l0 (k + 1) y0 y1)) ∧ (∀ y0 y1 y2 y3 y4 y5 y6 y7 y8 y9, LeO (abacuslaw20_CharsIndexes.j2 k y0 y1 y2 y3 y4 y5 y6 y7 y8 y9) (abacuslaw20_CharsIndexes.j2 (k + 1) y0 y1 y2 y3 y4 y5 y6 y7 y8 y9))
  | 0 => ⟨fun _ _ r h => by simp [abacuslaw20_CharsIndexes.j0] at h, fun _ _ r h => by simp [abacuslaw20_CharsIndexes.l0] at h, fun _ _ _ _ _ _ _ _ _ _ r h => by simp [abacuslaw20_CharsIndexes.j2] at h⟩
  | k + 1 => by
    obtain ⟨ih0, ih1, ih2⟩ := abacuslaw20_CharsIndexes.mono_l k
    refine ⟨?_, ?_, ?_⟩
    · intro y0 y1
      unfold abacuslaw20_CharsIndexes.j0
      repeat' first
      | (with_reducible exact ih0 _ _)
      | (with_reducible exact ih1 _ _)
      | (with_reducible exact ih2 _ _ _ _ _ _ _ _ _ _)
      | (with_reducible exact abacusref20_Index.mono _ _ _)
      | (with_reducible exact abacusref20_Lower.mono _ _)
      | (with_reducible exact abacusref20_Upper.mono _ _)
      | (with_reducible exact chars_Lower.mono _ _)
      | (with_reducible exact chars_Upper.mono _ _)
      | (with_reducible exact LeO.refl _)
      | (with_reducible exact LeO.none _)
      | (with_reducible refine LeO.ite ?_ ?_)
      | (with_reducible refine LeO.bind ?_ (fun _ => ?_))
      | exact ih0 _ _
      | exact ih1 _ _
      | exact ih2 _ _ _ _ _ _ _ _ _ _
      | exact abacusref20_Index.mono _ _ _
      | exact abacusref20_Lower.mono _ _
      | exact abacusref20_Upper.mono _ _
      | exact chars_Lower.mono _ _
      | exact chars_Upper.mono _ _
      | exact LeO.none _
      | refine LeO.ite ?_ ?_
      | refine LeO.bind ?_ (fun _ => ?_)
    · intro y0 y1
      unfold abacuslaw20_CharsIndexes.l0
      repeat' first
      | (with_reducible exact ih0 _ _)
      | (with_reducible exact ih1 _ _)
      | (with_reducible exact ih2 _ _ _ _ _ _ _ _ _ _)
      | (with_reducible exact abacusref20_Index.mono _ _ _)
      | (with_reducible exact abacusref20_Lower.mono _ _)
      | (with_reducible exact abacusref20_Upper.mono _ _)
      | (with_reducible exact chars_Lower.mono _ _)
      | (with_reducible exact chars_Upper.mono _ _)
      | (with_reducible exact LeO.refl _)
      | (with_reducible exact LeO.none _)
      | (with_reducible refine LeO.ite ?_ ?_)
      | (with_reducible refine LeO.bind ?_ (fun _ => ?_))
      | exact ih0 _ _
      | exact ih1 _ _
      | exact ih2 _ _ _ _ _ _ _ _ _ _
      | exact abacusref20_Index.mono _ _ _
      | exact abacusref20_Lower.mono _ _
      | exact abacusref20_Upper.mono _ _
      | exact chars_Lower.mono _ _
      | exact chars_Upper.mono _ _
      | exact LeO.none _
      | refine LeO.ite ?_ ?_
      | refine LeO.bind ?_ (fun _ => ?_)
    · intro y0 y1 y2 y3 y4 y5 y6 y7 y8 y9
      unfold abacuslaw20_CharsIndexes.j2
      repeat' first
      | (with_reducible exact ih0 _ _)
      | (with_reducible exact ih1 _ _)
      | (with_reducible exact ih2 _ _ _ _ _ _ _ _ _ _)
      | (with_reducible exact abacusref20_Index.mono _ _ _)
      | (with_reducible exact abacusref20_Lower.mono _ _)
      | (with_reducible exact abacusref20_Upper.mono _ _)
      | (with_reducible exact chars_Lower.mono _ _)
      | (with_reducible exact chars_Upper.mono _ _)
      | (with_reducible exact LeO.refl _)
      | (with_reducible exact LeO.none _)
      | (with_reducible refine LeO.ite ?_ ?_)
      | (with_reducible refine LeO.bind ?_ (fun _ => ?_))
      | exact ih0 _ _
      | exact ih1 _ _
      | exact ih2 _ _ _ _ _ _ _ _ _ _
      | exact abacusref20_Index.mono _ _ _
      | exact abacusref20_Lower.mono _ _
      | exact abacusref20_Upper.mono _ _
      | exact chars_Lower.mono _ _
      | exact chars_Upper.mono _ _
      | exact LeO.none _
      | refine LeO.ite ?_ ?_
      | refine LeO.bind ?_ (fun _ => ?_)
theorem abacuslaw20_CharsIndexes.mono : ∀ a0 k, LeO (abacuslaw20_CharsIndexes.f k a0) (abacuslaw20_CharsIndexes.f (k + 1) a0) := by
  intro a0 k
  obtain ⟨ih0, ih1, ih2⟩ := abacuslaw20_CharsIndexes.mono_l k
  unfold abacuslaw20_CharsIndexes.f
  repeat' first
      | (with_reducible exact ih0 _ _)
      | (with_reducible exact ih1 _ _)
      | (with_reducible exact ih2 _ _ _ _ _ _ _ _ _ _)
      | (with_reducible exact abacusref20_Index.mono _ _ _)
      | (with_reducible exact abacusref20_Lower.mono _ _)
      | (with_reducible exact abacusref20_Upper.mono _ _)
      | (with_reducible exact chars_Lower.mono _ _)
      | (with_reducible exact chars_Upper.mono _ _)
      | (with_reducible exact LeO.refl _)
      | (with_reducible exact LeO.none _)
      | (with_reducible refine LeO.ite ?_ ?_)
      | (with_reducible refine LeO.bind ?_ (fun _ => ?_))
      | exact ih0 _ _
      | exact ih1 _ _
      | exact ih2 _ _ _ _ _ _ _ _ _ _
      | exact abacusref20_Index.mono _ _ _
      | exact abacusref20_Lower.mono _ _
      | exact abacusref20_Upper.mono _ _
      | exact chars_Lower.mono _ _
      | exact chars_Upper.mono _ _
      | exact LeO.none _
      | refine LeO.ite ?_ ?_
      | refine LeO.bind ?_ (fun _ => ?_)
def abacuslaw20_CharsIndexes.T7 : Bool × List (List Nat × List Nat) := (true, [([], []), ([0], [0]), ([], []), ([2], [2]), ([1, 3], [1, 3]), ([], []), ([5], [5]), ([], []), ([7], [7]), ([6, 8, 4], [6, 8]), ([4, 9], [4, 9]), ([10, 9], [10]), ([11], [11]), ([12, 11], [11, 12]), ([11], [11]), ([14, 11], [11, 14]), ([13, 15, 11, 11], [11, 13, 15]), ([11], [11]), ([17, 11], [11, 17]), ([11], [11]), ([19, 11], [11, 19]), ([18, 20, 16, 11], [11, 18, 20]), ([16, 21, 11], [11, 16, 21]), ([11, 22], [11, 22])])
def abacuslaw20_CharsIndexes.B7 : List Nat := [0, 1, 0, 4, 15, 0, 32, 0, 128, 511, 1023, 2047, 4095, 8191, 4095, 20479, 65535, 4095, 135167, 4095, 528383, 2097151, 4194303, 8388607]
theorem abacuslaw20_CharsIndexes.tab7 : rtab .any (opsOf Try.f3 7) = abacuslaw20_CharsIndexes.T7 := by kernel_rfl
theorem abacuslaw20_CharsIndexes.bits7 : waitsOk abacuslaw20_CharsIndexes.T7.2 abacuslaw20_CharsIndexes.B7 = true := by kernel_rfl
def abacuslaw20_CharsIndexes.T9 : Bool × List (List Nat × List Nat) := (true, [([], []), ([0], [0]), ([1], [1]), ([], []), ([3], [3]), ([4, 2], [4]), ([2, 5], [2, 5]), ([6, 5], [6]), ([7], [7]), ([8, 7], [7, 8]), ([9, 7, 7], [7, 9]), ([7], [7]), ([11, 7], [7, 11]), ([12, 10, 7], [7, 12]), ([10, 13, 7], [7, 10, 13]), ([7, 14], [7, 14])])
def abacuslaw20_CharsIndexes.B9 : List Nat := [0, 1, 3, 0, 8, 31, 63, 127, 255, 511, 1023, 255, 2303, 8191, 16383, 32767]
theorem abacuslaw20_CharsIndexes.tab9 : rtab .any (opsOf Try.f3 9) = abacuslaw20_CharsIndexes.T9 := by kernel_rfl
theorem abacuslaw20_CharsIndexes.bits9 : waitsOk abacuslaw20_CharsIndexes.T9.2 abacuslaw20_CharsIndexes.B9 = true := by kernel_rfl
set_option maxHeartbeats 8000000 in
set_option maxRecDepth 100000 in
theorem abacuslaw20_CharsIndexes.calls (k : Nat) (A0 : Option Addr) (c0 : Nat) (l0 : List (S28)) (w : World) (hr0 : Kd.C k28 w A0 l0.length l0) (hc0 : l0.length ≤ c0) (hG : GW w) (h : abacuslaw20_CharsIndexes.f k l0 = some true) :
    Calls Try.prog 3 #[.slice A0 l0.length c0] w fun e w' => e = .returned (.bool true) ∧ Below w.heap.size w w' := by
  have hu28 := Try.underlying28
  have HR0 := Aside0.mk hr0
  have HC0 := Aside0.mk hc0
  clear hr0 hc0
  have HB := Aside0.mk (Below.refl w.heap.size w)
  have HG := Aside0.mk hG
  clear hG
  have H : ((chars_Index.f (⟨#[104, 101, 108, 108, 111]⟩ : ByteArray) (⟨#[108, 111]⟩ : ByteArray)).bind fun t119 => (if t119 = 4 then ((chars_Lower.f k (⟨#[65, 98, 90, 91]⟩ : ByteArray)).bind fun t120 => (if t120.toList = ([97, 98, 122, 91] : List UInt8) then ((chars_Upper.f k (⟨#[97, 122, 123]⟩ : ByteArray)).bind fun t121 => (abacuslaw20_CharsIndexes.j0 k l0 (t121.toList != ([65, 90, 123] : List UInt8)))) else (abacuslaw20_CharsIndexes.j0 k l0 true))) else (abacuslaw20_CharsIndexes.j0 k l0 true))) = some true := h
  clear h
  have HC2 := Aside0.mk H
  clear H
  go_enter Try.func3, Try.ntmps3
  go_upto_region 1 with (fail)
  go_cut [14] (fun v14 wc => ∃ (kq : Nat) (x14_1 : Bool), v14 = .bool x14_1 ∧ Aside0 (abacuslaw20_CharsIndexes.j0 kq l0 x14_1 = some true) ∧ Aside0 (kq ≤ k) ∧ Aside0 (Below w.heap.size w wc))
  case first =>
    have H := HC2.out
    clear HC2
    replace H := Option.bind_eq_some_iff.mp H
    obtain ⟨t119, A30, H⟩ := H
    replace H : (if t119 = 4 then ((chars_Lower.f k (⟨#[65, 98, 90, 91]⟩ : ByteArray)).bind fun t120 => (if t120.toList = ([97, 98, 122, 91] : List UInt8) then ((chars_Upper.f k (⟨#[97, 122, 123]⟩ : ByteArray)).bind fun t121 => (abacuslaw20_CharsIndexes.j0 k l0 (t121.toList != ([65, 90, 123] : List UInt8)))) else (abacuslaw20_CharsIndexes.j0 k l0 true))) else (abacuslaw20_CharsIndexes.j0 k l0 true)) = some true := H
    have A3 := Aside0.mk A30
    clear A30
    by_cases c4 : t119 = 4
    · rw [if_pos c4] at H
      have c4b0 : (t119 == 4) = true := beq_iff_eq.mpr c4
      have c4b1 : (t119 != 4) = false := bne_eq_false_iff_eq.mpr c4
      clear c4
      (first | rw [c4b0] | (simp only [i64_w, i32_w]; rw [c4b0]) | skip)
      replace H := Option.bind_eq_some_iff.mp H
      obtain ⟨t120, A50, H⟩ := H
      replace H : (if t120.toList = ([97, 98, 122, 91] : List UInt8) then ((chars_Upper.f k (⟨#[97, 122, 123]⟩ : ByteArray)).bind fun t121 => (abacuslaw20_CharsIndexes.j0 k l0 (t121.toList != ([65, 90, 123] : List UInt8)))) else (abacuslaw20_CharsIndexes.j0 k l0 true)) = some true := H
      have A5 := Aside0.mk A50
      clear A50
      by_cases c6 : t120.toList = ([97, 98, 122, 91] : List UInt8)
      · rw [if_pos c6] at H
        have c6b0 : (t120.toList == ([97, 98, 122, 91] : List UInt8)) = true := beq_iff_eq.mpr c6
        have c6b1 : (t120.toList != ([97, 98, 122, 91] : List UInt8)) = false := bne_eq_false_iff_eq.mpr c6
        clear c6
        replace H := Option.bind_eq_some_iff.mp H
        obtain ⟨t121, A70, H⟩ := H
        replace H : (abacuslaw20_CharsIndexes.j0 k l0 (t121.toList != ([65, 90, 123] : List UInt8))) = some true := H
        have A7 := Aside0.mk A70
        clear A70
        have H' := Aside0.mk H
        clear H
        go_wp2_with (first | ((with_reducible refine gate_callee (f := 6) rfl ?_); refine goesL_ (some 5) rfl rfl Try.func6 (by kernel_rfl) rfl #[.string (⟨#[104, 101, 108, 108, 111]⟩ : ByteArray), .string (⟨#[108, 111]⟩ : ByteArray)] rfl (by (try simp only [List.map_toArray, List.map_cons, List.map_nil]); first | done | rfl | (simp only [List.length_drop, List.length_take]; rfl)) ?_; (with_reducible refine (chars_Index.calls (⟨#[104, 101, 108, 108, 111]⟩ : ByteArray) (⟨#[108, 111]⟩ : ByteArray) t119 _ ?side1 A3.out).mono ?_); (case side1 => exact GW.below HG.out (by repeat (first | (with_reducible first | exact HB.out | apply below_alloc | apply pw_below_drewN | apply below_drew1) | exact HB.out))); rintro e w8 ⟨rfl, hb⟩; refine ⟨_, rfl, ?_⟩; have n0_ := Aside0.mk (below_step (by repeat (first | (with_reducible first | exact HB.out | apply below_alloc | apply pw_below_drewN | apply below_drew1) | exact HB.out)) hb); clear HB; have HB := n0_; clear n0_; (try clear hb); (try clear hb2); (try clear hk); (try clear hi)) | (go_at_call 7; (with_reducible refine (chars_Lower.calls k (⟨#[65, 98, 90, 91]⟩ : ByteArray) t120 _ A5.out).mono ?_); rintro e w9 ⟨rfl, hb⟩; have n0_ := Aside0.mk (below_step (by repeat (first | (with_reducible first | exact HB.out | apply below_alloc | apply pw_below_drewN | apply below_drew1) | exact HB.out)) hb); clear HB; have HB := n0_; clear n0_; (try clear hb); (try clear hb2); (try clear hk); (try clear hi)) | (go_at_call 8; (with_reducible refine (chars_Upper.calls k (⟨#[97, 122, 123]⟩ : ByteArray) t121 _ A7.out).mono ?_); rintro e w10 ⟨rfl, hb⟩; have n0_ := Aside0.mk (below_step (by repeat (first | (with_reducible first | exact HB.out | apply below_alloc | apply pw_below_drewN | apply below_drew1) | exact HB.out)) hb); clear HB; have HB := n0_; clear n0_; (try clear hb); (try clear hb2); (try clear hk); (try clear hi)))
        go_meet
        case rel => exact ⟨_, ((t121.toList != ([65, 90, 123] : List UInt8))), (by first | rfl | (simp; done) | (simp [*]; done)), H', ⟨by first | omega | exact Nat.le_refl _⟩, ⟨by repeat (first | (with_reducible first | exact HB.out | apply below_alloc | apply pw_below_drewN | apply below_drew1) | exact HB.out)⟩⟩
      · rw [if_neg c6] at H
        have c6b0 : (t120.toList == ([97, 98, 122, 91] : List UInt8)) = false := beq_eq_false_iff_ne.mpr c6
        have c6b1 : (t120.toList != ([97, 98, 122, 91] : List UInt8)) = true := bne_iff_ne.mpr c6
        have H' := Aside0.mk H
        clear H
        go_wp2_with (first | ((with_reducible refine gate_callee (f := 6) rfl ?_); refine goesL_ (some 5) rfl rfl Try.func6 (by kernel_rfl) rfl #[.string (⟨#[104, 101, 108, 108, 111]⟩ : ByteArray), .string (⟨#[108, 111]⟩ : ByteArray)] rfl (by (try simp only [List.map_toArray, List.map_cons, List.map_nil]); first | done | rfl | (simp only [List.length_drop, List.length_take]; rfl)) ?_; (with_reducible refine (chars_Index.calls (⟨#[104, 101, 108, 108, 111]⟩ : ByteArray) (⟨#[108, 111]⟩ : ByteArray) t119 _ ?side1 A3.out).mono ?_); (case side1 => exact GW.below HG.out (by repeat (first | (with_reducible first | exact HB.out | apply below_alloc | apply pw_below_drewN | apply below_drew1) | exact HB.out))); rintro e w11 ⟨rfl, hb⟩; refine ⟨_, rfl, ?_⟩; have n0_ := Aside0.mk (below_step (by repeat (first | (with_reducible first | exact HB.out | apply below_alloc | apply pw_below_drewN | apply below_drew1) | exact HB.out)) hb); clear HB; have HB := n0_; clear n0_; (try clear hb); (try clear hb2); (try clear hk); (try clear hi)) | (go_at_call 7; (with_reducible refine (chars_Lower.calls k (⟨#[65, 98, 90, 91]⟩ : ByteArray) t120 _ A5.out).mono ?_); rintro e w12 ⟨rfl, hb⟩; have n0_ := Aside0.mk (below_step (by repeat (first | (with_reducible first | exact HB.out | apply below_alloc | apply pw_below_drewN | apply below_drew1) | exact HB.out)) hb); clear HB; have HB := n0_; clear n0_; (try clear hb); (try clear hb2); (try clear hk); (try clear hi)))
        go_meet
        case rel => exact ⟨_, (true), (by first | rfl | (simp; done) | (simp [*]; done)), H', ⟨by first | omega | exact Nat.le_refl _⟩, ⟨by repeat (first | (with_reducible first | exact HB.out | apply below_alloc | apply pw_below_drewN | apply below_drew1) | exact HB.out)⟩⟩
    · rw [if_neg c4] at H
      have c4b0 : (t119 == 4) = false := beq_eq_false_iff_ne.mpr c4
      have c4b1 : (t119 != 4) = true := bne_iff_ne.mpr c4
      (first | rw [c4b0] | (simp only [i64_w, i32_w]; rw [c4b0]) | skip)
      have H' := Aside0.mk H
      clear H
      go_wp2_with (first | ((with_reducible refine gate_callee (f := 6) rfl ?_); refine goesL_ (some 5) rfl rfl Try.func6 (by kernel_rfl) rfl #[.string (⟨#[104, 101, 108, 108, 111]⟩ : ByteArray), .string (⟨#[108, 111]⟩ : ByteArray)] rfl (by (try simp only [List.map_toArray, List.map_cons, List.map_nil]); first | done | rfl | (simp only [List.length_drop, List.length_take]; rfl)) ?_; (with_reducible refine (chars_Index.calls (⟨#[104, 101, 108, 108, 111]⟩ : ByteArray) (⟨#[108, 111]⟩ : ByteArray) t119 _ ?side1 A3.out).mono ?_); (case side1 => exact GW.below HG.out (by repeat (first | (with_reducible first | exact HB.out | apply below_alloc | apply pw_below_drewN | apply below_drew1) | exact HB.out))); rintro e w13 ⟨rfl, hb⟩; refine ⟨_, rfl, ?_⟩; have n0_ := Aside0.mk (below_step (by repeat (first | (with_reducible first | exact HB.out | apply below_alloc | apply pw_below_drewN | apply below_drew1) | exact HB.out)) hb); clear HB; have HB := n0_; clear n0_; (try clear hb); (try clear hb2); (try clear hk); (try clear hi)))
      go_meet
      case rel => exact ⟨_, (true), (by first | rfl | (simp; done) | (simp [*]; done)), H', ⟨by first | omega | exact Nat.le_refl _⟩, ⟨by repeat (first | (with_reducible first | exact HB.out | apply below_alloc | apply pw_below_drewN | apply below_drew1) | exact HB.out)⟩⟩
  case rest =>
    clear HC2
    try clear p2
    try clear c3
    try clear c4
    try clear c4b0
    try clear c4b1
    try clear c6
    try clear c6b0
    try clear c6b1
    obtain ⟨kq, x14_1, rfl, HA, HJ1, HB⟩ := hcut
    cases kq with
    | zero => exact absurd HA.out (by simp [abacuslaw20_CharsIndexes.j0])
    | succ kj1 =>
      have H := HA.out
      clear HA
      simp only [abacuslaw20_CharsIndexes.j0] at H
      by_cases c14 : x14_1 = true
      · subst c14
        have H1 : (some false) = some true := by rw [if_pos rfl] at H; exact H
        clear H
        have H := H1
        clear H1
        exact absurd H (by simp)
      · replace c14 := Bool.eq_false_iff.mpr c14
        subst c14
        have H1 : (abacuslaw20_CharsIndexes.l0 kj1 l0 0) = some true := by rw [if_neg (show ¬ (false = true) by decide)] at H; exact H
        clear H
        have H := H1
        clear H1
        have H' := Aside0.mk H
        clear H
        go_wp2
        go_loopg [3] kj1 (fun kq v3 w' => ∃ (x3_2 : Int), v3 = .int .i64 x3_2 ∧ Aside0 (abacuslaw20_CharsIndexes.l0 kq l0 x3_2 = some true) ∧ Aside0 (kq ≤ kj1) ∧ Aside0 (Below w.heap.size w w'))
        case atStart => exact ⟨(0), (by first | rfl | (simp; done) | (simp [*]; done)), H', ⟨Nat.le_refl _⟩, ⟨by repeat (first | (with_reducible first | exact HB.out | apply below_alloc | apply pw_below_drewN | apply below_drew1) | exact HB.out)⟩⟩
        case round =>
          clear H'
          try clear c1
          try clear p2
          try clear c3
          try clear c4
          try clear c4b0
          try clear c4b1
          try clear c6
          try clear c6b0
          try clear c6b1
          try clear c14
          try clear p2
          obtain ⟨x3_2, rfl, HA, HK2, HB⟩ := hrel
          cases gk with
          | zero => exact absurd HA.out (by simp [abacuslaw20_CharsIndexes.l0])
          | succ k2 =>
            have H := HA.out
            clear HA
            simp only [abacuslaw20_CharsIndexes.l0] at H
            by_cases c15 : x3_2 < (l0.length : Int)
            · rw [if_pos c15] at H
              have c15b0 : decide (x3_2 < (l0.length : Int)) = true := decide_eq_true c15
              clear c15
              by_cases c16 : 0 ≤ x3_2
              · rw [if_pos c16] at H
                have c16b0 : decide (0 ≤ x3_2) = true := decide_eq_true c16
                clear c16
                have HC17 := Aside0.mk H
                clear H
                have p122 : 0 ≤ (x3_2 : Int) := of_decide_eq_true (by first | (with_reducible assumption) | assumption)
                have q122 : x3_2 < (l0.length : Int) := of_decide_eq_true (by first | (with_reducible assumption) | assumption)
                obtain ⟨ad122, A122_5, c122_5, e122, hx122_0, hx122_1, hx122_2, hx122_3, hx122_4, hx122_5, hx122_6, hl122_5, hi122_5⟩ := at_T28 HR0.out x3_2 p122 q122
                cases e122
                replace hx122_0 := (HB.out.cell (World.block_lt_of_cell? w _ hx122_0)).trans hx122_0
                replace hx122_1 := (HB.out.cell (World.block_lt_of_cell? w _ hx122_1)).trans hx122_1
                replace hx122_2 := (HB.out.cell (World.block_lt_of_cell? w _ hx122_2)).trans hx122_2
                replace hx122_3 := (HB.out.cell (World.block_lt_of_cell? w _ hx122_3)).trans hx122_3
                replace hx122_4 := (HB.out.cell (World.block_lt_of_cell? w _ hx122_4)).trans hx122_4
                replace hx122_5 := (HB.out.cell (World.block_lt_of_cell? w _ hx122_5)).trans hx122_5
                replace hx122_6 := (HB.out.cell (World.block_lt_of_cell? w _ hx122_6)).trans hx122_6
                have HR122_5 := Aside0.mk hi122_5
                have HC122_5 := Aside0.mk hl122_5
                clear hi122_5 hl122_5
                replace p122 := eq_true p122
                replace q122 := eq_true q122
                go_upto_region 7 with (first | ((with_reducible refine gate_dst (N := 4) rfl ?_); refine box_event ?hg (N := 4) ?hd (cs := #[.string (⟨#[]⟩ : ByteArray), .string (⟨#[]⟩ : ByteArray), .string (⟨#[]⟩ : ByteArray), .int .u64 0, .int .u64 0, .slice none 0 0, .int .i64 0]) (t := 28) ?hr ?_; (case hd => rfl); (case hg => rfl); (case hr => first | (go_simp; done) | (go_simp; rfl)); intro gb123 hg w18 hbox hb; have n0_ := Aside0.mk (below_step (by repeat (first | (with_reducible first | exact HB.out | apply below_alloc | apply pw_below_drewN | apply below_drew1) | exact HB.out)) hb); have n1_ := Aside0.mk (hbox); have n2_ := Aside0.mk ((by rw [hg]; exact (below_size (by repeat (first | (with_reducible first | exact HB.out | apply below_alloc | apply pw_below_drewN | apply below_drew1) | exact HB.out))) : w.heap.size ≤ gb123)); have n3_ := Aside0.mk ((by rw [hg]; exact (below_size (by repeat (first | (with_reducible first | exact HB.out | apply below_alloc | apply pw_below_drewN | apply below_drew1) | exact HB.out))) : w.heap.size ≤ gb123)); clear HB; have HB := n0_; have BK123 := n1_; have GW123 := n2_; have GE123 := n3_; clear n0_ n1_ n2_ n3_; clear hb hbox hg; have hcz19_0 : w18.cell? ⟨gb123, 0, none⟩ = some (.string (⟨#[]⟩ : ByteArray)) := (blk_cell BK123.out 0).trans rfl; have hcz19_1 : w18.cell? ⟨gb123, 1, none⟩ = some (.string (⟨#[]⟩ : ByteArray)) := (blk_cell BK123.out 1).trans rfl; have hcz19_2 : w18.cell? ⟨gb123, 2, none⟩ = some (.string (⟨#[]⟩ : ByteArray)) := (blk_cell BK123.out 2).trans rfl; have hcz19_3 : w18.cell? ⟨gb123, 3, none⟩ = some (.int .u64 0) := (blk_cell BK123.out 3).trans rfl; have hcz19_4 : w18.cell? ⟨gb123, 4, none⟩ = some (.int .u64 0) := (blk_cell BK123.out 4).trans rfl; have hcz19_5 : w18.cell? ⟨gb123, 5, none⟩ = some (.slice none 0 0) := (blk_cell BK123.out 5).trans rfl; have hcz19_6 : w18.cell? ⟨gb123, 6, none⟩ = some (.int .i64 0) := (blk_cell BK123.out 6).trans rfl; have hfz19_0 := blk_frozen BK123.out 0; have hfz19_1 := blk_frozen BK123.out 1; have hfz19_2 := blk_frozen BK123.out 2; have hfz19_3 := blk_frozen BK123.out 3; have hfz19_4 := blk_frozen BK123.out 4; have hfz19_5 := blk_frozen BK123.out 5; have hfz19_6 := blk_frozen BK123.out 6))
                (try simp only [Act.put, List.setIfInBounds_toArray, List.set_cons_zero, List.set_cons_succ])
                go_cut [48] (fun v48 wc => ∃ (kq : Nat) (x48_16 : Bool), v48 = .bool x48_16 ∧ Aside0 (abacuslaw20_CharsIndexes.j2 kq l0 x3_2 x48_16 ((rd_T28 l0 x3_2).f0) ((rd_T28 l0 x3_2).f1) ((rd_T28 l0 x3_2).f2) ((rd_T28 l0 x3_2).f3) ((rd_T28 l0 x3_2).f4) ((rd_T28 l0 x3_2).f5) ((rd_T28 l0 x3_2).f6) = some true) ∧ Aside0 (kq ≤ k2) ∧ Aside0 (wc.heap[gb123]? = some (.cells #[.string ((rd_T28 l0 x3_2).f0), .string ((rd_T28 l0 x3_2).f1), .string ((rd_T28 l0 x3_2).f2), .int .u64 ((rd_T28 l0 x3_2).f3), .int .u64 ((rd_T28 l0 x3_2).f4), (.slice A122_5 ((rd_T28 l0 x3_2).f5).length c122_5), .int .i64 ((rd_T28 l0 x3_2).f6)] 28 (0, 0))) ∧ Aside0 (Below w.heap.size w wc))
                case first =>
                  have H := HC17.out
                  clear HC17
                  replace H := Option.bind_eq_some_iff.mp H
                  obtain ⟨t124, A200, H⟩ := H
                  replace H : ((abacusref20_Index.f k2 ((rd_T28 l0 x3_2).f0) ((rd_T28 l0 x3_2).f1)).bind fun t125 => (if t124 = t125 then ((chars_Index.f ((rd_T28 l0 x3_2).f1) ((rd_T28 l0 x3_2).f0)).bind fun t126 => ((abacusref20_Index.f k2 ((rd_T28 l0 x3_2).f1) ((rd_T28 l0 x3_2).f0)).bind fun t127 => (abacuslaw20_CharsIndexes.j2 k2 l0 x3_2 (t126 != t127) ((rd_T28 l0 x3_2).f0) ((rd_T28 l0 x3_2).f1) ((rd_T28 l0 x3_2).f2) ((rd_T28 l0 x3_2).f3) ((rd_T28 l0 x3_2).f4) ((rd_T28 l0 x3_2).f5) ((rd_T28 l0 x3_2).f6)))) else (abacuslaw20_CharsIndexes.j2 k2 l0 x3_2 true ((rd_T28 l0 x3_2).f0) ((rd_T28 l0 x3_2).f1) ((rd_T28 l0 x3_2).f2) ((rd_T28 l0 x3_2).f3) ((rd_T28 l0 x3_2).f4) ((rd_T28 l0 x3_2).f5) ((rd_T28 l0 x3_2).f6)))) = some true := H
                  have A20 := Aside0.mk A200
                  clear A200
                  replace H := Option.bind_eq_some_iff.mp H
                  obtain ⟨t125, A210, H⟩ := H
                  replace H : (if t124 = t125 then ((chars_Index.f ((rd_T28 l0 x3_2).f1) ((rd_T28 l0 x3_2).f0)).bind fun t126 => ((abacusref20_Index.f k2 ((rd_T28 l0 x3_2).f1) ((rd_T28 l0 x3_2).f0)).bind fun t127 => (abacuslaw20_CharsIndexes.j2 k2 l0 x3_2 (t126 != t127) ((rd_T28 l0 x3_2).f0) ((rd_T28 l0 x3_2).f1) ((rd_T28 l0 x3_2).f2) ((rd_T28 l0 x3_2).f3) ((rd_T28 l0 x3_2).f4) ((rd_T28 l0 x3_2).f5) ((rd_T28 l0 x3_2).f6)))) else (abacuslaw20_CharsIndexes.j2 k2 l0 x3_2 true ((rd_T28 l0 x3_2).f0) ((rd_T28 l0 x3_2).f1) ((rd_T28 l0 x3_2).f2) ((rd_T28 l0 x3_2).f3) ((rd_T28 l0 x3_2).f4) ((rd_T28 l0 x3_2).f5) ((rd_T28 l0 x3_2).f6))) = some true := H
                  have A21 := Aside0.mk A210
                  clear A210
                  by_cases c22 : t124 = t125
                  · rw [if_pos c22] at H
                    have c22b0 : (t124 == t125) = true := beq_iff_eq.mpr c22
                    have c22b1 : (t124 != t125) = false := bne_eq_false_iff_eq.mpr c22
                    clear c22
                    (first | rw [c22b0] | (simp only [i64_w, i32_w]; rw [c22b0]) | skip)
                    replace H := Option.bind_eq_some_iff.mp H
                    obtain ⟨t126, A230, H⟩ := H
                    replace H : ((abacusref20_Index.f k2 ((rd_T28 l0 x3_2).f1) ((rd_T28 l0 x3_2).f0)).bind fun t127 => (abacuslaw20_CharsIndexes.j2 k2 l0 x3_2 (t126 != t127) ((rd_T28 l0 x3_2).f0) ((rd_T28 l0 x3_2).f1) ((rd_T28 l0 x3_2).f2) ((rd_T28 l0 x3_2).f3) ((rd_T28 l0 x3_2).f4) ((rd_T28 l0 x3_2).f5) ((rd_T28 l0 x3_2).f6))) = some true := H
                    have A23 := Aside0.mk A230
                    clear A230
                    replace H := Option.bind_eq_some_iff.mp H
                    obtain ⟨t127, A240, H⟩ := H
                    replace H : (abacuslaw20_CharsIndexes.j2 k2 l0 x3_2 (t126 != t127) ((rd_T28 l0 x3_2).f0) ((rd_T28 l0 x3_2).f1) ((rd_T28 l0 x3_2).f2) ((rd_T28 l0 x3_2).f3) ((rd_T28 l0 x3_2).f4) ((rd_T28 l0 x3_2).f5) ((rd_T28 l0 x3_2).f6)) = some true := H
                    have A24 := Aside0.mk A240
                    clear A240
                    have H' := Aside0.mk H
                    clear H
                    try go_wp2
                    have n0_ : Aside0 ((((((((w18.setCell ⟨gb123, 0, none⟩ (.string ((rd_T28 l0 x3_2).f0))).setCell ⟨gb123, 1, none⟩ (.string ((rd_T28 l0 x3_2).f1))).setCell ⟨gb123, 2, none⟩ (.string ((rd_T28 l0 x3_2).f2))).setCell ⟨gb123, 3, none⟩ (.int .u64 ((rd_T28 l0 x3_2).f3))).setCell ⟨gb123, 4, none⟩ (.int .u64 ((rd_T28 l0 x3_2).f4))).setCell ⟨gb123, 5, none⟩ (.slice A122_5 ((rd_T28 l0 x3_2).f5).length c122_5)).setCell ⟨gb123, 6, none⟩ (.int .i64 ((rd_T28 l0 x3_2).f6))).heap[gb123]? = some (.cells #[.string ((rd_T28 l0 x3_2).f0), .string ((rd_T28 l0 x3_2).f1), .string ((rd_T28 l0 x3_2).f2), .int .u64 ((rd_T28 l0 x3_2).f3), .int .u64 ((rd_T28 l0 x3_2).f4), .slice A122_5 ((rd_T28 l0 x3_2).f5).length c122_5, .int .i64 ((rd_T28 l0 x3_2).f6)] 28 (0, 0))) := ⟨by (with_reducible repeat (first | refine blk_drewN ?_ _ | refine blk_drew ?_ | refine blk_alloc ?_ _)); refine blk_put (cs := #[.string ((rd_T28 l0 x3_2).f0), .string ((rd_T28 l0 x3_2).f1), .string ((rd_T28 l0 x3_2).f2), .int .u64 ((rd_T28 l0 x3_2).f3), .int .u64 ((rd_T28 l0 x3_2).f4), .slice A122_5 ((rd_T28 l0 x3_2).f5).length c122_5, .int .i64 0]) ?_ 6 _ rfl; (with_reducible repeat (first | refine blk_drewN ?_ _ | refine blk_drew ?_ | refine blk_alloc ?_ _)); refine blk_put (cs := #[.string ((rd_T28 l0 x3_2).f0), .string ((rd_T28 l0 x3_2).f1), .string ((rd_T28 l0 x3_2).f2), .int .u64 ((rd_T28 l0 x3_2).f3), .int .u64 ((rd_T28 l0 x3_2).f4), .slice none 0 0, .int .i64 0]) ?_ 5 _ rfl; (with_reducible repeat (first | refine blk_drewN ?_ _ | refine blk_drew ?_ | refine blk_alloc ?_ _)); refine blk_put (cs := #[.string ((rd_T28 l0 x3_2).f0), .string ((rd_T28 l0 x3_2).f1), .string ((rd_T28 l0 x3_2).f2), .int .u64 ((rd_T28 l0 x3_2).f3), .int .u64 0, .slice none 0 0, .int .i64 0]) ?_ 4 _ rfl; (with_reducible repeat (first | refine blk_drewN ?_ _ | refine blk_drew ?_ | refine blk_alloc ?_ _)); refine blk_put (cs := #[.string ((rd_T28 l0 x3_2).f0), .string ((rd_T28 l0 x3_2).f1), .string ((rd_T28 l0 x3_2).f2), .int .u64 0, .int .u64 0, .slice none 0 0, .int .i64 0]) ?_ 3 _ rfl; (with_reducible repeat (first | refine blk_drewN ?_ _ | refine blk_drew ?_ | refine blk_alloc ?_ _)); refine blk_put (cs := #[.string ((rd_T28 l0 x3_2).f0), .string ((rd_T28 l0 x3_2).f1), .string (⟨#[]⟩ : ByteArray), .int .u64 0, .int .u64 0, .slice none 0 0, .int .i64 0]) ?_ 2 _ rfl; (with_reducible repeat (first | refine blk_drewN ?_ _ | refine blk_drew ?_ | refine blk_alloc ?_ _)); refine blk_put (cs := #[.string ((rd_T28 l0 x3_2).f0), .string (⟨#[]⟩ : ByteArray), .string (⟨#[]⟩ : ByteArray), .int .u64 0, .int .u64 0, .slice none 0 0, .int .i64 0]) ?_ 1 _ rfl; (with_reducible repeat (first | refine blk_drewN ?_ _ | refine blk_drew ?_ | refine blk_alloc ?_ _)); refine blk_put (cs := #[.string (⟨#[]⟩ : ByteArray), .string (⟨#[]⟩ : ByteArray), .string (⟨#[]⟩ : ByteArray), .int .u64 0, .int .u64 0, .slice none 0 0, .int .i64 0]) ?_ 0 _ rfl; (with_reducible repeat (first | refine blk_drewN ?_ _ | refine blk_drew ?_ | refine blk_alloc ?_ _)); exact BK123.out⟩
                    have n1_ : Aside0 (Below w.heap.size w (((((((w18.setCell ⟨gb123, 0, none⟩ (.string ((rd_T28 l0 x3_2).f0))).setCell ⟨gb123, 1, none⟩ (.string ((rd_T28 l0 x3_2).f1))).setCell ⟨gb123, 2, none⟩ (.string ((rd_T28 l0 x3_2).f2))).setCell ⟨gb123, 3, none⟩ (.int .u64 ((rd_T28 l0 x3_2).f3))).setCell ⟨gb123, 4, none⟩ (.int .u64 ((rd_T28 l0 x3_2).f4))).setCell ⟨gb123, 5, none⟩ (.slice A122_5 ((rd_T28 l0 x3_2).f5).length c122_5)).setCell ⟨gb123, 6, none⟩ (.int .i64 ((rd_T28 l0 x3_2).f6)))) := ⟨by repeat (first | (with_reducible first | exact HB.out | apply below_alloc | apply pw_below_drewN | apply below_drew1 | refine below_set ?_ GE123.out) | exact HB.out)⟩
                    (try clear BK123)
                    (try clear HB)
                    generalize (((((((w18.setCell ⟨gb123, 0, none⟩ (.string ((rd_T28 l0 x3_2).f0))).setCell ⟨gb123, 1, none⟩ (.string ((rd_T28 l0 x3_2).f1))).setCell ⟨gb123, 2, none⟩ (.string ((rd_T28 l0 x3_2).f2))).setCell ⟨gb123, 3, none⟩ (.int .u64 ((rd_T28 l0 x3_2).f3))).setCell ⟨gb123, 4, none⟩ (.int .u64 ((rd_T28 l0 x3_2).f4))).setCell ⟨gb123, 5, none⟩ (.slice A122_5 ((rd_T28 l0 x3_2).f5).length c122_5)).setCell ⟨gb123, 6, none⟩ (.int .i64 ((rd_T28 l0 x3_2).f6))) = w25 at n0_ n1_ ⊢
                    have BK123 := n0_
                    have HB := n1_
                    clear n0_ n1_
                    have n0_ := Aside0.mk (blk_drew BK123.out)
                    have n1_ := Aside0.mk (below_drew1 HB.out)
                    clear BK123
                    clear HB
                    have BK123 := n0_
                    have HB := n1_
                    clear n0_ n1_
                    refine start_ (n := 24) (S := fun w' => w'.cell? ⟨gb123, 0, none⟩ = some (.string ((rd_T28 l0 x3_2).f0)) ∧ w'.cell? ⟨gb123, 1, none⟩ = some (.string ((rd_T28 l0 x3_2).f1)) ∧ w'.cell? ⟨gb123, 2, none⟩ = some (.string ((rd_T28 l0 x3_2).f2)) ∧ w'.cell? ⟨gb123, 3, none⟩ = some (.int .u64 ((rd_T28 l0 x3_2).f3)) ∧ w'.cell? ⟨gb123, 4, none⟩ = some (.int .u64 ((rd_T28 l0 x3_2).f4)) ∧ w'.cell? ⟨gb123, 5, none⟩ = some (.slice A122_5 ((rd_T28 l0 x3_2).f5).length c122_5) ∧ w'.cell? ⟨gb123, 6, none⟩ = some (.int .i64 ((rd_T28 l0 x3_2).f6))) (ds := []) #[false, false, false, false, false, false, false, false, false, false, false, false, false, false, false, false, false, false, false, false, false, false, false, false] (by kernel_rfl) rfl rfl ⟨(blk_cell BK123.out 0).trans rfl, (blk_cell BK123.out 1).trans rfl, (blk_cell BK123.out 2).trans rfl, (blk_cell BK123.out 3).trans rfl, (blk_cell BK123.out 4).trans rfl, (blk_cell BK123.out 5).trans rfl, (blk_cell BK123.out 6).trans rfl⟩ (fun hHeld => ?_); refine with_tabW abacuslaw20_CharsIndexes.tab7 abacuslaw20_CharsIndexes.bits7 (fun HT_ HW_ => ?_)
                    generalize w25.drew = w26 at BK123 HB hHeld ⊢
                    refine pure_ (i := 0) (N := some 25) (v := ?_) (a' := ?_) #[true, false, false, false, false, false, false, false, false, false, false, false, false, false, false, false, false, false, false, false, false, false, false, false] rfl rfl (any_of HT_.out (by kernel_rfl)) (fun _ _ _ h => h) (Or.inl ⟨by rfl, ?_⟩) ?_ ?_
                    rotate_left
                    · intro w'
                      go_simp
                      with_reducible rfl
                    rotate_left
                    · simp only [Act.put, List.setIfInBounds_toArray, List.set_cons_zero, List.set_cons_succ, i64_w, i32_w]
                      rfl
                    refine pure_ (i := 2) (N := some 27) (v := ?_) (a' := ?_) #[true, false, true, false, false, false, false, false, false, false, false, false, false, false, false, false, false, false, false, false, false, false, false, false] rfl rfl (any_of HT_.out (by kernel_rfl)) (fun _ _ _ h => h) (Or.inl ⟨by rfl, ?_⟩) ?_ ?_
                    rotate_left
                    · intro w'
                      go_simp
                      with_reducible rfl
                    rotate_left
                    · simp only [Act.put, List.setIfInBounds_toArray, List.set_cons_zero, List.set_cons_succ, i64_w, i32_w]
                      rfl
                    refine pure_ (i := 5) (N := some 30) (v := ?_) (a' := ?_) #[true, false, true, false, false, true, false, false, false, false, false, false, false, false, false, false, false, false, false, false, false, false, false, false] rfl rfl (any_of HT_.out (by kernel_rfl)) (fun _ _ _ h => h) (Or.inl ⟨by rfl, ?_⟩) ?_ ?_
                    rotate_left
                    · intro w'
                      go_simp
                      with_reducible rfl
                    rotate_left
                    · simp only [Act.put, List.setIfInBounds_toArray, List.set_cons_zero, List.set_cons_succ, i64_w, i32_w]
                      rfl
                    refine pure_ (i := 7) (N := some 32) (v := ?_) (a' := ?_) #[true, false, true, false, false, true, false, true, false, false, false, false, false, false, false, false, false, false, false, false, false, false, false, false] rfl rfl (any_of HT_.out (by kernel_rfl)) (fun _ _ _ h => h) (Or.inl ⟨by rfl, ?_⟩) ?_ ?_
                    rotate_left
                    · intro w'
                      go_simp
                      with_reducible rfl
                    rotate_left
                    · simp only [Act.put, List.setIfInBounds_toArray, List.set_cons_zero, List.set_cons_succ, i64_w, i32_w]
                      rfl
                    refine take_ (i := 1) (N := some 26) (v := ?_) (a' := ?_) #[true, true, true, false, false, true, false, true, false, false, false, false, false, false, false, false, false, false, false, false, false, false, false, false] rfl rfl (take_ofW HT_.out HW_.out (by kernel_rfl)) (fun _ _ _ h => h) (Or.inl ⟨by rfl, ?_⟩) hHeld ?_ ?_
                    rotate_left
                    · rintro w' ⟨s0, s1, s2, s3, s4, s5, s6⟩
                      go_simp
                      with_reducible rfl
                    rotate_left
                    · simp only [Act.put, List.setIfInBounds_toArray, List.set_cons_zero, List.set_cons_succ, i64_w, i32_w]
                      rfl
                    refine take_ (i := 3) (N := some 28) (v := ?_) (a' := ?_) #[true, true, true, true, false, true, false, true, false, false, false, false, false, false, false, false, false, false, false, false, false, false, false, false] rfl rfl (take_ofW HT_.out HW_.out (by kernel_rfl)) (fun _ _ _ h => h) (Or.inl ⟨by rfl, ?_⟩) hHeld ?_ ?_
                    rotate_left
                    · rintro w' ⟨s0, s1, s2, s3, s4, s5, s6⟩
                      go_simp
                      with_reducible rfl
                    rotate_left
                    · simp only [Act.put, List.setIfInBounds_toArray, List.set_cons_zero, List.set_cons_succ, i64_w, i32_w]
                      rfl
                    refine take_ (i := 6) (N := some 31) (v := ?_) (a' := ?_) #[true, true, true, true, false, true, true, true, false, false, false, false, false, false, false, false, false, false, false, false, false, false, false, false] rfl rfl (take_ofW HT_.out HW_.out (by kernel_rfl)) (fun _ _ _ h => h) (Or.inl ⟨by rfl, ?_⟩) hHeld ?_ ?_
                    rotate_left
                    · rintro w' ⟨s0, s1, s2, s3, s4, s5, s6⟩
                      go_simp
                      with_reducible rfl
                    rotate_left
                    · simp only [Act.put, List.setIfInBounds_toArray, List.set_cons_zero, List.set_cons_succ, i64_w, i32_w]
                      rfl
                    refine take_ (i := 8) (N := some 33) (v := ?_) (a' := ?_) #[true, true, true, true, false, true, true, true, true, false, false, false, false, false, false, false, false, false, false, false, false, false, false, false] rfl rfl (take_ofW HT_.out HW_.out (by kernel_rfl)) (fun _ _ _ h => h) (Or.inl ⟨by rfl, ?_⟩) hHeld ?_ ?_
                    rotate_left
                    · rintro w' ⟨s0, s1, s2, s3, s4, s5, s6⟩
                      go_simp
                      with_reducible rfl
                    rotate_left
                    · simp only [Act.put, List.setIfInBounds_toArray, List.set_cons_zero, List.set_cons_succ, i64_w, i32_w]
                      rfl
                    refine one_ (i := 4) (N := some 29) #[true, true, true, true, true, true, true, true, true, false, false, false, false, false, false, false, false, false, false, false, false, false, false, false] rfl rfl (one_of HT_.out (by kernel_rfl)) (by decide) (fun K hK => ?_)
                    refine goes_ Try.func6 (by kernel_rfl) rfl #[.string ((rd_T28 l0 x3_2).f0), .string ((rd_T28 l0 x3_2).f1)] (by rfl) rfl rfl (by (try simp only [List.map_toArray, List.map_cons, List.map_nil]); first | done | rfl | (simp only [List.length_drop, List.length_take]; rfl)) ?_
                    with_reducible refine (chars_Index.calls ((rd_T28 l0 x3_2).f0) ((rd_T28 l0 x3_2).f1) t124 _ ?side1 A20.out).mono ?_
                    (case side1 => exact GW.below HG.out (by repeat (first | (with_reducible first | exact HB.out | apply below_alloc | apply pw_below_drewN | apply below_drew1 | refine below_set ?_ GE123.out) | exact HB.out)))
                    rintro e w27 ⟨rfl, hb⟩
                    refine ⟨_, rfl, ?_⟩
                    have n0_ := Aside0.mk (blk_below (g := gb123) (o := .cells #[.string ((rd_T28 l0 x3_2).f0), .string ((rd_T28 l0 x3_2).f1), .string ((rd_T28 l0 x3_2).f2), .int .u64 ((rd_T28 l0 x3_2).f3), .int .u64 ((rd_T28 l0 x3_2).f4), .slice A122_5 ((rd_T28 l0 x3_2).f5).length c122_5, .int .i64 ((rd_T28 l0 x3_2).f6)] 28 (0, 0)) (by (with_reducible repeat (first | refine blk_drewN ?_ _ | refine blk_drew ?_ | refine blk_alloc ?_ _)); exact BK123.out) hb)
                    have n1_ := Aside0.mk (below_step (by repeat (first | (with_reducible first | exact HB.out | apply below_alloc | apply pw_below_drewN | apply below_drew1 | refine below_set ?_ GE123.out) | exact HB.out)) hb)
                    clear BK123
                    clear HB
                    have BK123 := n0_
                    have HB := n1_
                    clear n0_ n1_
                    (try clear hb)
                    (try clear hb2)
                    (try clear hk)
                    (try clear hi)
                    refine hK.out _ _ ⟨(blk_cell BK123.out 0).trans rfl, (blk_cell BK123.out 1).trans rfl, (blk_cell BK123.out 2).trans rfl, (blk_cell BK123.out 3).trans rfl, (blk_cell BK123.out 4).trans rfl, (blk_cell BK123.out 5).trans rfl, (blk_cell BK123.out 6).trans rfl⟩ (fun hHeld => ?_)
                    clear hK K
                    refine norm_ (a' := ?_) ?_ ?_
                    rotate_left
                    · show Act.put _ (some 29) _ = _
                      simp only [Act.put, List.setIfInBounds_toArray, List.set_cons_zero, List.set_cons_succ, i64_w, i32_w]
                      rfl
                    refine one_ (i := 9) (N := some 34) #[true, true, true, true, true, true, true, true, true, true, false, false, false, false, false, false, false, false, false, false, false, false, false, false] rfl rfl (one_of HT_.out (by kernel_rfl)) (by decide) (fun K hK => ?_)
                    refine goes_ Try.func9 (by kernel_rfl) rfl #[.string ((rd_T28 l0 x3_2).f0), .string ((rd_T28 l0 x3_2).f1)] (by rfl) rfl rfl (by (try simp only [List.map_toArray, List.map_cons, List.map_nil]); first | done | rfl | (simp only [List.length_drop, List.length_take]; rfl)) ?_
                    with_reducible refine (abacusref20_Index.calls k2 ((rd_T28 l0 x3_2).f0) ((rd_T28 l0 x3_2).f1) t125 _ A21.out).mono ?_
                    rintro e w' ⟨rfl, ⟨nd, rfl⟩⟩
                    refine ⟨_, rfl, ?_⟩
                    refine hK.out _ _ ⟨(blk_cell BK123.out 0).trans rfl, (blk_cell BK123.out 1).trans rfl, (blk_cell BK123.out 2).trans rfl, (blk_cell BK123.out 3).trans rfl, (blk_cell BK123.out 4).trans rfl, (blk_cell BK123.out 5).trans rfl, (blk_cell BK123.out 6).trans rfl⟩ (fun hHeld => ?_)
                    clear hK K
                    refine norm_ (a' := ?_) ?_ ?_
                    rotate_left
                    · show Act.put _ (some 34) _ = _
                      simp only [Act.put, List.setIfInBounds_toArray, List.set_cons_zero, List.set_cons_succ, i64_w, i32_w]
                      rfl
                    refine pure_ (i := 10) (N := some 35) (v := ?_) (a' := ?_) #[true, true, true, true, true, true, true, true, true, true, true, false, false, false, false, false, false, false, false, false, false, false, false, false] rfl rfl (any_of HT_.out (by kernel_rfl)) (fun _ _ _ h => h) (Or.inl ⟨by rfl, ?_⟩) ?_ ?_
                    rotate_left
                    · intro w'
                      go_simp
                      with_reducible rfl
                    rotate_left
                    · simp only [Act.put, List.setIfInBounds_toArray, List.set_cons_zero, List.set_cons_succ, i64_w, i32_w]
                      rfl
                    refine pure_ (i := 11) (N := some 36) (v := ?_) (a' := ?_) #[true, true, true, true, true, true, true, true, true, true, true, true, false, false, false, false, false, false, false, false, false, false, false, false] rfl rfl (any_of HT_.out (by kernel_rfl)) (fun _ _ _ h => h) (Or.inl ⟨by rfl, ?_⟩) ?_ ?_
                    rotate_left
                    · intro w'
                      go_simp
                      with_reducible rfl
                    rotate_left
                    · simp only [Act.put, List.setIfInBounds_toArray, List.set_cons_zero, List.set_cons_succ, i64_w, i32_w]
                      rfl
                    refine pure_ (i := 12) (N := some 37) (v := ?_) (a' := ?_) #[true, true, true, true, true, true, true, true, true, true, true, true, true, false, false, false, false, false, false, false, false, false, false, false] rfl rfl (any_of HT_.out (by kernel_rfl)) (fun _ _ _ h => h) (Or.inl ⟨by rfl, ?_⟩) ?_ ?_
                    rotate_left
                    · intro w'
                      go_simp
                      with_reducible rfl
                    rotate_left
                    · simp only [Act.put, List.setIfInBounds_toArray, List.set_cons_zero, List.set_cons_succ, i64_w, i32_w]
                      rfl
                    refine pure_ (i := 14) (N := some 39) (v := ?_) (a' := ?_) #[true, true, true, true, true, true, true, true, true, true, true, true, true, false, true, false, false, false, false, false, false, false, false, false] rfl rfl (any_of HT_.out (by kernel_rfl)) (fun _ _ _ h => h) (Or.inl ⟨by rfl, ?_⟩) ?_ ?_
                    rotate_left
                    · intro w'
                      go_simp
                      with_reducible rfl
                    rotate_left
                    · simp only [Act.put, List.setIfInBounds_toArray, List.set_cons_zero, List.set_cons_succ, i64_w, i32_w]
                      rfl
                    refine pure_ (i := 17) (N := some 42) (v := ?_) (a' := ?_) #[true, true, true, true, true, true, true, true, true, true, true, true, true, false, true, false, false, true, false, false, false, false, false, false] rfl rfl (any_of HT_.out (by kernel_rfl)) (fun _ _ _ h => h) (Or.inl ⟨by rfl, ?_⟩) ?_ ?_
                    rotate_left
                    · intro w'
                      go_simp
                      with_reducible rfl
                    rotate_left
                    · simp only [Act.put, List.setIfInBounds_toArray, List.set_cons_zero, List.set_cons_succ, i64_w, i32_w]
                      rfl
                    refine pure_ (i := 19) (N := some 44) (v := ?_) (a' := ?_) #[true, true, true, true, true, true, true, true, true, true, true, true, true, false, true, false, false, true, false, true, false, false, false, false] rfl rfl (any_of HT_.out (by kernel_rfl)) (fun _ _ _ h => h) (Or.inl ⟨by rfl, ?_⟩) ?_ ?_
                    rotate_left
                    · intro w'
                      go_simp
                      with_reducible rfl
                    rotate_left
                    · simp only [Act.put, List.setIfInBounds_toArray, List.set_cons_zero, List.set_cons_succ, i64_w, i32_w]
                      rfl
                    refine take_ (i := 13) (N := some 38) (v := ?_) (a' := ?_) #[true, true, true, true, true, true, true, true, true, true, true, true, true, true, true, false, false, true, false, true, false, false, false, false] rfl rfl (take_ofW HT_.out HW_.out (by kernel_rfl)) (fun _ _ _ h => h) (Or.inl ⟨by rfl, ?_⟩) hHeld ?_ ?_
                    rotate_left
                    · rintro w' ⟨s0, s1, s2, s3, s4, s5, s6⟩
                      go_simp
                      with_reducible rfl
                    rotate_left
                    · simp only [Act.put, List.setIfInBounds_toArray, List.set_cons_zero, List.set_cons_succ, i64_w, i32_w]
                      rfl
                    refine take_ (i := 15) (N := some 40) (v := ?_) (a' := ?_) #[true, true, true, true, true, true, true, true, true, true, true, true, true, true, true, true, false, true, false, true, false, false, false, false] rfl rfl (take_ofW HT_.out HW_.out (by kernel_rfl)) (fun _ _ _ h => h) (Or.inl ⟨by rfl, ?_⟩) hHeld ?_ ?_
                    rotate_left
                    · rintro w' ⟨s0, s1, s2, s3, s4, s5, s6⟩
                      go_simp
                      with_reducible rfl
                    rotate_left
                    · simp only [Act.put, List.setIfInBounds_toArray, List.set_cons_zero, List.set_cons_succ, i64_w, i32_w]
                      rfl
                    refine take_ (i := 18) (N := some 43) (v := ?_) (a' := ?_) #[true, true, true, true, true, true, true, true, true, true, true, true, true, true, true, true, false, true, true, true, false, false, false, false] rfl rfl (take_ofW HT_.out HW_.out (by kernel_rfl)) (fun _ _ _ h => h) (Or.inl ⟨by rfl, ?_⟩) hHeld ?_ ?_
                    rotate_left
                    · rintro w' ⟨s0, s1, s2, s3, s4, s5, s6⟩
                      go_simp
                      with_reducible rfl
                    rotate_left
                    · simp only [Act.put, List.setIfInBounds_toArray, List.set_cons_zero, List.set_cons_succ, i64_w, i32_w]
                      rfl
                    refine take_ (i := 20) (N := some 45) (v := ?_) (a' := ?_) #[true, true, true, true, true, true, true, true, true, true, true, true, true, true, true, true, false, true, true, true, true, false, false, false] rfl rfl (take_ofW HT_.out HW_.out (by kernel_rfl)) (fun _ _ _ h => h) (Or.inl ⟨by rfl, ?_⟩) hHeld ?_ ?_
                    rotate_left
                    · rintro w' ⟨s0, s1, s2, s3, s4, s5, s6⟩
                      go_simp
                      with_reducible rfl
                    rotate_left
                    · simp only [Act.put, List.setIfInBounds_toArray, List.set_cons_zero, List.set_cons_succ, i64_w, i32_w]
                      rfl
                    refine one_ (i := 16) (N := some 41) #[true, true, true, true, true, true, true, true, true, true, true, true, true, true, true, true, true, true, true, true, true, false, false, false] rfl rfl (one_of HT_.out (by kernel_rfl)) (by decide) (fun K hK => ?_)
                    refine goes_ Try.func6 (by kernel_rfl) rfl #[.string ((rd_T28 l0 x3_2).f1), .string ((rd_T28 l0 x3_2).f0)] (by rfl) rfl rfl (by (try simp only [List.map_toArray, List.map_cons, List.map_nil]); first | done | rfl | (simp only [List.length_drop, List.length_take]; rfl)) ?_
                    with_reducible refine (chars_Index.calls ((rd_T28 l0 x3_2).f1) ((rd_T28 l0 x3_2).f0) t126 _ ?side1 A23.out).mono ?_
                    (case side1 => exact GW.below HG.out (by repeat (first | (with_reducible first | exact HB.out | apply below_alloc | apply pw_below_drewN | apply below_drew1 | refine below_set ?_ GE123.out) | exact HB.out)))
                    rintro e w28 ⟨rfl, hb⟩
                    refine ⟨_, rfl, ?_⟩
                    have n0_ := Aside0.mk (blk_below (g := gb123) (o := .cells #[.string ((rd_T28 l0 x3_2).f0), .string ((rd_T28 l0 x3_2).f1), .string ((rd_T28 l0 x3_2).f2), .int .u64 ((rd_T28 l0 x3_2).f3), .int .u64 ((rd_T28 l0 x3_2).f4), .slice A122_5 ((rd_T28 l0 x3_2).f5).length c122_5, .int .i64 ((rd_T28 l0 x3_2).f6)] 28 (0, 0)) (by (with_reducible repeat (first | refine blk_drewN ?_ _ | refine blk_drew ?_ | refine blk_alloc ?_ _)); exact BK123.out) hb)
                    have n1_ := Aside0.mk (below_step (by repeat (first | (with_reducible first | exact HB.out | apply below_alloc | apply pw_below_drewN | apply below_drew1 | refine below_set ?_ GE123.out) | exact HB.out)) hb)
                    clear BK123
                    clear HB
                    have BK123 := n0_
                    have HB := n1_
                    clear n0_ n1_
                    (try clear hb)
                    (try clear hb2)
                    (try clear hk)
                    (try clear hi)
                    refine hK.out _ _ ⟨(blk_cell BK123.out 0).trans rfl, (blk_cell BK123.out 1).trans rfl, (blk_cell BK123.out 2).trans rfl, (blk_cell BK123.out 3).trans rfl, (blk_cell BK123.out 4).trans rfl, (blk_cell BK123.out 5).trans rfl, (blk_cell BK123.out 6).trans rfl⟩ (fun hHeld => ?_)
                    clear hK K
                    refine norm_ (a' := ?_) ?_ ?_
                    rotate_left
                    · show Act.put _ (some 41) _ = _
                      simp only [Act.put, List.setIfInBounds_toArray, List.set_cons_zero, List.set_cons_succ, i64_w, i32_w]
                      rfl
                    refine one_ (i := 21) (N := some 46) #[true, true, true, true, true, true, true, true, true, true, true, true, true, true, true, true, true, true, true, true, true, true, false, false] rfl rfl (one_of HT_.out (by kernel_rfl)) (by decide) (fun K hK => ?_)
                    refine goes_ Try.func9 (by kernel_rfl) rfl #[.string ((rd_T28 l0 x3_2).f1), .string ((rd_T28 l0 x3_2).f0)] (by rfl) rfl rfl (by (try simp only [List.map_toArray, List.map_cons, List.map_nil]); first | done | rfl | (simp only [List.length_drop, List.length_take]; rfl)) ?_
                    with_reducible refine (abacusref20_Index.calls k2 ((rd_T28 l0 x3_2).f1) ((rd_T28 l0 x3_2).f0) t127 _ A24.out).mono ?_
                    rintro e w' ⟨rfl, ⟨nd, rfl⟩⟩
                    refine ⟨_, rfl, ?_⟩
                    refine hK.out _ _ ⟨(blk_cell BK123.out 0).trans rfl, (blk_cell BK123.out 1).trans rfl, (blk_cell BK123.out 2).trans rfl, (blk_cell BK123.out 3).trans rfl, (blk_cell BK123.out 4).trans rfl, (blk_cell BK123.out 5).trans rfl, (blk_cell BK123.out 6).trans rfl⟩ (fun hHeld => ?_)
                    clear hK K
                    refine norm_ (a' := ?_) ?_ ?_
                    rotate_left
                    · show Act.put _ (some 46) _ = _
                      simp only [Act.put, List.setIfInBounds_toArray, List.set_cons_zero, List.set_cons_succ, i64_w, i32_w]
                      rfl
                    refine pure_ (i := 22) (N := some 47) (v := ?_) (a' := ?_) #[true, true, true, true, true, true, true, true, true, true, true, true, true, true, true, true, true, true, true, true, true, true, true, false] rfl rfl (any_of HT_.out (by kernel_rfl)) (fun _ _ _ h => h) (Or.inl ⟨by rfl, ?_⟩) ?_ ?_
                    rotate_left
                    · intro w'
                      go_simp
                      with_reducible rfl
                    rotate_left
                    · simp only [Act.put, List.setIfInBounds_toArray, List.set_cons_zero, List.set_cons_succ, i64_w, i32_w]
                      rfl
                    refine pure_ (i := 23) (N := some 48) (v := ?_) (a' := ?_) #[true, true, true, true, true, true, true, true, true, true, true, true, true, true, true, true, true, true, true, true, true, true, true, true] rfl rfl (any_of HT_.out (by kernel_rfl)) (fun _ _ _ h => h) (Or.inl ⟨by rfl, ?_⟩) ?_ ?_
                    rotate_left
                    · intro w'
                      go_simp
                      with_reducible rfl
                    rotate_left
                    · simp only [Act.put, List.setIfInBounds_toArray, List.set_cons_zero, List.set_cons_succ, i64_w, i32_w]
                      rfl
                    refine done_ (done_of HT_.out (by kernel_rfl)) ?_
                    try go_wp2
                    go_meet
                    case rel => exact ⟨_, ((t126 != t127)), (by first | rfl | (simp; done) | (simp [*]; done)), H', ⟨by have := HJ1.out; have := HK2.out; first | omega | exact Nat.le_refl _⟩, ⟨by (with_reducible repeat (first | refine blk_drewN ?_ _ | refine blk_drew ?_ | refine blk_alloc ?_ _)); exact BK123.out⟩, ⟨by repeat (first | (with_reducible first | exact HB.out | apply below_alloc | apply pw_below_drewN | apply below_drew1 | refine below_set ?_ GE123.out) | exact HB.out)⟩⟩
                  · rw [if_neg c22] at H
                    have c22b0 : (t124 == t125) = false := beq_eq_false_iff_ne.mpr c22
                    have c22b1 : (t124 != t125) = true := bne_iff_ne.mpr c22
                    (first | rw [c22b0] | (simp only [i64_w, i32_w]; rw [c22b0]) | skip)
                    have H' := Aside0.mk H
                    clear H
                    try go_wp2
                    have n0_ : Aside0 ((((((((w18.setCell ⟨gb123, 0, none⟩ (.string ((rd_T28 l0 x3_2).f0))).setCell ⟨gb123, 1, none⟩ (.string ((rd_T28 l0 x3_2).f1))).setCell ⟨gb123, 2, none⟩ (.string ((rd_T28 l0 x3_2).f2))).setCell ⟨gb123, 3, none⟩ (.int .u64 ((rd_T28 l0 x3_2).f3))).setCell ⟨gb123, 4, none⟩ (.int .u64 ((rd_T28 l0 x3_2).f4))).setCell ⟨gb123, 5, none⟩ (.slice A122_5 ((rd_T28 l0 x3_2).f5).length c122_5)).setCell ⟨gb123, 6, none⟩ (.int .i64 ((rd_T28 l0 x3_2).f6))).heap[gb123]? = some (.cells #[.string ((rd_T28 l0 x3_2).f0), .string ((rd_T28 l0 x3_2).f1), .string ((rd_T28 l0 x3_2).f2), .int .u64 ((rd_T28 l0 x3_2).f3), .int .u64 ((rd_T28 l0 x3_2).f4), .slice A122_5 ((rd_T28 l0 x3_2).f5).length c122_5, .int .i64 ((rd_T28 l0 x3_2).f6)] 28 (0, 0))) := ⟨by (with_reducible repeat (first | refine blk_drewN ?_ _ | refine blk_drew ?_ | refine blk_alloc ?_ _)); refine blk_put (cs := #[.string ((rd_T28 l0 x3_2).f0), .string ((rd_T28 l0 x3_2).f1), .string ((rd_T28 l0 x3_2).f2), .int .u64 ((rd_T28 l0 x3_2).f3), .int .u64 ((rd_T28 l0 x3_2).f4), .slice A122_5 ((rd_T28 l0 x3_2).f5).length c122_5, .int .i64 0]) ?_ 6 _ rfl; (with_reducible repeat (first | refine blk_drewN ?_ _ | refine blk_drew ?_ | refine blk_alloc ?_ _)); refine blk_put (cs := #[.string ((rd_T28 l0 x3_2).f0), .string ((rd_T28 l0 x3_2).f1), .string ((rd_T28 l0 x3_2).f2), .int .u64 ((rd_T28 l0 x3_2).f3), .int .u64 ((rd_T28 l0 x3_2).f4), .slice none 0 0, .int .i64 0]) ?_ 5 _ rfl; (with_reducible repeat (first | refine blk_drewN ?_ _ | refine blk_drew ?_ | refine blk_alloc ?_ _)); refine blk_put (cs := #[.string ((rd_T28 l0 x3_2).f0), .string ((rd_T28 l0 x3_2).f1), .string ((rd_T28 l0 x3_2).f2), .int .u64 ((rd_T28 l0 x3_2).f3), .int .u64 0, .slice none 0 0, .int .i64 0]) ?_ 4 _ rfl; (with_reducible repeat (first | refine blk_drewN ?_ _ | refine blk_drew ?_ | refine blk_alloc ?_ _)); refine blk_put (cs := #[.string ((rd_T28 l0 x3_2).f0), .string ((rd_T28 l0 x3_2).f1), .string ((rd_T28 l0 x3_2).f2), .int .u64 0, .int .u64 0, .slice none 0 0, .int .i64 0]) ?_ 3 _ rfl; (with_reducible repeat (first | refine blk_drewN ?_ _ | refine blk_drew ?_ | refine blk_alloc ?_ _)); refine blk_put (cs := #[.string ((rd_T28 l0 x3_2).f0), .string ((rd_T28 l0 x3_2).f1), .string (⟨#[]⟩ : ByteArray), .int .u64 0, .int .u64 0, .slice none 0 0, .int .i64 0]) ?_ 2 _ rfl; (with_reducible repeat (first | refine blk_drewN ?_ _ | refine blk_drew ?_ | refine blk_alloc ?_ _)); refine blk_put (cs := #[.string ((rd_T28 l0 x3_2).f0), .string (⟨#[]⟩ : ByteArray), .string (⟨#[]⟩ : ByteArray), .int .u64 0, .int .u64 0, .slice none 0 0, .int .i64 0]) ?_ 1 _ rfl; (with_reducible repeat (first | refine blk_drewN ?_ _ | refine blk_drew ?_ | refine blk_alloc ?_ _)); refine blk_put (cs := #[.string (⟨#[]⟩ : ByteArray), .string (⟨#[]⟩ : ByteArray), .string (⟨#[]⟩ : ByteArray), .int .u64 0, .int .u64 0, .slice none 0 0, .int .i64 0]) ?_ 0 _ rfl; (with_reducible repeat (first | refine blk_drewN ?_ _ | refine blk_drew ?_ | refine blk_alloc ?_ _)); exact BK123.out⟩
                    have n1_ : Aside0 (Below w.heap.size w (((((((w18.setCell ⟨gb123, 0, none⟩ (.string ((rd_T28 l0 x3_2).f0))).setCell ⟨gb123, 1, none⟩ (.string ((rd_T28 l0 x3_2).f1))).setCell ⟨gb123, 2, none⟩ (.string ((rd_T28 l0 x3_2).f2))).setCell ⟨gb123, 3, none⟩ (.int .u64 ((rd_T28 l0 x3_2).f3))).setCell ⟨gb123, 4, none⟩ (.int .u64 ((rd_T28 l0 x3_2).f4))).setCell ⟨gb123, 5, none⟩ (.slice A122_5 ((rd_T28 l0 x3_2).f5).length c122_5)).setCell ⟨gb123, 6, none⟩ (.int .i64 ((rd_T28 l0 x3_2).f6)))) := ⟨by repeat (first | (with_reducible first | exact HB.out | apply below_alloc | apply pw_below_drewN | apply below_drew1 | refine below_set ?_ GE123.out) | exact HB.out)⟩
                    (try clear BK123)
                    (try clear HB)
                    generalize (((((((w18.setCell ⟨gb123, 0, none⟩ (.string ((rd_T28 l0 x3_2).f0))).setCell ⟨gb123, 1, none⟩ (.string ((rd_T28 l0 x3_2).f1))).setCell ⟨gb123, 2, none⟩ (.string ((rd_T28 l0 x3_2).f2))).setCell ⟨gb123, 3, none⟩ (.int .u64 ((rd_T28 l0 x3_2).f3))).setCell ⟨gb123, 4, none⟩ (.int .u64 ((rd_T28 l0 x3_2).f4))).setCell ⟨gb123, 5, none⟩ (.slice A122_5 ((rd_T28 l0 x3_2).f5).length c122_5)).setCell ⟨gb123, 6, none⟩ (.int .i64 ((rd_T28 l0 x3_2).f6))) = w29 at n0_ n1_ ⊢
                    have BK123 := n0_
                    have HB := n1_
                    clear n0_ n1_
                    have n0_ := Aside0.mk (blk_drew BK123.out)
                    have n1_ := Aside0.mk (below_drew1 HB.out)
                    clear BK123
                    clear HB
                    have BK123 := n0_
                    have HB := n1_
                    clear n0_ n1_
                    refine start_ (n := 24) (S := fun w' => w'.cell? ⟨gb123, 0, none⟩ = some (.string ((rd_T28 l0 x3_2).f0)) ∧ w'.cell? ⟨gb123, 1, none⟩ = some (.string ((rd_T28 l0 x3_2).f1)) ∧ w'.cell? ⟨gb123, 2, none⟩ = some (.string ((rd_T28 l0 x3_2).f2)) ∧ w'.cell? ⟨gb123, 3, none⟩ = some (.int .u64 ((rd_T28 l0 x3_2).f3)) ∧ w'.cell? ⟨gb123, 4, none⟩ = some (.int .u64 ((rd_T28 l0 x3_2).f4)) ∧ w'.cell? ⟨gb123, 5, none⟩ = some (.slice A122_5 ((rd_T28 l0 x3_2).f5).length c122_5) ∧ w'.cell? ⟨gb123, 6, none⟩ = some (.int .i64 ((rd_T28 l0 x3_2).f6))) (ds := []) #[false, false, false, false, false, false, false, false, false, false, false, false, false, false, false, false, false, false, false, false, false, false, false, false] (by kernel_rfl) rfl rfl ⟨(blk_cell BK123.out 0).trans rfl, (blk_cell BK123.out 1).trans rfl, (blk_cell BK123.out 2).trans rfl, (blk_cell BK123.out 3).trans rfl, (blk_cell BK123.out 4).trans rfl, (blk_cell BK123.out 5).trans rfl, (blk_cell BK123.out 6).trans rfl⟩ (fun hHeld => ?_); refine with_tabW abacuslaw20_CharsIndexes.tab7 abacuslaw20_CharsIndexes.bits7 (fun HT_ HW_ => ?_)
                    generalize w29.drew = w30 at BK123 HB hHeld ⊢
                    refine pure_ (i := 0) (N := some 25) (v := ?_) (a' := ?_) #[true, false, false, false, false, false, false, false, false, false, false, false, false, false, false, false, false, false, false, false, false, false, false, false] rfl rfl (any_of HT_.out (by kernel_rfl)) (fun _ _ _ h => h) (Or.inl ⟨by rfl, ?_⟩) ?_ ?_
                    rotate_left
                    · intro w'
                      go_simp
                      with_reducible rfl
                    rotate_left
                    · simp only [Act.put, List.setIfInBounds_toArray, List.set_cons_zero, List.set_cons_succ, i64_w, i32_w]
                      rfl
                    refine pure_ (i := 2) (N := some 27) (v := ?_) (a' := ?_) #[true, false, true, false, false, false, false, false, false, false, false, false, false, false, false, false, false, false, false, false, false, false, false, false] rfl rfl (any_of HT_.out (by kernel_rfl)) (fun _ _ _ h => h) (Or.inl ⟨by rfl, ?_⟩) ?_ ?_
                    rotate_left
                    · intro w'
                      go_simp
                      with_reducible rfl
                    rotate_left
                    · simp only [Act.put, List.setIfInBounds_toArray, List.set_cons_zero, List.set_cons_succ, i64_w, i32_w]
                      rfl
                    refine pure_ (i := 5) (N := some 30) (v := ?_) (a' := ?_) #[true, false, true, false, false, true, false, false, false, false, false, false, false, false, false, false, false, false, false, false, false, false, false, false] rfl rfl (any_of HT_.out (by kernel_rfl)) (fun _ _ _ h => h) (Or.inl ⟨by rfl, ?_⟩) ?_ ?_
                    rotate_left
                    · intro w'
                      go_simp
                      with_reducible rfl
                    rotate_left
                    · simp only [Act.put, List.setIfInBounds_toArray, List.set_cons_zero, List.set_cons_succ, i64_w, i32_w]
                      rfl
                    refine pure_ (i := 7) (N := some 32) (v := ?_) (a' := ?_) #[true, false, true, false, false, true, false, true, false, false, false, false, false, false, false, false, false, false, false, false, false, false, false, false] rfl rfl (any_of HT_.out (by kernel_rfl)) (fun _ _ _ h => h) (Or.inl ⟨by rfl, ?_⟩) ?_ ?_
                    rotate_left
                    · intro w'
                      go_simp
                      with_reducible rfl
                    rotate_left
                    · simp only [Act.put, List.setIfInBounds_toArray, List.set_cons_zero, List.set_cons_succ, i64_w, i32_w]
                      rfl
                    refine take_ (i := 1) (N := some 26) (v := ?_) (a' := ?_) #[true, true, true, false, false, true, false, true, false, false, false, false, false, false, false, false, false, false, false, false, false, false, false, false] rfl rfl (take_ofW HT_.out HW_.out (by kernel_rfl)) (fun _ _ _ h => h) (Or.inl ⟨by rfl, ?_⟩) hHeld ?_ ?_
                    rotate_left
                    · rintro w' ⟨s0, s1, s2, s3, s4, s5, s6⟩
                      go_simp
                      with_reducible rfl
                    rotate_left
                    · simp only [Act.put, List.setIfInBounds_toArray, List.set_cons_zero, List.set_cons_succ, i64_w, i32_w]
                      rfl
                    refine take_ (i := 3) (N := some 28) (v := ?_) (a' := ?_) #[true, true, true, true, false, true, false, true, false, false, false, false, false, false, false, false, false, false, false, false, false, false, false, false] rfl rfl (take_ofW HT_.out HW_.out (by kernel_rfl)) (fun _ _ _ h => h) (Or.inl ⟨by rfl, ?_⟩) hHeld ?_ ?_
                    rotate_left
                    · rintro w' ⟨s0, s1, s2, s3, s4, s5, s6⟩
                      go_simp
                      with_reducible rfl
                    rotate_left
                    · simp only [Act.put, List.setIfInBounds_toArray, List.set_cons_zero, List.set_cons_succ, i64_w, i32_w]
                      rfl
                    refine take_ (i := 6) (N := some 31) (v := ?_) (a' := ?_) #[true, true, true, true, false, true, true, true, false, false, false, false, false, false, false, false, false, false, false, false, false, false, false, false] rfl rfl (take_ofW HT_.out HW_.out (by kernel_rfl)) (fun _ _ _ h => h) (Or.inl ⟨by rfl, ?_⟩) hHeld ?_ ?_
                    rotate_left
                    · rintro w' ⟨s0, s1, s2, s3, s4, s5, s6⟩
                      go_simp
                      with_reducible rfl
                    rotate_left
                    · simp only [Act.put, List.setIfInBounds_toArray, List.set_cons_zero, List.set_cons_succ, i64_w, i32_w]
                      rfl
                    refine take_ (i := 8) (N := some 33) (v := ?_) (a' := ?_) #[true, true, true, true, false, true, true, true, true, false, false, false, false, false, false, false, false, false, false, false, false, false, false, false] rfl rfl (take_ofW HT_.out HW_.out (by kernel_rfl)) (fun _ _ _ h => h) (Or.inl ⟨by rfl, ?_⟩) hHeld ?_ ?_
                    rotate_left
                    · rintro w' ⟨s0, s1, s2, s3, s4, s5, s6⟩
                      go_simp
                      with_reducible rfl
                    rotate_left
                    · simp only [Act.put, List.setIfInBounds_toArray, List.set_cons_zero, List.set_cons_succ, i64_w, i32_w]
                      rfl
                    refine one_ (i := 4) (N := some 29) #[true, true, true, true, true, true, true, true, true, false, false, false, false, false, false, false, false, false, false, false, false, false, false, false] rfl rfl (one_of HT_.out (by kernel_rfl)) (by decide) (fun K hK => ?_)
                    refine goes_ Try.func6 (by kernel_rfl) rfl #[.string ((rd_T28 l0 x3_2).f0), .string ((rd_T28 l0 x3_2).f1)] (by rfl) rfl rfl (by (try simp only [List.map_toArray, List.map_cons, List.map_nil]); first | done | rfl | (simp only [List.length_drop, List.length_take]; rfl)) ?_
                    with_reducible refine (chars_Index.calls ((rd_T28 l0 x3_2).f0) ((rd_T28 l0 x3_2).f1) t124 _ ?side1 A20.out).mono ?_
                    (case side1 => exact GW.below HG.out (by repeat (first | (with_reducible first | exact HB.out | apply below_alloc | apply pw_below_drewN | apply below_drew1 | refine below_set ?_ GE123.out) | exact HB.out)))
                    rintro e w31 ⟨rfl, hb⟩
                    refine ⟨_, rfl, ?_⟩
                    have n0_ := Aside0.mk (blk_below (g := gb123) (o := .cells #[.string ((rd_T28 l0 x3_2).f0), .string ((rd_T28 l0 x3_2).f1), .string ((rd_T28 l0 x3_2).f2), .int .u64 ((rd_T28 l0 x3_2).f3), .int .u64 ((rd_T28 l0 x3_2).f4), .slice A122_5 ((rd_T28 l0 x3_2).f5).length c122_5, .int .i64 ((rd_T28 l0 x3_2).f6)] 28 (0, 0)) (by (with_reducible repeat (first | refine blk_drewN ?_ _ | refine blk_drew ?_ | refine blk_alloc ?_ _)); exact BK123.out) hb)
                    have n1_ := Aside0.mk (below_step (by repeat (first | (with_reducible first | exact HB.out | apply below_alloc | apply pw_below_drewN | apply below_drew1 | refine below_set ?_ GE123.out) | exact HB.out)) hb)
                    clear BK123
                    clear HB
                    have BK123 := n0_
                    have HB := n1_
                    clear n0_ n1_
                    (try clear hb)
                    (try clear hb2)
                    (try clear hk)
                    (try clear hi)
                    refine hK.out _ _ ⟨(blk_cell BK123.out 0).trans rfl, (blk_cell BK123.out 1).trans rfl, (blk_cell BK123.out 2).trans rfl, (blk_cell BK123.out 3).trans rfl, (blk_cell BK123.out 4).trans rfl, (blk_cell BK123.out 5).trans rfl, (blk_cell BK123.out 6).trans rfl⟩ (fun hHeld => ?_)
                    clear hK K
                    refine norm_ (a' := ?_) ?_ ?_
                    rotate_left
                    · show Act.put _ (some 29) _ = _
                      simp only [Act.put, List.setIfInBounds_toArray, List.set_cons_zero, List.set_cons_succ, i64_w, i32_w]
                      rfl
                    refine one_ (i := 9) (N := some 34) #[true, true, true, true, true, true, true, true, true, true, false, false, false, false, false, false, false, false, false, false, false, false, false, false] rfl rfl (one_of HT_.out (by kernel_rfl)) (by decide) (fun K hK => ?_)
                    refine goes_ Try.func9 (by kernel_rfl) rfl #[.string ((rd_T28 l0 x3_2).f0), .string ((rd_T28 l0 x3_2).f1)] (by rfl) rfl rfl (by (try simp only [List.map_toArray, List.map_cons, List.map_nil]); first | done | rfl | (simp only [List.length_drop, List.length_take]; rfl)) ?_
                    with_reducible refine (abacusref20_Index.calls k2 ((rd_T28 l0 x3_2).f0) ((rd_T28 l0 x3_2).f1) t125 _ A21.out).mono ?_
                    rintro e w' ⟨rfl, ⟨nd, rfl⟩⟩
                    refine ⟨_, rfl, ?_⟩
                    refine hK.out _ _ ⟨(blk_cell BK123.out 0).trans rfl, (blk_cell BK123.out 1).trans rfl, (blk_cell BK123.out 2).trans rfl, (blk_cell BK123.out 3).trans rfl, (blk_cell BK123.out 4).trans rfl, (blk_cell BK123.out 5).trans rfl, (blk_cell BK123.out 6).trans rfl⟩ (fun hHeld => ?_)
                    clear hK K
                    refine norm_ (a' := ?_) ?_ ?_
                    rotate_left
                    · show Act.put _ (some 34) _ = _
                      simp only [Act.put, List.setIfInBounds_toArray, List.set_cons_zero, List.set_cons_succ, i64_w, i32_w]
                      rfl
                    refine pure_ (i := 10) (N := some 35) (v := ?_) (a' := ?_) #[true, true, true, true, true, true, true, true, true, true, true, false, false, false, false, false, false, false, false, false, false, false, false, false] rfl rfl (any_of HT_.out (by kernel_rfl)) (fun _ _ _ h => h) (Or.inl ⟨by rfl, ?_⟩) ?_ ?_
                    rotate_left
                    · intro w'
                      go_simp
                      with_reducible rfl
                    rotate_left
                    · simp only [Act.put, List.setIfInBounds_toArray, List.set_cons_zero, List.set_cons_succ, i64_w, i32_w]
                      rfl
                    refine pure_ (i := 11) (N := some 36) (v := ?_) (a' := ?_) #[true, true, true, true, true, true, true, true, true, true, true, true, false, false, false, false, false, false, false, false, false, false, false, false] rfl rfl (any_of HT_.out (by kernel_rfl)) (fun _ _ _ h => h) (Or.inl ⟨by rfl, ?_⟩) ?_ ?_
                    rotate_left
                    · intro w'
                      go_simp
                      with_reducible rfl
                    rotate_left
                    · simp only [Act.put, List.setIfInBounds_toArray, List.set_cons_zero, List.set_cons_succ, i64_w, i32_w]
                      rfl
                    refine pure_ (i := 12) (N := some 37) (v := undef) (a' := ?_) #[true, true, true, true, true, true, true, true, true, true, true, true, true, false, false, false, false, false, false, false, false, false, false, false] rfl rfl (any_of HT_.out (by kernel_rfl)) (fun _ _ _ h => h) (Or.inr ⟨by rfl, rfl⟩) ?_ ?_
                    rotate_left
                    · simp only [Act.put, List.setIfInBounds_toArray, List.set_cons_zero, List.set_cons_succ, i64_w, i32_w]
                      rfl
                    refine pure_ (i := 13) (N := some 38) (v := undef) (a' := ?_) #[true, true, true, true, true, true, true, true, true, true, true, true, true, true, false, false, false, false, false, false, false, false, false, false] rfl rfl (any_of HT_.out (by kernel_rfl)) (fun _ _ _ h => h) (Or.inr ⟨by rfl, rfl⟩) ?_ ?_
                    rotate_left
                    · simp only [Act.put, List.setIfInBounds_toArray, List.set_cons_zero, List.set_cons_succ, i64_w, i32_w]
                      rfl
                    refine pure_ (i := 14) (N := some 39) (v := undef) (a' := ?_) #[true, true, true, true, true, true, true, true, true, true, true, true, true, true, true, false, false, false, false, false, false, false, false, false] rfl rfl (any_of HT_.out (by kernel_rfl)) (fun _ _ _ h => h) (Or.inr ⟨by rfl, rfl⟩) ?_ ?_
                    rotate_left
                    · simp only [Act.put, List.setIfInBounds_toArray, List.set_cons_zero, List.set_cons_succ, i64_w, i32_w]
                      rfl
                    refine pure_ (i := 15) (N := some 40) (v := undef) (a' := ?_) #[true, true, true, true, true, true, true, true, true, true, true, true, true, true, true, true, false, false, false, false, false, false, false, false] rfl rfl (any_of HT_.out (by kernel_rfl)) (fun _ _ _ h => h) (Or.inr ⟨by rfl, rfl⟩) ?_ ?_
                    rotate_left
                    · simp only [Act.put, List.setIfInBounds_toArray, List.set_cons_zero, List.set_cons_succ, i64_w, i32_w]
                      rfl
                    refine pure_ (i := 16) (N := some 41) (v := undef) (a' := ?_) #[true, true, true, true, true, true, true, true, true, true, true, true, true, true, true, true, true, false, false, false, false, false, false, false] rfl rfl (any_of HT_.out (by kernel_rfl)) (fun _ _ _ h => h) (Or.inr ⟨by rfl, rfl⟩) ?_ ?_
                    rotate_left
                    · simp only [Act.put, List.setIfInBounds_toArray, List.set_cons_zero, List.set_cons_succ, i64_w, i32_w]
                      rfl
                    refine pure_ (i := 17) (N := some 42) (v := undef) (a' := ?_) #[true, true, true, true, true, true, true, true, true, true, true, true, true, true, true, true, true, true, false, false, false, false, false, false] rfl rfl (any_of HT_.out (by kernel_rfl)) (fun _ _ _ h => h) (Or.inr ⟨by rfl, rfl⟩) ?_ ?_
                    rotate_left
                    · simp only [Act.put, List.setIfInBounds_toArray, List.set_cons_zero, List.set_cons_succ, i64_w, i32_w]
                      rfl
                    refine pure_ (i := 18) (N := some 43) (v := undef) (a' := ?_) #[true, true, true, true, true, true, true, true, true, true, true, true, true, true, true, true, true, true, true, false, false, false, false, false] rfl rfl (any_of HT_.out (by kernel_rfl)) (fun _ _ _ h => h) (Or.inr ⟨by rfl, rfl⟩) ?_ ?_
                    rotate_left
                    · simp only [Act.put, List.setIfInBounds_toArray, List.set_cons_zero, List.set_cons_succ, i64_w, i32_w]
                      rfl
                    refine pure_ (i := 19) (N := some 44) (v := undef) (a' := ?_) #[true, true, true, true, true, true, true, true, true, true, true, true, true, true, true, true, true, true, true, true, false, false, false, false] rfl rfl (any_of HT_.out (by kernel_rfl)) (fun _ _ _ h => h) (Or.inr ⟨by rfl, rfl⟩) ?_ ?_
                    rotate_left
                    · simp only [Act.put, List.setIfInBounds_toArray, List.set_cons_zero, List.set_cons_succ, i64_w, i32_w]
                      rfl
                    refine pure_ (i := 20) (N := some 45) (v := undef) (a' := ?_) #[true, true, true, true, true, true, true, true, true, true, true, true, true, true, true, true, true, true, true, true, true, false, false, false] rfl rfl (any_of HT_.out (by kernel_rfl)) (fun _ _ _ h => h) (Or.inr ⟨by rfl, rfl⟩) ?_ ?_
                    rotate_left
                    · simp only [Act.put, List.setIfInBounds_toArray, List.set_cons_zero, List.set_cons_succ, i64_w, i32_w]
                      rfl
                    refine pure_ (i := 21) (N := some 46) (v := undef) (a' := ?_) #[true, true, true, true, true, true, true, true, true, true, true, true, true, true, true, true, true, true, true, true, true, true, false, false] rfl rfl (any_of HT_.out (by kernel_rfl)) (fun _ _ _ h => h) (Or.inr ⟨by rfl, rfl⟩) ?_ ?_
                    rotate_left
                    · simp only [Act.put, List.setIfInBounds_toArray, List.set_cons_zero, List.set_cons_succ, i64_w, i32_w]
                      rfl
                    refine pure_ (i := 22) (N := some 47) (v := undef) (a' := ?_) #[true, true, true, true, true, true, true, true, true, true, true, true, true, true, true, true, true, true, true, true, true, true, true, false] rfl rfl (any_of HT_.out (by kernel_rfl)) (fun _ _ _ h => h) (Or.inr ⟨by rfl, rfl⟩) ?_ ?_
                    rotate_left
                    · simp only [Act.put, List.setIfInBounds_toArray, List.set_cons_zero, List.set_cons_succ, i64_w, i32_w]
                      rfl
                    refine pure_ (i := 23) (N := some 48) (v := ?_) (a' := ?_) #[true, true, true, true, true, true, true, true, true, true, true, true, true, true, true, true, true, true, true, true, true, true, true, true] rfl rfl (any_of HT_.out (by kernel_rfl)) (fun _ _ _ h => h) (Or.inl ⟨by rfl, ?_⟩) ?_ ?_
                    rotate_left
                    · intro w'
                      go_simp
                      with_reducible rfl
                    rotate_left
                    · simp only [Act.put, List.setIfInBounds_toArray, List.set_cons_zero, List.set_cons_succ, i64_w, i32_w]
                      rfl
                    refine done_ (done_of HT_.out (by kernel_rfl)) ?_
                    try go_wp2
                    go_meet
                    case rel => exact ⟨_, (true), (by first | rfl | (simp; done) | (simp [*]; done)), H', ⟨by have := HJ1.out; have := HK2.out; first | omega | exact Nat.le_refl _⟩, ⟨by (with_reducible repeat (first | refine blk_drewN ?_ _ | refine blk_drew ?_ | refine blk_alloc ?_ _)); exact BK123.out⟩, ⟨by repeat (first | (with_reducible first | exact HB.out | apply below_alloc | apply pw_below_drewN | apply below_drew1 | refine below_set ?_ GE123.out) | exact HB.out)⟩⟩
                case rest =>
                  clear HC17
                  try clear c1
                  try clear p1
                  try clear q1
                  try clear hx1
                  try clear c2
                  try clear p2
                  try clear c3
                  try clear c4
                  try clear c4b0
                  try clear c4b1
                  try clear c6
                  try clear c6b0
                  try clear c6b1
                  try clear c9
                  try clear c12
                  try clear p12
                  try clear q12
                  try clear hx12
                  try clear c14
                  try clear c15
                  try clear c15b0
                  try clear c16
                  try clear c16b0
                  try clear c22
                  try clear c22b0
                  try clear c22b1
                  try clear hcz19_0
                  try clear hcz19_1
                  try clear hcz19_2
                  try clear hcz19_3
                  try clear hcz19_4
                  try clear hcz19_5
                  try clear hcz19_6
                  try clear hfz19_0
                  try clear hfz19_1
                  try clear hfz19_2
                  try clear hfz19_3
                  try clear hfz19_4
                  try clear hfz19_5
                  try clear hfz19_6
                  try clear hx122_0
                  try clear hx122_1
                  try clear hx122_2
                  try clear hx122_3
                  try clear hx122_4
                  try clear hx122_5
                  try clear hx122_6
                  try clear p122
                  try clear p2
                  try clear q122
                  obtain ⟨kq, x48_16, rfl, HA, HJ16, BK123, HB⟩ := hcut
                  cases kq with
                  | zero => exact absurd HA.out (by simp [abacuslaw20_CharsIndexes.j2])
                  | succ kj16 =>
                    have H := HA.out
                    clear HA
                    simp only [abacuslaw20_CharsIndexes.j2] at H
                    by_cases c32 : x48_16 = true
                    · subst c32
                      have H1 : (some false) = some true := by rw [if_pos rfl] at H; exact H
                      clear H
                      have H := H1
                      clear H1
                      exact absurd H (by simp)
                    · replace c32 := Bool.eq_false_iff.mpr c32
                      subst c32
                      have H1 : ((chars_Lower.f kj16 ((rd_T28 l0 x3_2).f0)).bind fun t128 => ((abacusref20_Lower.f kj16 ((rd_T28 l0 x3_2).f0)).bind fun t129 => (if t128.toList = t129.toList then ((chars_Upper.f kj16 ((rd_T28 l0 x3_2).f0)).bind fun t130 => ((abacusref20_Upper.f kj16 ((rd_T28 l0 x3_2).f0)).bind fun t131 => (if t130.toList = t131.toList then (abacuslaw20_CharsIndexes.l0 kj16 l0 (wrap64 (x3_2 + 1))) else (some false)))) else (some false)))) = some true := by rw [if_neg (show ¬ (false = true) by decide)] at H; exact H
                      clear H
                      have H := H1
                      clear H1
                      replace H := Option.bind_eq_some_iff.mp H
                      obtain ⟨t128, A330, H⟩ := H
                      replace H : ((abacusref20_Lower.f kj16 ((rd_T28 l0 x3_2).f0)).bind fun t129 => (if t128.toList = t129.toList then ((chars_Upper.f kj16 ((rd_T28 l0 x3_2).f0)).bind fun t130 => ((abacusref20_Upper.f kj16 ((rd_T28 l0 x3_2).f0)).bind fun t131 => (if t130.toList = t131.toList then (abacuslaw20_CharsIndexes.l0 kj16 l0 (wrap64 (x3_2 + 1))) else (some false)))) else (some false))) = some true := H
                      have A33 := Aside0.mk A330
                      clear A330
                      replace H := Option.bind_eq_some_iff.mp H
                      obtain ⟨t129, A340, H⟩ := H
                      replace H : (if t128.toList = t129.toList then ((chars_Upper.f kj16 ((rd_T28 l0 x3_2).f0)).bind fun t130 => ((abacusref20_Upper.f kj16 ((rd_T28 l0 x3_2).f0)).bind fun t131 => (if t130.toList = t131.toList then (abacuslaw20_CharsIndexes.l0 kj16 l0 (wrap64 (x3_2 + 1))) else (some false)))) else (some false)) = some true := H
                      have A34 := Aside0.mk A340
                      clear A340
                      by_cases c35 : t128.toList = t129.toList
                      · rw [if_pos c35] at H
                        have c35b0 : (t128.toList == t129.toList) = true := beq_iff_eq.mpr c35
                        have c35b1 : (t128.toList != t129.toList) = false := bne_eq_false_iff_eq.mpr c35
                        clear c35
                        replace H := Option.bind_eq_some_iff.mp H
                        obtain ⟨t130, A360, H⟩ := H
                        replace H : ((abacusref20_Upper.f kj16 ((rd_T28 l0 x3_2).f0)).bind fun t131 => (if t130.toList = t131.toList then (abacuslaw20_CharsIndexes.l0 kj16 l0 (wrap64 (x3_2 + 1))) else (some false))) = some true := H
                        have A36 := Aside0.mk A360
                        clear A360
                        replace H := Option.bind_eq_some_iff.mp H
                        obtain ⟨t131, A370, H⟩ := H
                        replace H : (if t130.toList = t131.toList then (abacuslaw20_CharsIndexes.l0 kj16 l0 (wrap64 (x3_2 + 1))) else (some false)) = some true := H
                        have A37 := Aside0.mk A370
                        clear A370
                        by_cases c38 : t130.toList = t131.toList
                        · rw [if_pos c38] at H
                          have c38b0 : (t130.toList == t131.toList) = true := beq_iff_eq.mpr c38
                          have c38b1 : (t130.toList != t131.toList) = false := bne_eq_false_iff_eq.mpr c38
                          clear c38
                          have H' := Aside0.mk H
                          clear H
                          try go_wp2
                          have n0_ := Aside0.mk (blk_drew BK123.out)
                          have n1_ := Aside0.mk (below_drew1 HB.out)
                          clear BK123
                          clear HB
                          have BK123 := n0_
                          have HB := n1_
                          clear n0_ n1_
                          refine start_ (n := 16) (S := fun w' => w'.cell? ⟨gb123, 0, none⟩ = some (.string ((rd_T28 l0 x3_2).f0)) ∧ w'.cell? ⟨gb123, 1, none⟩ = some (.string ((rd_T28 l0 x3_2).f1)) ∧ w'.cell? ⟨gb123, 2, none⟩ = some (.string ((rd_T28 l0 x3_2).f2)) ∧ w'.cell? ⟨gb123, 3, none⟩ = some (.int .u64 ((rd_T28 l0 x3_2).f3)) ∧ w'.cell? ⟨gb123, 4, none⟩ = some (.int .u64 ((rd_T28 l0 x3_2).f4)) ∧ w'.cell? ⟨gb123, 5, none⟩ = some (.slice A122_5 ((rd_T28 l0 x3_2).f5).length c122_5) ∧ w'.cell? ⟨gb123, 6, none⟩ = some (.int .i64 ((rd_T28 l0 x3_2).f6))) (ds := []) #[false, false, false, false, false, false, false, false, false, false, false, false, false, false, false, false] (by kernel_rfl) rfl rfl ⟨(blk_cell BK123.out 0).trans rfl, (blk_cell BK123.out 1).trans rfl, (blk_cell BK123.out 2).trans rfl, (blk_cell BK123.out 3).trans rfl, (blk_cell BK123.out 4).trans rfl, (blk_cell BK123.out 5).trans rfl, (blk_cell BK123.out 6).trans rfl⟩ (fun hHeld => ?_); refine with_tabW abacuslaw20_CharsIndexes.tab9 abacuslaw20_CharsIndexes.bits9 (fun HT_ HW_ => ?_)
                          generalize wc.drew = w39 at BK123 HB hHeld ⊢
                          refine pure_ (i := 0) (N := some 49) (v := ?_) (a' := ?_) #[true, false, false, false, false, false, false, false, false, false, false, false, false, false, false, false] rfl rfl (any_of HT_.out (by kernel_rfl)) (fun _ _ _ h => h) (Or.inl ⟨by rfl, ?_⟩) ?_ ?_
                          rotate_left
                          · intro w'
                            go_simp
                            with_reducible rfl
                          rotate_left
                          · simp only [Act.put, List.setIfInBounds_toArray, List.set_cons_zero, List.set_cons_succ, i64_w, i32_w]
                            rfl
                          refine pure_ (i := 3) (N := some 52) (v := ?_) (a' := ?_) #[true, false, false, true, false, false, false, false, false, false, false, false, false, false, false, false] rfl rfl (any_of HT_.out (by kernel_rfl)) (fun _ _ _ h => h) (Or.inl ⟨by rfl, ?_⟩) ?_ ?_
                          rotate_left
                          · intro w'
                            go_simp
                            with_reducible rfl
                          rotate_left
                          · simp only [Act.put, List.setIfInBounds_toArray, List.set_cons_zero, List.set_cons_succ, i64_w, i32_w]
                            rfl
                          refine take_ (i := 1) (N := some 50) (v := ?_) (a' := ?_) #[true, true, false, true, false, false, false, false, false, false, false, false, false, false, false, false] rfl rfl (take_ofW HT_.out HW_.out (by kernel_rfl)) (fun _ _ _ h => h) (Or.inl ⟨by rfl, ?_⟩) hHeld ?_ ?_
                          rotate_left
                          · rintro w' ⟨s0, s1, s2, s3, s4, s5, s6⟩
                            go_simp
                            with_reducible rfl
                          rotate_left
                          · simp only [Act.put, List.setIfInBounds_toArray, List.set_cons_zero, List.set_cons_succ, i64_w, i32_w]
                            rfl
                          refine take_ (i := 4) (N := some 53) (v := ?_) (a' := ?_) #[true, true, false, true, true, false, false, false, false, false, false, false, false, false, false, false] rfl rfl (take_ofW HT_.out HW_.out (by kernel_rfl)) (fun _ _ _ h => h) (Or.inl ⟨by rfl, ?_⟩) hHeld ?_ ?_
                          rotate_left
                          · rintro w' ⟨s0, s1, s2, s3, s4, s5, s6⟩
                            go_simp
                            with_reducible rfl
                          rotate_left
                          · simp only [Act.put, List.setIfInBounds_toArray, List.set_cons_zero, List.set_cons_succ, i64_w, i32_w]
                            rfl
                          refine one_ (i := 2) (N := some 51) #[true, true, true, true, true, false, false, false, false, false, false, false, false, false, false, false] rfl rfl (one_of HT_.out (by kernel_rfl)) (by decide) (fun K hK => ?_)
                          refine goes_ Try.func7 (by kernel_rfl) rfl #[.string ((rd_T28 l0 x3_2).f0)] (by rfl) rfl rfl (by (try simp only [List.map_toArray, List.map_cons, List.map_nil]); first | done | rfl | (simp only [List.length_drop, List.length_take]; rfl)) ?_
                          with_reducible refine (chars_Lower.calls kj16 ((rd_T28 l0 x3_2).f0) t128 _ A33.out).mono ?_
                          rintro e w40 ⟨rfl, hb⟩
                          refine ⟨_, rfl, ?_⟩
                          have n0_ := Aside0.mk (blk_below (g := gb123) (o := .cells #[.string ((rd_T28 l0 x3_2).f0), .string ((rd_T28 l0 x3_2).f1), .string ((rd_T28 l0 x3_2).f2), .int .u64 ((rd_T28 l0 x3_2).f3), .int .u64 ((rd_T28 l0 x3_2).f4), .slice A122_5 ((rd_T28 l0 x3_2).f5).length c122_5, .int .i64 ((rd_T28 l0 x3_2).f6)] 28 (0, 0)) (by (with_reducible repeat (first | refine blk_drewN ?_ _ | refine blk_drew ?_ | refine blk_alloc ?_ _)); exact BK123.out) hb)
                          have n1_ := Aside0.mk (below_step (by repeat (first | (with_reducible first | exact HB.out | apply below_alloc | apply pw_below_drewN | apply below_drew1 | refine below_set ?_ GE123.out) | exact HB.out)) hb)
                          clear BK123
                          clear HB
                          have BK123 := n0_
                          have HB := n1_
                          clear n0_ n1_
                          (try clear hb)
                          (try clear hb2)
                          (try clear hk)
                          (try clear hi)
                          refine hK.out _ _ ⟨(blk_cell BK123.out 0).trans rfl, (blk_cell BK123.out 1).trans rfl, (blk_cell BK123.out 2).trans rfl, (blk_cell BK123.out 3).trans rfl, (blk_cell BK123.out 4).trans rfl, (blk_cell BK123.out 5).trans rfl, (blk_cell BK123.out 6).trans rfl⟩ (fun hHeld => ?_)
                          clear hK K
                          refine norm_ (a' := ?_) ?_ ?_
                          rotate_left
                          · show Act.put _ (some 51) _ = _
                            simp only [Act.put, List.setIfInBounds_toArray, List.set_cons_zero, List.set_cons_succ, i64_w, i32_w]
                            rfl
                          refine one_ (i := 5) (N := some 54) #[true, true, true, true, true, true, false, false, false, false, false, false, false, false, false, false] rfl rfl (one_of HT_.out (by kernel_rfl)) (by decide) (fun K hK => ?_)
                          refine goes_ Try.func10 (by kernel_rfl) rfl #[.string ((rd_T28 l0 x3_2).f0)] (by rfl) rfl rfl (by (try simp only [List.map_toArray, List.map_cons, List.map_nil]); first | done | rfl | (simp only [List.length_drop, List.length_take]; rfl)) ?_
                          with_reducible refine (abacusref20_Lower.calls kj16 ((rd_T28 l0 x3_2).f0) t129 _ A34.out).mono ?_
                          rintro e w41 ⟨rfl, hb⟩
                          refine ⟨_, rfl, ?_⟩
                          have n0_ := Aside0.mk (blk_below (g := gb123) (o := .cells #[.string ((rd_T28 l0 x3_2).f0), .string ((rd_T28 l0 x3_2).f1), .string ((rd_T28 l0 x3_2).f2), .int .u64 ((rd_T28 l0 x3_2).f3), .int .u64 ((rd_T28 l0 x3_2).f4), .slice A122_5 ((rd_T28 l0 x3_2).f5).length c122_5, .int .i64 ((rd_T28 l0 x3_2).f6)] 28 (0, 0)) (by (with_reducible repeat (first | refine blk_drewN ?_ _ | refine blk_drew ?_ | refine blk_alloc ?_ _)); exact BK123.out) hb)
                          have n1_ := Aside0.mk (below_step (by repeat (first | (with_reducible first | exact HB.out | apply below_alloc | apply pw_below_drewN | apply below_drew1 | refine below_set ?_ GE123.out) | exact HB.out)) hb)
                          clear BK123
                          clear HB
                          have BK123 := n0_
                          have HB := n1_
                          clear n0_ n1_
                          (try clear hb)
                          (try clear hb2)
                          (try clear hk)
                          (try clear hi)
                          refine hK.out _ _ ⟨(blk_cell BK123.out 0).trans rfl, (blk_cell BK123.out 1).trans rfl, (blk_cell BK123.out 2).trans rfl, (blk_cell BK123.out 3).trans rfl, (blk_cell BK123.out 4).trans rfl, (blk_cell BK123.out 5).trans rfl, (blk_cell BK123.out 6).trans rfl⟩ (fun hHeld => ?_)
                          clear hK K
                          refine norm_ (a' := ?_) ?_ ?_
                          rotate_left
                          · show Act.put _ (some 54) _ = _
                            simp only [Act.put, List.setIfInBounds_toArray, List.set_cons_zero, List.set_cons_succ, i64_w, i32_w]
                            rfl
                          refine pure_ (i := 6) (N := some 55) (v := ?_) (a' := ?_) #[true, true, true, true, true, true, true, false, false, false, false, false, false, false, false, false] rfl rfl (any_of HT_.out (by kernel_rfl)) (fun _ _ _ h => h) (Or.inl ⟨by rfl, ?_⟩) ?_ ?_
                          rotate_left
                          · intro w'
                            go_simp
                            with_reducible rfl
                          rotate_left
                          · simp only [Act.put, List.setIfInBounds_toArray, List.set_cons_zero, List.set_cons_succ, i64_w, i32_w]
                            rfl
                          refine pure_ (i := 7) (N := some 56) (v := ?_) (a' := ?_) #[true, true, true, true, true, true, true, true, false, false, false, false, false, false, false, false] rfl rfl (any_of HT_.out (by kernel_rfl)) (fun _ _ _ h => h) (Or.inl ⟨by rfl, ?_⟩) ?_ ?_
                          rotate_left
                          · intro w'
                            go_simp
                            with_reducible rfl
                          rotate_left
                          · simp only [Act.put, List.setIfInBounds_toArray, List.set_cons_zero, List.set_cons_succ, i64_w, i32_w]
                            rfl
                          refine pure_ (i := 8) (N := some 57) (v := ?_) (a' := ?_) #[true, true, true, true, true, true, true, true, true, false, false, false, false, false, false, false] rfl rfl (any_of HT_.out (by kernel_rfl)) (fun _ _ _ h => h) (Or.inl ⟨by rfl, ?_⟩) ?_ ?_
                          rotate_left
                          · intro w'
                            go_simp
                            with_reducible rfl
                          rotate_left
                          · simp only [Act.put, List.setIfInBounds_toArray, List.set_cons_zero, List.set_cons_succ, i64_w, i32_w]
                            rfl
                          refine pure_ (i := 11) (N := some 60) (v := ?_) (a' := ?_) #[true, true, true, true, true, true, true, true, true, false, false, true, false, false, false, false] rfl rfl (any_of HT_.out (by kernel_rfl)) (fun _ _ _ h => h) (Or.inl ⟨by rfl, ?_⟩) ?_ ?_
                          rotate_left
                          · intro w'
                            go_simp
                            with_reducible rfl
                          rotate_left
                          · simp only [Act.put, List.setIfInBounds_toArray, List.set_cons_zero, List.set_cons_succ, i64_w, i32_w]
                            rfl
                          refine take_ (i := 9) (N := some 58) (v := ?_) (a' := ?_) #[true, true, true, true, true, true, true, true, true, true, false, true, false, false, false, false] rfl rfl (take_ofW HT_.out HW_.out (by kernel_rfl)) (fun _ _ _ h => h) (Or.inl ⟨by rfl, ?_⟩) hHeld ?_ ?_
                          rotate_left
                          · rintro w' ⟨s0, s1, s2, s3, s4, s5, s6⟩
                            go_simp
                            with_reducible rfl
                          rotate_left
                          · simp only [Act.put, List.setIfInBounds_toArray, List.set_cons_zero, List.set_cons_succ, i64_w, i32_w]
                            rfl
                          refine take_ (i := 12) (N := some 61) (v := ?_) (a' := ?_) #[true, true, true, true, true, true, true, true, true, true, false, true, true, false, false, false] rfl rfl (take_ofW HT_.out HW_.out (by kernel_rfl)) (fun _ _ _ h => h) (Or.inl ⟨by rfl, ?_⟩) hHeld ?_ ?_
                          rotate_left
                          · rintro w' ⟨s0, s1, s2, s3, s4, s5, s6⟩
                            go_simp
                            with_reducible rfl
                          rotate_left
                          · simp only [Act.put, List.setIfInBounds_toArray, List.set_cons_zero, List.set_cons_succ, i64_w, i32_w]
                            rfl
                          refine one_ (i := 10) (N := some 59) #[true, true, true, true, true, true, true, true, true, true, true, true, true, false, false, false] rfl rfl (one_of HT_.out (by kernel_rfl)) (by decide) (fun K hK => ?_)
                          refine goes_ Try.func8 (by kernel_rfl) rfl #[.string ((rd_T28 l0 x3_2).f0)] (by rfl) rfl rfl (by (try simp only [List.map_toArray, List.map_cons, List.map_nil]); first | done | rfl | (simp only [List.length_drop, List.length_take]; rfl)) ?_
                          with_reducible refine (chars_Upper.calls kj16 ((rd_T28 l0 x3_2).f0) t130 _ A36.out).mono ?_
                          rintro e w42 ⟨rfl, hb⟩
                          refine ⟨_, rfl, ?_⟩
                          have n0_ := Aside0.mk (blk_below (g := gb123) (o := .cells #[.string ((rd_T28 l0 x3_2).f0), .string ((rd_T28 l0 x3_2).f1), .string ((rd_T28 l0 x3_2).f2), .int .u64 ((rd_T28 l0 x3_2).f3), .int .u64 ((rd_T28 l0 x3_2).f4), .slice A122_5 ((rd_T28 l0 x3_2).f5).length c122_5, .int .i64 ((rd_T28 l0 x3_2).f6)] 28 (0, 0)) (by (with_reducible repeat (first | refine blk_drewN ?_ _ | refine blk_drew ?_ | refine blk_alloc ?_ _)); exact BK123.out) hb)
                          have n1_ := Aside0.mk (below_step (by repeat (first | (with_reducible first | exact HB.out | apply below_alloc | apply pw_below_drewN | apply below_drew1 | refine below_set ?_ GE123.out) | exact HB.out)) hb)
                          clear BK123
                          clear HB
                          have BK123 := n0_
                          have HB := n1_
                          clear n0_ n1_
                          (try clear hb)
                          (try clear hb2)
                          (try clear hk)
                          (try clear hi)
                          refine hK.out _ _ ⟨(blk_cell BK123.out 0).trans rfl, (blk_cell BK123.out 1).trans rfl, (blk_cell BK123.out 2).trans rfl, (blk_cell BK123.out 3).trans rfl, (blk_cell BK123.out 4).trans rfl, (blk_cell BK123.out 5).trans rfl, (blk_cell BK123.out 6).trans rfl⟩ (fun hHeld => ?_)
                          clear hK K
                          refine norm_ (a' := ?_) ?_ ?_
                          rotate_left
                          · show Act.put _ (some 59) _ = _
                            simp only [Act.put, List.setIfInBounds_toArray, List.set_cons_zero, List.set_cons_succ, i64_w, i32_w]
                            rfl
                          refine one_ (i := 13) (N := some 62) #[true, true, true, true, true, true, true, true, true, true, true, true, true, true, false, false] rfl rfl (one_of HT_.out (by kernel_rfl)) (by decide) (fun K hK => ?_)
                          refine goes_ Try.func11 (by kernel_rfl) rfl #[.string ((rd_T28 l0 x3_2).f0)] (by rfl) rfl rfl (by (try simp only [List.map_toArray, List.map_cons, List.map_nil]); first | done | rfl | (simp only [List.length_drop, List.length_take]; rfl)) ?_
                          with_reducible refine (abacusref20_Upper.calls kj16 ((rd_T28 l0 x3_2).f0) t131 _ A37.out).mono ?_
                          rintro e w43 ⟨rfl, hb⟩
                          refine ⟨_, rfl, ?_⟩
                          have n0_ := Aside0.mk (blk_below (g := gb123) (o := .cells #[.string ((rd_T28 l0 x3_2).f0), .string ((rd_T28 l0 x3_2).f1), .string ((rd_T28 l0 x3_2).f2), .int .u64 ((rd_T28 l0 x3_2).f3), .int .u64 ((rd_T28 l0 x3_2).f4), .slice A122_5 ((rd_T28 l0 x3_2).f5).length c122_5, .int .i64 ((rd_T28 l0 x3_2).f6)] 28 (0, 0)) (by (with_reducible repeat (first | refine blk_drewN ?_ _ | refine blk_drew ?_ | refine blk_alloc ?_ _)); exact BK123.out) hb)
                          have n1_ := Aside0.mk (below_step (by repeat (first | (with_reducible first | exact HB.out | apply below_alloc | apply pw_below_drewN | apply below_drew1 | refine below_set ?_ GE123.out) | exact HB.out)) hb)
                          clear BK123
                          clear HB
                          have BK123 := n0_
                          have HB := n1_
                          clear n0_ n1_
                          (try clear hb)
                          (try clear hb2)
                          (try clear hk)
                          (try clear hi)
                          refine hK.out _ _ ⟨(blk_cell BK123.out 0).trans rfl, (blk_cell BK123.out 1).trans rfl, (blk_cell BK123.out 2).trans rfl, (blk_cell BK123.out 3).trans rfl, (blk_cell BK123.out 4).trans rfl, (blk_cell BK123.out 5).trans rfl, (blk_cell BK123.out 6).trans rfl⟩ (fun hHeld => ?_)
                          clear hK K
                          refine norm_ (a' := ?_) ?_ ?_
                          rotate_left
                          · show Act.put _ (some 62) _ = _
                            simp only [Act.put, List.setIfInBounds_toArray, List.set_cons_zero, List.set_cons_succ, i64_w, i32_w]
                            rfl
                          refine pure_ (i := 14) (N := some 63) (v := ?_) (a' := ?_) #[true, true, true, true, true, true, true, true, true, true, true, true, true, true, true, false] rfl rfl (any_of HT_.out (by kernel_rfl)) (fun _ _ _ h => h) (Or.inl ⟨by rfl, ?_⟩) ?_ ?_
                          rotate_left
                          · intro w'
                            go_simp
                            with_reducible rfl
                          rotate_left
                          · simp only [Act.put, List.setIfInBounds_toArray, List.set_cons_zero, List.set_cons_succ, i64_w, i32_w]
                            rfl
                          refine pure_ (i := 15) (N := some 64) (v := ?_) (a' := ?_) #[true, true, true, true, true, true, true, true, true, true, true, true, true, true, true, true] rfl rfl (any_of HT_.out (by kernel_rfl)) (fun _ _ _ h => h) (Or.inl ⟨by rfl, ?_⟩) ?_ ?_
                          rotate_left
                          · intro w'
                            go_simp
                            with_reducible rfl
                          rotate_left
                          · simp only [Act.put, List.setIfInBounds_toArray, List.set_cons_zero, List.set_cons_succ, i64_w, i32_w]
                            rfl
                          refine done_ (done_of HT_.out (by kernel_rfl)) ?_
                          try go_wp2
                          go_roundg kj16
                          case measure => have := HJ1.out; have := HK2.out; have := HJ16.out; omega
                          case rel => exact ⟨(wrap64 (x3_2 + 1)), (by first | rfl | (simp; done) | (simp [*]; done)), H', ⟨by have := HJ1.out; have := HK2.out; have := HJ16.out; omega⟩, ⟨by repeat (first | (with_reducible first | exact HB.out | apply below_alloc | apply pw_below_drewN | apply below_drew1 | refine below_set ?_ GE123.out) | exact HB.out)⟩⟩
                        · rw [if_neg c38] at H
                          have c38b0 : (t130.toList == t131.toList) = false := beq_eq_false_iff_ne.mpr c38
                          have c38b1 : (t130.toList != t131.toList) = true := bne_iff_ne.mpr c38
                          exact absurd H (by simp)
                      · rw [if_neg c35] at H
                        have c35b0 : (t128.toList == t129.toList) = false := beq_eq_false_iff_ne.mpr c35
                        have c35b1 : (t128.toList != t129.toList) = true := bne_iff_ne.mpr c35
                        exact absurd H (by simp)
              · rw [if_neg c16] at H
                exact absurd H (by simp)
            · rw [if_neg c15] at H
              have c15b0 : decide (x3_2 < (l0.length : Int)) = false := decide_eq_false c15
              clear c15
              clear H
              go_wp2
              go_ret
              exact ⟨by first | rfl | (simp [errW_none, errW_some] <;> rfl) | (simp [*, errW_none, errW_some] <;> rfl), by repeat (first | (with_reducible first | exact HB.out | apply below_alloc | apply pw_below_drewN | apply below_drew1) | exact HB.out)⟩

end Go.Proofs.Ytdeannaaafffbaa.ECh
