-- Written by eprint.py (a program of this session's, over the kit's print), not by hand.
import Derived.Test.YtdeannaaafffbaaEChx0
import Derived.Test.YtdeannaaafffbaaEChx16
import Derived.Test.YtdeannaaafffbaaEChx20
import Derived.Test.YtdeannaaafffbaaEChx21
import Derived.Test.YtdeannaaafffbaaEChx22
import Derived.Test.YtdeannaaafffbaaX
namespace Go.Proofs.Ytdeannaaafffbaa.ECh
open Go.RowKit Go.Proofs.YtdeannaaafffbaaW.PrintWords Go.Proofs.YtdeannaaafffbaaW.PrintLast Go.Proofs.YtdeannaaafffbaaW.PrintMore
attribute [local go_sem] max2_int min2_int max_two min_two max_three min_three max_four min_four   -- for this text's walks alone
set_option linter.unusedVariables false
set_option linter.unusedSimpArgs false

open Go.Proofs.Ytdeannaaafffbaa.X
/-! ### abacuslaw20_CharsLong: function 5 -/
mutual
def abacuslaw20_CharsLong.j0 : Nat → ByteArray → ByteArray → Bool → Option (Bool)
  | 0, _, _, _ => none
  | k + 1, x1, x2, x25 => if x25 = true then (some false) else ((chars_Join.f k (([x1, x1] : List ByteArray)) (⟨#[120]⟩ : ByteArray)).bind fun bt179 => ((chars_Cat.f k (([x1, x1, (⟨#[121]⟩ : ByteArray)] : List ByteArray))).bind fun bt184 => ((chars_Cat.f k (([x1, x1] : List ByteArray))).bind fun bt189 => (if bt179.2 = 3 then (if bt179.1.toList = ([] : List UInt8) then (if bt184.2 = 3 then (if bt184.1.toList = ([] : List UInt8) then (if bt189.2 = 0 then (abacuslaw20_CharsLong.j1 k x1 x2 (bt189.1.toList != x2.toList)) else (abacuslaw20_CharsLong.j1 k x1 x2 true)) else (abacuslaw20_CharsLong.j1 k x1 x2 true)) else (abacuslaw20_CharsLong.j1 k x1 x2 true)) else (abacuslaw20_CharsLong.j1 k x1 x2 true)) else (abacuslaw20_CharsLong.j1 k x1 x2 true)))))
def abacuslaw20_CharsLong.j1 : Nat → ByteArray → ByteArray → Bool → Option (Bool)
  | 0, _, _, _ => none
  | k + 1, x1, x2, x69 => if x69 = true then (some false) else (if x1.size + 1 ≤ 9223372036854775807 then ((chars_Replace.f k (x1 ++ (⟨#[98]⟩ : ByteArray)) (⟨#[98]⟩ : ByteArray) x1 (-1)).bind fun bt191 => (if bt191.2.2 = 0 then (if bt191.2.1 = 1 then (abacuslaw20_CharsLong.j2 k x1 x2 (bt191.1.toList != x2.toList)) else (abacuslaw20_CharsLong.j2 k x1 x2 true)) else (abacuslaw20_CharsLong.j2 k x1 x2 true))) else (none))
def abacuslaw20_CharsLong.j2 : Nat → ByteArray → ByteArray → Bool → Option (Bool)
  | 0, _, _, _ => none
  | k + 1, x1, x2, x88 => if x88 = true then (some false) else (if x1.size + 1 ≤ 9223372036854775807 then ((chars_Replace.f k (x1 ++ (⟨#[98]⟩ : ByteArray)) (⟨#[98]⟩ : ByteArray) (x1 ++ (⟨#[99]⟩ : ByteArray)) (-1)).bind fun bt194 => (if bt194.2.2 = 3 then (if bt194.2.1 = 0 then (abacuslaw20_CharsLong.j3 k x2 (bt194.1.toList != ([] : List UInt8))) else (abacuslaw20_CharsLong.j3 k x2 true)) else (abacuslaw20_CharsLong.j3 k x2 true))) else (none))
def abacuslaw20_CharsLong.j3 : Nat → ByteArray → Bool → Option (Bool)
  | 0, _, _ => none
  | k + 1, x2, x107 => if x107 = true then (some false) else (if x2.size + 1 ≤ 9223372036854775807 then ((chars_Replace.f k (x2 ++ (⟨#[122]⟩ : ByteArray)) (⟨#[113]⟩ : ByteArray) (⟨#[]⟩ : ByteArray) (-1)).bind fun bt197 => (if bt197.2.2 = 3 then (if bt197.2.1 = 0 then (if bt197.1.toList = ([] : List UInt8) then ((chars_Replace.f k (x2 ++ (⟨#[122]⟩ : ByteArray)) (⟨#[122]⟩ : ByteArray) (⟨#[]⟩ : ByteArray) 1).bind fun bt200 => (if bt200.2.2 = 0 then (if bt200.2.1 = 1 then (some (bt200.1.toList == x2.toList)) else (some false)) else (some false))) else (some false)) else (some false)) else (some false))) else (none))
end
def abacuslaw20_CharsLong.f (k : Nat)  : Option (Bool) := (abacuslaw20_row.f k 8388608).bind fun t170 => ((chars_Join.f k (([t170, t170] : List ByteArray)) (⟨#[]⟩ : ByteArray)).bind fun bt174 => (if bt174.2 = 0 then (abacuslaw20_CharsLong.j0 k t170 bt174.1 ((bt174.1.size : Int) != 16777216)) else (abacuslaw20_CharsLong.j0 k t170 bt174.1 true)))
theorem abacuslaw20_CharsLong.mono_l : ∀ k, (∀ y0 y1 y2, LeO (abacuslaw20_CharsLong.j0 k y0 y1 y2) (abacuslaw20_CharsLong.j0 (k + 1) y0 y1 y2)) ∧ (∀ y0 y1 y2, LeO (abacuslaw20_CharsLong.j1 k y0 y1 y2) (abacuslaw20_CharsLong.j1 (k + 1) y0 y1 y2)) ∧ (∀ y0 y1 y2, LeO (abacuslaw20_CharsLong.j2 k y0 y1 y2) (abacuslaw20_CharsLong.j2 (k + 1) y0 y1 y2)) ∧ (∀ y0 y1, LeO (abacuslaw20_CharsLong.j3 k y0 y1) (abacuslaw20_CharsLong.j3 (k + 1) y0 y1))
  | 0 => ⟨fun _ _ _ r h => by simp [abacuslaw20_CharsLong.j0] at h, fun _ _ _ r h => by simp [abacuslaw20_CharsLong.j1] at h, fun _ _ _ r h => by simp [abacuslaw20_CharsLong.j2] at h, fun _ _ r h => by simp [abacuslaw20_CharsLong.j3] at h⟩
  | k + 1 => by
    obtain ⟨ih0, ih1, ih2, ih3⟩ := abacuslaw20_CharsLong.mono_l k
    refine ⟨?_, ?_, ?_, ?_⟩
    · intro y0 y1 y2
      unfold abacuslaw20_CharsLong.j0
      repeat' first
      | (with_reducible exact ih0 _ _ _)
      | (with_reducible exact ih1 _ _ _)
      | (with_reducible exact ih2 _ _ _)
      | (with_reducible exact ih3 _ _)
      | (with_reducible exact abacuslaw20_row.mono _ _)
      | (with_reducible exact chars_Cat.mono _ _)
      | (with_reducible exact chars_Join.mono _ _ _)
      | (with_reducible exact chars_Replace.mono _ _ _ _ _)
      | (with_reducible exact LeO.refl _)
      | (with_reducible exact LeO.none _)
      | (with_reducible refine LeO.ite ?_ ?_)
      | (with_reducible refine LeO.bind ?_ (fun _ => ?_))
      | exact ih0 _ _ _
      | exact ih1 _ _ _
      | exact ih2 _ _ _
      | exact ih3 _ _
      | exact abacuslaw20_row.mono _ _
      | exact chars_Cat.mono _ _
      | exact chars_Join.mono _ _ _
      | exact chars_Replace.mono _ _ _ _ _
      | exact LeO.none _
      | refine LeO.ite ?_ ?_
      | refine LeO.bind ?_ (fun _ => ?_)
    · intro y0 y1 y2
      unfold abacuslaw20_CharsLong.j1
      repeat' first
      | (with_reducible exact ih0 _ _ _)
      | (with_reducible exact ih1 _ _ _)
      | (with_reducible exact ih2 _ _ _)
      | (with_reducible exact ih3 _ _)
      | (with_reducible exact abacuslaw20_row.mono _ _)
      | (with_reducible exact chars_Cat.mono _ _)
      | (with_reducible exact chars_Join.mono _ _ _)
      | (with_reducible exact chars_Replace.mono _ _ _ _ _)
      | (with_reducible exact LeO.refl _)
      | (with_reducible exact LeO.none _)
      | (with_reducible refine LeO.ite ?_ ?_)
      | (with_reducible refine LeO.bind ?_ (fun _ => ?_))
      | exact ih0 _ _ _
      | exact ih1 _ _ _
      | exact ih2 _ _ _
      | exact ih3 _ _
      | exact abacuslaw20_row.mono _ _
      | exact chars_Cat.mono _ _
      | exact chars_Join.mono _ _ _
      | exact chars_Replace.mono _ _ _ _ _
      | exact LeO.none _
      | refine LeO.ite ?_ ?_
      | refine LeO.bind ?_ (fun _ => ?_)
    · intro y0 y1 y2
      unfold abacuslaw20_CharsLong.j2
      repeat' first
      | (with_reducible exact ih0 _ _ _)
      | (with_reducible exact ih1 _ _ _)
      | (with_reducible exact ih2 _ _ _)
      | (with_reducible exact ih3 _ _)
      | (with_reducible exact abacuslaw20_row.mono _ _)
      | (with_reducible exact chars_Cat.mono _ _)
      | (with_reducible exact chars_Join.mono _ _ _)
      | (with_reducible exact chars_Replace.mono _ _ _ _ _)
      | (with_reducible exact LeO.refl _)
      | (with_reducible exact LeO.none _)
      | (with_reducible refine LeO.ite ?_ ?_)
      | (with_reducible refine LeO.bind ?_ (fun _ => ?_))
      | exact ih0 _ _ _
      | exact ih1 _ _ _
      | exact ih2 _ _ _
      | exact ih3 _ _
      | exact abacuslaw20_row.mono _ _
      | exact chars_Cat.mono _ _
      | exact chars_Join.mono _ _ _
      | exact chars_Replace.mono _ _ _ _ _
      | exact LeO.none _
      | refine LeO.ite ?_ ?_
      | refine LeO.bind ?_ (fun _ => ?_)
    · intro y0 y1
      unfold abacuslaw20_CharsLong.j3
      repeat' first
      | (with_reducible exact ih0 _ _ _)
      | (with_reducible exact ih1 _ _ _)
      | (with_reducible exact ih2 _ _ _)
      | (with_reducible exact ih3 _ _)
      | (with_reducible exact abacuslaw20_row.mono _ _)
      | (with_reducible exact chars_Cat.mono _ _)
      | (with_reducible exact chars_Join.mono _ _ _)
      | (with_reducible exact chars_Replace.mono _ _ _ _ _)
      | (with_reducible exact LeO.refl _)
      | (with_reducible exact LeO.none _)
      | (with_reducible refine LeO.ite ?_ ?_)
      | (with_reducible refine LeO.bind ?_ (fun _ => ?_))
      | exact ih0 _ _ _
      | exact ih1 _ _ _
      | exact ih2 _ _ _
      | exact ih3 _ _
      | exact abacuslaw20_row.mono _ _
      | exact chars_Cat.mono _ _
      | exact chars_Join.mono _ _ _
      | exact chars_Replace.mono _ _ _ _ _
      | exact LeO.none _
      | refine LeO.ite ?_ ?_
      | refine LeO.bind ?_ (fun _ => ?_)
theorem abacuslaw20_CharsLong.mono : ∀ k, LeO (abacuslaw20_CharsLong.f k ) (abacuslaw20_CharsLong.f (k + 1) ) := by
  intro  k
  obtain ⟨ih0, ih1, ih2, ih3⟩ := abacuslaw20_CharsLong.mono_l k
  unfold abacuslaw20_CharsLong.f
  repeat' first
      | (with_reducible exact ih0 _ _ _)
      | (with_reducible exact ih1 _ _ _)
      | (with_reducible exact ih2 _ _ _)
      | (with_reducible exact ih3 _ _)
      | (with_reducible exact abacuslaw20_row.mono _ _)
      | (with_reducible exact chars_Cat.mono _ _)
      | (with_reducible exact chars_Join.mono _ _ _)
      | (with_reducible exact chars_Replace.mono _ _ _ _ _)
      | (with_reducible exact LeO.refl _)
      | (with_reducible exact LeO.none _)
      | (with_reducible refine LeO.ite ?_ ?_)
      | (with_reducible refine LeO.bind ?_ (fun _ => ?_))
      | exact ih0 _ _ _
      | exact ih1 _ _ _
      | exact ih2 _ _ _
      | exact ih3 _ _
      | exact abacuslaw20_row.mono _ _
      | exact chars_Cat.mono _ _
      | exact chars_Join.mono _ _ _
      | exact chars_Replace.mono _ _ _ _ _
      | exact LeO.none _
      | refine LeO.ite ?_ ?_
      | refine LeO.bind ?_ (fun _ => ?_)
set_option maxHeartbeats 8000000 in
set_option maxRecDepth 100000 in
theorem abacuslaw20_CharsLong.calls (k : Nat)  (w : World) (hG : GW w) (h : abacuslaw20_CharsLong.f k  = some true) :
    Calls Try.prog 5 #[] w fun e w' => e = .returned (.bool true) ∧ Below w.heap.size w w' := by
  have HB := Aside0.mk (Below.refl w.heap.size w)
  have HG := Aside0.mk hG
  clear hG
  have H : ((abacuslaw20_row.f k 8388608).bind fun t170 => ((chars_Join.f k (([t170, t170] : List ByteArray)) (⟨#[]⟩ : ByteArray)).bind fun bt174 => (if bt174.2 = 0 then (abacuslaw20_CharsLong.j0 k t170 bt174.1 ((bt174.1.size : Int) != 16777216)) else (abacuslaw20_CharsLong.j0 k t170 bt174.1 true)))) = some true := h
  clear h
  replace H := Option.bind_eq_some_iff.mp H
  obtain ⟨t170, A10, H⟩ := H
  replace H : ((chars_Join.f k (([t170, t170] : List ByteArray)) (⟨#[]⟩ : ByteArray)).bind fun bt174 => (if bt174.2 = 0 then (abacuslaw20_CharsLong.j0 k t170 bt174.1 ((bt174.1.size : Int) != 16777216)) else (abacuslaw20_CharsLong.j0 k t170 bt174.1 true))) = some true := H
  have A1 := Aside0.mk A10
  clear A10
  obtain ⟨y171, hy171⟩ : ∃ y_ : List ByteArray, y_ = (([t170, t170] : List ByteArray)) := ⟨_, rfl⟩
  replace H : ((chars_Join.f k y171 (⟨#[]⟩ : ByteArray)).bind fun bt174 => (if bt174.2 = 0 then (abacuslaw20_CharsLong.j0 k t170 bt174.1 ((bt174.1.size : Int) != 16777216)) else (abacuslaw20_CharsLong.j0 k t170 bt174.1 true))) = some true := by first | (rw [hy171]; with_reducible exact H) | (have H2_ := (Option.bind_some _ _).symm.trans H; rw [hy171]; with_reducible exact H2_) | (have H2_ := (Option.bind_some _ _).symm.trans H; with_reducible exact H2_) | with_reducible exact H | (rw [hy171]; exact H) | exact H
  have Ny171 := Aside0.mk hy171
  clear hy171
  replace H := Option.bind_eq_some_iff.mp H
  obtain ⟨⟨t174, t175⟩, A20, H⟩ := H
  replace H : (if t175 = 0 then (abacuslaw20_CharsLong.j0 k t170 t174 ((t174.size : Int) != 16777216)) else (abacuslaw20_CharsLong.j0 k t170 t174 true)) = some true := H
  have A2 := Aside0.mk A20
  clear A20
  have HC3 := Aside0.mk H
  clear H
  go_enter Try.func5, Try.ntmps5
  go_upto_region 3 with (first | ((with_reducible refine gate_callee (f := 13) rfl ?_); refine goesL_ (some 11) rfl rfl Try.func13 (by kernel_rfl) rfl #[.int .i64 8388608] rfl (by (try simp only [List.map_toArray, List.map_cons, List.map_nil]); first | done | rfl | (simp only [List.length_drop, List.length_take]; rfl)) ?_; (with_reducible refine (abacuslaw20_row.calls k 8388608 t170 _ A1.out).mono ?_); rintro e w4 ⟨rfl, hb⟩; refine ⟨_, rfl, ?_⟩; have n0_ := Aside0.mk (below_step (by repeat (first | (with_reducible first | exact HB.out | apply below_alloc | apply pw_below_drewN | apply below_drew1) | exact HB.out)) hb); clear HB; have HB := n0_; clear n0_; (try clear hb); (try clear hb2); (try clear hk); (try clear hi)) | ((with_reducible refine gate_dst (N := 15) rfl ?_); (try (refine gate_guard (by rfl) ?_; dsimp only)); refine Kd.R_lit Kd.string _ 9 ?hg (N := 15) ?hd (xs := ([t170, t170] : List ByteArray)) (inner := [.string t170, .string t170]) (ok := fun _ => True) (okp := fun _ => True) ?hr ?hp (fun _ hk => hk) trivial (Below.refl _ _) (Nat.le_refl _) (by simp) ?_; (case hd => rfl); (case hg => rfl); (case hr => first | (go_simp; done) | (go_simp; rfl)); (case hp => exact (Reps.one (show Kd.M Kd.string _ _ _ t170 [.string t170] from rfl) (Reps.one (show Kd.M Kd.string _ _ _ t170 [.string t170] from rfl) (Reps.none _ _)))); intro v172 w5 ho6 hb hg_ hnew_; clear hg_ hnew_; (first | rw [← Ny171.out] at ho6 | (simp only [Int.reduceToNat] at ho6; rw [← Ny171.out] at ho6)); have n0_ := Aside0.mk (Kd.R_lower ho6 (below_size (by repeat (first | (with_reducible first | exact HB.out | apply below_alloc | apply pw_below_drewN | apply below_drew1) | exact HB.out)))); have n1_ := Aside0.mk (below_step (by repeat (first | (with_reducible first | exact HB.out | apply below_alloc | apply pw_below_drewN | apply below_drew1) | exact HB.out)) hb); clear HB; have HO173 := n0_; have HB := n1_; clear n0_ n1_; clear hb ho6; obtain ⟨Ao7, co7, eo7⟩ := Kd.R_slice HO173.out; subst eo7) | ((with_reducible refine gate_callee (f := 14) rfl ?_); refine goesL_ (some 16) rfl rfl Try.func14 (by kernel_rfl) rfl #[.slice Ao7 y171.length co7, .string (⟨#[]⟩ : ByteArray)] rfl (by (try simp only [List.map_toArray, List.map_cons, List.map_nil]); first | done | rfl | (simp only [List.length_drop, List.length_take]; rfl)) ?_; (with_reducible refine (chars_Join.calls k _ _ y171 (⟨#[]⟩ : ByteArray) t174 t175 _ ?side1 ?side2 ?side3 A2.out).mono ?_); (case side1 => repeat (first | exact (Kd.R_reads' HO173.out).2.2 | (with_reducible refine Kd.C_alloc ?_ _) | (with_reducible refine Kd.C_drewN ?_ _) | (with_reducible refine Kd.C_drew ?_))); (case side2 => exact (Kd.R_reads' HO173.out).2.1); (case side3 => exact GW.below HG.out (by repeat (first | (with_reducible first | exact HB.out | apply below_alloc | apply pw_below_drewN | apply below_drew1) | exact HB.out))); rintro e w8 ⟨rfl, hb⟩; refine ⟨_, rfl, ?_⟩; have n0_ := Aside0.mk (Kd.R_below (by (with_reducible repeat (first | apply Kd.R_alloc | apply Kd.R_drewN | apply Kd.R_drew)); exact HO173.out) hb); have n1_ := Aside0.mk (below_step (by repeat (first | (with_reducible first | exact HB.out | apply below_alloc | apply pw_below_drewN | apply below_drew1) | exact HB.out)) hb); clear HO173; clear HB; have HO173 := n0_; have HB := n1_; clear n0_ n1_; (try clear hb); (try clear hb2); (try clear hk); (try clear hi)))
  (try simp only [Act.put, List.setIfInBounds_toArray, List.set_cons_zero, List.set_cons_succ])
  go_cut [25] (fun v25 wc => ∃ (kq : Nat) (x25_2 : Bool), v25 = .bool x25_2 ∧ Aside0 (abacuslaw20_CharsLong.j0 kq t170 t174 x25_2 = some true) ∧ Aside0 (kq ≤ k) ∧ Aside0 (Below w.heap.size w wc))
  case first =>
    have H := HC3.out
    clear HC3
    by_cases c9 : t175 = 0
    · rw [if_pos c9] at H
      have c9b0 : (t175 == 0) = true := beq_iff_eq.mpr c9
      have c9b1 : (t175 != 0) = false := bne_eq_false_iff_eq.mpr c9
      clear c9
      (first | rw [c9b0] | (simp only [i64_w, i32_w]; rw [c9b0]) | skip)
      have H' := Aside0.mk H
      clear H
      go_wp2
      go_meet
      case rel => exact ⟨_, (((t174.size : Int) != 16777216)), (by first | rfl | (simp; done) | (simp [*]; done)), H', ⟨by first | omega | exact Nat.le_refl _⟩, ⟨by repeat (first | (with_reducible first | exact HB.out | apply below_alloc | apply pw_below_drewN | apply below_drew1) | exact HB.out)⟩⟩
    · rw [if_neg c9] at H
      have c9b0 : (t175 == 0) = false := beq_eq_false_iff_ne.mpr c9
      have c9b1 : (t175 != 0) = true := bne_iff_ne.mpr c9
      (first | rw [c9b0] | (simp only [i64_w, i32_w]; rw [c9b0]) | skip)
      have H' := Aside0.mk H
      clear H
      go_wp2
      go_meet
      case rel => exact ⟨_, (true), (by first | rfl | (simp; done) | (simp [*]; done)), H', ⟨by first | omega | exact Nat.le_refl _⟩, ⟨by repeat (first | (with_reducible first | exact HB.out | apply below_alloc | apply pw_below_drewN | apply below_drew1) | exact HB.out)⟩⟩
  case rest =>
    clear HC3
    try clear c1
    try clear p2
    try clear c5
    try clear c9
    try clear c9b0
    try clear c9b1
    obtain ⟨kq, x25_2, rfl, HA, HJ2, HB⟩ := hcut
    cases kq with
    | zero => exact absurd HA.out (by simp [abacuslaw20_CharsLong.j0])
    | succ kj2 =>
      have H := HA.out
      clear HA
      simp only [abacuslaw20_CharsLong.j0] at H
      by_cases c10 : x25_2 = true
      · subst c10
        have H1 : (some false) = some true := by rw [if_pos rfl] at H; exact H
        clear H
        have H := H1
        clear H1
        exact absurd H (by simp)
      · replace c10 := Bool.eq_false_iff.mpr c10
        subst c10
        have H1 : ((chars_Join.f kj2 (([t170, t170] : List ByteArray)) (⟨#[120]⟩ : ByteArray)).bind fun bt179 => ((chars_Cat.f kj2 (([t170, t170, (⟨#[121]⟩ : ByteArray)] : List ByteArray))).bind fun bt184 => ((chars_Cat.f kj2 (([t170, t170] : List ByteArray))).bind fun bt189 => (if bt179.2 = 3 then (if bt179.1.toList = ([] : List UInt8) then (if bt184.2 = 3 then (if bt184.1.toList = ([] : List UInt8) then (if bt189.2 = 0 then (abacuslaw20_CharsLong.j1 kj2 t170 t174 (bt189.1.toList != t174.toList)) else (abacuslaw20_CharsLong.j1 kj2 t170 t174 true)) else (abacuslaw20_CharsLong.j1 kj2 t170 t174 true)) else (abacuslaw20_CharsLong.j1 kj2 t170 t174 true)) else (abacuslaw20_CharsLong.j1 kj2 t170 t174 true)) else (abacuslaw20_CharsLong.j1 kj2 t170 t174 true))))) = some true := by rw [if_neg (show ¬ (false = true) by decide)] at H; exact H
        clear H
        have H := H1
        clear H1
        obtain ⟨y176, hy176⟩ : ∃ y_ : List ByteArray, y_ = (([t170, t170] : List ByteArray)) := ⟨_, rfl⟩
        replace H : ((chars_Join.f kj2 y176 (⟨#[120]⟩ : ByteArray)).bind fun bt179 => ((chars_Cat.f kj2 (([t170, t170, (⟨#[121]⟩ : ByteArray)] : List ByteArray))).bind fun bt184 => ((chars_Cat.f kj2 (([t170, t170] : List ByteArray))).bind fun bt189 => (if bt179.2 = 3 then (if bt179.1.toList = ([] : List UInt8) then (if bt184.2 = 3 then (if bt184.1.toList = ([] : List UInt8) then (if bt189.2 = 0 then (abacuslaw20_CharsLong.j1 kj2 t170 t174 (bt189.1.toList != t174.toList)) else (abacuslaw20_CharsLong.j1 kj2 t170 t174 true)) else (abacuslaw20_CharsLong.j1 kj2 t170 t174 true)) else (abacuslaw20_CharsLong.j1 kj2 t170 t174 true)) else (abacuslaw20_CharsLong.j1 kj2 t170 t174 true)) else (abacuslaw20_CharsLong.j1 kj2 t170 t174 true))))) = some true := by first | (rw [hy176]; with_reducible exact H) | (have H2_ := (Option.bind_some _ _).symm.trans H; rw [hy176]; with_reducible exact H2_) | (have H2_ := (Option.bind_some _ _).symm.trans H; with_reducible exact H2_) | with_reducible exact H | (rw [hy176]; exact H) | exact H
        have Ny176 := Aside0.mk hy176
        clear hy176
        replace H := Option.bind_eq_some_iff.mp H
        obtain ⟨⟨t179, t180⟩, A110, H⟩ := H
        replace H : ((chars_Cat.f kj2 (([t170, t170, (⟨#[121]⟩ : ByteArray)] : List ByteArray))).bind fun bt184 => ((chars_Cat.f kj2 (([t170, t170] : List ByteArray))).bind fun bt189 => (if t180 = 3 then (if t179.toList = ([] : List UInt8) then (if bt184.2 = 3 then (if bt184.1.toList = ([] : List UInt8) then (if bt189.2 = 0 then (abacuslaw20_CharsLong.j1 kj2 t170 t174 (bt189.1.toList != t174.toList)) else (abacuslaw20_CharsLong.j1 kj2 t170 t174 true)) else (abacuslaw20_CharsLong.j1 kj2 t170 t174 true)) else (abacuslaw20_CharsLong.j1 kj2 t170 t174 true)) else (abacuslaw20_CharsLong.j1 kj2 t170 t174 true)) else (abacuslaw20_CharsLong.j1 kj2 t170 t174 true)))) = some true := H
        have A11 := Aside0.mk A110
        clear A110
        obtain ⟨y181, hy181⟩ : ∃ y_ : List ByteArray, y_ = (([t170, t170, (⟨#[121]⟩ : ByteArray)] : List ByteArray)) := ⟨_, rfl⟩
        replace H : ((chars_Cat.f kj2 y181).bind fun bt184 => ((chars_Cat.f kj2 (([t170, t170] : List ByteArray))).bind fun bt189 => (if t180 = 3 then (if t179.toList = ([] : List UInt8) then (if bt184.2 = 3 then (if bt184.1.toList = ([] : List UInt8) then (if bt189.2 = 0 then (abacuslaw20_CharsLong.j1 kj2 t170 t174 (bt189.1.toList != t174.toList)) else (abacuslaw20_CharsLong.j1 kj2 t170 t174 true)) else (abacuslaw20_CharsLong.j1 kj2 t170 t174 true)) else (abacuslaw20_CharsLong.j1 kj2 t170 t174 true)) else (abacuslaw20_CharsLong.j1 kj2 t170 t174 true)) else (abacuslaw20_CharsLong.j1 kj2 t170 t174 true)))) = some true := by first | (rw [hy181]; with_reducible exact H) | (have H2_ := (Option.bind_some _ _).symm.trans H; rw [hy181]; with_reducible exact H2_) | (have H2_ := (Option.bind_some _ _).symm.trans H; with_reducible exact H2_) | with_reducible exact H | (rw [hy181]; exact H) | exact H
        have Ny181 := Aside0.mk hy181
        clear hy181
        replace H := Option.bind_eq_some_iff.mp H
        obtain ⟨⟨t184, t185⟩, A120, H⟩ := H
        replace H : ((chars_Cat.f kj2 (([t170, t170] : List ByteArray))).bind fun bt189 => (if t180 = 3 then (if t179.toList = ([] : List UInt8) then (if t185 = 3 then (if t184.toList = ([] : List UInt8) then (if bt189.2 = 0 then (abacuslaw20_CharsLong.j1 kj2 t170 t174 (bt189.1.toList != t174.toList)) else (abacuslaw20_CharsLong.j1 kj2 t170 t174 true)) else (abacuslaw20_CharsLong.j1 kj2 t170 t174 true)) else (abacuslaw20_CharsLong.j1 kj2 t170 t174 true)) else (abacuslaw20_CharsLong.j1 kj2 t170 t174 true)) else (abacuslaw20_CharsLong.j1 kj2 t170 t174 true))) = some true := H
        have A12 := Aside0.mk A120
        clear A120
        obtain ⟨y186, hy186⟩ : ∃ y_ : List ByteArray, y_ = (([t170, t170] : List ByteArray)) := ⟨_, rfl⟩
        replace H : ((chars_Cat.f kj2 y186).bind fun bt189 => (if t180 = 3 then (if t179.toList = ([] : List UInt8) then (if t185 = 3 then (if t184.toList = ([] : List UInt8) then (if bt189.2 = 0 then (abacuslaw20_CharsLong.j1 kj2 t170 t174 (bt189.1.toList != t174.toList)) else (abacuslaw20_CharsLong.j1 kj2 t170 t174 true)) else (abacuslaw20_CharsLong.j1 kj2 t170 t174 true)) else (abacuslaw20_CharsLong.j1 kj2 t170 t174 true)) else (abacuslaw20_CharsLong.j1 kj2 t170 t174 true)) else (abacuslaw20_CharsLong.j1 kj2 t170 t174 true))) = some true := by first | (rw [hy186]; with_reducible exact H) | (have H2_ := (Option.bind_some _ _).symm.trans H; rw [hy186]; with_reducible exact H2_) | (have H2_ := (Option.bind_some _ _).symm.trans H; with_reducible exact H2_) | with_reducible exact H | (rw [hy186]; exact H) | exact H
        have Ny186 := Aside0.mk hy186
        clear hy186
        replace H := Option.bind_eq_some_iff.mp H
        obtain ⟨⟨t189, t190⟩, A130, H⟩ := H
        replace H : (if t180 = 3 then (if t179.toList = ([] : List UInt8) then (if t185 = 3 then (if t184.toList = ([] : List UInt8) then (if t190 = 0 then (abacuslaw20_CharsLong.j1 kj2 t170 t174 (t189.toList != t174.toList)) else (abacuslaw20_CharsLong.j1 kj2 t170 t174 true)) else (abacuslaw20_CharsLong.j1 kj2 t170 t174 true)) else (abacuslaw20_CharsLong.j1 kj2 t170 t174 true)) else (abacuslaw20_CharsLong.j1 kj2 t170 t174 true)) else (abacuslaw20_CharsLong.j1 kj2 t170 t174 true)) = some true := H
        have A13 := Aside0.mk A130
        clear A130
        have HC14 := Aside0.mk H
        clear H
        go_upto_region 8 with (first | ((with_reducible refine gate_dst (N := 29) rfl ?_); (try (refine gate_guard (by rfl) ?_; dsimp only)); refine Kd.R_lit Kd.string _ 9 ?hg (N := 29) ?hd (xs := ([t170, t170] : List ByteArray)) (inner := [.string t170, .string t170]) (ok := fun _ => True) (okp := fun _ => True) ?hr ?hp (fun _ hk => hk) trivial (Below.refl _ _) (Nat.le_refl _) (by simp) ?_; (case hd => rfl); (case hg => rfl); (case hr => first | (go_simp; done) | (go_simp; rfl)); (case hp => exact (Reps.one (show Kd.M Kd.string _ _ _ t170 [.string t170] from rfl) (Reps.one (show Kd.M Kd.string _ _ _ t170 [.string t170] from rfl) (Reps.none _ _)))); intro v177 w15 ho16 hb hg_ hnew_; clear hg_ hnew_; (first | rw [← Ny176.out] at ho16 | (simp only [Int.reduceToNat] at ho16; rw [← Ny176.out] at ho16)); have n0_ := Aside0.mk (Kd.R_lower ho16 (below_size (by repeat (first | (with_reducible first | exact HB.out | apply below_alloc | apply pw_below_drewN | apply below_drew1) | exact HB.out)))); have n1_ := Aside0.mk (below_step (by repeat (first | (with_reducible first | exact HB.out | apply below_alloc | apply pw_below_drewN | apply below_drew1) | exact HB.out)) hb); clear HB; have HO178 := n0_; have HB := n1_; clear n0_ n1_; clear hb ho16; obtain ⟨Ao17, co17, eo17⟩ := Kd.R_slice HO178.out; subst eo17) | ((with_reducible refine gate_callee (f := 14) rfl ?_); refine goesL_ (some 30) rfl rfl Try.func14 (by kernel_rfl) rfl #[.slice Ao17 y176.length co17, .string (⟨#[120]⟩ : ByteArray)] rfl (by (try simp only [List.map_toArray, List.map_cons, List.map_nil]); first | done | rfl | (simp only [List.length_drop, List.length_take]; rfl)) ?_; (with_reducible refine (chars_Join.calls kj2 _ _ y176 (⟨#[120]⟩ : ByteArray) t179 t180 _ ?side1 ?side2 ?side3 A11.out).mono ?_); (case side1 => repeat (first | exact (Kd.R_reads' HO178.out).2.2 | (with_reducible refine Kd.C_alloc ?_ _) | (with_reducible refine Kd.C_drewN ?_ _) | (with_reducible refine Kd.C_drew ?_))); (case side2 => exact (Kd.R_reads' HO178.out).2.1); (case side3 => exact GW.below HG.out (by repeat (first | (with_reducible first | exact HB.out | apply below_alloc | apply pw_below_drewN | apply below_drew1) | exact HB.out))); rintro e w18 ⟨rfl, hb⟩; refine ⟨_, rfl, ?_⟩; have n0_ := Aside0.mk (Kd.R_below (by (with_reducible repeat (first | apply Kd.R_alloc | apply Kd.R_drewN | apply Kd.R_drew)); exact HO178.out) hb); have n1_ := Aside0.mk (below_step (by repeat (first | (with_reducible first | exact HB.out | apply below_alloc | apply pw_below_drewN | apply below_drew1) | exact HB.out)) hb); clear HO178; clear HB; have HO178 := n0_; have HB := n1_; clear n0_ n1_; (try clear hb); (try clear hb2); (try clear hk); (try clear hi)) | ((with_reducible refine gate_dst (N := 36) rfl ?_); (try (refine gate_guard (by rfl) ?_; dsimp only)); refine Kd.R_lit Kd.string _ 9 ?hg (N := 36) ?hd (xs := ([t170, t170, (⟨#[121]⟩ : ByteArray)] : List ByteArray)) (inner := [.string t170, .string t170, .string (⟨#[121]⟩ : ByteArray)]) (ok := fun _ => True) (okp := fun _ => True) ?hr ?hp (fun _ hk => hk) trivial (Below.refl _ _) (Nat.le_refl _) (by simp) ?_; (case hd => rfl); (case hg => rfl); (case hr => first | (go_simp; done) | (go_simp; rfl)); (case hp => exact (Reps.one (show Kd.M Kd.string _ _ _ t170 [.string t170] from rfl) (Reps.one (show Kd.M Kd.string _ _ _ t170 [.string t170] from rfl) (Reps.one (show Kd.M Kd.string _ _ _ (⟨#[121]⟩ : ByteArray) [.string (⟨#[121]⟩ : ByteArray)] from rfl) (Reps.none _ _))))); intro v182 w19 ho20 hb hg_ hnew_; clear hg_ hnew_; (first | rw [← Ny181.out] at ho20 | (simp only [Int.reduceToNat] at ho20; rw [← Ny181.out] at ho20)); have n0_ := Aside0.mk (Kd.R_elder' (by (with_reducible repeat (first | apply Kd.R_alloc | apply Kd.R_drewN | apply Kd.R_drew)); exact HO178.out) (Kd.R_base ho20) hb); have n1_ := Aside0.mk (Kd.R_lower (Kd.R_new' ho20 (Kd.R_lt (by (with_reducible repeat (first | apply Kd.R_alloc | apply Kd.R_drewN | apply Kd.R_drew)); exact HO178.out))) (below_size (by repeat (first | (with_reducible first | exact HB.out | apply below_alloc | apply pw_below_drewN | apply below_drew1) | exact HB.out)))); have n2_ := Aside0.mk (below_step (by repeat (first | (with_reducible first | exact HB.out | apply below_alloc | apply pw_below_drewN | apply below_drew1) | exact HB.out)) hb); clear HO178; clear HB; have HO178 := n0_; have HO183 := n1_; have HB := n2_; clear n0_ n1_ n2_; clear hb ho20; obtain ⟨Ao21, co21, eo21⟩ := Kd.R_slice HO183.out; subst eo21) | ((with_reducible refine gate_callee (f := 15) rfl ?_); refine goesL_ (some 37) rfl rfl Try.func15 (by kernel_rfl) rfl #[.slice Ao21 y181.length co21] rfl (by (try simp only [List.map_toArray, List.map_cons, List.map_nil]); first | done | rfl | (simp only [List.length_drop, List.length_take]; rfl)) ?_; (with_reducible refine (chars_Cat.calls kj2 _ _ y181 t184 t185 _ ?side1 ?side2 ?side3 A12.out).mono ?_); (case side1 => repeat (first | exact (Kd.R_reads' HO183.out).2.2 | (with_reducible refine Kd.C_alloc ?_ _) | (with_reducible refine Kd.C_drewN ?_ _) | (with_reducible refine Kd.C_drew ?_))); (case side2 => exact (Kd.R_reads' HO183.out).2.1); (case side3 => exact GW.below HG.out (by repeat (first | (with_reducible first | exact HB.out | apply below_alloc | apply pw_below_drewN | apply below_drew1) | exact HB.out))); rintro e w22 ⟨rfl, hb⟩; refine ⟨_, rfl, ?_⟩; have n0_ := Aside0.mk (Kd.R_below (by (with_reducible repeat (first | apply Kd.R_alloc | apply Kd.R_drewN | apply Kd.R_drew)); exact HO178.out) hb); have n1_ := Aside0.mk (Kd.R_below (by (with_reducible repeat (first | apply Kd.R_alloc | apply Kd.R_drewN | apply Kd.R_drew)); exact HO183.out) hb); have n2_ := Aside0.mk (below_step (by repeat (first | (with_reducible first | exact HB.out | apply below_alloc | apply pw_below_drewN | apply below_drew1) | exact HB.out)) hb); clear HO178; clear HO183; clear HB; have HO178 := n0_; have HO183 := n1_; have HB := n2_; clear n0_ n1_ n2_; (try clear hb); (try clear hb2); (try clear hk); (try clear hi)) | ((with_reducible refine gate_dst (N := 43) rfl ?_); (try (refine gate_guard (by rfl) ?_; dsimp only)); refine Kd.R_lit Kd.string _ 9 ?hg (N := 43) ?hd (xs := ([t170, t170] : List ByteArray)) (inner := [.string t170, .string t170]) (ok := fun _ => True) (okp := fun _ => True) ?hr ?hp (fun _ hk => hk) trivial (Below.refl _ _) (Nat.le_refl _) (by simp) ?_; (case hd => rfl); (case hg => rfl); (case hr => first | (go_simp; done) | (go_simp; rfl)); (case hp => exact (Reps.one (show Kd.M Kd.string _ _ _ t170 [.string t170] from rfl) (Reps.one (show Kd.M Kd.string _ _ _ t170 [.string t170] from rfl) (Reps.none _ _)))); intro v187 w23 ho24 hb hg_ hnew_; clear hg_ hnew_; (first | rw [← Ny186.out] at ho24 | (simp only [Int.reduceToNat] at ho24; rw [← Ny186.out] at ho24)); have n0_ := Aside0.mk (Kd.R_elder' (by (with_reducible repeat (first | apply Kd.R_alloc | apply Kd.R_drewN | apply Kd.R_drew)); exact HO178.out) (Kd.R_base ho24) hb); have n1_ := Aside0.mk (Kd.R_elder' (by (with_reducible repeat (first | apply Kd.R_alloc | apply Kd.R_drewN | apply Kd.R_drew)); exact HO183.out) (Kd.R_base ho24) hb); have n2_ := Aside0.mk (Kd.R_lower (Kd.R_new' (Kd.R_new' ho24 (Kd.R_lt (by (with_reducible repeat (first | apply Kd.R_alloc | apply Kd.R_drewN | apply Kd.R_drew)); exact HO178.out))) (Kd.R_lt (by (with_reducible repeat (first | apply Kd.R_alloc | apply Kd.R_drewN | apply Kd.R_drew)); exact HO183.out))) (below_size (by repeat (first | (with_reducible first | exact HB.out | apply below_alloc | apply pw_below_drewN | apply below_drew1) | exact HB.out)))); have n3_ := Aside0.mk (below_step (by repeat (first | (with_reducible first | exact HB.out | apply below_alloc | apply pw_below_drewN | apply below_drew1) | exact HB.out)) hb); clear HO178; clear HO183; clear HB; have HO178 := n0_; have HO183 := n1_; have HO188 := n2_; have HB := n3_; clear n0_ n1_ n2_ n3_; clear hb ho24; obtain ⟨Ao25, co25, eo25⟩ := Kd.R_slice HO188.out; subst eo25) | ((with_reducible refine gate_callee (f := 15) rfl ?_); refine goesL_ (some 44) rfl rfl Try.func15 (by kernel_rfl) rfl #[.slice Ao25 y186.length co25] rfl (by (try simp only [List.map_toArray, List.map_cons, List.map_nil]); first | done | rfl | (simp only [List.length_drop, List.length_take]; rfl)) ?_; (with_reducible refine (chars_Cat.calls kj2 _ _ y186 t189 t190 _ ?side1 ?side2 ?side3 A13.out).mono ?_); (case side1 => repeat (first | exact (Kd.R_reads' HO188.out).2.2 | (with_reducible refine Kd.C_alloc ?_ _) | (with_reducible refine Kd.C_drewN ?_ _) | (with_reducible refine Kd.C_drew ?_))); (case side2 => exact (Kd.R_reads' HO188.out).2.1); (case side3 => exact GW.below HG.out (by repeat (first | (with_reducible first | exact HB.out | apply below_alloc | apply pw_below_drewN | apply below_drew1) | exact HB.out))); rintro e w26 ⟨rfl, hb⟩; refine ⟨_, rfl, ?_⟩; have n0_ := Aside0.mk (Kd.R_below (by (with_reducible repeat (first | apply Kd.R_alloc | apply Kd.R_drewN | apply Kd.R_drew)); exact HO178.out) hb); have n1_ := Aside0.mk (Kd.R_below (by (with_reducible repeat (first | apply Kd.R_alloc | apply Kd.R_drewN | apply Kd.R_drew)); exact HO183.out) hb); have n2_ := Aside0.mk (Kd.R_below (by (with_reducible repeat (first | apply Kd.R_alloc | apply Kd.R_drewN | apply Kd.R_drew)); exact HO188.out) hb); have n3_ := Aside0.mk (below_step (by repeat (first | (with_reducible first | exact HB.out | apply below_alloc | apply pw_below_drewN | apply below_drew1) | exact HB.out)) hb); clear HO178; clear HO183; clear HO188; clear HB; have HO178 := n0_; have HO183 := n1_; have HO188 := n2_; have HB := n3_; clear n0_ n1_ n2_ n3_; (try clear hb); (try clear hb2); (try clear hk); (try clear hi)))
        (try simp only [Act.put, List.setIfInBounds_toArray, List.set_cons_zero, List.set_cons_succ])
        go_cut [69] (fun v69 wc => ∃ (kq : Nat) (x69_13 : Bool), v69 = .bool x69_13 ∧ Aside0 (abacuslaw20_CharsLong.j1 kq t170 t174 x69_13 = some true) ∧ Aside0 (kq ≤ kj2) ∧ Aside0 (Below w.heap.size w wc))
        case first =>
          have H := HC14.out
          clear HC14
          by_cases c27 : t180 = 3
          · rw [if_pos c27] at H
            have c27b0 : (t180 == 3) = true := beq_iff_eq.mpr c27
            have c27b1 : (t180 != 3) = false := bne_eq_false_iff_eq.mpr c27
            clear c27
            (first | rw [c27b0] | (simp only [i64_w, i32_w]; rw [c27b0]) | skip)
            by_cases c28 : t179.toList = ([] : List UInt8)
            · rw [if_pos c28] at H
              have c28b0 : (t179.toList == ([] : List UInt8)) = true := beq_iff_eq.mpr c28
              have c28b1 : (t179.toList != ([] : List UInt8)) = false := bne_eq_false_iff_eq.mpr c28
              clear c28
              by_cases c29 : t185 = 3
              · rw [if_pos c29] at H
                have c29b0 : (t185 == 3) = true := beq_iff_eq.mpr c29
                have c29b1 : (t185 != 3) = false := bne_eq_false_iff_eq.mpr c29
                clear c29
                by_cases c30 : t184.toList = ([] : List UInt8)
                · rw [if_pos c30] at H
                  have c30b0 : (t184.toList == ([] : List UInt8)) = true := beq_iff_eq.mpr c30
                  have c30b1 : (t184.toList != ([] : List UInt8)) = false := bne_eq_false_iff_eq.mpr c30
                  clear c30
                  by_cases c31 : t190 = 0
                  · rw [if_pos c31] at H
                    have c31b0 : (t190 == 0) = true := beq_iff_eq.mpr c31
                    have c31b1 : (t190 != 0) = false := bne_eq_false_iff_eq.mpr c31
                    clear c31
                    have H' := Aside0.mk H
                    clear H
                    go_wp2
                    go_meet
                    case rel => exact ⟨_, ((t189.toList != t174.toList)), (by first | rfl | (simp; done) | (simp [*]; done)), H', ⟨by have := HJ2.out; first | omega | exact Nat.le_refl _⟩, ⟨by repeat (first | (with_reducible first | exact HB.out | apply below_alloc | apply pw_below_drewN | apply below_drew1) | exact HB.out)⟩⟩
                  · rw [if_neg c31] at H
                    have c31b0 : (t190 == 0) = false := beq_eq_false_iff_ne.mpr c31
                    have c31b1 : (t190 != 0) = true := bne_iff_ne.mpr c31
                    have H' := Aside0.mk H
                    clear H
                    go_wp2
                    go_meet
                    case rel => exact ⟨_, (true), (by first | rfl | (simp; done) | (simp [*]; done)), H', ⟨by have := HJ2.out; first | omega | exact Nat.le_refl _⟩, ⟨by repeat (first | (with_reducible first | exact HB.out | apply below_alloc | apply pw_below_drewN | apply below_drew1) | exact HB.out)⟩⟩
                · rw [if_neg c30] at H
                  have c30b0 : (t184.toList == ([] : List UInt8)) = false := beq_eq_false_iff_ne.mpr c30
                  have c30b1 : (t184.toList != ([] : List UInt8)) = true := bne_iff_ne.mpr c30
                  have H' := Aside0.mk H
                  clear H
                  go_wp2
                  go_meet
                  case rel => exact ⟨_, (true), (by first | rfl | (simp; done) | (simp [*]; done)), H', ⟨by have := HJ2.out; first | omega | exact Nat.le_refl _⟩, ⟨by repeat (first | (with_reducible first | exact HB.out | apply below_alloc | apply pw_below_drewN | apply below_drew1) | exact HB.out)⟩⟩
              · rw [if_neg c29] at H
                have c29b0 : (t185 == 3) = false := beq_eq_false_iff_ne.mpr c29
                have c29b1 : (t185 != 3) = true := bne_iff_ne.mpr c29
                have H' := Aside0.mk H
                clear H
                go_wp2
                go_meet
                case rel => exact ⟨_, (true), (by first | rfl | (simp; done) | (simp [*]; done)), H', ⟨by have := HJ2.out; first | omega | exact Nat.le_refl _⟩, ⟨by repeat (first | (with_reducible first | exact HB.out | apply below_alloc | apply pw_below_drewN | apply below_drew1) | exact HB.out)⟩⟩
            · rw [if_neg c28] at H
              have c28b0 : (t179.toList == ([] : List UInt8)) = false := beq_eq_false_iff_ne.mpr c28
              have c28b1 : (t179.toList != ([] : List UInt8)) = true := bne_iff_ne.mpr c28
              have H' := Aside0.mk H
              clear H
              go_wp2
              go_meet
              case rel => exact ⟨_, (true), (by first | rfl | (simp; done) | (simp [*]; done)), H', ⟨by have := HJ2.out; first | omega | exact Nat.le_refl _⟩, ⟨by repeat (first | (with_reducible first | exact HB.out | apply below_alloc | apply pw_below_drewN | apply below_drew1) | exact HB.out)⟩⟩
          · rw [if_neg c27] at H
            have c27b0 : (t180 == 3) = false := beq_eq_false_iff_ne.mpr c27
            have c27b1 : (t180 != 3) = true := bne_iff_ne.mpr c27
            (first | rw [c27b0] | (simp only [i64_w, i32_w]; rw [c27b0]) | skip)
            have H' := Aside0.mk H
            clear H
            go_wp2
            go_meet
            case rel => exact ⟨_, (true), (by first | rfl | (simp; done) | (simp [*]; done)), H', ⟨by have := HJ2.out; first | omega | exact Nat.le_refl _⟩, ⟨by repeat (first | (with_reducible first | exact HB.out | apply below_alloc | apply pw_below_drewN | apply below_drew1) | exact HB.out)⟩⟩
        case rest =>
          clear HC14
          try clear c1
          try clear c2
          try clear p2
          try clear c3
          try clear c5
          try clear c9
          try clear c9b0
          try clear c9b1
          try clear c10
          try clear c13
          try clear c14
          try clear c15
          try clear c27
          try clear c27b0
          try clear c27b1
          try clear c28
          try clear c28b0
          try clear c28b1
          try clear c29
          try clear c29b0
          try clear c29b1
          try clear c30
          try clear c30b0
          try clear c30b1
          try clear c31
          try clear c31b0
          try clear c31b1
          try clear p2
          obtain ⟨kq, x69_13, rfl, HA, HJ13, HB⟩ := hcut
          cases kq with
          | zero => exact absurd HA.out (by simp [abacuslaw20_CharsLong.j1])
          | succ kj13 =>
            have H := HA.out
            clear HA
            simp only [abacuslaw20_CharsLong.j1] at H
            by_cases c32 : x69_13 = true
            · subst c32
              have H1 : (some false) = some true := by rw [if_pos rfl] at H; exact H
              clear H
              have H := H1
              clear H1
              exact absurd H (by simp)
            · replace c32 := Bool.eq_false_iff.mpr c32
              subst c32
              have H1 : (if t170.size + 1 ≤ 9223372036854775807 then ((chars_Replace.f kj13 (t170 ++ (⟨#[98]⟩ : ByteArray)) (⟨#[98]⟩ : ByteArray) t170 (-1)).bind fun bt191 => (if bt191.2.2 = 0 then (if bt191.2.1 = 1 then (abacuslaw20_CharsLong.j2 kj13 t170 t174 (bt191.1.toList != t174.toList)) else (abacuslaw20_CharsLong.j2 kj13 t170 t174 true)) else (abacuslaw20_CharsLong.j2 kj13 t170 t174 true))) else (none)) = some true := by rw [if_neg (show ¬ (false = true) by decide)] at H; exact H
              clear H
              have H := H1
              clear H1
              by_cases c33 : t170.size + 1 ≤ 9223372036854775807
              · rw [if_pos c33] at H
                have c33b0 := eq_true c33
                have c33b1 : decide (t170.size + 1 ≤ 9223372036854775807) = true := decide_eq_true c33
                try have c33b2 : (9223372036854775807 < t170.size + 1) = False := eq_false (Nat.not_lt.2 c33)
                replace H := Option.bind_eq_some_iff.mp H
                obtain ⟨⟨t191, t192, t193⟩, A340, H⟩ := H
                replace H : (if t193 = 0 then (if t192 = 1 then (abacuslaw20_CharsLong.j2 kj13 t170 t174 (t191.toList != t174.toList)) else (abacuslaw20_CharsLong.j2 kj13 t170 t174 true)) else (abacuslaw20_CharsLong.j2 kj13 t170 t174 true)) = some true := H
                have A34 := Aside0.mk A340
                clear A340
                have HC35 := Aside0.mk H
                clear H
                go_upto_region 11 with (first | ((with_reducible refine gate_callee (f := 16) rfl ?_); refine goesL_ (some 74) rfl rfl Try.func16 (by kernel_rfl) rfl #[.string (t170 ++ (⟨#[98]⟩ : ByteArray)), .string (⟨#[98]⟩ : ByteArray), .string t170, .int .i64 (-1)] rfl (by (try simp only [List.map_toArray, List.map_cons, List.map_nil]); first | done | rfl | (simp only [List.length_drop, List.length_take]; rfl)) ?_; (with_reducible refine (chars_Replace.calls kj13 (t170 ++ (⟨#[98]⟩ : ByteArray)) (⟨#[98]⟩ : ByteArray) t170 (-1) t191 t192 t193 _ ?side1 A34.out).mono ?_); (case side1 => exact GW.below HG.out (by repeat (first | (with_reducible first | exact HB.out | apply below_alloc | apply pw_below_drewN | apply below_drew1) | exact HB.out))); rintro e w36 ⟨rfl, hb⟩; refine ⟨_, rfl, ?_⟩; have n0_ := Aside0.mk (below_step (by repeat (first | (with_reducible first | exact HB.out | apply below_alloc | apply pw_below_drewN | apply below_drew1) | exact HB.out)) hb); clear HB; have HB := n0_; clear n0_; (try clear hb); (try clear hb2); (try clear hk); (try clear hi)))
                (try simp only [Act.put, List.setIfInBounds_toArray, List.set_cons_zero, List.set_cons_succ])
                go_cut [88] (fun v88 wc => ∃ (kq : Nat) (x88_34 : Bool), v88 = .bool x88_34 ∧ Aside0 (abacuslaw20_CharsLong.j2 kq t170 t174 x88_34 = some true) ∧ Aside0 (kq ≤ kj13) ∧ Aside0 (Below w.heap.size w wc))
                case first =>
                  have H := HC35.out
                  clear HC35
                  by_cases c37 : t193 = 0
                  · rw [if_pos c37] at H
                    have c37b0 : (t193 == 0) = true := beq_iff_eq.mpr c37
                    have c37b1 : (t193 != 0) = false := bne_eq_false_iff_eq.mpr c37
                    clear c37
                    (first | rw [c37b0] | (simp only [i64_w, i32_w]; rw [c37b0]) | skip)
                    by_cases c38 : t192 = 1
                    · rw [if_pos c38] at H
                      have c38b0 : (t192 == 1) = true := beq_iff_eq.mpr c38
                      have c38b1 : (t192 != 1) = false := bne_eq_false_iff_eq.mpr c38
                      clear c38
                      have H' := Aside0.mk H
                      clear H
                      go_wp2
                      go_meet
                      case rel => exact ⟨_, ((t191.toList != t174.toList)), (by first | rfl | (simp; done) | (simp [*]; done)), H', ⟨by have := HJ2.out; have := HJ13.out; first | omega | exact Nat.le_refl _⟩, ⟨by repeat (first | (with_reducible first | exact HB.out | apply below_alloc | apply pw_below_drewN | apply below_drew1) | exact HB.out)⟩⟩
                    · rw [if_neg c38] at H
                      have c38b0 : (t192 == 1) = false := beq_eq_false_iff_ne.mpr c38
                      have c38b1 : (t192 != 1) = true := bne_iff_ne.mpr c38
                      have H' := Aside0.mk H
                      clear H
                      go_wp2
                      go_meet
                      case rel => exact ⟨_, (true), (by first | rfl | (simp; done) | (simp [*]; done)), H', ⟨by have := HJ2.out; have := HJ13.out; first | omega | exact Nat.le_refl _⟩, ⟨by repeat (first | (with_reducible first | exact HB.out | apply below_alloc | apply pw_below_drewN | apply below_drew1) | exact HB.out)⟩⟩
                  · rw [if_neg c37] at H
                    have c37b0 : (t193 == 0) = false := beq_eq_false_iff_ne.mpr c37
                    have c37b1 : (t193 != 0) = true := bne_iff_ne.mpr c37
                    (first | rw [c37b0] | (simp only [i64_w, i32_w]; rw [c37b0]) | skip)
                    have H' := Aside0.mk H
                    clear H
                    go_wp2
                    go_meet
                    case rel => exact ⟨_, (true), (by first | rfl | (simp; done) | (simp [*]; done)), H', ⟨by have := HJ2.out; have := HJ13.out; first | omega | exact Nat.le_refl _⟩, ⟨by repeat (first | (with_reducible first | exact HB.out | apply below_alloc | apply pw_below_drewN | apply below_drew1) | exact HB.out)⟩⟩
                case rest =>
                  clear HC35
                  try clear c1
                  try clear c2
                  try clear p2
                  try clear c3
                  try clear c5
                  try clear c9
                  try clear c9b0
                  try clear c9b1
                  try clear c10
                  try clear c13
                  try clear c14
                  try clear c15
                  try clear c16
                  try clear c27
                  try clear c27b0
                  try clear c27b1
                  try clear c28
                  try clear c28b0
                  try clear c28b1
                  try clear c29
                  try clear c29b0
                  try clear c29b1
                  try clear c30
                  try clear c30b0
                  try clear c30b1
                  try clear c31
                  try clear c31b0
                  try clear c31b1
                  try clear c32
                  try clear c33
                  try clear c33b0
                  try clear c33b1
                  try clear c33b2
                  try clear c37
                  try clear c37b0
                  try clear c37b1
                  try clear c38
                  try clear c38b0
                  try clear c38b1
                  try clear p2
                  obtain ⟨kq, x88_34, rfl, HA, HJ34, HB⟩ := hcut
                  cases kq with
                  | zero => exact absurd HA.out (by simp [abacuslaw20_CharsLong.j2])
                  | succ kj34 =>
                    have H := HA.out
                    clear HA
                    simp only [abacuslaw20_CharsLong.j2] at H
                    by_cases c39 : x88_34 = true
                    · subst c39
                      have H1 : (some false) = some true := by rw [if_pos rfl] at H; exact H
                      clear H
                      have H := H1
                      clear H1
                      exact absurd H (by simp)
                    · replace c39 := Bool.eq_false_iff.mpr c39
                      subst c39
                      have H1 : (if t170.size + 1 ≤ 9223372036854775807 then ((chars_Replace.f kj34 (t170 ++ (⟨#[98]⟩ : ByteArray)) (⟨#[98]⟩ : ByteArray) (t170 ++ (⟨#[99]⟩ : ByteArray)) (-1)).bind fun bt194 => (if bt194.2.2 = 3 then (if bt194.2.1 = 0 then (abacuslaw20_CharsLong.j3 kj34 t174 (bt194.1.toList != ([] : List UInt8))) else (abacuslaw20_CharsLong.j3 kj34 t174 true)) else (abacuslaw20_CharsLong.j3 kj34 t174 true))) else (none)) = some true := by rw [if_neg (show ¬ (false = true) by decide)] at H; exact H
                      clear H
                      have H := H1
                      clear H1
                      by_cases c40 : t170.size + 1 ≤ 9223372036854775807
                      · rw [if_pos c40] at H
                        have c40b0 := eq_true c40
                        have c40b1 : decide (t170.size + 1 ≤ 9223372036854775807) = true := decide_eq_true c40
                        try have c40b2 : (9223372036854775807 < t170.size + 1) = False := eq_false (Nat.not_lt.2 c40)
                        replace H := Option.bind_eq_some_iff.mp H
                        obtain ⟨⟨t194, t195, t196⟩, A410, H⟩ := H
                        replace H : (if t196 = 3 then (if t195 = 0 then (abacuslaw20_CharsLong.j3 kj34 t174 (t194.toList != ([] : List UInt8))) else (abacuslaw20_CharsLong.j3 kj34 t174 true)) else (abacuslaw20_CharsLong.j3 kj34 t174 true)) = some true := H
                        have A41 := Aside0.mk A410
                        clear A410
                        have HC42 := Aside0.mk H
                        clear H
                        go_upto_region 14 with (first | ((with_reducible refine gate_callee (f := 16) rfl ?_); refine goesL_ (some 94) rfl rfl Try.func16 (by kernel_rfl) rfl #[.string (t170 ++ (⟨#[98]⟩ : ByteArray)), .string (⟨#[98]⟩ : ByteArray), .string (t170 ++ (⟨#[99]⟩ : ByteArray)), .int .i64 (-1)] rfl (by (try simp only [List.map_toArray, List.map_cons, List.map_nil]); first | done | rfl | (simp only [List.length_drop, List.length_take]; rfl)) ?_; (with_reducible refine (chars_Replace.calls kj34 (t170 ++ (⟨#[98]⟩ : ByteArray)) (⟨#[98]⟩ : ByteArray) (t170 ++ (⟨#[99]⟩ : ByteArray)) (-1) t194 t195 t196 _ ?side1 A41.out).mono ?_); (case side1 => exact GW.below HG.out (by repeat (first | (with_reducible first | exact HB.out | apply below_alloc | apply pw_below_drewN | apply below_drew1) | exact HB.out))); rintro e w43 ⟨rfl, hb⟩; refine ⟨_, rfl, ?_⟩; have n0_ := Aside0.mk (below_step (by repeat (first | (with_reducible first | exact HB.out | apply below_alloc | apply pw_below_drewN | apply below_drew1) | exact HB.out)) hb); clear HB; have HB := n0_; clear n0_; (try clear hb); (try clear hb2); (try clear hk); (try clear hi)))
                        (try simp only [Act.put, List.setIfInBounds_toArray, List.set_cons_zero, List.set_cons_succ])
                        go_cut [107] (fun v107 wc => ∃ (kq : Nat) (x107_41 : Bool), v107 = .bool x107_41 ∧ Aside0 (abacuslaw20_CharsLong.j3 kq t174 x107_41 = some true) ∧ Aside0 (kq ≤ kj34) ∧ Aside0 (Below w.heap.size w wc))
                        case first =>
                          have H := HC42.out
                          clear HC42
                          by_cases c44 : t196 = 3
                          · rw [if_pos c44] at H
                            have c44b0 : (t196 == 3) = true := beq_iff_eq.mpr c44
                            have c44b1 : (t196 != 3) = false := bne_eq_false_iff_eq.mpr c44
                            clear c44
                            (first | rw [c44b0] | (simp only [i64_w, i32_w]; rw [c44b0]) | skip)
                            by_cases c45 : t195 = 0
                            · rw [if_pos c45] at H
                              have c45b0 : (t195 == 0) = true := beq_iff_eq.mpr c45
                              have c45b1 : (t195 != 0) = false := bne_eq_false_iff_eq.mpr c45
                              clear c45
                              have H' := Aside0.mk H
                              clear H
                              go_wp2
                              go_meet
                              case rel => exact ⟨_, ((t194.toList != ([] : List UInt8))), (by first | rfl | (simp; done) | (simp [*]; done) | (simp [*]; generalize t194.toList = l_; cases l_ <;> rfl)), H', ⟨by have := HJ2.out; have := HJ13.out; have := HJ34.out; first | omega | exact Nat.le_refl _⟩, ⟨by repeat (first | (with_reducible first | exact HB.out | apply below_alloc | apply pw_below_drewN | apply below_drew1) | exact HB.out)⟩⟩
                            · rw [if_neg c45] at H
                              have c45b0 : (t195 == 0) = false := beq_eq_false_iff_ne.mpr c45
                              have c45b1 : (t195 != 0) = true := bne_iff_ne.mpr c45
                              have H' := Aside0.mk H
                              clear H
                              go_wp2
                              go_meet
                              case rel => exact ⟨_, (true), (by first | rfl | (simp; done) | (simp [*]; done)), H', ⟨by have := HJ2.out; have := HJ13.out; have := HJ34.out; first | omega | exact Nat.le_refl _⟩, ⟨by repeat (first | (with_reducible first | exact HB.out | apply below_alloc | apply pw_below_drewN | apply below_drew1) | exact HB.out)⟩⟩
                          · rw [if_neg c44] at H
                            have c44b0 : (t196 == 3) = false := beq_eq_false_iff_ne.mpr c44
                            have c44b1 : (t196 != 3) = true := bne_iff_ne.mpr c44
                            (first | rw [c44b0] | (simp only [i64_w, i32_w]; rw [c44b0]) | skip)
                            have H' := Aside0.mk H
                            clear H
                            go_wp2
                            go_meet
                            case rel => exact ⟨_, (true), (by first | rfl | (simp; done) | (simp [*]; done)), H', ⟨by have := HJ2.out; have := HJ13.out; have := HJ34.out; first | omega | exact Nat.le_refl _⟩, ⟨by repeat (first | (with_reducible first | exact HB.out | apply below_alloc | apply pw_below_drewN | apply below_drew1) | exact HB.out)⟩⟩
                        case rest =>
                          clear HC42
                          try clear c1
                          try clear c2
                          try clear p2
                          try clear c3
                          try clear c4
                          try clear c5
                          try clear c9
                          try clear c9b0
                          try clear c9b1
                          try clear c10
                          try clear c13
                          try clear c14
                          try clear c15
                          try clear c16
                          try clear c27
                          try clear c27b0
                          try clear c27b1
                          try clear c28
                          try clear c28b0
                          try clear c28b1
                          try clear c29
                          try clear c29b0
                          try clear c29b1
                          try clear c30
                          try clear c30b0
                          try clear c30b1
                          try clear c31
                          try clear c31b0
                          try clear c31b1
                          try clear c32
                          try clear c33
                          try clear c33b0
                          try clear c33b1
                          try clear c33b2
                          try clear c37
                          try clear c37b0
                          try clear c37b1
                          try clear c38
                          try clear c38b0
                          try clear c38b1
                          try clear c39
                          try clear c40
                          try clear c40b0
                          try clear c40b1
                          try clear c40b2
                          try clear c44
                          try clear c44b0
                          try clear c44b1
                          try clear c45
                          try clear c45b0
                          try clear c45b1
                          try clear p2
                          obtain ⟨kq, x107_41, rfl, HA, HJ41, HB⟩ := hcut
                          cases kq with
                          | zero => exact absurd HA.out (by simp [abacuslaw20_CharsLong.j3])
                          | succ kj41 =>
                            have H := HA.out
                            clear HA
                            simp only [abacuslaw20_CharsLong.j3] at H
                            by_cases c46 : x107_41 = true
                            · subst c46
                              have H1 : (some false) = some true := by rw [if_pos rfl] at H; exact H
                              clear H
                              have H := H1
                              clear H1
                              exact absurd H (by simp)
                            · replace c46 := Bool.eq_false_iff.mpr c46
                              subst c46
                              have H1 : (if t174.size + 1 ≤ 9223372036854775807 then ((chars_Replace.f kj41 (t174 ++ (⟨#[122]⟩ : ByteArray)) (⟨#[113]⟩ : ByteArray) (⟨#[]⟩ : ByteArray) (-1)).bind fun bt197 => (if bt197.2.2 = 3 then (if bt197.2.1 = 0 then (if bt197.1.toList = ([] : List UInt8) then ((chars_Replace.f kj41 (t174 ++ (⟨#[122]⟩ : ByteArray)) (⟨#[122]⟩ : ByteArray) (⟨#[]⟩ : ByteArray) 1).bind fun bt200 => (if bt200.2.2 = 0 then (if bt200.2.1 = 1 then (some (bt200.1.toList == t174.toList)) else (some false)) else (some false))) else (some false)) else (some false)) else (some false))) else (none)) = some true := by rw [if_neg (show ¬ (false = true) by decide)] at H; exact H
                              clear H
                              have H := H1
                              clear H1
                              by_cases c47 : t174.size + 1 ≤ 9223372036854775807
                              · rw [if_pos c47] at H
                                have c47b0 := eq_true c47
                                have c47b1 : decide (t174.size + 1 ≤ 9223372036854775807) = true := decide_eq_true c47
                                try have c47b2 : (9223372036854775807 < t174.size + 1) = False := eq_false (Nat.not_lt.2 c47)
                                replace H := Option.bind_eq_some_iff.mp H
                                obtain ⟨⟨t197, t198, t199⟩, A480, H⟩ := H
                                replace H : (if t199 = 3 then (if t198 = 0 then (if t197.toList = ([] : List UInt8) then ((chars_Replace.f kj41 (t174 ++ (⟨#[122]⟩ : ByteArray)) (⟨#[122]⟩ : ByteArray) (⟨#[]⟩ : ByteArray) 1).bind fun bt200 => (if bt200.2.2 = 0 then (if bt200.2.1 = 1 then (some (bt200.1.toList == t174.toList)) else (some false)) else (some false))) else (some false)) else (some false)) else (some false)) = some true := H
                                have A48 := Aside0.mk A480
                                clear A480
                                by_cases c49 : t199 = 3
                                · rw [if_pos c49] at H
                                  have c49b0 : (t199 == 3) = true := beq_iff_eq.mpr c49
                                  have c49b1 : (t199 != 3) = false := bne_eq_false_iff_eq.mpr c49
                                  clear c49
                                  by_cases c50 : t198 = 0
                                  · rw [if_pos c50] at H
                                    have c50b0 : (t198 == 0) = true := beq_iff_eq.mpr c50
                                    have c50b1 : (t198 != 0) = false := bne_eq_false_iff_eq.mpr c50
                                    clear c50
                                    by_cases c51 : t197.toList = ([] : List UInt8)
                                    · rw [if_pos c51] at H
                                      have c51b0 : (t197.toList == ([] : List UInt8)) = true := beq_iff_eq.mpr c51
                                      have c51b1 : (t197.toList != ([] : List UInt8)) = false := bne_eq_false_iff_eq.mpr c51
                                      clear c51
                                      replace H := Option.bind_eq_some_iff.mp H
                                      obtain ⟨⟨t200, t201, t202⟩, A520, H⟩ := H
                                      replace H : (if t202 = 0 then (if t201 = 1 then (some (t200.toList == t174.toList)) else (some false)) else (some false)) = some true := H
                                      have A52 := Aside0.mk A520
                                      clear A520
                                      by_cases c53 : t202 = 0
                                      · rw [if_pos c53] at H
                                        have c53b0 : (t202 == 0) = true := beq_iff_eq.mpr c53
                                        have c53b1 : (t202 != 0) = false := bne_eq_false_iff_eq.mpr c53
                                        clear c53
                                        by_cases c54 : t201 = 1
                                        · rw [if_pos c54] at H
                                          have c54b0 : (t201 == 1) = true := beq_iff_eq.mpr c54
                                          have c54b1 : (t201 != 1) = false := bne_eq_false_iff_eq.mpr c54
                                          clear c54
                                          have HX := Aside0.mk (Option.some.inj H)
                                          clear H
                                          go_wp2_with (first | ((with_reducible refine gate_callee (f := 16) rfl ?_); refine goesL_ (some 111) rfl rfl Try.func16 (by kernel_rfl) rfl #[.string (t174 ++ (⟨#[122]⟩ : ByteArray)), .string (⟨#[113]⟩ : ByteArray), .string (⟨#[]⟩ : ByteArray), .int .i64 (-1)] rfl (by (try simp only [List.map_toArray, List.map_cons, List.map_nil]); first | done | rfl | (simp only [List.length_drop, List.length_take]; rfl)) ?_; (with_reducible refine (chars_Replace.calls kj41 (t174 ++ (⟨#[122]⟩ : ByteArray)) (⟨#[113]⟩ : ByteArray) (⟨#[]⟩ : ByteArray) (-1) t197 t198 t199 _ ?side1 A48.out).mono ?_); (case side1 => exact GW.below HG.out (by repeat (first | (with_reducible first | exact HB.out | apply below_alloc | apply pw_below_drewN | apply below_drew1) | exact HB.out))); rintro e w55 ⟨rfl, hb⟩; refine ⟨_, rfl, ?_⟩; have n0_ := Aside0.mk (below_step (by repeat (first | (with_reducible first | exact HB.out | apply below_alloc | apply pw_below_drewN | apply below_drew1) | exact HB.out)) hb); clear HB; have HB := n0_; clear n0_; (try clear hb); (try clear hb2); (try clear hk); (try clear hi)) | ((with_reducible refine gate_callee (f := 16) rfl ?_); refine goesL_ (some 128) rfl rfl Try.func16 (by kernel_rfl) rfl #[.string (t174 ++ (⟨#[122]⟩ : ByteArray)), .string (⟨#[122]⟩ : ByteArray), .string (⟨#[]⟩ : ByteArray), .int .i64 1] rfl (by (try simp only [List.map_toArray, List.map_cons, List.map_nil]); first | done | rfl | (simp only [List.length_drop, List.length_take]; rfl)) ?_; (with_reducible refine (chars_Replace.calls kj41 (t174 ++ (⟨#[122]⟩ : ByteArray)) (⟨#[122]⟩ : ByteArray) (⟨#[]⟩ : ByteArray) 1 t200 t201 t202 _ ?side1 A52.out).mono ?_); (case side1 => exact GW.below HG.out (by repeat (first | (with_reducible first | exact HB.out | apply below_alloc | apply pw_below_drewN | apply below_drew1) | exact HB.out))); rintro e w56 ⟨rfl, hb⟩; refine ⟨_, rfl, ?_⟩; have n0_ := Aside0.mk (below_step (by repeat (first | (with_reducible first | exact HB.out | apply below_alloc | apply pw_below_drewN | apply below_drew1) | exact HB.out)) hb); clear HB; have HB := n0_; clear n0_; (try clear hb); (try clear hb2); (try clear hk); (try clear hi)))
                                          go_ret
                                          exact ⟨by first | exact congrArg (fun b_ => Ending.returned (Value.bool b_)) HX.out | (have hx_ := HX.out; simp at hx_ ⊢; done) | (have hx_ := HX.out; simp at hx_ ⊢; exact hx_) | (have hx_ := HX.out; simp_all) | (simp [*, errW_none, errW_some] <;> rfl), by repeat (first | (with_reducible first | exact HB.out | apply below_alloc | apply pw_below_drewN | apply below_drew1) | exact HB.out)⟩
                                        · rw [if_neg c54] at H
                                          have c54b0 : (t201 == 1) = false := beq_eq_false_iff_ne.mpr c54
                                          have c54b1 : (t201 != 1) = true := bne_iff_ne.mpr c54
                                          exact absurd H (by simp)
                                      · rw [if_neg c53] at H
                                        have c53b0 : (t202 == 0) = false := beq_eq_false_iff_ne.mpr c53
                                        have c53b1 : (t202 != 0) = true := bne_iff_ne.mpr c53
                                        exact absurd H (by simp)
                                    · rw [if_neg c51] at H
                                      have c51b0 : (t197.toList == ([] : List UInt8)) = false := beq_eq_false_iff_ne.mpr c51
                                      have c51b1 : (t197.toList != ([] : List UInt8)) = true := bne_iff_ne.mpr c51
                                      exact absurd H (by simp)
                                  · rw [if_neg c50] at H
                                    have c50b0 : (t198 == 0) = false := beq_eq_false_iff_ne.mpr c50
                                    have c50b1 : (t198 != 0) = true := bne_iff_ne.mpr c50
                                    exact absurd H (by simp)
                                · rw [if_neg c49] at H
                                  have c49b0 : (t199 == 3) = false := beq_eq_false_iff_ne.mpr c49
                                  have c49b1 : (t199 != 3) = true := bne_iff_ne.mpr c49
                                  exact absurd H (by simp)
                              · rw [if_neg c47] at H
                                exact absurd H (by simp)
                      · rw [if_neg c40] at H
                        exact absurd H (by simp)
              · rw [if_neg c33] at H
                exact absurd H (by simp)

end Go.Proofs.Ytdeannaaafffbaa.ECh
