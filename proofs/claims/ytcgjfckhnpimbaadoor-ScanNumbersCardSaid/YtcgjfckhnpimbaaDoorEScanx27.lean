-- Written by eprint.py (a program of this session's, over the kit's print), not by hand.
import Derived.Test.YtcgjfckhnpimbaaDoorEScanx0
import Derived.Test.YtcgjfckhnpimbaaDoorEScanx12
import Derived.Test.YtcgjfckhnpimbaaDoorEScanx23
import Derived.Test.YtcgjfckhnpimbaaDoorEScanx26
namespace Go.Proofs.YtcgjfckhnpimbaaDoor.EScan
open Go.RowKit Go.Proofs.YtcgjfckhnpimbaaDoorW.PrintWords Go.Proofs.YtcgjfckhnpimbaaDoorW.PrintLast Go.Proofs.YtcgjfckhnpimbaaDoorW.PrintMore
attribute [local go_sem] max2_int min2_int max_two min_two max_three min_three max_four min_four   -- for this text's walks alone
set_option linter.unusedVariables false
set_option linter.unusedSimpArgs false

/-! ### abacuslaw08_ScanNumbers: function 4 -/
mutual
def abacuslaw08_ScanNumbers.j0 : Nat → List ByteArray → Bool → Option (Bool)
  | 0, _, _ => none
  | k + 1, x0, x21 => if x21 = true then (some false) else (abacuslaw08_ScanNumbers.l0 k x0 0)
def abacuslaw08_ScanNumbers.l0 : Nat → List ByteArray → Int → Option (Bool)
  | 0, _, _ => none
  | k + 1, x0, x3 => if x3 < (x0.length : Int) then (if 0 ≤ x3 then ((abacuslaw08_numbers.f k (rdOf ByteArray.empty x0 x3)).bind fun t262 => (if t262 = true then ((abacuslaw08_wholes.f k (rdOf ByteArray.empty x0 x3)).bind fun t264 => (if t264 = true then (abacuslaw08_ScanNumbers.l0 k x0 (wrap64 (x3 + 1))) else (some false))) else (some false))) else (none)) else (some true)
end
def abacuslaw08_ScanNumbers.f (k : Nat) (l0 : List ByteArray) : Option (Bool) := (abacuslaw08_blanks.f k).bind fun t256 => (if t256 = true then ((abacuslaw08_numbers.f k (⟨#[32, 32, 45, 49, 46, 53, 48, 101, 51, 44]⟩ : ByteArray)).bind fun t257 => (if t257 = true then ((abacuslaw08_numbers.f k (⟨#[49, 101, 43]⟩ : ByteArray)).bind fun t258 => (if t258 = true then ((abacuslaw08_wholes.f k (⟨#[32, 49, 50, 10]⟩ : ByteArray)).bind fun t259 => (if t259 = true then ((abacuslaw08_wholes.f k (⟨#[49, 50, 32, 49, 51]⟩ : ByteArray)).bind fun t260 => (abacuslaw08_ScanNumbers.j0 k l0 (!t260))) else (abacuslaw08_ScanNumbers.j0 k l0 true))) else (abacuslaw08_ScanNumbers.j0 k l0 true))) else (abacuslaw08_ScanNumbers.j0 k l0 true))) else (abacuslaw08_ScanNumbers.j0 k l0 true))
theorem abacuslaw08_ScanNumbers.mono_l : ∀ k, (∀ y0 y1, LeO (abacuslaw08_ScanNumbers.j0 k y0 y1) (abacuslaw08_ScanNumbers.j0 (k + 1) y0 y1)) ∧ (∀ y0 y1, LeO (abacuslaw08_ScanNumbers.l0 k y0 y1) (abacuslaw08_ScanNumbers.l0 (k + 1) y0 y1))
  | 0 => ⟨fun _ _ r h => by simp [abacuslaw08_ScanNumbers.j0] at h, fun _ _ r h => by simp [abacuslaw08_ScanNumbers.l0] at h⟩
  | k + 1 => by
    obtain ⟨ih0, ih1⟩ := abacuslaw08_ScanNumbers.mono_l k
    refine ⟨?_, ?_⟩
    · intro y0 y1
      unfold abacuslaw08_ScanNumbers.j0
      repeat' first
      | (with_reducible exact ih0 _ _)
      | (with_reducible exact ih1 _ _)
      | (with_reducible exact abacuslaw08_blanks.mono _)
      | (with_reducible exact abacuslaw08_numbers.mono _ _)
      | (with_reducible exact abacuslaw08_wholes.mono _ _)
      | (with_reducible exact LeO.refl _)
      | (with_reducible exact LeO.none _)
      | (with_reducible refine LeO.ite ?_ ?_)
      | (with_reducible refine LeO.bind ?_ (fun _ => ?_))
      | exact ih0 _ _
      | exact ih1 _ _
      | exact abacuslaw08_blanks.mono _
      | exact abacuslaw08_numbers.mono _ _
      | exact abacuslaw08_wholes.mono _ _
      | exact LeO.none _
      | refine LeO.ite ?_ ?_
      | refine LeO.bind ?_ (fun _ => ?_)
    · intro y0 y1
      unfold abacuslaw08_ScanNumbers.l0
      repeat' first
      | (with_reducible exact ih0 _ _)
      | (with_reducible exact ih1 _ _)
      | (with_reducible exact abacuslaw08_blanks.mono _)
      | (with_reducible exact abacuslaw08_numbers.mono _ _)
      | (with_reducible exact abacuslaw08_wholes.mono _ _)
      | (with_reducible exact LeO.refl _)
      | (with_reducible exact LeO.none _)
      | (with_reducible refine LeO.ite ?_ ?_)
      | (with_reducible refine LeO.bind ?_ (fun _ => ?_))
      | exact ih0 _ _
      | exact ih1 _ _
      | exact abacuslaw08_blanks.mono _
      | exact abacuslaw08_numbers.mono _ _
      | exact abacuslaw08_wholes.mono _ _
      | exact LeO.none _
      | refine LeO.ite ?_ ?_
      | refine LeO.bind ?_ (fun _ => ?_)
theorem abacuslaw08_ScanNumbers.mono : ∀ a0 k, LeO (abacuslaw08_ScanNumbers.f k a0) (abacuslaw08_ScanNumbers.f (k + 1) a0) := by
  intro a0 k
  obtain ⟨ih0, ih1⟩ := abacuslaw08_ScanNumbers.mono_l k
  unfold abacuslaw08_ScanNumbers.f
  repeat' first
      | (with_reducible exact ih0 _ _)
      | (with_reducible exact ih1 _ _)
      | (with_reducible exact abacuslaw08_blanks.mono _)
      | (with_reducible exact abacuslaw08_numbers.mono _ _)
      | (with_reducible exact abacuslaw08_wholes.mono _ _)
      | (with_reducible exact LeO.refl _)
      | (with_reducible exact LeO.none _)
      | (with_reducible refine LeO.ite ?_ ?_)
      | (with_reducible refine LeO.bind ?_ (fun _ => ?_))
      | exact ih0 _ _
      | exact ih1 _ _
      | exact abacuslaw08_blanks.mono _
      | exact abacuslaw08_numbers.mono _ _
      | exact abacuslaw08_wholes.mono _ _
      | exact LeO.none _
      | refine LeO.ite ?_ ?_
      | refine LeO.bind ?_ (fun _ => ?_)
set_option maxHeartbeats 8000000 in
set_option maxRecDepth 100000 in
theorem abacuslaw08_ScanNumbers.calls (k : Nat) (A0 : Option Addr) (c0 : Nat) (l0 : List ByteArray) (w : World) (hr0 : Kd.C Kd.string w A0 l0.length l0) (hc0 : l0.length ≤ c0) (h : abacuslaw08_ScanNumbers.f k l0 = some true) :
    Calls Tryd.prog 4 #[.slice A0 l0.length c0] w fun e w' => e = .returned (.bool true) ∧ Below w.heap.size w w' := by
  have HR0 := Aside0.mk hr0
  have HC0 := Aside0.mk hc0
  clear hr0 hc0
  have HB := Aside0.mk (Below.refl w.heap.size w)
  have H : ((abacuslaw08_blanks.f k).bind fun t256 => (if t256 = true then ((abacuslaw08_numbers.f k (⟨#[32, 32, 45, 49, 46, 53, 48, 101, 51, 44]⟩ : ByteArray)).bind fun t257 => (if t257 = true then ((abacuslaw08_numbers.f k (⟨#[49, 101, 43]⟩ : ByteArray)).bind fun t258 => (if t258 = true then ((abacuslaw08_wholes.f k (⟨#[32, 49, 50, 10]⟩ : ByteArray)).bind fun t259 => (if t259 = true then ((abacuslaw08_wholes.f k (⟨#[49, 50, 32, 49, 51]⟩ : ByteArray)).bind fun t260 => (abacuslaw08_ScanNumbers.j0 k l0 (!t260))) else (abacuslaw08_ScanNumbers.j0 k l0 true))) else (abacuslaw08_ScanNumbers.j0 k l0 true))) else (abacuslaw08_ScanNumbers.j0 k l0 true))) else (abacuslaw08_ScanNumbers.j0 k l0 true))) = some true := h
  clear h
  have HC2 := Aside0.mk H
  clear H
  go_enter Tryd.func4, Tryd.ntmps4
  go_upto_region 1 with (fail)
  go_cut [21] (fun v21 wc => ∃ (kq : Nat) (x21_1 : Bool), v21 = .bool x21_1 ∧ Aside0 (abacuslaw08_ScanNumbers.j0 kq l0 x21_1 = some true) ∧ Aside0 (kq ≤ k) ∧ Aside0 (Below w.heap.size w wc))
  case first =>
    have H := HC2.out
    clear HC2
    replace H := Option.bind_eq_some_iff.mp H
    obtain ⟨t256, A30, H⟩ := H
    replace H : (if t256 = true then ((abacuslaw08_numbers.f k (⟨#[32, 32, 45, 49, 46, 53, 48, 101, 51, 44]⟩ : ByteArray)).bind fun t257 => (if t257 = true then ((abacuslaw08_numbers.f k (⟨#[49, 101, 43]⟩ : ByteArray)).bind fun t258 => (if t258 = true then ((abacuslaw08_wholes.f k (⟨#[32, 49, 50, 10]⟩ : ByteArray)).bind fun t259 => (if t259 = true then ((abacuslaw08_wholes.f k (⟨#[49, 50, 32, 49, 51]⟩ : ByteArray)).bind fun t260 => (abacuslaw08_ScanNumbers.j0 k l0 (!t260))) else (abacuslaw08_ScanNumbers.j0 k l0 true))) else (abacuslaw08_ScanNumbers.j0 k l0 true))) else (abacuslaw08_ScanNumbers.j0 k l0 true))) else (abacuslaw08_ScanNumbers.j0 k l0 true)) = some true := H
    have A3 := Aside0.mk A30
    clear A30
    by_cases c4 : t256 = true
    · subst c4
      have H1 : ((abacuslaw08_numbers.f k (⟨#[32, 32, 45, 49, 46, 53, 48, 101, 51, 44]⟩ : ByteArray)).bind fun t257 => (if t257 = true then ((abacuslaw08_numbers.f k (⟨#[49, 101, 43]⟩ : ByteArray)).bind fun t258 => (if t258 = true then ((abacuslaw08_wholes.f k (⟨#[32, 49, 50, 10]⟩ : ByteArray)).bind fun t259 => (if t259 = true then ((abacuslaw08_wholes.f k (⟨#[49, 50, 32, 49, 51]⟩ : ByteArray)).bind fun t260 => (abacuslaw08_ScanNumbers.j0 k l0 (!t260))) else (abacuslaw08_ScanNumbers.j0 k l0 true))) else (abacuslaw08_ScanNumbers.j0 k l0 true))) else (abacuslaw08_ScanNumbers.j0 k l0 true))) = some true := by rw [if_pos rfl] at H; exact H
      clear H
      have H := H1
      clear H1
      replace H := Option.bind_eq_some_iff.mp H
      obtain ⟨t257, A50, H⟩ := H
      replace H : (if t257 = true then ((abacuslaw08_numbers.f k (⟨#[49, 101, 43]⟩ : ByteArray)).bind fun t258 => (if t258 = true then ((abacuslaw08_wholes.f k (⟨#[32, 49, 50, 10]⟩ : ByteArray)).bind fun t259 => (if t259 = true then ((abacuslaw08_wholes.f k (⟨#[49, 50, 32, 49, 51]⟩ : ByteArray)).bind fun t260 => (abacuslaw08_ScanNumbers.j0 k l0 (!t260))) else (abacuslaw08_ScanNumbers.j0 k l0 true))) else (abacuslaw08_ScanNumbers.j0 k l0 true))) else (abacuslaw08_ScanNumbers.j0 k l0 true)) = some true := H
      have A5 := Aside0.mk A50
      clear A50
      by_cases c6 : t257 = true
      · subst c6
        have H1 : ((abacuslaw08_numbers.f k (⟨#[49, 101, 43]⟩ : ByteArray)).bind fun t258 => (if t258 = true then ((abacuslaw08_wholes.f k (⟨#[32, 49, 50, 10]⟩ : ByteArray)).bind fun t259 => (if t259 = true then ((abacuslaw08_wholes.f k (⟨#[49, 50, 32, 49, 51]⟩ : ByteArray)).bind fun t260 => (abacuslaw08_ScanNumbers.j0 k l0 (!t260))) else (abacuslaw08_ScanNumbers.j0 k l0 true))) else (abacuslaw08_ScanNumbers.j0 k l0 true))) = some true := by rw [if_pos rfl] at H; exact H
        clear H
        have H := H1
        clear H1
        replace H := Option.bind_eq_some_iff.mp H
        obtain ⟨t258, A70, H⟩ := H
        replace H : (if t258 = true then ((abacuslaw08_wholes.f k (⟨#[32, 49, 50, 10]⟩ : ByteArray)).bind fun t259 => (if t259 = true then ((abacuslaw08_wholes.f k (⟨#[49, 50, 32, 49, 51]⟩ : ByteArray)).bind fun t260 => (abacuslaw08_ScanNumbers.j0 k l0 (!t260))) else (abacuslaw08_ScanNumbers.j0 k l0 true))) else (abacuslaw08_ScanNumbers.j0 k l0 true)) = some true := H
        have A7 := Aside0.mk A70
        clear A70
        by_cases c8 : t258 = true
        · subst c8
          have H1 : ((abacuslaw08_wholes.f k (⟨#[32, 49, 50, 10]⟩ : ByteArray)).bind fun t259 => (if t259 = true then ((abacuslaw08_wholes.f k (⟨#[49, 50, 32, 49, 51]⟩ : ByteArray)).bind fun t260 => (abacuslaw08_ScanNumbers.j0 k l0 (!t260))) else (abacuslaw08_ScanNumbers.j0 k l0 true))) = some true := by rw [if_pos rfl] at H; exact H
          clear H
          have H := H1
          clear H1
          replace H := Option.bind_eq_some_iff.mp H
          obtain ⟨t259, A90, H⟩ := H
          replace H : (if t259 = true then ((abacuslaw08_wholes.f k (⟨#[49, 50, 32, 49, 51]⟩ : ByteArray)).bind fun t260 => (abacuslaw08_ScanNumbers.j0 k l0 (!t260))) else (abacuslaw08_ScanNumbers.j0 k l0 true)) = some true := H
          have A9 := Aside0.mk A90
          clear A90
          by_cases c10 : t259 = true
          · subst c10
            have H1 : ((abacuslaw08_wholes.f k (⟨#[49, 50, 32, 49, 51]⟩ : ByteArray)).bind fun t260 => (abacuslaw08_ScanNumbers.j0 k l0 (!t260))) = some true := by rw [if_pos rfl] at H; exact H
            clear H
            have H := H1
            clear H1
            replace H := Option.bind_eq_some_iff.mp H
            obtain ⟨t260, A110, H⟩ := H
            replace H : (abacuslaw08_ScanNumbers.j0 k l0 (!t260)) = some true := H
            have A11 := Aside0.mk A110
            clear A110
            have H' := Aside0.mk H
            clear H
            go_wp2_with (first | ((with_reducible refine gate_callee (f := 14) rfl ?_); refine goesL_ (some 4) rfl rfl Tryd.func14 (by kernel_rfl) rfl #[] rfl (by (try simp only [List.map_toArray, List.map_cons, List.map_nil]); first | done | rfl | (simp only [List.length_drop, List.length_take]; rfl)) ?_; (with_reducible refine (abacuslaw08_blanks.calls k  true _ A3.out).mono ?_); rintro e w' ⟨rfl, ⟨nd, rfl⟩⟩; refine ⟨_, rfl, ?_⟩) | (go_at_call 15; (with_reducible refine (abacuslaw08_numbers.calls k (⟨#[32, 32, 45, 49, 46, 53, 48, 101, 51, 44]⟩ : ByteArray) true _ A5.out).mono ?_); rintro e w12 ⟨rfl, hb⟩; have n0_ := Aside0.mk (below_step (by repeat (first | (with_reducible first | exact HB.out | apply below_alloc | apply pw_below_drewN | apply below_drew1) | exact HB.out)) hb); clear HB; have HB := n0_; clear n0_; (try clear hb); (try clear hb2); (try clear hk); (try clear hi)) | (go_at_call 15; (with_reducible refine (abacuslaw08_numbers.calls k (⟨#[49, 101, 43]⟩ : ByteArray) true _ A7.out).mono ?_); rintro e w13 ⟨rfl, hb⟩; have n0_ := Aside0.mk (below_step (by repeat (first | (with_reducible first | exact HB.out | apply below_alloc | apply pw_below_drewN | apply below_drew1) | exact HB.out)) hb); clear HB; have HB := n0_; clear n0_; (try clear hb); (try clear hb2); (try clear hk); (try clear hi)) | (go_at_call 16; (with_reducible refine (abacuslaw08_wholes.calls k (⟨#[32, 49, 50, 10]⟩ : ByteArray) true _ A9.out).mono ?_); rintro e w14 ⟨rfl, hb⟩; have n0_ := Aside0.mk (below_step (by repeat (first | (with_reducible first | exact HB.out | apply below_alloc | apply pw_below_drewN | apply below_drew1) | exact HB.out)) hb); clear HB; have HB := n0_; clear n0_; (try clear hb); (try clear hb2); (try clear hk); (try clear hi)) | (go_at_call 16; (with_reducible refine (abacuslaw08_wholes.calls k (⟨#[49, 50, 32, 49, 51]⟩ : ByteArray) t260 _ A11.out).mono ?_); rintro e w15 ⟨rfl, hb⟩; have n0_ := Aside0.mk (below_step (by repeat (first | (with_reducible first | exact HB.out | apply below_alloc | apply pw_below_drewN | apply below_drew1) | exact HB.out)) hb); clear HB; have HB := n0_; clear n0_; (try clear hb); (try clear hb2); (try clear hk); (try clear hi)))
            go_meet
            case rel => exact ⟨_, (!t260), (by first | rfl | (simp; done) | (simp [*]; done)), H', ⟨by first | omega | exact Nat.le_refl _⟩, ⟨by repeat (first | (with_reducible first | exact HB.out | apply below_alloc | apply pw_below_drewN | apply below_drew1) | exact HB.out)⟩⟩
          · replace c10 := Bool.eq_false_iff.mpr c10
            subst c10
            have H1 : (abacuslaw08_ScanNumbers.j0 k l0 true) = some true := by rw [if_neg (show ¬ (false = true) by decide)] at H; exact H
            clear H
            have H := H1
            clear H1
            have H' := Aside0.mk H
            clear H
            go_wp2_with (first | ((with_reducible refine gate_callee (f := 14) rfl ?_); refine goesL_ (some 4) rfl rfl Tryd.func14 (by kernel_rfl) rfl #[] rfl (by (try simp only [List.map_toArray, List.map_cons, List.map_nil]); first | done | rfl | (simp only [List.length_drop, List.length_take]; rfl)) ?_; (with_reducible refine (abacuslaw08_blanks.calls k  true _ A3.out).mono ?_); rintro e w' ⟨rfl, ⟨nd, rfl⟩⟩; refine ⟨_, rfl, ?_⟩) | (go_at_call 15; (with_reducible refine (abacuslaw08_numbers.calls k (⟨#[32, 32, 45, 49, 46, 53, 48, 101, 51, 44]⟩ : ByteArray) true _ A5.out).mono ?_); rintro e w16 ⟨rfl, hb⟩; have n0_ := Aside0.mk (below_step (by repeat (first | (with_reducible first | exact HB.out | apply below_alloc | apply pw_below_drewN | apply below_drew1) | exact HB.out)) hb); clear HB; have HB := n0_; clear n0_; (try clear hb); (try clear hb2); (try clear hk); (try clear hi)) | (go_at_call 15; (with_reducible refine (abacuslaw08_numbers.calls k (⟨#[49, 101, 43]⟩ : ByteArray) true _ A7.out).mono ?_); rintro e w17 ⟨rfl, hb⟩; have n0_ := Aside0.mk (below_step (by repeat (first | (with_reducible first | exact HB.out | apply below_alloc | apply pw_below_drewN | apply below_drew1) | exact HB.out)) hb); clear HB; have HB := n0_; clear n0_; (try clear hb); (try clear hb2); (try clear hk); (try clear hi)) | (go_at_call 16; (with_reducible refine (abacuslaw08_wholes.calls k (⟨#[32, 49, 50, 10]⟩ : ByteArray) false _ A9.out).mono ?_); rintro e w18 ⟨rfl, hb⟩; have n0_ := Aside0.mk (below_step (by repeat (first | (with_reducible first | exact HB.out | apply below_alloc | apply pw_below_drewN | apply below_drew1) | exact HB.out)) hb); clear HB; have HB := n0_; clear n0_; (try clear hb); (try clear hb2); (try clear hk); (try clear hi)))
            go_meet
            case rel => exact ⟨_, (true), (by first | rfl | (simp; done) | (simp [*]; done)), H', ⟨by first | omega | exact Nat.le_refl _⟩, ⟨by repeat (first | (with_reducible first | exact HB.out | apply below_alloc | apply pw_below_drewN | apply below_drew1) | exact HB.out)⟩⟩
        · replace c8 := Bool.eq_false_iff.mpr c8
          subst c8
          have H1 : (abacuslaw08_ScanNumbers.j0 k l0 true) = some true := by rw [if_neg (show ¬ (false = true) by decide)] at H; exact H
          clear H
          have H := H1
          clear H1
          have H' := Aside0.mk H
          clear H
          go_wp2_with (first | ((with_reducible refine gate_callee (f := 14) rfl ?_); refine goesL_ (some 4) rfl rfl Tryd.func14 (by kernel_rfl) rfl #[] rfl (by (try simp only [List.map_toArray, List.map_cons, List.map_nil]); first | done | rfl | (simp only [List.length_drop, List.length_take]; rfl)) ?_; (with_reducible refine (abacuslaw08_blanks.calls k  true _ A3.out).mono ?_); rintro e w' ⟨rfl, ⟨nd, rfl⟩⟩; refine ⟨_, rfl, ?_⟩) | (go_at_call 15; (with_reducible refine (abacuslaw08_numbers.calls k (⟨#[32, 32, 45, 49, 46, 53, 48, 101, 51, 44]⟩ : ByteArray) true _ A5.out).mono ?_); rintro e w19 ⟨rfl, hb⟩; have n0_ := Aside0.mk (below_step (by repeat (first | (with_reducible first | exact HB.out | apply below_alloc | apply pw_below_drewN | apply below_drew1) | exact HB.out)) hb); clear HB; have HB := n0_; clear n0_; (try clear hb); (try clear hb2); (try clear hk); (try clear hi)) | (go_at_call 15; (with_reducible refine (abacuslaw08_numbers.calls k (⟨#[49, 101, 43]⟩ : ByteArray) false _ A7.out).mono ?_); rintro e w20 ⟨rfl, hb⟩; have n0_ := Aside0.mk (below_step (by repeat (first | (with_reducible first | exact HB.out | apply below_alloc | apply pw_below_drewN | apply below_drew1) | exact HB.out)) hb); clear HB; have HB := n0_; clear n0_; (try clear hb); (try clear hb2); (try clear hk); (try clear hi)))
          go_meet
          case rel => exact ⟨_, (true), (by first | rfl | (simp; done) | (simp [*]; done)), H', ⟨by first | omega | exact Nat.le_refl _⟩, ⟨by repeat (first | (with_reducible first | exact HB.out | apply below_alloc | apply pw_below_drewN | apply below_drew1) | exact HB.out)⟩⟩
      · replace c6 := Bool.eq_false_iff.mpr c6
        subst c6
        have H1 : (abacuslaw08_ScanNumbers.j0 k l0 true) = some true := by rw [if_neg (show ¬ (false = true) by decide)] at H; exact H
        clear H
        have H := H1
        clear H1
        have H' := Aside0.mk H
        clear H
        go_wp2_with (first | ((with_reducible refine gate_callee (f := 14) rfl ?_); refine goesL_ (some 4) rfl rfl Tryd.func14 (by kernel_rfl) rfl #[] rfl (by (try simp only [List.map_toArray, List.map_cons, List.map_nil]); first | done | rfl | (simp only [List.length_drop, List.length_take]; rfl)) ?_; (with_reducible refine (abacuslaw08_blanks.calls k  true _ A3.out).mono ?_); rintro e w' ⟨rfl, ⟨nd, rfl⟩⟩; refine ⟨_, rfl, ?_⟩) | (go_at_call 15; (with_reducible refine (abacuslaw08_numbers.calls k (⟨#[32, 32, 45, 49, 46, 53, 48, 101, 51, 44]⟩ : ByteArray) false _ A5.out).mono ?_); rintro e w21 ⟨rfl, hb⟩; have n0_ := Aside0.mk (below_step (by repeat (first | (with_reducible first | exact HB.out | apply below_alloc | apply pw_below_drewN | apply below_drew1) | exact HB.out)) hb); clear HB; have HB := n0_; clear n0_; (try clear hb); (try clear hb2); (try clear hk); (try clear hi)))
        go_meet
        case rel => exact ⟨_, (true), (by first | rfl | (simp; done) | (simp [*]; done)), H', ⟨by first | omega | exact Nat.le_refl _⟩, ⟨by repeat (first | (with_reducible first | exact HB.out | apply below_alloc | apply pw_below_drewN | apply below_drew1) | exact HB.out)⟩⟩
    · replace c4 := Bool.eq_false_iff.mpr c4
      subst c4
      have H1 : (abacuslaw08_ScanNumbers.j0 k l0 true) = some true := by rw [if_neg (show ¬ (false = true) by decide)] at H; exact H
      clear H
      have H := H1
      clear H1
      have H' := Aside0.mk H
      clear H
      go_wp2_with (first | ((with_reducible refine gate_callee (f := 14) rfl ?_); refine goesL_ (some 4) rfl rfl Tryd.func14 (by kernel_rfl) rfl #[] rfl (by (try simp only [List.map_toArray, List.map_cons, List.map_nil]); first | done | rfl | (simp only [List.length_drop, List.length_take]; rfl)) ?_; (with_reducible refine (abacuslaw08_blanks.calls k  false _ A3.out).mono ?_); rintro e w' ⟨rfl, ⟨nd, rfl⟩⟩; refine ⟨_, rfl, ?_⟩))
      go_meet
      case rel => exact ⟨_, (true), (by first | rfl | (simp; done) | (simp [*]; done)), H', ⟨by first | omega | exact Nat.le_refl _⟩, ⟨by repeat (first | (with_reducible first | exact HB.out | apply below_alloc | apply pw_below_drewN | apply below_drew1) | exact HB.out)⟩⟩
  case rest =>
    clear HC2
    try clear c1
    try clear p2
    try clear c4
    try clear c6
    try clear c8
    try clear c10
    try clear c14
    obtain ⟨kq, x21_1, rfl, HA, HJ1, HB⟩ := hcut
    cases kq with
    | zero => exact absurd HA.out (by simp [abacuslaw08_ScanNumbers.j0])
    | succ kj1 =>
      have H := HA.out
      clear HA
      simp only [abacuslaw08_ScanNumbers.j0] at H
      by_cases c22 : x21_1 = true
      · subst c22
        have H1 : (some false) = some true := by rw [if_pos rfl] at H; exact H
        clear H
        have H := H1
        clear H1
        exact absurd H (by simp)
      · replace c22 := Bool.eq_false_iff.mpr c22
        subst c22
        have H1 : (abacuslaw08_ScanNumbers.l0 kj1 l0 0) = some true := by rw [if_neg (show ¬ (false = true) by decide)] at H; exact H
        clear H
        have H := H1
        clear H1
        have H' := Aside0.mk H
        clear H
        go_wp2
        go_loopg [3] kj1 (fun kq v3 w' => ∃ (x3_2 : Int), v3 = .int .i64 x3_2 ∧ Aside0 (abacuslaw08_ScanNumbers.l0 kq l0 x3_2 = some true) ∧ Aside0 (kq ≤ kj1) ∧ Aside0 (Below w.heap.size w w'))
        case atStart => exact ⟨(0), (by first | rfl | (simp; done) | (simp [*]; done)), H', ⟨Nat.le_refl _⟩, ⟨by repeat (first | (with_reducible first | exact HB.out | apply below_alloc | apply pw_below_drewN | apply below_drew1) | exact HB.out)⟩⟩
        case round =>
          clear H'
          try clear c1
          try clear c2
          try clear p2
          try clear c4
          try clear c6
          try clear c8
          try clear c10
          try clear c14
          try clear c22
          try clear p2
          obtain ⟨x3_2, rfl, HA, HK2, HB⟩ := hrel
          cases gk with
          | zero => exact absurd HA.out (by simp [abacuslaw08_ScanNumbers.l0])
          | succ k2 =>
            have H := HA.out
            clear HA
            simp only [abacuslaw08_ScanNumbers.l0] at H
            by_cases c23 : x3_2 < (l0.length : Int)
            · rw [if_pos c23] at H
              have c23b0 : decide (x3_2 < (l0.length : Int)) = true := decide_eq_true c23
              clear c23
              by_cases c24 : 0 ≤ x3_2
              · rw [if_pos c24] at H
                have c24b0 : decide (0 ≤ x3_2) = true := decide_eq_true c24
                clear c24
                replace H := Option.bind_eq_some_iff.mp H
                obtain ⟨t262, A250, H⟩ := H
                replace H : (if t262 = true then ((abacuslaw08_wholes.f k2 (rdOf ByteArray.empty l0 x3_2)).bind fun t264 => (if t264 = true then (abacuslaw08_ScanNumbers.l0 k2 l0 (wrap64 (x3_2 + 1))) else (some false))) else (some false)) = some true := H
                have A25 := Aside0.mk A250
                clear A250
                by_cases c26 : t262 = true
                · subst c26
                  have H1 : ((abacuslaw08_wholes.f k2 (rdOf ByteArray.empty l0 x3_2)).bind fun t264 => (if t264 = true then (abacuslaw08_ScanNumbers.l0 k2 l0 (wrap64 (x3_2 + 1))) else (some false))) = some true := by rw [if_pos rfl] at H; exact H
                  clear H
                  have H := H1
                  clear H1
                  replace H := Option.bind_eq_some_iff.mp H
                  obtain ⟨t264, A270, H⟩ := H
                  replace H : (if t264 = true then (abacuslaw08_ScanNumbers.l0 k2 l0 (wrap64 (x3_2 + 1))) else (some false)) = some true := H
                  have A27 := Aside0.mk A270
                  clear A270
                  by_cases c28 : t264 = true
                  · subst c28
                    have H1 : (abacuslaw08_ScanNumbers.l0 k2 l0 (wrap64 (x3_2 + 1))) = some true := by rw [if_pos rfl] at H; exact H
                    clear H
                    have H := H1
                    clear H1
                    have H' := Aside0.mk H
                    clear H
                    have p261 : 0 ≤ (x3_2 : Int) := of_decide_eq_true (by first | (with_reducible assumption) | assumption)
                    have q261 : x3_2 < (l0.length : Int) := of_decide_eq_true (by first | (with_reducible assumption) | assumption)
                    obtain ⟨ad261, e261, hx261_0⟩ := Kd.at_string HR0.out x3_2 p261 q261
                    cases e261
                    replace hx261_0 := (HB.out.cell (World.block_lt_of_cell? w _ hx261_0)).trans hx261_0
                    replace p261 := eq_true p261
                    replace q261 := eq_true q261
                    go_wp2_with (first | ((with_reducible refine gate_callee (f := 15) rfl ?_); refine goesL_ (some 32) rfl rfl Tryd.func15 (by kernel_rfl) rfl #[.string (rdOf ByteArray.empty l0 x3_2)] rfl (by (try simp only [List.map_toArray, List.map_cons, List.map_nil]); first | done | rfl | (simp only [List.length_drop, List.length_take]; rfl)) ?_; (with_reducible refine (abacuslaw08_numbers.calls k2 (rdOf ByteArray.empty l0 x3_2) true _ A25.out).mono ?_); rintro e w29 ⟨rfl, hb⟩; refine ⟨_, rfl, ?_⟩; have n0_ := Aside0.mk (below_step (by repeat (first | (with_reducible first | exact HB.out | apply below_alloc | apply pw_below_drewN | apply below_drew1) | exact HB.out)) hb); clear HB; have HB := n0_; clear n0_; (try clear hb); (try clear hb2); (try clear hk); (try clear hi); have p263 : 0 ≤ (x3_2 : Int) := of_decide_eq_true (by first | (with_reducible assumption) | assumption); have q263 : x3_2 < (l0.length : Int) := of_decide_eq_true (by first | (with_reducible assumption) | assumption); obtain ⟨ad263, e263, hx263_0⟩ := Kd.at_string HR0.out x3_2 p263 q263; obtain rfl : ad261 = ad263 := (by injection e263); replace hx263_0 := (HB.out.cell (World.block_lt_of_cell? w _ hx263_0)).trans hx263_0; replace p263 := eq_true p263; replace q263 := eq_true q263) | (go_at_call 16; (with_reducible refine (abacuslaw08_wholes.calls k2 (rdOf ByteArray.empty l0 x3_2) true _ A27.out).mono ?_); rintro e w30 ⟨rfl, hb⟩; have n0_ := Aside0.mk (below_step (by repeat (first | (with_reducible first | exact HB.out | apply below_alloc | apply pw_below_drewN | apply below_drew1) | exact HB.out)) hb); clear HB; have HB := n0_; clear n0_; (try clear hb); (try clear hb2); (try clear hk); (try clear hi)))
                    go_roundg k2
                    case measure => have := HJ1.out; have := HK2.out; omega
                    case rel => exact ⟨(wrap64 (x3_2 + 1)), (by first | rfl | (simp; done) | (simp [*]; done)), H', ⟨by have := HJ1.out; have := HK2.out; omega⟩, ⟨by repeat (first | (with_reducible first | exact HB.out | apply below_alloc | apply pw_below_drewN | apply below_drew1) | exact HB.out)⟩⟩
                  · replace c28 := Bool.eq_false_iff.mpr c28
                    subst c28
                    have H1 : (some false) = some true := by rw [if_neg (show ¬ (false = true) by decide)] at H; exact H
                    clear H
                    have H := H1
                    clear H1
                    exact absurd H (by simp)
                · replace c26 := Bool.eq_false_iff.mpr c26
                  subst c26
                  have H1 : (some false) = some true := by rw [if_neg (show ¬ (false = true) by decide)] at H; exact H
                  clear H
                  have H := H1
                  clear H1
                  exact absurd H (by simp)
              · rw [if_neg c24] at H
                exact absurd H (by simp)
            · rw [if_neg c23] at H
              have c23b0 : decide (x3_2 < (l0.length : Int)) = false := decide_eq_false c23
              clear c23
              clear H
              go_wp2
              go_ret
              exact ⟨by first | rfl | (simp [errW_none, errW_some] <;> rfl) | (simp [*, errW_none, errW_some] <;> rfl), by repeat (first | (with_reducible first | exact HB.out | apply below_alloc | apply pw_below_drewN | apply below_drew1) | exact HB.out)⟩

end Go.Proofs.YtcgjfckhnpimbaaDoor.EScan
