-- Written by eprint.py (a program of this session's, over the kit's print), not by hand.
import Derived.Test.YtcgjfckhnpimbaaDoorEScanx0
import Derived.Test.YtcgjfckhnpimbaaDoorEScanx1
import Derived.Test.YtcgjfckhnpimbaaDoorEScanyA
import Derived.Test.YtcgjfckhnpimbaaDoorEScanyA
import Derived.Test.YtcgjfckhnpimbaaDoorEScanx7
import Derived.Test.YtcgjfckhnpimbaaDoorEScanx14
import Derived.Test.YtcgjfckhnpimbaaDoorEScanyA
import Derived.Test.YtcgjfckhnpimbaaDoorX
namespace Go.Proofs.YtcgjfckhnpimbaaDoor.EScan
open Go.RowKit Go.Proofs.YtcgjfckhnpimbaaDoorW.PrintWords Go.Proofs.YtcgjfckhnpimbaaDoorW.PrintLast Go.Proofs.YtcgjfckhnpimbaaDoorW.PrintMore
attribute [local go_sem] max2_int min2_int max_two min_two max_three min_three max_four min_four   -- for this text's walks alone
set_option linter.unusedVariables false
set_option linter.unusedSimpArgs false

open Go.Proofs.YtcgjfckhnpimbaaDoor.X
attribute [local go_sem high] eqA23
/-! ### abacuslaw08_ScanBacks: function 8 -/
mutual
def abacuslaw08_ScanBacks.j0 : Nat → Bool → Bool → ByteArray → Int → Option (Bool)
  | 0, _, _, _, _ => none
  | k + 1, x25, x418000, x418001, x418002 => if x25 = true then (some false) else ((scan_Norm.f k x418000 x418001 x418002).bind fun bt420 => ((scan_Text.f k x418000 x418001 x418002).bind fun bt425 => ((scan_Cmp.f k x418000 x418001 x418002 x418000 x418001 x418002).bind fun bt427 => ((abacuslaw08_is.f k x418000 x418001 x418002).bind fun t429 => (if t429 = true then ((scan_Norm.f k bt420.1 bt420.2.1 bt420.2.2.1).bind fun bt430 => ((scan_Cmp.f k bt420.1 bt420.2.1 bt420.2.2.1 x418000 x418001 x418002).bind fun bt435 => (if bt420.2.2.2 = 0 then (if bt425.2 = 0 then (if bt427.2 = 0 then (if bt430.2.2.2 = 0 then (if bt435.2 = 0 then (if bt427.1 = 0 then (if bt435.1 = 0 then (if (!(bt430.1 == bt420.1) || (!(bt430.2.1.toList == bt420.2.1.toList) || (!(bt430.2.2.1 == bt420.2.2.1)))) = true then (abacuslaw08_ScanBacks.j1 k bt425.1 true bt420.1 bt420.2.1 bt420.2.2.1) else (abacuslaw08_ScanBacks.j1 k bt425.1 (bt420.1 != x418000) bt420.1 bt420.2.1 bt420.2.2.1)) else (abacuslaw08_ScanBacks.j1 k bt425.1 true bt420.1 bt420.2.1 bt420.2.2.1)) else (abacuslaw08_ScanBacks.j1 k bt425.1 true bt420.1 bt420.2.1 bt420.2.2.1)) else (abacuslaw08_ScanBacks.j1 k bt425.1 true bt420.1 bt420.2.1 bt420.2.2.1)) else (abacuslaw08_ScanBacks.j1 k bt425.1 true bt420.1 bt420.2.1 bt420.2.2.1)) else (abacuslaw08_ScanBacks.j1 k bt425.1 true bt420.1 bt420.2.1 bt420.2.2.1)) else (abacuslaw08_ScanBacks.j1 k bt425.1 true bt420.1 bt420.2.1 bt420.2.2.1)) else (abacuslaw08_ScanBacks.j1 k bt425.1 true bt420.1 bt420.2.1 bt420.2.2.1)))) else (if bt420.2.2.2 = 80 then (if bt425.2 = 80 then (if bt427.2 = 80 then (if bt425.1.toList = ([] : List UInt8) then (if bt427.1 = 0 then (some (!bt420.1 && (bt420.2.1.toList == ([] : List UInt8) && (bt420.2.2.1 == 0)))) else (some false)) else (some false)) else (some false)) else (some false)) else (some false)))))))
def abacuslaw08_ScanBacks.j1 : Nat → ByteArray → Bool → Bool → ByteArray → Int → Option (Bool)
  | 0, _, _, _, _, _ => none
  | k + 1, x3, x116, x425000, x425001, x425002 => if x116 = true then (some false) else (if x425001.toList = ([48] : List UInt8) then (if x425002 = 0 then (if x425002 > 1000000000000000 then (some true) else (if x425002 < (-1000000000000000) then (some true) else ((scan_Number.f k x3).bind fun bt437 => (if bt437.2.2.2 = (x3.size : Int) then (some (bt437.1 == x425000 && (bt437.2.1.toList == x425001.toList && (bt437.2.2.1 == x425002)))) else (some false))))) else (some false)) else (if x425001.toList = ([] : List UInt8) then (abacuslaw08_ScanBacks.j2 k x3 true x425000 x425001 x425002) else (if 0 < (x425001.size : Int) then (if (bt x425001 0) = 48 then (abacuslaw08_ScanBacks.j2 k x3 true x425000 x425001 x425002) else (if 0 ≤ (wrap64 ((x425001.size : Int) - 1)) then (if (wrap64 ((x425001.size : Int) - 1)) < (x425001.size : Int) then (abacuslaw08_ScanBacks.j2 k x3 ((bt x425001 (wrap64 ((x425001.size : Int) - 1))) == 48) x425000 x425001 x425002) else (none)) else (none))) else (none))))
def abacuslaw08_ScanBacks.j2 : Nat → ByteArray → Bool → Bool → ByteArray → Int → Option (Bool)
  | 0, _, _, _, _, _ => none
  | k + 1, x3, x141, x425000, x425001, x425002 => if x141 = true then (some false) else (if x425002 > 1000000000000000 then (some true) else (if x425002 < (-1000000000000000) then (some true) else ((scan_Number.f k x3).bind fun bt442 => (if bt442.2.2.2 = (x3.size : Int) then (some (bt442.1 == x425000 && (bt442.2.1.toList == x425001.toList && (bt442.2.2.1 == x425002)))) else (some false)))))
end
def abacuslaw08_ScanBacks.f (k : Nat) (a0_0 : Bool) (a0_1 : ByteArray) (a0_2 : Int) : Option (Bool) := (scan_Text.f k true (⟨#[48, 49, 50, 48]⟩ : ByteArray) 3).bind fun bt418 => (if bt418.2 = 0 then (abacuslaw08_ScanBacks.j0 k (bt418.1.toList != ([45, 49, 50, 101, 52] : List UInt8)) a0_0 a0_1 a0_2) else (abacuslaw08_ScanBacks.j0 k true a0_0 a0_1 a0_2))
theorem abacuslaw08_ScanBacks.mono_l : ∀ k, (∀ y0 y1 y2 y3, LeO (abacuslaw08_ScanBacks.j0 k y0 y1 y2 y3) (abacuslaw08_ScanBacks.j0 (k + 1) y0 y1 y2 y3)) ∧ (∀ y0 y1 y2 y3 y4, LeO (abacuslaw08_ScanBacks.j1 k y0 y1 y2 y3 y4) (abacuslaw08_ScanBacks.j1 (k + 1) y0 y1 y2 y3 y4)) ∧ (∀ y0 y1 y2 y3 y4, LeO (abacuslaw08_ScanBacks.j2 k y0 y1 y2 y3 y4) (abacuslaw08_ScanBacks.j2 (k + 1) y0 y1 y2 y3 y4))
  | 0 => ⟨fun _ _ _ _ r h => by simp [abacuslaw08_ScanBacks.j0] at h, fun _ _ _ _ _ r h => by simp [abacuslaw08_ScanBacks.j1] at h, fun _ _ _ _ _ r h => by simp [abacuslaw08_ScanBacks.j2] at h⟩
  | k + 1 => by
    obtain ⟨ih0, ih1, ih2⟩ := abacuslaw08_ScanBacks.mono_l k
    refine ⟨?_, ?_, ?_⟩
    · intro y0 y1 y2 y3
      unfold abacuslaw08_ScanBacks.j0
      repeat' first
      | (with_reducible exact ih0 _ _ _ _)
      | (with_reducible exact ih1 _ _ _ _ _)
      | (with_reducible exact ih2 _ _ _ _ _)
      | (with_reducible exact abacuslaw08_is.mono _ _ _ _)
      | (with_reducible exact scan_Cmp.mono _ _ _ _ _ _ _)
      | (with_reducible exact scan_Norm.mono _ _ _ _)
      | (with_reducible exact scan_Number.mono _ _)
      | (with_reducible exact scan_Text.mono _ _ _ _)
      | (with_reducible exact LeO.refl _)
      | (with_reducible exact LeO.none _)
      | (with_reducible refine LeO.ite ?_ ?_)
      | (with_reducible refine LeO.bind ?_ (fun _ => ?_))
      | exact ih0 _ _ _ _
      | exact ih1 _ _ _ _ _
      | exact ih2 _ _ _ _ _
      | exact abacuslaw08_is.mono _ _ _ _
      | exact scan_Cmp.mono _ _ _ _ _ _ _
      | exact scan_Norm.mono _ _ _ _
      | exact scan_Number.mono _ _
      | exact scan_Text.mono _ _ _ _
      | exact LeO.none _
      | refine LeO.ite ?_ ?_
      | refine LeO.bind ?_ (fun _ => ?_)
    · intro y0 y1 y2 y3 y4
      unfold abacuslaw08_ScanBacks.j1
      repeat' first
      | (with_reducible exact ih0 _ _ _ _)
      | (with_reducible exact ih1 _ _ _ _ _)
      | (with_reducible exact ih2 _ _ _ _ _)
      | (with_reducible exact abacuslaw08_is.mono _ _ _ _)
      | (with_reducible exact scan_Cmp.mono _ _ _ _ _ _ _)
      | (with_reducible exact scan_Norm.mono _ _ _ _)
      | (with_reducible exact scan_Number.mono _ _)
      | (with_reducible exact scan_Text.mono _ _ _ _)
      | (with_reducible exact LeO.refl _)
      | (with_reducible exact LeO.none _)
      | (with_reducible refine LeO.ite ?_ ?_)
      | (with_reducible refine LeO.bind ?_ (fun _ => ?_))
      | exact ih0 _ _ _ _
      | exact ih1 _ _ _ _ _
      | exact ih2 _ _ _ _ _
      | exact abacuslaw08_is.mono _ _ _ _
      | exact scan_Cmp.mono _ _ _ _ _ _ _
      | exact scan_Norm.mono _ _ _ _
      | exact scan_Number.mono _ _
      | exact scan_Text.mono _ _ _ _
      | exact LeO.none _
      | refine LeO.ite ?_ ?_
      | refine LeO.bind ?_ (fun _ => ?_)
    · intro y0 y1 y2 y3 y4
      unfold abacuslaw08_ScanBacks.j2
      repeat' first
      | (with_reducible exact ih0 _ _ _ _)
      | (with_reducible exact ih1 _ _ _ _ _)
      | (with_reducible exact ih2 _ _ _ _ _)
      | (with_reducible exact abacuslaw08_is.mono _ _ _ _)
      | (with_reducible exact scan_Cmp.mono _ _ _ _ _ _ _)
      | (with_reducible exact scan_Norm.mono _ _ _ _)
      | (with_reducible exact scan_Number.mono _ _)
      | (with_reducible exact scan_Text.mono _ _ _ _)
      | (with_reducible exact LeO.refl _)
      | (with_reducible exact LeO.none _)
      | (with_reducible refine LeO.ite ?_ ?_)
      | (with_reducible refine LeO.bind ?_ (fun _ => ?_))
      | exact ih0 _ _ _ _
      | exact ih1 _ _ _ _ _
      | exact ih2 _ _ _ _ _
      | exact abacuslaw08_is.mono _ _ _ _
      | exact scan_Cmp.mono _ _ _ _ _ _ _
      | exact scan_Norm.mono _ _ _ _
      | exact scan_Number.mono _ _
      | exact scan_Text.mono _ _ _ _
      | exact LeO.none _
      | refine LeO.ite ?_ ?_
      | refine LeO.bind ?_ (fun _ => ?_)
theorem abacuslaw08_ScanBacks.mono : ∀ a0 a1 a2 k, LeO (abacuslaw08_ScanBacks.f k a0 a1 a2) (abacuslaw08_ScanBacks.f (k + 1) a0 a1 a2) := by
  intro a0 a1 a2 k
  obtain ⟨ih0, ih1, ih2⟩ := abacuslaw08_ScanBacks.mono_l k
  unfold abacuslaw08_ScanBacks.f
  repeat' first
      | (with_reducible exact ih0 _ _ _ _)
      | (with_reducible exact ih1 _ _ _ _ _)
      | (with_reducible exact ih2 _ _ _ _ _)
      | (with_reducible exact abacuslaw08_is.mono _ _ _ _)
      | (with_reducible exact scan_Cmp.mono _ _ _ _ _ _ _)
      | (with_reducible exact scan_Norm.mono _ _ _ _)
      | (with_reducible exact scan_Number.mono _ _)
      | (with_reducible exact scan_Text.mono _ _ _ _)
      | (with_reducible exact LeO.refl _)
      | (with_reducible exact LeO.none _)
      | (with_reducible refine LeO.ite ?_ ?_)
      | (with_reducible refine LeO.bind ?_ (fun _ => ?_))
      | exact ih0 _ _ _ _
      | exact ih1 _ _ _ _ _
      | exact ih2 _ _ _ _ _
      | exact abacuslaw08_is.mono _ _ _ _
      | exact scan_Cmp.mono _ _ _ _ _ _ _
      | exact scan_Norm.mono _ _ _ _
      | exact scan_Number.mono _ _
      | exact scan_Text.mono _ _ _ _
      | exact LeO.none _
      | refine LeO.ite ?_ ?_
      | refine LeO.bind ?_ (fun _ => ?_)
set_option maxHeartbeats 8000000 in
set_option maxRecDepth 100000 in
theorem abacuslaw08_ScanBacks.calls (k : Nat) (a0_0 : Bool) (a0_1 : ByteArray) (a0_2 : Int) (w : World) (hG : GW w) (h : abacuslaw08_ScanBacks.f k a0_0 a0_1 a0_2 = some true) :
    Calls Tryd.prog 8 #[.agg #[.bool a0_0, .string a0_1, .int .i64 a0_2]] w fun e w' => e = .returned (.bool true) ∧ Below w.heap.size w w' := by
  have hu23 := Tryd.underlying23
  have HB := Aside0.mk (Below.refl w.heap.size w)
  have HG := Aside0.mk hG
  clear hG
  have H : ((scan_Text.f k true (⟨#[48, 49, 50, 48]⟩ : ByteArray) 3).bind fun bt418 => (if bt418.2 = 0 then (abacuslaw08_ScanBacks.j0 k (bt418.1.toList != ([45, 49, 50, 101, 52] : List UInt8)) a0_0 a0_1 a0_2) else (abacuslaw08_ScanBacks.j0 k true a0_0 a0_1 a0_2))) = some true := h
  clear h
  replace H := Option.bind_eq_some_iff.mp H
  obtain ⟨⟨t418, t419⟩, A20, H⟩ := H
  replace H : (if t419 = 0 then (abacuslaw08_ScanBacks.j0 k (t418.toList != ([45, 49, 50, 101, 52] : List UInt8)) a0_0 a0_1 a0_2) else (abacuslaw08_ScanBacks.j0 k true a0_0 a0_1 a0_2)) = some true := H
  have A2 := Aside0.mk A20
  clear A20
  have HC3 := Aside0.mk H
  clear H
  go_enter Tryd.func8, Tryd.ntmps8
  go_upto_region 2 with (first | ((with_reducible refine gate_dst (N := 1) rfl ?_); (try (refine gate_guard (by rfl) ?_; dsimp only)); refine box_event ?hg (N := 1) ?hd (cs := #[.bool a0_0, .string a0_1, .int .i64 a0_2]) (t := 23) ?hr ?_; (case hd => rfl); (case hg => rfl); (case hr => first | (go_simp; done) | (go_simp; rfl)); intro gb417 hg w4 hbox hb; have n0_ := Aside0.mk (below_step (by repeat (first | (with_reducible first | exact HB.out | apply below_alloc | apply pw_below_drewN | apply below_drew1) | exact HB.out)) hb); have n1_ := Aside0.mk (hbox); have n2_ := Aside0.mk ((by rw [hg]; exact (below_size (by repeat (first | (with_reducible first | exact HB.out | apply below_alloc | apply pw_below_drewN | apply below_drew1) | exact HB.out))) : w.heap.size ≤ gb417)); have n3_ := Aside0.mk ((by rw [hg]; exact (below_size (by repeat (first | (with_reducible first | exact HB.out | apply below_alloc | apply pw_below_drewN | apply below_drew1) | exact HB.out))) : w.heap.size ≤ gb417)); clear HB; have HB := n0_; have BK417 := n1_; have GW417 := n2_; have GE417 := n3_; clear n0_ n1_ n2_ n3_; clear hb hbox hg) | ((with_reducible refine gate_callee (f := 24) rfl ?_); refine goesL_ (some 17) rfl rfl Tryd.func24 (by kernel_rfl) rfl #[.agg #[.bool true, .string (⟨#[48, 49, 50, 48]⟩ : ByteArray), .int .i64 3]] rfl (by (try simp only [List.map_toArray, List.map_cons, List.map_nil]); first | done | rfl | (simp only [List.length_drop, List.length_take]; rfl)) ?_; (with_reducible refine (scan_Text.calls k true (⟨#[48, 49, 50, 48]⟩ : ByteArray) 3 t418 t419 _ ?side1 A2.out).mono ?_); (case side1 => exact GW.below HG.out (by repeat (first | (with_reducible first | exact HB.out | apply below_alloc | apply pw_below_drewN | apply below_drew1 | refine below_set ?_ GE417.out) | exact HB.out))); rintro e w5 ⟨rfl, hb⟩; refine ⟨_, rfl, ?_⟩; have n0_ := Aside0.mk (blk_below (g := gb417) (o := .cells #[.bool a0_0, .string a0_1, .int .i64 a0_2] 23 (0, 0)) (by (with_reducible repeat (first | refine blk_drewN ?_ _ | refine blk_drew ?_ | refine blk_alloc ?_ _)); exact BK417.out) hb); have n1_ := Aside0.mk (below_step (by repeat (first | (with_reducible first | exact HB.out | apply below_alloc | apply pw_below_drewN | apply below_drew1 | refine below_set ?_ GE417.out) | exact HB.out)) hb); clear BK417; clear HB; have BK417 := n0_; have HB := n1_; clear n0_ n1_; (try clear hb); (try clear hb2); (try clear hk); (try clear hi)))
  (try simp only [Act.put, List.setIfInBounds_toArray, List.set_cons_zero, List.set_cons_succ])
  go_cut [25] (fun v25 wc => ∃ (kq : Nat) (x25_2 : Bool), v25 = .bool x25_2 ∧ Aside0 (abacuslaw08_ScanBacks.j0 kq x25_2 a0_0 a0_1 a0_2 = some true) ∧ Aside0 (kq ≤ k) ∧ Aside0 (wc.heap[gb417]? = some (.cells #[.bool a0_0, .string a0_1, .int .i64 a0_2] 23 (0, 0))) ∧ Aside0 (Below w.heap.size w wc))
  case first =>
    have H := HC3.out
    clear HC3
    by_cases c6 : t419 = 0
    · rw [if_pos c6] at H
      have c6b0 : (t419 == 0) = true := beq_iff_eq.mpr c6
      have c6b1 : (t419 != 0) = false := bne_eq_false_iff_eq.mpr c6
      clear c6
      (first | rw [c6b0] | (simp only [i64_w, i32_w]; rw [c6b0]) | skip)
      have H' := Aside0.mk H
      clear H
      go_wp2
      go_meet
      case rel => exact ⟨_, ((t418.toList != ([45, 49, 50, 101, 52] : List UInt8))), (by first | rfl | (simp; done) | (simp [*]; done)), H', ⟨by first | omega | exact Nat.le_refl _⟩, ⟨by (with_reducible repeat (first | refine blk_drewN ?_ _ | refine blk_drew ?_ | refine blk_alloc ?_ _)); exact BK417.out⟩, ⟨by repeat (first | (with_reducible first | exact HB.out | apply below_alloc | apply pw_below_drewN | apply below_drew1 | refine below_set ?_ GE417.out) | exact HB.out)⟩⟩
    · rw [if_neg c6] at H
      have c6b0 : (t419 == 0) = false := beq_eq_false_iff_ne.mpr c6
      have c6b1 : (t419 != 0) = true := bne_iff_ne.mpr c6
      (first | rw [c6b0] | (simp only [i64_w, i32_w]; rw [c6b0]) | skip)
      have H' := Aside0.mk H
      clear H
      go_wp2
      go_meet
      case rel => exact ⟨_, (true), (by first | rfl | (simp; done) | (simp [*]; done)), H', ⟨by first | omega | exact Nat.le_refl _⟩, ⟨by (with_reducible repeat (first | refine blk_drewN ?_ _ | refine blk_drew ?_ | refine blk_alloc ?_ _)); exact BK417.out⟩, ⟨by repeat (first | (with_reducible first | exact HB.out | apply below_alloc | apply pw_below_drewN | apply below_drew1 | refine below_set ?_ GE417.out) | exact HB.out)⟩⟩
  case rest =>
    clear HC3
    try clear c2
    try clear p2
    try clear c6
    try clear c6b0
    try clear c6b1
    obtain ⟨kq, x25_2, rfl, HA, HJ2, BK417, HB⟩ := hcut
    cases kq with
    | zero => exact absurd HA.out (by simp [abacuslaw08_ScanBacks.j0])
    | succ kj2 =>
      have H := HA.out
      clear HA
      simp only [abacuslaw08_ScanBacks.j0] at H
      by_cases c7 : x25_2 = true
      · subst c7
        have H1 : (some false) = some true := by rw [if_pos rfl] at H; exact H
        clear H
        have H := H1
        clear H1
        exact absurd H (by simp)
      · replace c7 := Bool.eq_false_iff.mpr c7
        subst c7
        have H1 : ((scan_Norm.f kj2 a0_0 a0_1 a0_2).bind fun bt420 => ((scan_Text.f kj2 a0_0 a0_1 a0_2).bind fun bt425 => ((scan_Cmp.f kj2 a0_0 a0_1 a0_2 a0_0 a0_1 a0_2).bind fun bt427 => ((abacuslaw08_is.f kj2 a0_0 a0_1 a0_2).bind fun t429 => (if t429 = true then ((scan_Norm.f kj2 bt420.1 bt420.2.1 bt420.2.2.1).bind fun bt430 => ((scan_Cmp.f kj2 bt420.1 bt420.2.1 bt420.2.2.1 a0_0 a0_1 a0_2).bind fun bt435 => (if bt420.2.2.2 = 0 then (if bt425.2 = 0 then (if bt427.2 = 0 then (if bt430.2.2.2 = 0 then (if bt435.2 = 0 then (if bt427.1 = 0 then (if bt435.1 = 0 then (if (!(bt430.1 == bt420.1) || (!(bt430.2.1.toList == bt420.2.1.toList) || (!(bt430.2.2.1 == bt420.2.2.1)))) = true then (abacuslaw08_ScanBacks.j1 kj2 bt425.1 true bt420.1 bt420.2.1 bt420.2.2.1) else (abacuslaw08_ScanBacks.j1 kj2 bt425.1 (bt420.1 != a0_0) bt420.1 bt420.2.1 bt420.2.2.1)) else (abacuslaw08_ScanBacks.j1 kj2 bt425.1 true bt420.1 bt420.2.1 bt420.2.2.1)) else (abacuslaw08_ScanBacks.j1 kj2 bt425.1 true bt420.1 bt420.2.1 bt420.2.2.1)) else (abacuslaw08_ScanBacks.j1 kj2 bt425.1 true bt420.1 bt420.2.1 bt420.2.2.1)) else (abacuslaw08_ScanBacks.j1 kj2 bt425.1 true bt420.1 bt420.2.1 bt420.2.2.1)) else (abacuslaw08_ScanBacks.j1 kj2 bt425.1 true bt420.1 bt420.2.1 bt420.2.2.1)) else (abacuslaw08_ScanBacks.j1 kj2 bt425.1 true bt420.1 bt420.2.1 bt420.2.2.1)) else (abacuslaw08_ScanBacks.j1 kj2 bt425.1 true bt420.1 bt420.2.1 bt420.2.2.1)))) else (if bt420.2.2.2 = 80 then (if bt425.2 = 80 then (if bt427.2 = 80 then (if bt425.1.toList = ([] : List UInt8) then (if bt427.1 = 0 then (some (!bt420.1 && (bt420.2.1.toList == ([] : List UInt8) && (bt420.2.2.1 == 0)))) else (some false)) else (some false)) else (some false)) else (some false)) else (some false))))))) = some true := by rw [if_neg (show ¬ (false = true) by decide)] at H; exact H
        clear H
        have H := H1
        clear H1
        replace H := Option.bind_eq_some_iff.mp H
        obtain ⟨⟨t420, t421, t422, t423⟩, A80, H⟩ := H
        replace H : ((scan_Text.f kj2 a0_0 a0_1 a0_2).bind fun bt425 => ((scan_Cmp.f kj2 a0_0 a0_1 a0_2 a0_0 a0_1 a0_2).bind fun bt427 => ((abacuslaw08_is.f kj2 a0_0 a0_1 a0_2).bind fun t429 => (if t429 = true then ((scan_Norm.f kj2 t420 t421 t422).bind fun bt430 => ((scan_Cmp.f kj2 t420 t421 t422 a0_0 a0_1 a0_2).bind fun bt435 => (if t423 = 0 then (if bt425.2 = 0 then (if bt427.2 = 0 then (if bt430.2.2.2 = 0 then (if bt435.2 = 0 then (if bt427.1 = 0 then (if bt435.1 = 0 then (if (!(bt430.1 == t420) || (!(bt430.2.1.toList == t421.toList) || (!(bt430.2.2.1 == t422)))) = true then (abacuslaw08_ScanBacks.j1 kj2 bt425.1 true t420 t421 t422) else (abacuslaw08_ScanBacks.j1 kj2 bt425.1 (t420 != a0_0) t420 t421 t422)) else (abacuslaw08_ScanBacks.j1 kj2 bt425.1 true t420 t421 t422)) else (abacuslaw08_ScanBacks.j1 kj2 bt425.1 true t420 t421 t422)) else (abacuslaw08_ScanBacks.j1 kj2 bt425.1 true t420 t421 t422)) else (abacuslaw08_ScanBacks.j1 kj2 bt425.1 true t420 t421 t422)) else (abacuslaw08_ScanBacks.j1 kj2 bt425.1 true t420 t421 t422)) else (abacuslaw08_ScanBacks.j1 kj2 bt425.1 true t420 t421 t422)) else (abacuslaw08_ScanBacks.j1 kj2 bt425.1 true t420 t421 t422)))) else (if t423 = 80 then (if bt425.2 = 80 then (if bt427.2 = 80 then (if bt425.1.toList = ([] : List UInt8) then (if bt427.1 = 0 then (some (!t420 && (t421.toList == ([] : List UInt8) && (t422 == 0)))) else (some false)) else (some false)) else (some false)) else (some false)) else (some false)))))) = some true := H
        have A8 := Aside0.mk A80
        clear A80
        replace H := Option.bind_eq_some_iff.mp H
        obtain ⟨⟨t425, t426⟩, A90, H⟩ := H
        replace H : ((scan_Cmp.f kj2 a0_0 a0_1 a0_2 a0_0 a0_1 a0_2).bind fun bt427 => ((abacuslaw08_is.f kj2 a0_0 a0_1 a0_2).bind fun t429 => (if t429 = true then ((scan_Norm.f kj2 t420 t421 t422).bind fun bt430 => ((scan_Cmp.f kj2 t420 t421 t422 a0_0 a0_1 a0_2).bind fun bt435 => (if t423 = 0 then (if t426 = 0 then (if bt427.2 = 0 then (if bt430.2.2.2 = 0 then (if bt435.2 = 0 then (if bt427.1 = 0 then (if bt435.1 = 0 then (if (!(bt430.1 == t420) || (!(bt430.2.1.toList == t421.toList) || (!(bt430.2.2.1 == t422)))) = true then (abacuslaw08_ScanBacks.j1 kj2 t425 true t420 t421 t422) else (abacuslaw08_ScanBacks.j1 kj2 t425 (t420 != a0_0) t420 t421 t422)) else (abacuslaw08_ScanBacks.j1 kj2 t425 true t420 t421 t422)) else (abacuslaw08_ScanBacks.j1 kj2 t425 true t420 t421 t422)) else (abacuslaw08_ScanBacks.j1 kj2 t425 true t420 t421 t422)) else (abacuslaw08_ScanBacks.j1 kj2 t425 true t420 t421 t422)) else (abacuslaw08_ScanBacks.j1 kj2 t425 true t420 t421 t422)) else (abacuslaw08_ScanBacks.j1 kj2 t425 true t420 t421 t422)) else (abacuslaw08_ScanBacks.j1 kj2 t425 true t420 t421 t422)))) else (if t423 = 80 then (if t426 = 80 then (if bt427.2 = 80 then (if t425.toList = ([] : List UInt8) then (if bt427.1 = 0 then (some (!t420 && (t421.toList == ([] : List UInt8) && (t422 == 0)))) else (some false)) else (some false)) else (some false)) else (some false)) else (some false))))) = some true := H
        have A9 := Aside0.mk A90
        clear A90
        replace H := Option.bind_eq_some_iff.mp H
        obtain ⟨⟨t427, t428⟩, A100, H⟩ := H
        replace H : ((abacuslaw08_is.f kj2 a0_0 a0_1 a0_2).bind fun t429 => (if t429 = true then ((scan_Norm.f kj2 t420 t421 t422).bind fun bt430 => ((scan_Cmp.f kj2 t420 t421 t422 a0_0 a0_1 a0_2).bind fun bt435 => (if t423 = 0 then (if t426 = 0 then (if t428 = 0 then (if bt430.2.2.2 = 0 then (if bt435.2 = 0 then (if t427 = 0 then (if bt435.1 = 0 then (if (!(bt430.1 == t420) || (!(bt430.2.1.toList == t421.toList) || (!(bt430.2.2.1 == t422)))) = true then (abacuslaw08_ScanBacks.j1 kj2 t425 true t420 t421 t422) else (abacuslaw08_ScanBacks.j1 kj2 t425 (t420 != a0_0) t420 t421 t422)) else (abacuslaw08_ScanBacks.j1 kj2 t425 true t420 t421 t422)) else (abacuslaw08_ScanBacks.j1 kj2 t425 true t420 t421 t422)) else (abacuslaw08_ScanBacks.j1 kj2 t425 true t420 t421 t422)) else (abacuslaw08_ScanBacks.j1 kj2 t425 true t420 t421 t422)) else (abacuslaw08_ScanBacks.j1 kj2 t425 true t420 t421 t422)) else (abacuslaw08_ScanBacks.j1 kj2 t425 true t420 t421 t422)) else (abacuslaw08_ScanBacks.j1 kj2 t425 true t420 t421 t422)))) else (if t423 = 80 then (if t426 = 80 then (if t428 = 80 then (if t425.toList = ([] : List UInt8) then (if t427 = 0 then (some (!t420 && (t421.toList == ([] : List UInt8) && (t422 == 0)))) else (some false)) else (some false)) else (some false)) else (some false)) else (some false)))) = some true := H
        have A10 := Aside0.mk A100
        clear A100
        replace H := Option.bind_eq_some_iff.mp H
        obtain ⟨t429, A110, H⟩ := H
        replace H : (if t429 = true then ((scan_Norm.f kj2 t420 t421 t422).bind fun bt430 => ((scan_Cmp.f kj2 t420 t421 t422 a0_0 a0_1 a0_2).bind fun bt435 => (if t423 = 0 then (if t426 = 0 then (if t428 = 0 then (if bt430.2.2.2 = 0 then (if bt435.2 = 0 then (if t427 = 0 then (if bt435.1 = 0 then (if (!(bt430.1 == t420) || (!(bt430.2.1.toList == t421.toList) || (!(bt430.2.2.1 == t422)))) = true then (abacuslaw08_ScanBacks.j1 kj2 t425 true t420 t421 t422) else (abacuslaw08_ScanBacks.j1 kj2 t425 (t420 != a0_0) t420 t421 t422)) else (abacuslaw08_ScanBacks.j1 kj2 t425 true t420 t421 t422)) else (abacuslaw08_ScanBacks.j1 kj2 t425 true t420 t421 t422)) else (abacuslaw08_ScanBacks.j1 kj2 t425 true t420 t421 t422)) else (abacuslaw08_ScanBacks.j1 kj2 t425 true t420 t421 t422)) else (abacuslaw08_ScanBacks.j1 kj2 t425 true t420 t421 t422)) else (abacuslaw08_ScanBacks.j1 kj2 t425 true t420 t421 t422)) else (abacuslaw08_ScanBacks.j1 kj2 t425 true t420 t421 t422)))) else (if t423 = 80 then (if t426 = 80 then (if t428 = 80 then (if t425.toList = ([] : List UInt8) then (if t427 = 0 then (some (!t420 && (t421.toList == ([] : List UInt8) && (t422 == 0)))) else (some false)) else (some false)) else (some false)) else (some false)) else (some false))) = some true := H
        have A11 := Aside0.mk A110
        clear A110
        by_cases c12 : t429 = true
        · subst c12
          have H1 : ((scan_Norm.f kj2 t420 t421 t422).bind fun bt430 => ((scan_Cmp.f kj2 t420 t421 t422 a0_0 a0_1 a0_2).bind fun bt435 => (if t423 = 0 then (if t426 = 0 then (if t428 = 0 then (if bt430.2.2.2 = 0 then (if bt435.2 = 0 then (if t427 = 0 then (if bt435.1 = 0 then (if (!(bt430.1 == t420) || (!(bt430.2.1.toList == t421.toList) || (!(bt430.2.2.1 == t422)))) = true then (abacuslaw08_ScanBacks.j1 kj2 t425 true t420 t421 t422) else (abacuslaw08_ScanBacks.j1 kj2 t425 (t420 != a0_0) t420 t421 t422)) else (abacuslaw08_ScanBacks.j1 kj2 t425 true t420 t421 t422)) else (abacuslaw08_ScanBacks.j1 kj2 t425 true t420 t421 t422)) else (abacuslaw08_ScanBacks.j1 kj2 t425 true t420 t421 t422)) else (abacuslaw08_ScanBacks.j1 kj2 t425 true t420 t421 t422)) else (abacuslaw08_ScanBacks.j1 kj2 t425 true t420 t421 t422)) else (abacuslaw08_ScanBacks.j1 kj2 t425 true t420 t421 t422)) else (abacuslaw08_ScanBacks.j1 kj2 t425 true t420 t421 t422)))) = some true := by rw [if_pos rfl] at H; exact H
          clear H
          have H := H1
          clear H1
          replace H := Option.bind_eq_some_iff.mp H
          obtain ⟨⟨t430, t431, t432, t433⟩, A130, H⟩ := H
          replace H : ((scan_Cmp.f kj2 t420 t421 t422 a0_0 a0_1 a0_2).bind fun bt435 => (if t423 = 0 then (if t426 = 0 then (if t428 = 0 then (if t433 = 0 then (if bt435.2 = 0 then (if t427 = 0 then (if bt435.1 = 0 then (if (!(t430 == t420) || (!(t431.toList == t421.toList) || (!(t432 == t422)))) = true then (abacuslaw08_ScanBacks.j1 kj2 t425 true t420 t421 t422) else (abacuslaw08_ScanBacks.j1 kj2 t425 (t420 != a0_0) t420 t421 t422)) else (abacuslaw08_ScanBacks.j1 kj2 t425 true t420 t421 t422)) else (abacuslaw08_ScanBacks.j1 kj2 t425 true t420 t421 t422)) else (abacuslaw08_ScanBacks.j1 kj2 t425 true t420 t421 t422)) else (abacuslaw08_ScanBacks.j1 kj2 t425 true t420 t421 t422)) else (abacuslaw08_ScanBacks.j1 kj2 t425 true t420 t421 t422)) else (abacuslaw08_ScanBacks.j1 kj2 t425 true t420 t421 t422)) else (abacuslaw08_ScanBacks.j1 kj2 t425 true t420 t421 t422))) = some true := H
          have A13 := Aside0.mk A130
          clear A130
          replace H := Option.bind_eq_some_iff.mp H
          obtain ⟨⟨t435, t436⟩, A140, H⟩ := H
          replace H : (if t423 = 0 then (if t426 = 0 then (if t428 = 0 then (if t433 = 0 then (if t436 = 0 then (if t427 = 0 then (if t435 = 0 then (if (!(t430 == t420) || (!(t431.toList == t421.toList) || (!(t432 == t422)))) = true then (abacuslaw08_ScanBacks.j1 kj2 t425 true t420 t421 t422) else (abacuslaw08_ScanBacks.j1 kj2 t425 (t420 != a0_0) t420 t421 t422)) else (abacuslaw08_ScanBacks.j1 kj2 t425 true t420 t421 t422)) else (abacuslaw08_ScanBacks.j1 kj2 t425 true t420 t421 t422)) else (abacuslaw08_ScanBacks.j1 kj2 t425 true t420 t421 t422)) else (abacuslaw08_ScanBacks.j1 kj2 t425 true t420 t421 t422)) else (abacuslaw08_ScanBacks.j1 kj2 t425 true t420 t421 t422)) else (abacuslaw08_ScanBacks.j1 kj2 t425 true t420 t421 t422)) else (abacuslaw08_ScanBacks.j1 kj2 t425 true t420 t421 t422)) = some true := H
          have A14 := Aside0.mk A140
          clear A140
          have HC15 := Aside0.mk H
          clear H
          have hcz16_0 : wc.cell? ⟨gb417, 0, none⟩ = some (.bool a0_0) := (blk_cell BK417.out 0).trans rfl
          have hcz16_1 : wc.cell? ⟨gb417, 1, none⟩ = some (.string a0_1) := (blk_cell BK417.out 1).trans rfl
          have hcz16_2 : wc.cell? ⟨gb417, 2, none⟩ = some (.int .i64 a0_2) := (blk_cell BK417.out 2).trans rfl
          have hfz16_0 := blk_frozen BK417.out 0
          have hfz16_1 := blk_frozen BK417.out 1
          have hfz16_2 := blk_frozen BK417.out 2
          go_upto_region 11 with (first | ((with_reducible refine gate_callee (f := 13) rfl ?_); refine goesL_ (some 28) rfl rfl Tryd.func13 (by kernel_rfl) rfl #[.agg #[.bool a0_0, .string a0_1, .int .i64 a0_2]] rfl (by (try simp only [List.map_toArray, List.map_cons, List.map_nil]); first | done | rfl | (simp only [List.length_drop, List.length_take]; rfl)) ?_; (with_reducible refine (scan_Norm.calls kj2 a0_0 a0_1 a0_2 t420 t421 t422 t423 _ A8.out).mono ?_); rintro e w17 ⟨rfl, hb⟩; refine ⟨_, rfl, ?_⟩; have n0_ := Aside0.mk (blk_below (g := gb417) (o := .cells #[.bool a0_0, .string a0_1, .int .i64 a0_2] 23 (0, 0)) (by (with_reducible repeat (first | refine blk_drewN ?_ _ | refine blk_drew ?_ | refine blk_alloc ?_ _)); exact BK417.out) hb); have n1_ := Aside0.mk (below_step (by repeat (first | (with_reducible first | exact HB.out | apply below_alloc | apply pw_below_drewN | apply below_drew1 | refine below_set ?_ GE417.out) | exact HB.out)) hb); clear BK417; clear HB; have BK417 := n0_; have HB := n1_; clear n0_ n1_; (try clear hb); (try clear hb2); (try clear hk); (try clear hi)) | ((with_reducible refine gate_dst (N := 5) rfl ?_); (try (refine gate_guard (by rfl) ?_; dsimp only)); refine box_event ?hg (N := 5) ?hd (cs := #[.bool false, .string (⟨#[]⟩ : ByteArray), .int .i64 0]) (t := 23) ?hr ?_; (case hd => rfl); (case hg => rfl); (case hr => first | (go_simp; done) | (go_simp; rfl)); intro gb424 hg w18 hbox hb; have n0_ := Aside0.mk (blk_below (g := gb417) (o := .cells #[.bool a0_0, .string a0_1, .int .i64 a0_2] 23 (0, 0)) (by (with_reducible repeat (first | refine blk_drewN ?_ _ | refine blk_drew ?_ | refine blk_alloc ?_ _)); exact BK417.out) hb); have n1_ := Aside0.mk (below_step (by repeat (first | (with_reducible first | exact HB.out | apply below_alloc | apply pw_below_drewN | apply below_drew1 | refine below_set ?_ GE417.out) | exact HB.out)) hb); have n2_ := Aside0.mk (hbox); have n3_ := Aside0.mk ((by rw [hg]; exact (below_size (by repeat (first | (with_reducible first | exact HB.out | apply below_alloc | apply pw_below_drewN | apply below_drew1 | refine below_set ?_ GE417.out) | exact HB.out))) : w.heap.size ≤ gb424)); have n4_ := Aside0.mk ((by rw [hg]; exact (below_size (by repeat (first | (with_reducible first | exact HB.out | apply below_alloc | apply pw_below_drewN | apply below_drew1 | refine below_set ?_ GE417.out) | exact HB.out))) : w.heap.size ≤ gb424)); have n5_ := Aside0.mk ((by rw [hg]; exact Nat.ne_of_lt (blk_lt (g := gb417) (o := .cells #[.bool a0_0, .string a0_1, .int .i64 a0_2] 23 (0, 0)) (by (with_reducible repeat (first | refine blk_drewN ?_ _ | refine blk_drew ?_ | refine blk_alloc ?_ _)); exact BK417.out)) : gb417 ≠ gb424)); have n6_ := Aside0.mk ((by rw [hg]; exact Nat.ne_of_gt (blk_lt (g := gb417) (o := .cells #[.bool a0_0, .string a0_1, .int .i64 a0_2] 23 (0, 0)) (by (with_reducible repeat (first | refine blk_drewN ?_ _ | refine blk_drew ?_ | refine blk_alloc ?_ _)); exact BK417.out)) : gb424 ≠ gb417)); clear BK417; clear HB; have BK417 := n0_; have HB := n1_; have BK424 := n2_; have GW424 := n3_; have GE424 := n4_; have NB417_424 := n5_; have NB424_417 := n6_; clear n0_ n1_ n2_ n3_ n4_ n5_ n6_; clear hb hbox hg; have hnb19 := NB424_417.out; have hnc19 := NB417_424.out; have hcz20_0 : w18.cell? ⟨gb424, 0, none⟩ = some (.bool false) := (blk_cell BK424.out 0).trans rfl; have hcz20_1 : w18.cell? ⟨gb424, 1, none⟩ = some (.string (⟨#[]⟩ : ByteArray)) := (blk_cell BK424.out 1).trans rfl; have hcz20_2 : w18.cell? ⟨gb424, 2, none⟩ = some (.int .i64 0) := (blk_cell BK424.out 2).trans rfl; have hfz20_0 := blk_frozen BK424.out 0; have hfz20_1 := blk_frozen BK424.out 1; have hfz20_2 := blk_frozen BK424.out 2; have hcz21_0 : w18.cell? ⟨gb417, 0, none⟩ = some (.bool a0_0) := (blk_cell BK417.out 0).trans rfl; have hcz21_1 : w18.cell? ⟨gb417, 1, none⟩ = some (.string a0_1) := (blk_cell BK417.out 1).trans rfl; have hcz21_2 : w18.cell? ⟨gb417, 2, none⟩ = some (.int .i64 a0_2) := (blk_cell BK417.out 2).trans rfl; have hfz21_0 := blk_frozen BK417.out 0; have hfz21_1 := blk_frozen BK417.out 1; have hfz21_2 := blk_frozen BK417.out 2) | ((with_reducible refine gate_callee (f := 24) rfl ?_); refine goesL_ (some 33) rfl rfl Tryd.func24 (by kernel_rfl) rfl #[.agg #[.bool a0_0, .string a0_1, .int .i64 a0_2]] rfl (by (try simp only [List.map_toArray, List.map_cons, List.map_nil]); first | done | rfl | (simp only [List.length_drop, List.length_take]; rfl)) ?_; (with_reducible refine (scan_Text.calls kj2 a0_0 a0_1 a0_2 t425 t426 _ ?side1 A9.out).mono ?_); (case side1 => exact GW.below HG.out (by repeat (first | (with_reducible first | exact HB.out | apply below_alloc | apply pw_below_drewN | apply below_drew1 | refine below_set ?_ GE417.out | refine below_set ?_ GE424.out) | exact HB.out))); rintro e w22 ⟨rfl, hb⟩; refine ⟨_, rfl, ?_⟩; have n0_ := Aside0.mk (blk_below (g := gb417) (o := .cells #[.bool a0_0, .string a0_1, .int .i64 a0_2] 23 (0, 0)) (by (with_reducible repeat (first | refine blk_drewN ?_ _ | refine blk_drew ?_ | refine blk_alloc ?_ _)); refine blk_far ?_ NB417_424.out _; (with_reducible repeat (first | refine blk_drewN ?_ _ | refine blk_drew ?_ | refine blk_alloc ?_ _)); refine blk_far ?_ NB417_424.out _; (with_reducible repeat (first | refine blk_drewN ?_ _ | refine blk_drew ?_ | refine blk_alloc ?_ _)); refine blk_far ?_ NB417_424.out _; (with_reducible repeat (first | refine blk_drewN ?_ _ | refine blk_drew ?_ | refine blk_alloc ?_ _)); exact BK417.out) hb); have n1_ := Aside0.mk (blk_below (g := gb424) (o := .cells #[.bool t420, .string t421, .int .i64 t422] 23 (0, 0)) (by (with_reducible repeat (first | refine blk_drewN ?_ _ | refine blk_drew ?_ | refine blk_alloc ?_ _)); refine blk_put (cs := #[.bool t420, .string t421, .int .i64 0]) ?_ 2 _ rfl; (with_reducible repeat (first | refine blk_drewN ?_ _ | refine blk_drew ?_ | refine blk_alloc ?_ _)); refine blk_put (cs := #[.bool t420, .string (⟨#[]⟩ : ByteArray), .int .i64 0]) ?_ 1 _ rfl; (with_reducible repeat (first | refine blk_drewN ?_ _ | refine blk_drew ?_ | refine blk_alloc ?_ _)); refine blk_put (cs := #[.bool false, .string (⟨#[]⟩ : ByteArray), .int .i64 0]) ?_ 0 _ rfl; (with_reducible repeat (first | refine blk_drewN ?_ _ | refine blk_drew ?_ | refine blk_alloc ?_ _)); exact BK424.out) hb); have n2_ := Aside0.mk (below_step (by repeat (first | (with_reducible first | exact HB.out | apply below_alloc | apply pw_below_drewN | apply below_drew1 | refine below_set ?_ GE417.out | refine below_set ?_ GE424.out) | exact HB.out)) hb); clear BK417; clear BK424; clear HB; have BK417 := n0_; have BK424 := n1_; have HB := n2_; clear n0_ n1_ n2_; (try clear hb); (try clear hb2); (try clear hk); (try clear hi); have hcz23_0 : w22.cell? ⟨gb417, 0, none⟩ = some (.bool a0_0) := (blk_cell BK417.out 0).trans rfl; have hcz23_1 : w22.cell? ⟨gb417, 1, none⟩ = some (.string a0_1) := (blk_cell BK417.out 1).trans rfl; have hcz23_2 : w22.cell? ⟨gb417, 2, none⟩ = some (.int .i64 a0_2) := (blk_cell BK417.out 2).trans rfl; have hfz23_0 := blk_frozen BK417.out 0; have hfz23_1 := blk_frozen BK417.out 1; have hfz23_2 := blk_frozen BK417.out 2) | ((with_reducible refine gate_callee (f := 9) rfl ?_); refine goesL_ (some 39) rfl rfl Tryd.func9 (by kernel_rfl) rfl #[.agg #[.bool a0_0, .string a0_1, .int .i64 a0_2], .agg #[.bool a0_0, .string a0_1, .int .i64 a0_2]] rfl (by (try simp only [List.map_toArray, List.map_cons, List.map_nil]); first | done | rfl | (simp only [List.length_drop, List.length_take]; rfl)) ?_; (with_reducible refine (scan_Cmp.calls kj2 a0_0 a0_1 a0_2 a0_0 a0_1 a0_2 t427 t428 _ A10.out).mono ?_); rintro e w24 ⟨rfl, hb⟩; refine ⟨_, rfl, ?_⟩; have n0_ := Aside0.mk (blk_below (g := gb417) (o := .cells #[.bool a0_0, .string a0_1, .int .i64 a0_2] 23 (0, 0)) (by (with_reducible repeat (first | refine blk_drewN ?_ _ | refine blk_drew ?_ | refine blk_alloc ?_ _)); exact BK417.out) hb); have n1_ := Aside0.mk (blk_below (g := gb424) (o := .cells #[.bool t420, .string t421, .int .i64 t422] 23 (0, 0)) (by (with_reducible repeat (first | refine blk_drewN ?_ _ | refine blk_drew ?_ | refine blk_alloc ?_ _)); exact BK424.out) hb); have n2_ := Aside0.mk (below_step (by repeat (first | (with_reducible first | exact HB.out | apply below_alloc | apply pw_below_drewN | apply below_drew1 | refine below_set ?_ GE417.out | refine below_set ?_ GE424.out) | exact HB.out)) hb); clear BK417; clear BK424; clear HB; have BK417 := n0_; have BK424 := n1_; have HB := n2_; clear n0_ n1_ n2_; (try clear hb); (try clear hb2); (try clear hk); (try clear hi); have hcz25_0 : w24.cell? ⟨gb417, 0, none⟩ = some (.bool a0_0) := (blk_cell BK417.out 0).trans rfl; have hcz25_1 : w24.cell? ⟨gb417, 1, none⟩ = some (.string a0_1) := (blk_cell BK417.out 1).trans rfl; have hcz25_2 : w24.cell? ⟨gb417, 2, none⟩ = some (.int .i64 a0_2) := (blk_cell BK417.out 2).trans rfl; have hfz25_0 := blk_frozen BK417.out 0; have hfz25_1 := blk_frozen BK417.out 1; have hfz25_2 := blk_frozen BK417.out 2) | ((with_reducible refine gate_callee (f := 10) rfl ?_); refine goesL_ (some 43) rfl rfl Tryd.func10 (by kernel_rfl) rfl #[.agg #[.bool a0_0, .string a0_1, .int .i64 a0_2]] rfl (by (try simp only [List.map_toArray, List.map_cons, List.map_nil]); first | done | rfl | (simp only [List.length_drop, List.length_take]; rfl)) ?_; (with_reducible refine (abacuslaw08_is.calls kj2 a0_0 a0_1 a0_2 true _ A11.out).mono ?_); rintro e w26 ⟨rfl, hb⟩; refine ⟨_, rfl, ?_⟩; have n0_ := Aside0.mk (blk_below (g := gb417) (o := .cells #[.bool a0_0, .string a0_1, .int .i64 a0_2] 23 (0, 0)) (by (with_reducible repeat (first | refine blk_drewN ?_ _ | refine blk_drew ?_ | refine blk_alloc ?_ _)); exact BK417.out) hb); have n1_ := Aside0.mk (blk_below (g := gb424) (o := .cells #[.bool t420, .string t421, .int .i64 t422] 23 (0, 0)) (by (with_reducible repeat (first | refine blk_drewN ?_ _ | refine blk_drew ?_ | refine blk_alloc ?_ _)); exact BK424.out) hb); have n2_ := Aside0.mk (below_step (by repeat (first | (with_reducible first | exact HB.out | apply below_alloc | apply pw_below_drewN | apply below_drew1 | refine below_set ?_ GE417.out | refine below_set ?_ GE424.out) | exact HB.out)) hb); clear BK417; clear BK424; clear HB; have BK417 := n0_; have BK424 := n1_; have HB := n2_; clear n0_ n1_ n2_; (try clear hb); (try clear hb2); (try clear hk); (try clear hi); have hcz27_0 : w26.cell? ⟨gb424, 0, none⟩ = some (.bool t420) := (blk_cell BK424.out 0).trans rfl; have hcz27_1 : w26.cell? ⟨gb424, 1, none⟩ = some (.string t421) := (blk_cell BK424.out 1).trans rfl; have hcz27_2 : w26.cell? ⟨gb424, 2, none⟩ = some (.int .i64 t422) := (blk_cell BK424.out 2).trans rfl; have hfz27_0 := blk_frozen BK424.out 0; have hfz27_1 := blk_frozen BK424.out 1; have hfz27_2 := blk_frozen BK424.out 2) | ((with_reducible refine gate_callee (f := 13) rfl ?_); refine goesL_ (some 70) rfl rfl Tryd.func13 (by kernel_rfl) rfl #[.agg #[.bool t420, .string t421, .int .i64 t422]] rfl (by (try simp only [List.map_toArray, List.map_cons, List.map_nil]); first | done | rfl | (simp only [List.length_drop, List.length_take]; rfl)) ?_; (with_reducible refine (scan_Norm.calls kj2 t420 t421 t422 t430 t431 t432 t433 _ A13.out).mono ?_); rintro e w28 ⟨rfl, hb⟩; refine ⟨_, rfl, ?_⟩; have n0_ := Aside0.mk (blk_below (g := gb417) (o := .cells #[.bool a0_0, .string a0_1, .int .i64 a0_2] 23 (0, 0)) (by (with_reducible repeat (first | refine blk_drewN ?_ _ | refine blk_drew ?_ | refine blk_alloc ?_ _)); exact BK417.out) hb); have n1_ := Aside0.mk (blk_below (g := gb424) (o := .cells #[.bool t420, .string t421, .int .i64 t422] 23 (0, 0)) (by (with_reducible repeat (first | refine blk_drewN ?_ _ | refine blk_drew ?_ | refine blk_alloc ?_ _)); exact BK424.out) hb); have n2_ := Aside0.mk (below_step (by repeat (first | (with_reducible first | exact HB.out | apply below_alloc | apply pw_below_drewN | apply below_drew1 | refine below_set ?_ GE417.out | refine below_set ?_ GE424.out) | exact HB.out)) hb); clear BK417; clear BK424; clear HB; have BK417 := n0_; have BK424 := n1_; have HB := n2_; clear n0_ n1_ n2_; (try clear hb); (try clear hb2); (try clear hk); (try clear hi)) | ((with_reducible refine gate_dst (N := 9) rfl ?_); (try (refine gate_guard (by rfl) ?_; dsimp only)); refine box_event ?hg (N := 9) ?hd (cs := #[.bool false, .string (⟨#[]⟩ : ByteArray), .int .i64 0]) (t := 23) ?hr ?_; (case hd => rfl); (case hg => rfl); (case hr => first | (go_simp; done) | (go_simp; rfl)); intro gb434 hg w29 hbox hb; have n0_ := Aside0.mk (blk_below (g := gb417) (o := .cells #[.bool a0_0, .string a0_1, .int .i64 a0_2] 23 (0, 0)) (by (with_reducible repeat (first | refine blk_drewN ?_ _ | refine blk_drew ?_ | refine blk_alloc ?_ _)); exact BK417.out) hb); have n1_ := Aside0.mk (blk_below (g := gb424) (o := .cells #[.bool t420, .string t421, .int .i64 t422] 23 (0, 0)) (by (with_reducible repeat (first | refine blk_drewN ?_ _ | refine blk_drew ?_ | refine blk_alloc ?_ _)); exact BK424.out) hb); have n2_ := Aside0.mk (below_step (by repeat (first | (with_reducible first | exact HB.out | apply below_alloc | apply pw_below_drewN | apply below_drew1 | refine below_set ?_ GE417.out | refine below_set ?_ GE424.out) | exact HB.out)) hb); have n3_ := Aside0.mk (hbox); have n4_ := Aside0.mk ((by rw [hg]; exact (below_size (by repeat (first | (with_reducible first | exact HB.out | apply below_alloc | apply pw_below_drewN | apply below_drew1 | refine below_set ?_ GE417.out | refine below_set ?_ GE424.out) | exact HB.out))) : w.heap.size ≤ gb434)); have n5_ := Aside0.mk ((by rw [hg]; exact (below_size (by repeat (first | (with_reducible first | exact HB.out | apply below_alloc | apply pw_below_drewN | apply below_drew1 | refine below_set ?_ GE417.out | refine below_set ?_ GE424.out) | exact HB.out))) : w.heap.size ≤ gb434)); have n6_ := Aside0.mk ((by rw [hg]; exact Nat.ne_of_lt (blk_lt (g := gb417) (o := .cells #[.bool a0_0, .string a0_1, .int .i64 a0_2] 23 (0, 0)) (by (with_reducible repeat (first | refine blk_drewN ?_ _ | refine blk_drew ?_ | refine blk_alloc ?_ _)); exact BK417.out)) : gb417 ≠ gb434)); have n7_ := Aside0.mk ((by rw [hg]; exact Nat.ne_of_gt (blk_lt (g := gb417) (o := .cells #[.bool a0_0, .string a0_1, .int .i64 a0_2] 23 (0, 0)) (by (with_reducible repeat (first | refine blk_drewN ?_ _ | refine blk_drew ?_ | refine blk_alloc ?_ _)); exact BK417.out)) : gb434 ≠ gb417)); have n8_ := Aside0.mk ((by rw [hg]; exact Nat.ne_of_lt (blk_lt (g := gb424) (o := .cells #[.bool t420, .string t421, .int .i64 t422] 23 (0, 0)) (by (with_reducible repeat (first | refine blk_drewN ?_ _ | refine blk_drew ?_ | refine blk_alloc ?_ _)); exact BK424.out)) : gb424 ≠ gb434)); have n9_ := Aside0.mk ((by rw [hg]; exact Nat.ne_of_gt (blk_lt (g := gb424) (o := .cells #[.bool t420, .string t421, .int .i64 t422] 23 (0, 0)) (by (with_reducible repeat (first | refine blk_drewN ?_ _ | refine blk_drew ?_ | refine blk_alloc ?_ _)); exact BK424.out)) : gb434 ≠ gb424)); clear BK417; clear BK424; clear HB; have BK417 := n0_; have BK424 := n1_; have HB := n2_; have BK434 := n3_; have GW434 := n4_; have GE434 := n5_; have NB417_434 := n6_; have NB434_417 := n7_; have NB424_434 := n8_; have NB434_424 := n9_; clear n0_ n1_ n2_ n3_ n4_ n5_ n6_ n7_ n8_ n9_; clear hb hbox hg; have hnb30 := NB434_417.out; have hnc30 := NB417_434.out; have hnb31 := NB434_424.out; have hnc31 := NB424_434.out; have hcz32_0 : w29.cell? ⟨gb434, 0, none⟩ = some (.bool false) := (blk_cell BK434.out 0).trans rfl; have hcz32_1 : w29.cell? ⟨gb434, 1, none⟩ = some (.string (⟨#[]⟩ : ByteArray)) := (blk_cell BK434.out 1).trans rfl; have hcz32_2 : w29.cell? ⟨gb434, 2, none⟩ = some (.int .i64 0) := (blk_cell BK434.out 2).trans rfl; have hfz32_0 := blk_frozen BK434.out 0; have hfz32_1 := blk_frozen BK434.out 1; have hfz32_2 := blk_frozen BK434.out 2; have hcz33_0 : w29.cell? ⟨gb424, 0, none⟩ = some (.bool t420) := (blk_cell BK424.out 0).trans rfl; have hcz33_1 : w29.cell? ⟨gb424, 1, none⟩ = some (.string t421) := (blk_cell BK424.out 1).trans rfl; have hcz33_2 : w29.cell? ⟨gb424, 2, none⟩ = some (.int .i64 t422) := (blk_cell BK424.out 2).trans rfl; have hfz33_0 := blk_frozen BK424.out 0; have hfz33_1 := blk_frozen BK424.out 1; have hfz33_2 := blk_frozen BK424.out 2; have hcz34_0 : w29.cell? ⟨gb417, 0, none⟩ = some (.bool a0_0) := (blk_cell BK417.out 0).trans rfl; have hcz34_1 : w29.cell? ⟨gb417, 1, none⟩ = some (.string a0_1) := (blk_cell BK417.out 1).trans rfl; have hcz34_2 : w29.cell? ⟨gb417, 2, none⟩ = some (.int .i64 a0_2) := (blk_cell BK417.out 2).trans rfl; have hfz34_0 := blk_frozen BK417.out 0; have hfz34_1 := blk_frozen BK417.out 1; have hfz34_2 := blk_frozen BK417.out 2) | ((with_reducible refine gate_callee (f := 9) rfl ?_); refine goesL_ (some 76) rfl rfl Tryd.func9 (by kernel_rfl) rfl #[.agg #[.bool t420, .string t421, .int .i64 t422], .agg #[.bool a0_0, .string a0_1, .int .i64 a0_2]] rfl (by (try simp only [List.map_toArray, List.map_cons, List.map_nil]); first | done | rfl | (simp only [List.length_drop, List.length_take]; rfl)) ?_; (with_reducible refine (scan_Cmp.calls kj2 t420 t421 t422 a0_0 a0_1 a0_2 t435 t436 _ A14.out).mono ?_); rintro e w35 ⟨rfl, hb⟩; refine ⟨_, rfl, ?_⟩; have n0_ := Aside0.mk (blk_below (g := gb417) (o := .cells #[.bool a0_0, .string a0_1, .int .i64 a0_2] 23 (0, 0)) (by (with_reducible repeat (first | refine blk_drewN ?_ _ | refine blk_drew ?_ | refine blk_alloc ?_ _)); refine blk_far ?_ NB417_434.out _; (with_reducible repeat (first | refine blk_drewN ?_ _ | refine blk_drew ?_ | refine blk_alloc ?_ _)); refine blk_far ?_ NB417_434.out _; (with_reducible repeat (first | refine blk_drewN ?_ _ | refine blk_drew ?_ | refine blk_alloc ?_ _)); refine blk_far ?_ NB417_434.out _; (with_reducible repeat (first | refine blk_drewN ?_ _ | refine blk_drew ?_ | refine blk_alloc ?_ _)); exact BK417.out) hb); have n1_ := Aside0.mk (blk_below (g := gb424) (o := .cells #[.bool t420, .string t421, .int .i64 t422] 23 (0, 0)) (by (with_reducible repeat (first | refine blk_drewN ?_ _ | refine blk_drew ?_ | refine blk_alloc ?_ _)); refine blk_far ?_ NB424_434.out _; (with_reducible repeat (first | refine blk_drewN ?_ _ | refine blk_drew ?_ | refine blk_alloc ?_ _)); refine blk_far ?_ NB424_434.out _; (with_reducible repeat (first | refine blk_drewN ?_ _ | refine blk_drew ?_ | refine blk_alloc ?_ _)); refine blk_far ?_ NB424_434.out _; (with_reducible repeat (first | refine blk_drewN ?_ _ | refine blk_drew ?_ | refine blk_alloc ?_ _)); exact BK424.out) hb); have n2_ := Aside0.mk (blk_below (g := gb434) (o := .cells #[.bool t430, .string t431, .int .i64 t432] 23 (0, 0)) (by (with_reducible repeat (first | refine blk_drewN ?_ _ | refine blk_drew ?_ | refine blk_alloc ?_ _)); refine blk_put (cs := #[.bool t430, .string t431, .int .i64 0]) ?_ 2 _ rfl; (with_reducible repeat (first | refine blk_drewN ?_ _ | refine blk_drew ?_ | refine blk_alloc ?_ _)); refine blk_put (cs := #[.bool t430, .string (⟨#[]⟩ : ByteArray), .int .i64 0]) ?_ 1 _ rfl; (with_reducible repeat (first | refine blk_drewN ?_ _ | refine blk_drew ?_ | refine blk_alloc ?_ _)); refine blk_put (cs := #[.bool false, .string (⟨#[]⟩ : ByteArray), .int .i64 0]) ?_ 0 _ rfl; (with_reducible repeat (first | refine blk_drewN ?_ _ | refine blk_drew ?_ | refine blk_alloc ?_ _)); exact BK434.out) hb); have n3_ := Aside0.mk (below_step (by repeat (first | (with_reducible first | exact HB.out | apply below_alloc | apply pw_below_drewN | apply below_drew1 | refine below_set ?_ GE417.out | refine below_set ?_ GE424.out | refine below_set ?_ GE434.out) | exact HB.out)) hb); clear BK417; clear BK424; clear BK434; clear HB; have BK417 := n0_; have BK424 := n1_; have BK434 := n2_; have HB := n3_; clear n0_ n1_ n2_ n3_; (try clear hb); (try clear hb2); (try clear hk); (try clear hi)))
          (try simp only [Act.put, List.setIfInBounds_toArray, List.set_cons_zero, List.set_cons_succ])
          go_cut [116] (fun v116 wc => ∃ (kq : Nat) (x116_14 : Bool), v116 = .bool x116_14 ∧ Aside0 (abacuslaw08_ScanBacks.j1 kq t425 x116_14 t420 t421 t422 = some true) ∧ Aside0 (kq ≤ kj2) ∧ Aside0 (wc.heap[gb417]? = some (.cells #[.bool a0_0, .string a0_1, .int .i64 a0_2] 23 (0, 0))) ∧ Aside0 (wc.heap[gb424]? = some (.cells #[.bool t420, .string t421, .int .i64 t422] 23 (0, 0))) ∧ Aside0 (wc.heap[gb434]? = some (.cells #[.bool t430, .string t431, .int .i64 t432] 23 (0, 0))) ∧ Aside0 (Below w.heap.size w wc))
          case first =>
            have H := HC15.out
            clear HC15
            by_cases c36 : t423 = 0
            · rw [if_pos c36] at H
              have c36b0 : (t423 == 0) = true := beq_iff_eq.mpr c36
              have c36b1 : (t423 != 0) = false := bne_eq_false_iff_eq.mpr c36
              clear c36
              (first | rw [c36b0] | (simp only [i64_w, i32_w]; rw [c36b0]) | skip)
              by_cases c37 : t426 = 0
              · rw [if_pos c37] at H
                have c37b0 : (t426 == 0) = true := beq_iff_eq.mpr c37
                have c37b1 : (t426 != 0) = false := bne_eq_false_iff_eq.mpr c37
                clear c37
                by_cases c38 : t428 = 0
                · rw [if_pos c38] at H
                  have c38b0 : (t428 == 0) = true := beq_iff_eq.mpr c38
                  have c38b1 : (t428 != 0) = false := bne_eq_false_iff_eq.mpr c38
                  clear c38
                  by_cases c39 : t433 = 0
                  · rw [if_pos c39] at H
                    have c39b0 : (t433 == 0) = true := beq_iff_eq.mpr c39
                    have c39b1 : (t433 != 0) = false := bne_eq_false_iff_eq.mpr c39
                    clear c39
                    by_cases c40 : t436 = 0
                    · rw [if_pos c40] at H
                      have c40b0 : (t436 == 0) = true := beq_iff_eq.mpr c40
                      have c40b1 : (t436 != 0) = false := bne_eq_false_iff_eq.mpr c40
                      clear c40
                      by_cases c41 : t427 = 0
                      · rw [if_pos c41] at H
                        have c41b0 : (t427 == 0) = true := beq_iff_eq.mpr c41
                        have c41b1 : (t427 != 0) = false := bne_eq_false_iff_eq.mpr c41
                        clear c41
                        by_cases c42 : t435 = 0
                        · rw [if_pos c42] at H
                          have c42b0 : (t435 == 0) = true := beq_iff_eq.mpr c42
                          have c42b1 : (t435 != 0) = false := bne_eq_false_iff_eq.mpr c42
                          clear c42
                          by_cases c43 : (!(t430 == t420) || (!(t431.toList == t421.toList) || (!(t432 == t422)))) = true
                          · rw [if_pos c43] at H
                            have c43b0 : (!(t430 == t420) || (!(t431.toList == t421.toList) || (!(t432 == t422)))) = true := c43
                            clear c43
                            have H' := Aside0.mk H
                            clear H
                            have hnb44 := NB434_417.out
                            have hnc44 := NB417_434.out
                            have hnb45 := NB434_424.out
                            have hnc45 := NB424_434.out
                            have hcz46_0 : w35.cell? ⟨gb434, 0, none⟩ = some (.bool t430) := (blk_cell BK434.out 0).trans rfl
                            have hcz46_1 : w35.cell? ⟨gb434, 1, none⟩ = some (.string t431) := (blk_cell BK434.out 1).trans rfl
                            have hcz46_2 : w35.cell? ⟨gb434, 2, none⟩ = some (.int .i64 t432) := (blk_cell BK434.out 2).trans rfl
                            have hfz46_0 := blk_frozen BK434.out 0
                            have hfz46_1 := blk_frozen BK434.out 1
                            have hfz46_2 := blk_frozen BK434.out 2
                            have hnb47 := NB424_417.out
                            have hnc47 := NB417_424.out
                            have hcz48_0 : w35.cell? ⟨gb424, 0, none⟩ = some (.bool t420) := (blk_cell BK424.out 0).trans rfl
                            have hcz48_1 : w35.cell? ⟨gb424, 1, none⟩ = some (.string t421) := (blk_cell BK424.out 1).trans rfl
                            have hcz48_2 : w35.cell? ⟨gb424, 2, none⟩ = some (.int .i64 t422) := (blk_cell BK424.out 2).trans rfl
                            have hfz48_0 := blk_frozen BK424.out 0
                            have hfz48_1 := blk_frozen BK424.out 1
                            have hfz48_2 := blk_frozen BK424.out 2
                            go_wp2
                            go_meet
                            case rel => exact ⟨_, (true), (by first | rfl | (simp; done) | (simp [*]; done)), H', ⟨by have := HJ2.out; first | omega | exact Nat.le_refl _⟩, ⟨by (with_reducible repeat (first | refine blk_drewN ?_ _ | refine blk_drew ?_ | refine blk_alloc ?_ _)); exact BK417.out⟩, ⟨by (with_reducible repeat (first | refine blk_drewN ?_ _ | refine blk_drew ?_ | refine blk_alloc ?_ _)); exact BK424.out⟩, ⟨by (with_reducible repeat (first | refine blk_drewN ?_ _ | refine blk_drew ?_ | refine blk_alloc ?_ _)); exact BK434.out⟩, ⟨by repeat (first | (with_reducible first | exact HB.out | apply below_alloc | apply pw_below_drewN | apply below_drew1 | refine below_set ?_ GE417.out | refine below_set ?_ GE424.out | refine below_set ?_ GE434.out) | exact HB.out)⟩⟩
                          · rw [if_neg c43] at H
                            have c43b0 : (!(t430 == t420) || (!(t431.toList == t421.toList) || (!(t432 == t422)))) = false := by simpa using c43
                            clear c43
                            have H' := Aside0.mk H
                            clear H
                            have hnb49 := NB434_417.out
                            have hnc49 := NB417_434.out
                            have hnb50 := NB434_424.out
                            have hnc50 := NB424_434.out
                            have hcz51_0 : w35.cell? ⟨gb434, 0, none⟩ = some (.bool t430) := (blk_cell BK434.out 0).trans rfl
                            have hcz51_1 : w35.cell? ⟨gb434, 1, none⟩ = some (.string t431) := (blk_cell BK434.out 1).trans rfl
                            have hcz51_2 : w35.cell? ⟨gb434, 2, none⟩ = some (.int .i64 t432) := (blk_cell BK434.out 2).trans rfl
                            have hfz51_0 := blk_frozen BK434.out 0
                            have hfz51_1 := blk_frozen BK434.out 1
                            have hfz51_2 := blk_frozen BK434.out 2
                            have hnb52 := NB424_417.out
                            have hnc52 := NB417_424.out
                            have hcz53_0 : w35.cell? ⟨gb424, 0, none⟩ = some (.bool t420) := (blk_cell BK424.out 0).trans rfl
                            have hcz53_1 : w35.cell? ⟨gb424, 1, none⟩ = some (.string t421) := (blk_cell BK424.out 1).trans rfl
                            have hcz53_2 : w35.cell? ⟨gb424, 2, none⟩ = some (.int .i64 t422) := (blk_cell BK424.out 2).trans rfl
                            have hfz53_0 := blk_frozen BK424.out 0
                            have hfz53_1 := blk_frozen BK424.out 1
                            have hfz53_2 := blk_frozen BK424.out 2
                            have hcz54_0 : w35.cell? ⟨gb417, 0, none⟩ = some (.bool a0_0) := (blk_cell BK417.out 0).trans rfl
                            have hcz54_1 : w35.cell? ⟨gb417, 1, none⟩ = some (.string a0_1) := (blk_cell BK417.out 1).trans rfl
                            have hcz54_2 : w35.cell? ⟨gb417, 2, none⟩ = some (.int .i64 a0_2) := (blk_cell BK417.out 2).trans rfl
                            have hfz54_0 := blk_frozen BK417.out 0
                            have hfz54_1 := blk_frozen BK417.out 1
                            have hfz54_2 := blk_frozen BK417.out 2
                            go_wp2
                            go_meet
                            case rel => exact ⟨_, ((t420 != a0_0)), (by first | rfl | (simp; done) | (simp [*]; done)), H', ⟨by have := HJ2.out; first | omega | exact Nat.le_refl _⟩, ⟨by (with_reducible repeat (first | refine blk_drewN ?_ _ | refine blk_drew ?_ | refine blk_alloc ?_ _)); exact BK417.out⟩, ⟨by (with_reducible repeat (first | refine blk_drewN ?_ _ | refine blk_drew ?_ | refine blk_alloc ?_ _)); exact BK424.out⟩, ⟨by (with_reducible repeat (first | refine blk_drewN ?_ _ | refine blk_drew ?_ | refine blk_alloc ?_ _)); exact BK434.out⟩, ⟨by repeat (first | (with_reducible first | exact HB.out | apply below_alloc | apply pw_below_drewN | apply below_drew1 | refine below_set ?_ GE417.out | refine below_set ?_ GE424.out | refine below_set ?_ GE434.out) | exact HB.out)⟩⟩
                        · rw [if_neg c42] at H
                          have c42b0 : (t435 == 0) = false := beq_eq_false_iff_ne.mpr c42
                          have c42b1 : (t435 != 0) = true := bne_iff_ne.mpr c42
                          have H' := Aside0.mk H
                          clear H
                          go_wp2
                          go_meet
                          case rel => exact ⟨_, (true), (by first | rfl | (simp; done) | (simp [*]; done)), H', ⟨by have := HJ2.out; first | omega | exact Nat.le_refl _⟩, ⟨by (with_reducible repeat (first | refine blk_drewN ?_ _ | refine blk_drew ?_ | refine blk_alloc ?_ _)); exact BK417.out⟩, ⟨by (with_reducible repeat (first | refine blk_drewN ?_ _ | refine blk_drew ?_ | refine blk_alloc ?_ _)); exact BK424.out⟩, ⟨by (with_reducible repeat (first | refine blk_drewN ?_ _ | refine blk_drew ?_ | refine blk_alloc ?_ _)); exact BK434.out⟩, ⟨by repeat (first | (with_reducible first | exact HB.out | apply below_alloc | apply pw_below_drewN | apply below_drew1 | refine below_set ?_ GE417.out | refine below_set ?_ GE424.out | refine below_set ?_ GE434.out) | exact HB.out)⟩⟩
                      · rw [if_neg c41] at H
                        have c41b0 : (t427 == 0) = false := beq_eq_false_iff_ne.mpr c41
                        have c41b1 : (t427 != 0) = true := bne_iff_ne.mpr c41
                        have H' := Aside0.mk H
                        clear H
                        go_wp2
                        go_meet
                        case rel => exact ⟨_, (true), (by first | rfl | (simp; done) | (simp [*]; done)), H', ⟨by have := HJ2.out; first | omega | exact Nat.le_refl _⟩, ⟨by (with_reducible repeat (first | refine blk_drewN ?_ _ | refine blk_drew ?_ | refine blk_alloc ?_ _)); exact BK417.out⟩, ⟨by (with_reducible repeat (first | refine blk_drewN ?_ _ | refine blk_drew ?_ | refine blk_alloc ?_ _)); exact BK424.out⟩, ⟨by (with_reducible repeat (first | refine blk_drewN ?_ _ | refine blk_drew ?_ | refine blk_alloc ?_ _)); exact BK434.out⟩, ⟨by repeat (first | (with_reducible first | exact HB.out | apply below_alloc | apply pw_below_drewN | apply below_drew1 | refine below_set ?_ GE417.out | refine below_set ?_ GE424.out | refine below_set ?_ GE434.out) | exact HB.out)⟩⟩
                    · rw [if_neg c40] at H
                      have c40b0 : (t436 == 0) = false := beq_eq_false_iff_ne.mpr c40
                      have c40b1 : (t436 != 0) = true := bne_iff_ne.mpr c40
                      have H' := Aside0.mk H
                      clear H
                      go_wp2
                      go_meet
                      case rel => exact ⟨_, (true), (by first | rfl | (simp; done) | (simp [*]; done)), H', ⟨by have := HJ2.out; first | omega | exact Nat.le_refl _⟩, ⟨by (with_reducible repeat (first | refine blk_drewN ?_ _ | refine blk_drew ?_ | refine blk_alloc ?_ _)); exact BK417.out⟩, ⟨by (with_reducible repeat (first | refine blk_drewN ?_ _ | refine blk_drew ?_ | refine blk_alloc ?_ _)); exact BK424.out⟩, ⟨by (with_reducible repeat (first | refine blk_drewN ?_ _ | refine blk_drew ?_ | refine blk_alloc ?_ _)); exact BK434.out⟩, ⟨by repeat (first | (with_reducible first | exact HB.out | apply below_alloc | apply pw_below_drewN | apply below_drew1 | refine below_set ?_ GE417.out | refine below_set ?_ GE424.out | refine below_set ?_ GE434.out) | exact HB.out)⟩⟩
                  · rw [if_neg c39] at H
                    have c39b0 : (t433 == 0) = false := beq_eq_false_iff_ne.mpr c39
                    have c39b1 : (t433 != 0) = true := bne_iff_ne.mpr c39
                    have H' := Aside0.mk H
                    clear H
                    go_wp2
                    go_meet
                    case rel => exact ⟨_, (true), (by first | rfl | (simp; done) | (simp [*]; done)), H', ⟨by have := HJ2.out; first | omega | exact Nat.le_refl _⟩, ⟨by (with_reducible repeat (first | refine blk_drewN ?_ _ | refine blk_drew ?_ | refine blk_alloc ?_ _)); exact BK417.out⟩, ⟨by (with_reducible repeat (first | refine blk_drewN ?_ _ | refine blk_drew ?_ | refine blk_alloc ?_ _)); exact BK424.out⟩, ⟨by (with_reducible repeat (first | refine blk_drewN ?_ _ | refine blk_drew ?_ | refine blk_alloc ?_ _)); exact BK434.out⟩, ⟨by repeat (first | (with_reducible first | exact HB.out | apply below_alloc | apply pw_below_drewN | apply below_drew1 | refine below_set ?_ GE417.out | refine below_set ?_ GE424.out | refine below_set ?_ GE434.out) | exact HB.out)⟩⟩
                · rw [if_neg c38] at H
                  have c38b0 : (t428 == 0) = false := beq_eq_false_iff_ne.mpr c38
                  have c38b1 : (t428 != 0) = true := bne_iff_ne.mpr c38
                  have H' := Aside0.mk H
                  clear H
                  go_wp2
                  go_meet
                  case rel => exact ⟨_, (true), (by first | rfl | (simp; done) | (simp [*]; done)), H', ⟨by have := HJ2.out; first | omega | exact Nat.le_refl _⟩, ⟨by (with_reducible repeat (first | refine blk_drewN ?_ _ | refine blk_drew ?_ | refine blk_alloc ?_ _)); exact BK417.out⟩, ⟨by (with_reducible repeat (first | refine blk_drewN ?_ _ | refine blk_drew ?_ | refine blk_alloc ?_ _)); exact BK424.out⟩, ⟨by (with_reducible repeat (first | refine blk_drewN ?_ _ | refine blk_drew ?_ | refine blk_alloc ?_ _)); exact BK434.out⟩, ⟨by repeat (first | (with_reducible first | exact HB.out | apply below_alloc | apply pw_below_drewN | apply below_drew1 | refine below_set ?_ GE417.out | refine below_set ?_ GE424.out | refine below_set ?_ GE434.out) | exact HB.out)⟩⟩
              · rw [if_neg c37] at H
                have c37b0 : (t426 == 0) = false := beq_eq_false_iff_ne.mpr c37
                have c37b1 : (t426 != 0) = true := bne_iff_ne.mpr c37
                have H' := Aside0.mk H
                clear H
                go_wp2
                go_meet
                case rel => exact ⟨_, (true), (by first | rfl | (simp; done) | (simp [*]; done)), H', ⟨by have := HJ2.out; first | omega | exact Nat.le_refl _⟩, ⟨by (with_reducible repeat (first | refine blk_drewN ?_ _ | refine blk_drew ?_ | refine blk_alloc ?_ _)); exact BK417.out⟩, ⟨by (with_reducible repeat (first | refine blk_drewN ?_ _ | refine blk_drew ?_ | refine blk_alloc ?_ _)); exact BK424.out⟩, ⟨by (with_reducible repeat (first | refine blk_drewN ?_ _ | refine blk_drew ?_ | refine blk_alloc ?_ _)); exact BK434.out⟩, ⟨by repeat (first | (with_reducible first | exact HB.out | apply below_alloc | apply pw_below_drewN | apply below_drew1 | refine below_set ?_ GE417.out | refine below_set ?_ GE424.out | refine below_set ?_ GE434.out) | exact HB.out)⟩⟩
            · rw [if_neg c36] at H
              have c36b0 : (t423 == 0) = false := beq_eq_false_iff_ne.mpr c36
              have c36b1 : (t423 != 0) = true := bne_iff_ne.mpr c36
              (first | rw [c36b0] | (simp only [i64_w, i32_w]; rw [c36b0]) | skip)
              have H' := Aside0.mk H
              clear H
              go_wp2
              go_meet
              case rel => exact ⟨_, (true), (by first | rfl | (simp; done) | (simp [*]; done)), H', ⟨by have := HJ2.out; first | omega | exact Nat.le_refl _⟩, ⟨by (with_reducible repeat (first | refine blk_drewN ?_ _ | refine blk_drew ?_ | refine blk_alloc ?_ _)); exact BK417.out⟩, ⟨by (with_reducible repeat (first | refine blk_drewN ?_ _ | refine blk_drew ?_ | refine blk_alloc ?_ _)); exact BK424.out⟩, ⟨by (with_reducible repeat (first | refine blk_drewN ?_ _ | refine blk_drew ?_ | refine blk_alloc ?_ _)); exact BK434.out⟩, ⟨by repeat (first | (with_reducible first | exact HB.out | apply below_alloc | apply pw_below_drewN | apply below_drew1 | refine below_set ?_ GE417.out | refine below_set ?_ GE424.out | refine below_set ?_ GE434.out) | exact HB.out)⟩⟩
          case rest =>
            clear HC15
            try clear c1
            try clear c2
            try clear p2
            try clear c3
            try clear c4
            try clear c5
            try clear c6
            try clear c6b0
            try clear c6b1
            try clear c7
            try clear c8
            try clear c9
            try clear c10
            try clear c12
            try clear c13
            try clear c19
            try clear c24
            try clear c30
            try clear c31
            try clear c36
            try clear c36b0
            try clear c36b1
            try clear c37
            try clear c37b0
            try clear c37b1
            try clear c38
            try clear c38b0
            try clear c38b1
            try clear c39
            try clear c39b0
            try clear c39b1
            try clear c40
            try clear c40b0
            try clear c40b1
            try clear c41
            try clear c41b0
            try clear c41b1
            try clear c42
            try clear c42b0
            try clear c42b1
            try clear c43
            try clear c43b0
            try clear c44
            try clear c45
            try clear c47
            try clear c49
            try clear c50
            try clear c52
            try clear hcz16_0
            try clear hcz16_1
            try clear hcz16_2
            try clear hcz20_0
            try clear hcz20_1
            try clear hcz20_2
            try clear hcz21_0
            try clear hcz21_1
            try clear hcz21_2
            try clear hcz23_0
            try clear hcz23_1
            try clear hcz23_2
            try clear hcz25_0
            try clear hcz25_1
            try clear hcz25_2
            try clear hcz27_0
            try clear hcz27_1
            try clear hcz27_2
            try clear hcz32_0
            try clear hcz32_1
            try clear hcz32_2
            try clear hcz33_0
            try clear hcz33_1
            try clear hcz33_2
            try clear hcz34_0
            try clear hcz34_1
            try clear hcz34_2
            try clear hcz46_0
            try clear hcz46_1
            try clear hcz46_2
            try clear hcz48_0
            try clear hcz48_1
            try clear hcz48_2
            try clear hcz51_0
            try clear hcz51_1
            try clear hcz51_2
            try clear hcz53_0
            try clear hcz53_1
            try clear hcz53_2
            try clear hcz54_0
            try clear hcz54_1
            try clear hcz54_2
            try clear hfz16_0
            try clear hfz16_1
            try clear hfz16_2
            try clear hfz20_0
            try clear hfz20_1
            try clear hfz20_2
            try clear hfz21_0
            try clear hfz21_1
            try clear hfz21_2
            try clear hfz23_0
            try clear hfz23_1
            try clear hfz23_2
            try clear hfz25_0
            try clear hfz25_1
            try clear hfz25_2
            try clear hfz27_0
            try clear hfz27_1
            try clear hfz27_2
            try clear hfz32_0
            try clear hfz32_1
            try clear hfz32_2
            try clear hfz33_0
            try clear hfz33_1
            try clear hfz33_2
            try clear hfz34_0
            try clear hfz34_1
            try clear hfz34_2
            try clear hfz46_0
            try clear hfz46_1
            try clear hfz46_2
            try clear hfz48_0
            try clear hfz48_1
            try clear hfz48_2
            try clear hfz51_0
            try clear hfz51_1
            try clear hfz51_2
            try clear hfz53_0
            try clear hfz53_1
            try clear hfz53_2
            try clear hfz54_0
            try clear hfz54_1
            try clear hfz54_2
            try clear p2
            obtain ⟨kq, x116_14, rfl, HA, HJ14, BK417, BK424, BK434, HB⟩ := hcut
            cases kq with
            | zero => exact absurd HA.out (by simp [abacuslaw08_ScanBacks.j1])
            | succ kj14 =>
              have H := HA.out
              clear HA
              simp only [abacuslaw08_ScanBacks.j1] at H
              by_cases c55 : x116_14 = true
              · subst c55
                have H1 : (some false) = some true := by rw [if_pos rfl] at H; exact H
                clear H
                have H := H1
                clear H1
                exact absurd H (by simp)
              · replace c55 := Bool.eq_false_iff.mpr c55
                subst c55
                have H1 : (if t421.toList = ([48] : List UInt8) then (if t422 = 0 then (if t422 > 1000000000000000 then (some true) else (if t422 < (-1000000000000000) then (some true) else ((scan_Number.f kj14 t425).bind fun bt437 => (if bt437.2.2.2 = (t425.size : Int) then (some (bt437.1 == t420 && (bt437.2.1.toList == t421.toList && (bt437.2.2.1 == t422)))) else (some false))))) else (some false)) else (if t421.toList = ([] : List UInt8) then (abacuslaw08_ScanBacks.j2 kj14 t425 true t420 t421 t422) else (if 0 < (t421.size : Int) then (if (bt t421 0) = 48 then (abacuslaw08_ScanBacks.j2 kj14 t425 true t420 t421 t422) else (if 0 ≤ (wrap64 ((t421.size : Int) - 1)) then (if (wrap64 ((t421.size : Int) - 1)) < (t421.size : Int) then (abacuslaw08_ScanBacks.j2 kj14 t425 ((bt t421 (wrap64 ((t421.size : Int) - 1))) == 48) t420 t421 t422) else (none)) else (none))) else (none)))) = some true := by rw [if_neg (show ¬ (false = true) by decide)] at H; exact H
                clear H
                have H := H1
                clear H1
                by_cases c56 : t421.toList = ([48] : List UInt8)
                · rw [if_pos c56] at H
                  have c56b0 : (t421.toList == ([48] : List UInt8)) = true := beq_iff_eq.mpr c56
                  have c56b1 : (t421.toList != ([48] : List UInt8)) = false := bne_eq_false_iff_eq.mpr c56
                  clear c56
                  by_cases c57 : t422 = 0
                  · rw [if_pos c57] at H
                    have c57b0 : (t422 == 0) = true := beq_iff_eq.mpr c57
                    have c57b1 : (t422 != 0) = false := bne_eq_false_iff_eq.mpr c57
                    clear c57
                    by_cases c58 : t422 > 1000000000000000
                    · rw [if_pos c58] at H
                      have c58b0 : decide (1000000000000000 < t422) = true := decide_eq_true c58
                      clear c58
                      clear H
                      have hnb59 := NB424_417.out
                      have hnc59 := NB417_424.out
                      have hnb60 := NB424_434.out
                      have hnc60 := NB434_424.out
                      have hcz61_0 : wc.cell? ⟨gb424, 0, none⟩ = some (.bool t420) := (blk_cell BK424.out 0).trans rfl
                      have hcz61_1 : wc.cell? ⟨gb424, 1, none⟩ = some (.string t421) := (blk_cell BK424.out 1).trans rfl
                      have hcz61_2 : wc.cell? ⟨gb424, 2, none⟩ = some (.int .i64 t422) := (blk_cell BK424.out 2).trans rfl
                      have hfz61_0 := blk_frozen BK424.out 0
                      have hfz61_1 := blk_frozen BK424.out 1
                      have hfz61_2 := blk_frozen BK424.out 2
                      go_wp2
                      go_ret
                      exact ⟨by first | rfl | (simp [errW_none, errW_some] <;> rfl) | (simp [*, errW_none, errW_some] <;> rfl), by repeat (first | (with_reducible first | exact HB.out | apply below_alloc | apply pw_below_drewN | apply below_drew1 | refine below_set ?_ GE417.out | refine below_set ?_ GE424.out | refine below_set ?_ GE434.out) | exact HB.out)⟩
                    · rw [if_neg c58] at H
                      have c58b0 : decide (1000000000000000 < t422) = false := decide_eq_false c58
                      clear c58
                      by_cases c62 : t422 < (-1000000000000000)
                      · rw [if_pos c62] at H
                        have c62b0 : decide (t422 < (-1000000000000000)) = true := decide_eq_true c62
                        clear c62
                        clear H
                        have hnb63 := NB424_417.out
                        have hnc63 := NB417_424.out
                        have hnb64 := NB424_434.out
                        have hnc64 := NB434_424.out
                        have hcz65_0 : wc.cell? ⟨gb424, 0, none⟩ = some (.bool t420) := (blk_cell BK424.out 0).trans rfl
                        have hcz65_1 : wc.cell? ⟨gb424, 1, none⟩ = some (.string t421) := (blk_cell BK424.out 1).trans rfl
                        have hcz65_2 : wc.cell? ⟨gb424, 2, none⟩ = some (.int .i64 t422) := (blk_cell BK424.out 2).trans rfl
                        have hfz65_0 := blk_frozen BK424.out 0
                        have hfz65_1 := blk_frozen BK424.out 1
                        have hfz65_2 := blk_frozen BK424.out 2
                        go_wp2
                        go_ret
                        exact ⟨by first | rfl | (simp [errW_none, errW_some] <;> rfl) | (simp [*, errW_none, errW_some] <;> rfl), by repeat (first | (with_reducible first | exact HB.out | apply below_alloc | apply pw_below_drewN | apply below_drew1 | refine below_set ?_ GE417.out | refine below_set ?_ GE424.out | refine below_set ?_ GE434.out) | exact HB.out)⟩
                      · rw [if_neg c62] at H
                        have c62b0 : decide (t422 < (-1000000000000000)) = false := decide_eq_false c62
                        clear c62
                        replace H := Option.bind_eq_some_iff.mp H
                        obtain ⟨⟨t437, t438, t439, t440⟩, A660, H⟩ := H
                        replace H : (if t440 = (t425.size : Int) then (some (t437 == t420 && (t438.toList == t421.toList && (t439 == t422)))) else (some false)) = some true := H
                        have A66 := Aside0.mk A660
                        clear A660
                        by_cases c67 : t440 = (t425.size : Int)
                        · rw [if_pos c67] at H
                          have c67b0 : (t440 == (t425.size : Int)) = true := beq_iff_eq.mpr c67
                          have c67b1 : (t440 != (t425.size : Int)) = false := bne_eq_false_iff_eq.mpr c67
                          clear c67
                          have HX := Aside0.mk (Option.some.inj H)
                          clear H
                          have hnb68 := NB424_417.out
                          have hnc68 := NB417_424.out
                          have hnb69 := NB424_434.out
                          have hnc69 := NB434_424.out
                          have hcz70_0 : wc.cell? ⟨gb424, 0, none⟩ = some (.bool t420) := (blk_cell BK424.out 0).trans rfl
                          have hcz70_1 : wc.cell? ⟨gb424, 1, none⟩ = some (.string t421) := (blk_cell BK424.out 1).trans rfl
                          have hcz70_2 : wc.cell? ⟨gb424, 2, none⟩ = some (.int .i64 t422) := (blk_cell BK424.out 2).trans rfl
                          have hfz70_0 := blk_frozen BK424.out 0
                          have hfz70_1 := blk_frozen BK424.out 1
                          have hfz70_2 := blk_frozen BK424.out 2
                          go_wp2_with (first | ((with_reducible refine gate_callee (f := 17) rfl ?_); refine goesL_ (some 152) rfl rfl Tryd.func17 (by kernel_rfl) rfl #[.string t425] rfl (by (try simp only [List.map_toArray, List.map_cons, List.map_nil]); first | done | rfl | (simp only [List.length_drop, List.length_take]; rfl)) ?_; (with_reducible refine (scan_Number.calls kj14 t425 t437 t438 t439 t440 _ A66.out).mono ?_); rintro e w71 ⟨rfl, hb⟩; refine ⟨_, rfl, ?_⟩; have n0_ := Aside0.mk (blk_below (g := gb417) (o := .cells #[.bool a0_0, .string a0_1, .int .i64 a0_2] 23 (0, 0)) (by (with_reducible repeat (first | refine blk_drewN ?_ _ | refine blk_drew ?_ | refine blk_alloc ?_ _)); exact BK417.out) hb); have n1_ := Aside0.mk (blk_below (g := gb424) (o := .cells #[.bool t420, .string t421, .int .i64 t422] 23 (0, 0)) (by (with_reducible repeat (first | refine blk_drewN ?_ _ | refine blk_drew ?_ | refine blk_alloc ?_ _)); exact BK424.out) hb); have n2_ := Aside0.mk (blk_below (g := gb434) (o := .cells #[.bool t430, .string t431, .int .i64 t432] 23 (0, 0)) (by (with_reducible repeat (first | refine blk_drewN ?_ _ | refine blk_drew ?_ | refine blk_alloc ?_ _)); exact BK434.out) hb); have n3_ := Aside0.mk (below_step (by repeat (first | (with_reducible first | exact HB.out | apply below_alloc | apply pw_below_drewN | apply below_drew1 | refine below_set ?_ GE417.out | refine below_set ?_ GE424.out | refine below_set ?_ GE434.out) | exact HB.out)) hb); clear BK417; clear BK424; clear BK434; clear HB; have BK417 := n0_; have BK424 := n1_; have BK434 := n2_; have HB := n3_; clear n0_ n1_ n2_ n3_; (try clear hb); (try clear hb2); (try clear hk); (try clear hi)) | ((with_reducible refine gate_dst (N := 13) rfl ?_); (try (refine gate_guard (by rfl) ?_; dsimp only)); refine box_event ?hg (N := 13) ?hd (cs := #[.bool false, .string (⟨#[]⟩ : ByteArray), .int .i64 0]) (t := 23) ?hr ?_; (case hd => rfl); (case hg => rfl); (case hr => first | (go_simp; done) | (go_simp; rfl)); intro gb441 hg w72 hbox hb; have n0_ := Aside0.mk (blk_below (g := gb417) (o := .cells #[.bool a0_0, .string a0_1, .int .i64 a0_2] 23 (0, 0)) (by (with_reducible repeat (first | refine blk_drewN ?_ _ | refine blk_drew ?_ | refine blk_alloc ?_ _)); exact BK417.out) hb); have n1_ := Aside0.mk (blk_below (g := gb424) (o := .cells #[.bool t420, .string t421, .int .i64 t422] 23 (0, 0)) (by (with_reducible repeat (first | refine blk_drewN ?_ _ | refine blk_drew ?_ | refine blk_alloc ?_ _)); exact BK424.out) hb); have n2_ := Aside0.mk (blk_below (g := gb434) (o := .cells #[.bool t430, .string t431, .int .i64 t432] 23 (0, 0)) (by (with_reducible repeat (first | refine blk_drewN ?_ _ | refine blk_drew ?_ | refine blk_alloc ?_ _)); exact BK434.out) hb); have n3_ := Aside0.mk (below_step (by repeat (first | (with_reducible first | exact HB.out | apply below_alloc | apply pw_below_drewN | apply below_drew1 | refine below_set ?_ GE417.out | refine below_set ?_ GE424.out | refine below_set ?_ GE434.out) | exact HB.out)) hb); have n4_ := Aside0.mk (hbox); have n5_ := Aside0.mk ((by rw [hg]; exact (below_size (by repeat (first | (with_reducible first | exact HB.out | apply below_alloc | apply pw_below_drewN | apply below_drew1 | refine below_set ?_ GE417.out | refine below_set ?_ GE424.out | refine below_set ?_ GE434.out) | exact HB.out))) : w.heap.size ≤ gb441)); have n6_ := Aside0.mk ((by rw [hg]; exact (below_size (by repeat (first | (with_reducible first | exact HB.out | apply below_alloc | apply pw_below_drewN | apply below_drew1 | refine below_set ?_ GE417.out | refine below_set ?_ GE424.out | refine below_set ?_ GE434.out) | exact HB.out))) : w.heap.size ≤ gb441)); have n7_ := Aside0.mk ((by rw [hg]; exact Nat.ne_of_lt (blk_lt (g := gb417) (o := .cells #[.bool a0_0, .string a0_1, .int .i64 a0_2] 23 (0, 0)) (by (with_reducible repeat (first | refine blk_drewN ?_ _ | refine blk_drew ?_ | refine blk_alloc ?_ _)); exact BK417.out)) : gb417 ≠ gb441)); have n8_ := Aside0.mk ((by rw [hg]; exact Nat.ne_of_gt (blk_lt (g := gb417) (o := .cells #[.bool a0_0, .string a0_1, .int .i64 a0_2] 23 (0, 0)) (by (with_reducible repeat (first | refine blk_drewN ?_ _ | refine blk_drew ?_ | refine blk_alloc ?_ _)); exact BK417.out)) : gb441 ≠ gb417)); have n9_ := Aside0.mk ((by rw [hg]; exact Nat.ne_of_lt (blk_lt (g := gb424) (o := .cells #[.bool t420, .string t421, .int .i64 t422] 23 (0, 0)) (by (with_reducible repeat (first | refine blk_drewN ?_ _ | refine blk_drew ?_ | refine blk_alloc ?_ _)); exact BK424.out)) : gb424 ≠ gb441)); have n10_ := Aside0.mk ((by rw [hg]; exact Nat.ne_of_gt (blk_lt (g := gb424) (o := .cells #[.bool t420, .string t421, .int .i64 t422] 23 (0, 0)) (by (with_reducible repeat (first | refine blk_drewN ?_ _ | refine blk_drew ?_ | refine blk_alloc ?_ _)); exact BK424.out)) : gb441 ≠ gb424)); have n11_ := Aside0.mk ((by rw [hg]; exact Nat.ne_of_lt (blk_lt (g := gb434) (o := .cells #[.bool t430, .string t431, .int .i64 t432] 23 (0, 0)) (by (with_reducible repeat (first | refine blk_drewN ?_ _ | refine blk_drew ?_ | refine blk_alloc ?_ _)); exact BK434.out)) : gb434 ≠ gb441)); have n12_ := Aside0.mk ((by rw [hg]; exact Nat.ne_of_gt (blk_lt (g := gb434) (o := .cells #[.bool t430, .string t431, .int .i64 t432] 23 (0, 0)) (by (with_reducible repeat (first | refine blk_drewN ?_ _ | refine blk_drew ?_ | refine blk_alloc ?_ _)); exact BK434.out)) : gb441 ≠ gb434)); clear BK417; clear BK424; clear BK434; clear HB; have BK417 := n0_; have BK424 := n1_; have BK434 := n2_; have HB := n3_; have BK441 := n4_; have GW441 := n5_; have GE441 := n6_; have NB417_441 := n7_; have NB441_417 := n8_; have NB424_441 := n9_; have NB441_424 := n10_; have NB434_441 := n11_; have NB441_434 := n12_; clear n0_ n1_ n2_ n3_ n4_ n5_ n6_ n7_ n8_ n9_ n10_ n11_ n12_; clear hb hbox hg; have hnb73 := NB441_417.out; have hnc73 := NB417_441.out; have hnb74 := NB441_424.out; have hnc74 := NB424_441.out; have hnb75 := NB441_434.out; have hnc75 := NB434_441.out; have hcz76_0 : w72.cell? ⟨gb441, 0, none⟩ = some (.bool false) := (blk_cell BK441.out 0).trans rfl; have hcz76_1 : w72.cell? ⟨gb441, 1, none⟩ = some (.string (⟨#[]⟩ : ByteArray)) := (blk_cell BK441.out 1).trans rfl; have hcz76_2 : w72.cell? ⟨gb441, 2, none⟩ = some (.int .i64 0) := (blk_cell BK441.out 2).trans rfl; have hfz76_0 := blk_frozen BK441.out 0; have hfz76_1 := blk_frozen BK441.out 1; have hfz76_2 := blk_frozen BK441.out 2; have hcz77_0 : w72.cell? ⟨gb424, 0, none⟩ = some (.bool t420) := (blk_cell BK424.out 0).trans rfl; have hcz77_1 : w72.cell? ⟨gb424, 1, none⟩ = some (.string t421) := (blk_cell BK424.out 1).trans rfl; have hcz77_2 : w72.cell? ⟨gb424, 2, none⟩ = some (.int .i64 t422) := (blk_cell BK424.out 2).trans rfl; have hfz77_0 := blk_frozen BK424.out 0; have hfz77_1 := blk_frozen BK424.out 1; have hfz77_2 := blk_frozen BK424.out 2))
                          go_ret
                          exact ⟨by first | exact congrArg (fun b_ => Ending.returned (Value.bool b_)) HX.out | (have hx_ := HX.out; simp at hx_ ⊢; done) | (have hx_ := HX.out; simp at hx_ ⊢; exact hx_) | (have hx_ := HX.out; simp_all) | (simp [*, errW_none, errW_some] <;> rfl), by repeat (first | (with_reducible first | exact HB.out | apply below_alloc | apply pw_below_drewN | apply below_drew1 | refine below_set ?_ GE417.out | refine below_set ?_ GE424.out | refine below_set ?_ GE434.out | refine below_set ?_ GE441.out) | exact HB.out)⟩
                        · rw [if_neg c67] at H
                          have c67b0 : (t440 == (t425.size : Int)) = false := beq_eq_false_iff_ne.mpr c67
                          have c67b1 : (t440 != (t425.size : Int)) = true := bne_iff_ne.mpr c67
                          exact absurd H (by simp)
                  · rw [if_neg c57] at H
                    have c57b0 : (t422 == 0) = false := beq_eq_false_iff_ne.mpr c57
                    have c57b1 : (t422 != 0) = true := bne_iff_ne.mpr c57
                    exact absurd H (by simp)
                · rw [if_neg c56] at H
                  have c56b0 : (t421.toList == ([48] : List UInt8)) = false := beq_eq_false_iff_ne.mpr c56
                  have c56b1 : (t421.toList != ([48] : List UInt8)) = true := bne_iff_ne.mpr c56
                  have HC78 := Aside0.mk H
                  clear H
                  have hnb79 := NB424_417.out
                  have hnc79 := NB417_424.out
                  have hnb80 := NB424_434.out
                  have hnc80 := NB434_424.out
                  have hcz81_0 : wc.cell? ⟨gb424, 0, none⟩ = some (.bool t420) := (blk_cell BK424.out 0).trans rfl
                  have hcz81_1 : wc.cell? ⟨gb424, 1, none⟩ = some (.string t421) := (blk_cell BK424.out 1).trans rfl
                  have hcz81_2 : wc.cell? ⟨gb424, 2, none⟩ = some (.int .i64 t422) := (blk_cell BK424.out 2).trans rfl
                  have hfz81_0 := blk_frozen BK424.out 0
                  have hfz81_1 := blk_frozen BK424.out 1
                  have hfz81_2 := blk_frozen BK424.out 2
                  go_upto_region 16 with (fail)
                  go_cut [141] (fun v141 wc => ∃ (kq : Nat) (x141_77 : Bool), v141 = .bool x141_77 ∧ Aside0 (abacuslaw08_ScanBacks.j2 kq t425 x141_77 t420 t421 t422 = some true) ∧ Aside0 (kq ≤ kj14) ∧ Aside0 (wc.heap[gb417]? = some (.cells #[.bool a0_0, .string a0_1, .int .i64 a0_2] 23 (0, 0))) ∧ Aside0 (wc.heap[gb424]? = some (.cells #[.bool t420, .string t421, .int .i64 t422] 23 (0, 0))) ∧ Aside0 (wc.heap[gb434]? = some (.cells #[.bool t430, .string t431, .int .i64 t432] 23 (0, 0))) ∧ Aside0 (Below w.heap.size w wc))
                  case first =>
                    have H := HC78.out
                    clear HC78
                    by_cases c82 : t421.toList = ([] : List UInt8)
                    · rw [if_pos c82] at H
                      have c82b0 : (t421.toList == ([] : List UInt8)) = true := beq_iff_eq.mpr c82
                      have c82b1 : (t421.toList != ([] : List UInt8)) = false := bne_eq_false_iff_eq.mpr c82
                      clear c82
                      (first | rw [c82b0] | (simp only [i64_w, i32_w]; rw [c82b0]) | skip)
                      have H' := Aside0.mk H
                      clear H
                      have hnb83 := NB424_417.out
                      have hnc83 := NB417_424.out
                      have hnb84 := NB424_434.out
                      have hnc84 := NB434_424.out
                      have hcz85_0 : wc.cell? ⟨gb424, 0, none⟩ = some (.bool t420) := (blk_cell BK424.out 0).trans rfl
                      have hcz85_1 : wc.cell? ⟨gb424, 1, none⟩ = some (.string t421) := (blk_cell BK424.out 1).trans rfl
                      have hcz85_2 : wc.cell? ⟨gb424, 2, none⟩ = some (.int .i64 t422) := (blk_cell BK424.out 2).trans rfl
                      have hfz85_0 := blk_frozen BK424.out 0
                      have hfz85_1 := blk_frozen BK424.out 1
                      have hfz85_2 := blk_frozen BK424.out 2
                      go_wp2
                      go_meet
                      case rel => exact ⟨_, (true), (by first | rfl | (simp; done) | (simp [*]; done)), H', ⟨by have := HJ2.out; have := HJ14.out; first | omega | exact Nat.le_refl _⟩, ⟨by (with_reducible repeat (first | refine blk_drewN ?_ _ | refine blk_drew ?_ | refine blk_alloc ?_ _)); exact BK417.out⟩, ⟨by (with_reducible repeat (first | refine blk_drewN ?_ _ | refine blk_drew ?_ | refine blk_alloc ?_ _)); exact BK424.out⟩, ⟨by (with_reducible repeat (first | refine blk_drewN ?_ _ | refine blk_drew ?_ | refine blk_alloc ?_ _)); exact BK434.out⟩, ⟨by repeat (first | (with_reducible first | exact HB.out | apply below_alloc | apply pw_below_drewN | apply below_drew1 | refine below_set ?_ GE417.out | refine below_set ?_ GE424.out | refine below_set ?_ GE434.out) | exact HB.out)⟩⟩
                    · rw [if_neg c82] at H
                      have c82b0 : (t421.toList == ([] : List UInt8)) = false := beq_eq_false_iff_ne.mpr c82
                      have c82b1 : (t421.toList != ([] : List UInt8)) = true := bne_iff_ne.mpr c82
                      (first | rw [c82b0] | (simp only [i64_w, i32_w]; rw [c82b0]) | skip)
                      by_cases c86 : 0 < (t421.size : Int)
                      · rw [if_pos c86] at H
                        have c86b0 : decide (0 < (t421.size : Int)) = true := decide_eq_true c86
                        have c86b1 : decide (0 < t421.size) = true := decide_eq_true (by omega)
                        clear c86
                        by_cases c88 : (bt t421 0) = 48
                        · rw [if_pos c88] at H
                          have c88b0 : ((bt t421 0) == 48) = true := beq_iff_eq.mpr c88
                          have c88b1 : ((bt t421 0) != 48) = false := bne_eq_false_iff_eq.mpr c88
                          clear c88
                          have H' := Aside0.mk H
                          clear H
                          have hnb89 := NB424_417.out
                          have hnc89 := NB417_424.out
                          have hnb90 := NB424_434.out
                          have hnc90 := NB434_424.out
                          have hcz91_0 : wc.cell? ⟨gb424, 0, none⟩ = some (.bool t420) := (blk_cell BK424.out 0).trans rfl
                          have hcz91_1 : wc.cell? ⟨gb424, 1, none⟩ = some (.string t421) := (blk_cell BK424.out 1).trans rfl
                          have hcz91_2 : wc.cell? ⟨gb424, 2, none⟩ = some (.int .i64 t422) := (blk_cell BK424.out 2).trans rfl
                          have hfz91_0 := blk_frozen BK424.out 0
                          have hfz91_1 := blk_frozen BK424.out 1
                          have hfz91_2 := blk_frozen BK424.out 2
                          have p87 : 0 ≤ (0 : Int) := (by omega)
                          have q87 : 0 < t421.size := (by have : (0 : Int) < (t421.size : Int) := of_decide_eq_true (by first | (with_reducible assumption) | assumption); omega)
                          have hx87 : ∀ h : 0 < t421.size, ((t421[0]'h).toNat : Int) = bt t421 0 := bt_at t421 0
                          clear p87
                          have qi87 : (0 < (t421.size : Int)) = True := eq_true (of_decide_eq_true (by first | (with_reducible assumption) | assumption))
                          replace q87 := eq_true q87
                          go_wp2
                          go_meet
                          case rel => exact ⟨_, (true), (by first | rfl | (simp; done) | (simp [*]; done)), H', ⟨by have := HJ2.out; have := HJ14.out; first | omega | exact Nat.le_refl _⟩, ⟨by (with_reducible repeat (first | refine blk_drewN ?_ _ | refine blk_drew ?_ | refine blk_alloc ?_ _)); exact BK417.out⟩, ⟨by (with_reducible repeat (first | refine blk_drewN ?_ _ | refine blk_drew ?_ | refine blk_alloc ?_ _)); exact BK424.out⟩, ⟨by (with_reducible repeat (first | refine blk_drewN ?_ _ | refine blk_drew ?_ | refine blk_alloc ?_ _)); exact BK434.out⟩, ⟨by repeat (first | (with_reducible first | exact HB.out | apply below_alloc | apply pw_below_drewN | apply below_drew1 | refine below_set ?_ GE417.out | refine below_set ?_ GE424.out | refine below_set ?_ GE434.out) | exact HB.out)⟩⟩
                        · rw [if_neg c88] at H
                          have c88b0 : ((bt t421 0) == 48) = false := beq_eq_false_iff_ne.mpr c88
                          have c88b1 : ((bt t421 0) != 48) = true := bne_iff_ne.mpr c88
                          obtain ⟨ji92, hji92⟩ : ∃ j_ : Int, (wrap64 ((t421.size : Int) - 1)) = j_ := ⟨_, rfl⟩
                          replace H : (if 0 ≤ (ji92) then (if (ji92) < (t421.size : Int) then (abacuslaw08_ScanBacks.j2 kj14 t425 ((bt t421 (ji92)) == 48) t420 t421 t422) else (none)) else (none)) = some true := by first | (rw [hji92] at H; exact H) | (simp only [hji92] at H ⊢; exact H)
                          have hji92w : (IntKind.i64.wrap ((t421.size : Int) - 1)) = ji92 := (i64_w _).trans hji92
                          by_cases c93 : 0 ≤ (ji92)
                          · rw [if_pos c93] at H
                            have c93b0 : decide (0 ≤ (ji92)) = true := decide_eq_true c93
                            clear c93
                            by_cases c94 : (ji92) < (t421.size : Int)
                            · rw [if_pos c94] at H
                              have c94b0 : decide ((ji92) < (t421.size : Int)) = true := decide_eq_true c94
                              clear c94
                              have H' := Aside0.mk H
                              clear H
                              have hnb96 := NB424_417.out
                              have hnc96 := NB417_424.out
                              have hnb97 := NB424_434.out
                              have hnc97 := NB434_424.out
                              have hcz98_0 : wc.cell? ⟨gb424, 0, none⟩ = some (.bool t420) := (blk_cell BK424.out 0).trans rfl
                              have hcz98_1 : wc.cell? ⟨gb424, 1, none⟩ = some (.string t421) := (blk_cell BK424.out 1).trans rfl
                              have hcz98_2 : wc.cell? ⟨gb424, 2, none⟩ = some (.int .i64 t422) := (blk_cell BK424.out 2).trans rfl
                              have hfz98_0 := blk_frozen BK424.out 0
                              have hfz98_1 := blk_frozen BK424.out 1
                              have hfz98_2 := blk_frozen BK424.out 2
                              have p87 : 0 ≤ (0 : Int) := (by omega)
                              have q87 : 0 < t421.size := (by have : (0 : Int) < (t421.size : Int) := of_decide_eq_true (by first | (with_reducible assumption) | assumption); omega)
                              have hx87 : ∀ h : 0 < t421.size, ((t421[0]'h).toNat : Int) = bt t421 0 := bt_at t421 0
                              clear p87
                              have qi87 : (0 < (t421.size : Int)) = True := eq_true (of_decide_eq_true (by first | (with_reducible assumption) | assumption))
                              replace q87 := eq_true q87
                              have p95 : 0 ≤ ((ji92) : Int) := of_decide_eq_true (by first | (with_reducible assumption) | assumption)
                              have q95 : (ji92) < (t421.size : Int) := of_decide_eq_true (by first | (with_reducible assumption) | assumption)
                              have hx95 := bt_at t421 (ji92)
                              replace p95 := eq_true p95
                              replace q95 := eq_true q95
                              go_wp2
                              go_meet
                              case rel => exact ⟨_, (((bt t421 (ji92)) == 48)), (by first | rfl | (simp; done) | (simp only [← hji92] <;> (first | rfl | simp)) | (simp [*]; done)), H', ⟨by have := HJ2.out; have := HJ14.out; first | omega | exact Nat.le_refl _⟩, ⟨by (with_reducible repeat (first | refine blk_drewN ?_ _ | refine blk_drew ?_ | refine blk_alloc ?_ _)); exact BK417.out⟩, ⟨by (with_reducible repeat (first | refine blk_drewN ?_ _ | refine blk_drew ?_ | refine blk_alloc ?_ _)); exact BK424.out⟩, ⟨by (with_reducible repeat (first | refine blk_drewN ?_ _ | refine blk_drew ?_ | refine blk_alloc ?_ _)); exact BK434.out⟩, ⟨by repeat (first | (with_reducible first | exact HB.out | apply below_alloc | apply pw_below_drewN | apply below_drew1 | refine below_set ?_ GE417.out | refine below_set ?_ GE424.out | refine below_set ?_ GE434.out) | exact HB.out)⟩⟩
                            · rw [if_neg c94] at H
                              exact absurd H (by simp)
                          · rw [if_neg c93] at H
                            exact absurd H (by simp)
                      · rw [if_neg c86] at H
                        exact absurd H (by simp)
                  case rest =>
                    clear HC78
                    try clear c1
                    try clear c2
                    try clear p2
                    try clear c3
                    try clear c4
                    try clear c5
                    try clear c6
                    try clear c6b0
                    try clear c6b1
                    try clear p6
                    try clear c7
                    try clear c8
                    try clear p8
                    try clear q8
                    try clear hx8
                    try clear qi8
                    try clear c9
                    try clear p9
                    try clear q9
                    try clear hx9
                    try clear c10
                    try clear c12
                    try clear c13
                    try clear c17
                    try clear c19
                    try clear c24
                    try clear c30
                    try clear c31
                    try clear c36
                    try clear c36b0
                    try clear c36b1
                    try clear c37
                    try clear c37b0
                    try clear c37b1
                    try clear c38
                    try clear c38b0
                    try clear c38b1
                    try clear c39
                    try clear c39b0
                    try clear c39b1
                    try clear c40
                    try clear c40b0
                    try clear c40b1
                    try clear c41
                    try clear c41b0
                    try clear c41b1
                    try clear c42
                    try clear c42b0
                    try clear c42b1
                    try clear c43
                    try clear c43b0
                    try clear c44
                    try clear c45
                    try clear c47
                    try clear c49
                    try clear c50
                    try clear c52
                    try clear c55
                    try clear c56
                    try clear c56b0
                    try clear c56b1
                    try clear c57
                    try clear c57b0
                    try clear c57b1
                    try clear c58
                    try clear c58b0
                    try clear c59
                    try clear c60
                    try clear c62
                    try clear c62b0
                    try clear c63
                    try clear c64
                    try clear p64
                    try clear c67
                    try clear c67b0
                    try clear c67b1
                    try clear c68
                    try clear c69
                    try clear c73
                    try clear c74
                    try clear c75
                    try clear c79
                    try clear c80
                    try clear c82
                    try clear c82b0
                    try clear c82b1
                    try clear c83
                    try clear c84
                    try clear c86
                    try clear c86b0
                    try clear c86b1
                    try clear p87
                    try clear q87
                    try clear hx87
                    try clear qi87
                    try clear c88
                    try clear c88b0
                    try clear c88b1
                    try clear c89
                    try clear c90
                    try clear c93
                    try clear c93b0
                    try clear c94
                    try clear c94b0
                    try clear p95
                    try clear q95
                    try clear hx95
                    try clear c96
                    try clear c97
                    try clear hcz16_0
                    try clear hcz16_1
                    try clear hcz16_2
                    try clear hcz20_0
                    try clear hcz20_1
                    try clear hcz20_2
                    try clear hcz21_0
                    try clear hcz21_1
                    try clear hcz21_2
                    try clear hcz23_0
                    try clear hcz23_1
                    try clear hcz23_2
                    try clear hcz25_0
                    try clear hcz25_1
                    try clear hcz25_2
                    try clear hcz27_0
                    try clear hcz27_1
                    try clear hcz27_2
                    try clear hcz32_0
                    try clear hcz32_1
                    try clear hcz32_2
                    try clear hcz33_0
                    try clear hcz33_1
                    try clear hcz33_2
                    try clear hcz34_0
                    try clear hcz34_1
                    try clear hcz34_2
                    try clear hcz46_0
                    try clear hcz46_1
                    try clear hcz46_2
                    try clear hcz48_0
                    try clear hcz48_1
                    try clear hcz48_2
                    try clear hcz51_0
                    try clear hcz51_1
                    try clear hcz51_2
                    try clear hcz53_0
                    try clear hcz53_1
                    try clear hcz53_2
                    try clear hcz54_0
                    try clear hcz54_1
                    try clear hcz54_2
                    try clear hcz61_0
                    try clear hcz61_1
                    try clear hcz61_2
                    try clear hcz65_0
                    try clear hcz65_1
                    try clear hcz65_2
                    try clear hcz70_0
                    try clear hcz70_1
                    try clear hcz70_2
                    try clear hcz76_0
                    try clear hcz76_1
                    try clear hcz76_2
                    try clear hcz77_0
                    try clear hcz77_1
                    try clear hcz77_2
                    try clear hcz81_0
                    try clear hcz81_1
                    try clear hcz81_2
                    try clear hcz85_0
                    try clear hcz85_1
                    try clear hcz85_2
                    try clear hcz91_0
                    try clear hcz91_1
                    try clear hcz91_2
                    try clear hcz98_0
                    try clear hcz98_1
                    try clear hcz98_2
                    try clear hfz16_0
                    try clear hfz16_1
                    try clear hfz16_2
                    try clear hfz20_0
                    try clear hfz20_1
                    try clear hfz20_2
                    try clear hfz21_0
                    try clear hfz21_1
                    try clear hfz21_2
                    try clear hfz23_0
                    try clear hfz23_1
                    try clear hfz23_2
                    try clear hfz25_0
                    try clear hfz25_1
                    try clear hfz25_2
                    try clear hfz27_0
                    try clear hfz27_1
                    try clear hfz27_2
                    try clear hfz32_0
                    try clear hfz32_1
                    try clear hfz32_2
                    try clear hfz33_0
                    try clear hfz33_1
                    try clear hfz33_2
                    try clear hfz34_0
                    try clear hfz34_1
                    try clear hfz34_2
                    try clear hfz46_0
                    try clear hfz46_1
                    try clear hfz46_2
                    try clear hfz48_0
                    try clear hfz48_1
                    try clear hfz48_2
                    try clear hfz51_0
                    try clear hfz51_1
                    try clear hfz51_2
                    try clear hfz53_0
                    try clear hfz53_1
                    try clear hfz53_2
                    try clear hfz54_0
                    try clear hfz54_1
                    try clear hfz54_2
                    try clear hfz61_0
                    try clear hfz61_1
                    try clear hfz61_2
                    try clear hfz65_0
                    try clear hfz65_1
                    try clear hfz65_2
                    try clear hfz70_0
                    try clear hfz70_1
                    try clear hfz70_2
                    try clear hfz76_0
                    try clear hfz76_1
                    try clear hfz76_2
                    try clear hfz77_0
                    try clear hfz77_1
                    try clear hfz77_2
                    try clear hfz81_0
                    try clear hfz81_1
                    try clear hfz81_2
                    try clear hfz85_0
                    try clear hfz85_1
                    try clear hfz85_2
                    try clear hfz91_0
                    try clear hfz91_1
                    try clear hfz91_2
                    try clear hfz98_0
                    try clear hfz98_1
                    try clear hfz98_2
                    try clear p2
                    try clear p87
                    try clear p95
                    try clear q87
                    try clear q95
                    obtain ⟨kq, x141_77, rfl, HA, HJ77, BK417, BK424, BK434, HB⟩ := hcut
                    cases kq with
                    | zero => exact absurd HA.out (by simp [abacuslaw08_ScanBacks.j2])
                    | succ kj77 =>
                      have H := HA.out
                      clear HA
                      simp only [abacuslaw08_ScanBacks.j2] at H
                      by_cases c99 : x141_77 = true
                      · subst c99
                        have H1 : (some false) = some true := by rw [if_pos rfl] at H; exact H
                        clear H
                        have H := H1
                        clear H1
                        exact absurd H (by simp)
                      · replace c99 := Bool.eq_false_iff.mpr c99
                        subst c99
                        have H1 : (if t422 > 1000000000000000 then (some true) else (if t422 < (-1000000000000000) then (some true) else ((scan_Number.f kj77 t425).bind fun bt442 => (if bt442.2.2.2 = (t425.size : Int) then (some (bt442.1 == t420 && (bt442.2.1.toList == t421.toList && (bt442.2.2.1 == t422)))) else (some false))))) = some true := by rw [if_neg (show ¬ (false = true) by decide)] at H; exact H
                        clear H
                        have H := H1
                        clear H1
                        by_cases c100 : t422 > 1000000000000000
                        · rw [if_pos c100] at H
                          have c100b0 : decide (1000000000000000 < t422) = true := decide_eq_true c100
                          clear c100
                          clear H
                          have hnb101 := NB424_417.out
                          have hnc101 := NB417_424.out
                          have hnb102 := NB424_434.out
                          have hnc102 := NB434_424.out
                          have hcz103_0 : wc.cell? ⟨gb424, 0, none⟩ = some (.bool t420) := (blk_cell BK424.out 0).trans rfl
                          have hcz103_1 : wc.cell? ⟨gb424, 1, none⟩ = some (.string t421) := (blk_cell BK424.out 1).trans rfl
                          have hcz103_2 : wc.cell? ⟨gb424, 2, none⟩ = some (.int .i64 t422) := (blk_cell BK424.out 2).trans rfl
                          have hfz103_0 := blk_frozen BK424.out 0
                          have hfz103_1 := blk_frozen BK424.out 1
                          have hfz103_2 := blk_frozen BK424.out 2
                          go_wp2
                          go_ret
                          exact ⟨by first | rfl | (simp [errW_none, errW_some] <;> rfl) | (simp [*, errW_none, errW_some] <;> rfl), by repeat (first | (with_reducible first | exact HB.out | apply below_alloc | apply pw_below_drewN | apply below_drew1 | refine below_set ?_ GE417.out | refine below_set ?_ GE424.out | refine below_set ?_ GE434.out) | exact HB.out)⟩
                        · rw [if_neg c100] at H
                          have c100b0 : decide (1000000000000000 < t422) = false := decide_eq_false c100
                          clear c100
                          by_cases c104 : t422 < (-1000000000000000)
                          · rw [if_pos c104] at H
                            have c104b0 : decide (t422 < (-1000000000000000)) = true := decide_eq_true c104
                            clear c104
                            clear H
                            have hnb105 := NB424_417.out
                            have hnc105 := NB417_424.out
                            have hnb106 := NB424_434.out
                            have hnc106 := NB434_424.out
                            have hcz107_0 : wc.cell? ⟨gb424, 0, none⟩ = some (.bool t420) := (blk_cell BK424.out 0).trans rfl
                            have hcz107_1 : wc.cell? ⟨gb424, 1, none⟩ = some (.string t421) := (blk_cell BK424.out 1).trans rfl
                            have hcz107_2 : wc.cell? ⟨gb424, 2, none⟩ = some (.int .i64 t422) := (blk_cell BK424.out 2).trans rfl
                            have hfz107_0 := blk_frozen BK424.out 0
                            have hfz107_1 := blk_frozen BK424.out 1
                            have hfz107_2 := blk_frozen BK424.out 2
                            go_wp2
                            go_ret
                            exact ⟨by first | rfl | (simp [errW_none, errW_some] <;> rfl) | (simp [*, errW_none, errW_some] <;> rfl), by repeat (first | (with_reducible first | exact HB.out | apply below_alloc | apply pw_below_drewN | apply below_drew1 | refine below_set ?_ GE417.out | refine below_set ?_ GE424.out | refine below_set ?_ GE434.out) | exact HB.out)⟩
                          · rw [if_neg c104] at H
                            have c104b0 : decide (t422 < (-1000000000000000)) = false := decide_eq_false c104
                            clear c104
                            replace H := Option.bind_eq_some_iff.mp H
                            obtain ⟨⟨t442, t443, t444, t445⟩, A1080, H⟩ := H
                            replace H : (if t445 = (t425.size : Int) then (some (t442 == t420 && (t443.toList == t421.toList && (t444 == t422)))) else (some false)) = some true := H
                            have A108 := Aside0.mk A1080
                            clear A1080
                            by_cases c109 : t445 = (t425.size : Int)
                            · rw [if_pos c109] at H
                              have c109b0 : (t445 == (t425.size : Int)) = true := beq_iff_eq.mpr c109
                              have c109b1 : (t445 != (t425.size : Int)) = false := bne_eq_false_iff_eq.mpr c109
                              clear c109
                              have HX := Aside0.mk (Option.some.inj H)
                              clear H
                              have hnb110 := NB424_417.out
                              have hnc110 := NB417_424.out
                              have hnb111 := NB424_434.out
                              have hnc111 := NB434_424.out
                              have hcz112_0 : wc.cell? ⟨gb424, 0, none⟩ = some (.bool t420) := (blk_cell BK424.out 0).trans rfl
                              have hcz112_1 : wc.cell? ⟨gb424, 1, none⟩ = some (.string t421) := (blk_cell BK424.out 1).trans rfl
                              have hcz112_2 : wc.cell? ⟨gb424, 2, none⟩ = some (.int .i64 t422) := (blk_cell BK424.out 2).trans rfl
                              have hfz112_0 := blk_frozen BK424.out 0
                              have hfz112_1 := blk_frozen BK424.out 1
                              have hfz112_2 := blk_frozen BK424.out 2
                              go_wp2_with (first | ((with_reducible refine gate_callee (f := 17) rfl ?_); refine goesL_ (some 152) rfl rfl Tryd.func17 (by kernel_rfl) rfl #[.string t425] rfl (by (try simp only [List.map_toArray, List.map_cons, List.map_nil]); first | done | rfl | (simp only [List.length_drop, List.length_take]; rfl)) ?_; (with_reducible refine (scan_Number.calls kj77 t425 t442 t443 t444 t445 _ A108.out).mono ?_); rintro e w113 ⟨rfl, hb⟩; refine ⟨_, rfl, ?_⟩; have n0_ := Aside0.mk (blk_below (g := gb417) (o := .cells #[.bool a0_0, .string a0_1, .int .i64 a0_2] 23 (0, 0)) (by (with_reducible repeat (first | refine blk_drewN ?_ _ | refine blk_drew ?_ | refine blk_alloc ?_ _)); exact BK417.out) hb); have n1_ := Aside0.mk (blk_below (g := gb424) (o := .cells #[.bool t420, .string t421, .int .i64 t422] 23 (0, 0)) (by (with_reducible repeat (first | refine blk_drewN ?_ _ | refine blk_drew ?_ | refine blk_alloc ?_ _)); exact BK424.out) hb); have n2_ := Aside0.mk (blk_below (g := gb434) (o := .cells #[.bool t430, .string t431, .int .i64 t432] 23 (0, 0)) (by (with_reducible repeat (first | refine blk_drewN ?_ _ | refine blk_drew ?_ | refine blk_alloc ?_ _)); exact BK434.out) hb); have n3_ := Aside0.mk (below_step (by repeat (first | (with_reducible first | exact HB.out | apply below_alloc | apply pw_below_drewN | apply below_drew1 | refine below_set ?_ GE417.out | refine below_set ?_ GE424.out | refine below_set ?_ GE434.out) | exact HB.out)) hb); clear BK417; clear BK424; clear BK434; clear HB; have BK417 := n0_; have BK424 := n1_; have BK434 := n2_; have HB := n3_; clear n0_ n1_ n2_ n3_; (try clear hb); (try clear hb2); (try clear hk); (try clear hi)) | ((with_reducible refine gate_dst (N := 13) rfl ?_); (try (refine gate_guard (by rfl) ?_; dsimp only)); refine box_event ?hg (N := 13) ?hd (cs := #[.bool false, .string (⟨#[]⟩ : ByteArray), .int .i64 0]) (t := 23) ?hr ?_; (case hd => rfl); (case hg => rfl); (case hr => first | (go_simp; done) | (go_simp; rfl)); intro gb446 hg w114 hbox hb; have n0_ := Aside0.mk (blk_below (g := gb417) (o := .cells #[.bool a0_0, .string a0_1, .int .i64 a0_2] 23 (0, 0)) (by (with_reducible repeat (first | refine blk_drewN ?_ _ | refine blk_drew ?_ | refine blk_alloc ?_ _)); exact BK417.out) hb); have n1_ := Aside0.mk (blk_below (g := gb424) (o := .cells #[.bool t420, .string t421, .int .i64 t422] 23 (0, 0)) (by (with_reducible repeat (first | refine blk_drewN ?_ _ | refine blk_drew ?_ | refine blk_alloc ?_ _)); exact BK424.out) hb); have n2_ := Aside0.mk (blk_below (g := gb434) (o := .cells #[.bool t430, .string t431, .int .i64 t432] 23 (0, 0)) (by (with_reducible repeat (first | refine blk_drewN ?_ _ | refine blk_drew ?_ | refine blk_alloc ?_ _)); exact BK434.out) hb); have n3_ := Aside0.mk (below_step (by repeat (first | (with_reducible first | exact HB.out | apply below_alloc | apply pw_below_drewN | apply below_drew1 | refine below_set ?_ GE417.out | refine below_set ?_ GE424.out | refine below_set ?_ GE434.out) | exact HB.out)) hb); have n4_ := Aside0.mk (hbox); have n5_ := Aside0.mk ((by rw [hg]; exact (below_size (by repeat (first | (with_reducible first | exact HB.out | apply below_alloc | apply pw_below_drewN | apply below_drew1 | refine below_set ?_ GE417.out | refine below_set ?_ GE424.out | refine below_set ?_ GE434.out) | exact HB.out))) : w.heap.size ≤ gb446)); have n6_ := Aside0.mk ((by rw [hg]; exact (below_size (by repeat (first | (with_reducible first | exact HB.out | apply below_alloc | apply pw_below_drewN | apply below_drew1 | refine below_set ?_ GE417.out | refine below_set ?_ GE424.out | refine below_set ?_ GE434.out) | exact HB.out))) : w.heap.size ≤ gb446)); have n7_ := Aside0.mk ((by rw [hg]; exact Nat.ne_of_lt (blk_lt (g := gb417) (o := .cells #[.bool a0_0, .string a0_1, .int .i64 a0_2] 23 (0, 0)) (by (with_reducible repeat (first | refine blk_drewN ?_ _ | refine blk_drew ?_ | refine blk_alloc ?_ _)); exact BK417.out)) : gb417 ≠ gb446)); have n8_ := Aside0.mk ((by rw [hg]; exact Nat.ne_of_gt (blk_lt (g := gb417) (o := .cells #[.bool a0_0, .string a0_1, .int .i64 a0_2] 23 (0, 0)) (by (with_reducible repeat (first | refine blk_drewN ?_ _ | refine blk_drew ?_ | refine blk_alloc ?_ _)); exact BK417.out)) : gb446 ≠ gb417)); have n9_ := Aside0.mk ((by rw [hg]; exact Nat.ne_of_lt (blk_lt (g := gb424) (o := .cells #[.bool t420, .string t421, .int .i64 t422] 23 (0, 0)) (by (with_reducible repeat (first | refine blk_drewN ?_ _ | refine blk_drew ?_ | refine blk_alloc ?_ _)); exact BK424.out)) : gb424 ≠ gb446)); have n10_ := Aside0.mk ((by rw [hg]; exact Nat.ne_of_gt (blk_lt (g := gb424) (o := .cells #[.bool t420, .string t421, .int .i64 t422] 23 (0, 0)) (by (with_reducible repeat (first | refine blk_drewN ?_ _ | refine blk_drew ?_ | refine blk_alloc ?_ _)); exact BK424.out)) : gb446 ≠ gb424)); have n11_ := Aside0.mk ((by rw [hg]; exact Nat.ne_of_lt (blk_lt (g := gb434) (o := .cells #[.bool t430, .string t431, .int .i64 t432] 23 (0, 0)) (by (with_reducible repeat (first | refine blk_drewN ?_ _ | refine blk_drew ?_ | refine blk_alloc ?_ _)); exact BK434.out)) : gb434 ≠ gb446)); have n12_ := Aside0.mk ((by rw [hg]; exact Nat.ne_of_gt (blk_lt (g := gb434) (o := .cells #[.bool t430, .string t431, .int .i64 t432] 23 (0, 0)) (by (with_reducible repeat (first | refine blk_drewN ?_ _ | refine blk_drew ?_ | refine blk_alloc ?_ _)); exact BK434.out)) : gb446 ≠ gb434)); clear BK417; clear BK424; clear BK434; clear HB; have BK417 := n0_; have BK424 := n1_; have BK434 := n2_; have HB := n3_; have BK446 := n4_; have GW446 := n5_; have GE446 := n6_; have NB417_446 := n7_; have NB446_417 := n8_; have NB424_446 := n9_; have NB446_424 := n10_; have NB434_446 := n11_; have NB446_434 := n12_; clear n0_ n1_ n2_ n3_ n4_ n5_ n6_ n7_ n8_ n9_ n10_ n11_ n12_; clear hb hbox hg; have hnb115 := NB446_417.out; have hnc115 := NB417_446.out; have hnb116 := NB446_424.out; have hnc116 := NB424_446.out; have hnb117 := NB446_434.out; have hnc117 := NB434_446.out; have hcz118_0 : w114.cell? ⟨gb446, 0, none⟩ = some (.bool false) := (blk_cell BK446.out 0).trans rfl; have hcz118_1 : w114.cell? ⟨gb446, 1, none⟩ = some (.string (⟨#[]⟩ : ByteArray)) := (blk_cell BK446.out 1).trans rfl; have hcz118_2 : w114.cell? ⟨gb446, 2, none⟩ = some (.int .i64 0) := (blk_cell BK446.out 2).trans rfl; have hfz118_0 := blk_frozen BK446.out 0; have hfz118_1 := blk_frozen BK446.out 1; have hfz118_2 := blk_frozen BK446.out 2; have hcz119_0 : w114.cell? ⟨gb424, 0, none⟩ = some (.bool t420) := (blk_cell BK424.out 0).trans rfl; have hcz119_1 : w114.cell? ⟨gb424, 1, none⟩ = some (.string t421) := (blk_cell BK424.out 1).trans rfl; have hcz119_2 : w114.cell? ⟨gb424, 2, none⟩ = some (.int .i64 t422) := (blk_cell BK424.out 2).trans rfl; have hfz119_0 := blk_frozen BK424.out 0; have hfz119_1 := blk_frozen BK424.out 1; have hfz119_2 := blk_frozen BK424.out 2))
                              go_ret
                              exact ⟨by first | exact congrArg (fun b_ => Ending.returned (Value.bool b_)) HX.out | (have hx_ := HX.out; simp at hx_ ⊢; done) | (have hx_ := HX.out; simp at hx_ ⊢; exact hx_) | (have hx_ := HX.out; simp_all) | (simp [*, errW_none, errW_some] <;> rfl), by repeat (first | (with_reducible first | exact HB.out | apply below_alloc | apply pw_below_drewN | apply below_drew1 | refine below_set ?_ GE417.out | refine below_set ?_ GE424.out | refine below_set ?_ GE434.out | refine below_set ?_ GE446.out) | exact HB.out)⟩
                            · rw [if_neg c109] at H
                              have c109b0 : (t445 == (t425.size : Int)) = false := beq_eq_false_iff_ne.mpr c109
                              have c109b1 : (t445 != (t425.size : Int)) = true := bne_iff_ne.mpr c109
                              exact absurd H (by simp)
        · replace c12 := Bool.eq_false_iff.mpr c12
          subst c12
          have H1 : (if t423 = 80 then (if t426 = 80 then (if t428 = 80 then (if t425.toList = ([] : List UInt8) then (if t427 = 0 then (some (!t420 && (t421.toList == ([] : List UInt8) && (t422 == 0)))) else (some false)) else (some false)) else (some false)) else (some false)) else (some false)) = some true := by rw [if_neg (show ¬ (false = true) by decide)] at H; exact H
          clear H
          have H := H1
          clear H1
          by_cases c120 : t423 = 80
          · rw [if_pos c120] at H
            have c120b0 : (t423 == 80) = true := beq_iff_eq.mpr c120
            have c120b1 : (t423 != 80) = false := bne_eq_false_iff_eq.mpr c120
            clear c120
            by_cases c121 : t426 = 80
            · rw [if_pos c121] at H
              have c121b0 : (t426 == 80) = true := beq_iff_eq.mpr c121
              have c121b1 : (t426 != 80) = false := bne_eq_false_iff_eq.mpr c121
              clear c121
              by_cases c122 : t428 = 80
              · rw [if_pos c122] at H
                have c122b0 : (t428 == 80) = true := beq_iff_eq.mpr c122
                have c122b1 : (t428 != 80) = false := bne_eq_false_iff_eq.mpr c122
                clear c122
                by_cases c123 : t425.toList = ([] : List UInt8)
                · rw [if_pos c123] at H
                  have c123b0 : (t425.toList == ([] : List UInt8)) = true := beq_iff_eq.mpr c123
                  have c123b1 : (t425.toList != ([] : List UInt8)) = false := bne_eq_false_iff_eq.mpr c123
                  clear c123
                  by_cases c124 : t427 = 0
                  · rw [if_pos c124] at H
                    have c124b0 : (t427 == 0) = true := beq_iff_eq.mpr c124
                    have c124b1 : (t427 != 0) = false := bne_eq_false_iff_eq.mpr c124
                    clear c124
                    have HX := Aside0.mk (Option.some.inj H)
                    clear H
                    have hcz125_0 : wc.cell? ⟨gb417, 0, none⟩ = some (.bool a0_0) := (blk_cell BK417.out 0).trans rfl
                    have hcz125_1 : wc.cell? ⟨gb417, 1, none⟩ = some (.string a0_1) := (blk_cell BK417.out 1).trans rfl
                    have hcz125_2 : wc.cell? ⟨gb417, 2, none⟩ = some (.int .i64 a0_2) := (blk_cell BK417.out 2).trans rfl
                    have hfz125_0 := blk_frozen BK417.out 0
                    have hfz125_1 := blk_frozen BK417.out 1
                    have hfz125_2 := blk_frozen BK417.out 2
                    go_wp2_with (first | ((with_reducible refine gate_callee (f := 13) rfl ?_); refine goesL_ (some 28) rfl rfl Tryd.func13 (by kernel_rfl) rfl #[.agg #[.bool a0_0, .string a0_1, .int .i64 a0_2]] rfl (by (try simp only [List.map_toArray, List.map_cons, List.map_nil]); first | done | rfl | (simp only [List.length_drop, List.length_take]; rfl)) ?_; (with_reducible refine (scan_Norm.calls kj2 a0_0 a0_1 a0_2 t420 t421 t422 t423 _ A8.out).mono ?_); rintro e w126 ⟨rfl, hb⟩; refine ⟨_, rfl, ?_⟩; have n0_ := Aside0.mk (blk_below (g := gb417) (o := .cells #[.bool a0_0, .string a0_1, .int .i64 a0_2] 23 (0, 0)) (by (with_reducible repeat (first | refine blk_drewN ?_ _ | refine blk_drew ?_ | refine blk_alloc ?_ _)); exact BK417.out) hb); have n1_ := Aside0.mk (below_step (by repeat (first | (with_reducible first | exact HB.out | apply below_alloc | apply pw_below_drewN | apply below_drew1 | refine below_set ?_ GE417.out) | exact HB.out)) hb); clear BK417; clear HB; have BK417 := n0_; have HB := n1_; clear n0_ n1_; (try clear hb); (try clear hb2); (try clear hk); (try clear hi)) | ((with_reducible refine gate_dst (N := 5) rfl ?_); (try (refine gate_guard (by rfl) ?_; dsimp only)); refine box_event ?hg (N := 5) ?hd (cs := #[.bool false, .string (⟨#[]⟩ : ByteArray), .int .i64 0]) (t := 23) ?hr ?_; (case hd => rfl); (case hg => rfl); (case hr => first | (go_simp; done) | (go_simp; rfl)); intro gb424 hg w127 hbox hb; have n0_ := Aside0.mk (blk_below (g := gb417) (o := .cells #[.bool a0_0, .string a0_1, .int .i64 a0_2] 23 (0, 0)) (by (with_reducible repeat (first | refine blk_drewN ?_ _ | refine blk_drew ?_ | refine blk_alloc ?_ _)); exact BK417.out) hb); have n1_ := Aside0.mk (below_step (by repeat (first | (with_reducible first | exact HB.out | apply below_alloc | apply pw_below_drewN | apply below_drew1 | refine below_set ?_ GE417.out) | exact HB.out)) hb); have n2_ := Aside0.mk (hbox); have n3_ := Aside0.mk ((by rw [hg]; exact (below_size (by repeat (first | (with_reducible first | exact HB.out | apply below_alloc | apply pw_below_drewN | apply below_drew1 | refine below_set ?_ GE417.out) | exact HB.out))) : w.heap.size ≤ gb424)); have n4_ := Aside0.mk ((by rw [hg]; exact (below_size (by repeat (first | (with_reducible first | exact HB.out | apply below_alloc | apply pw_below_drewN | apply below_drew1 | refine below_set ?_ GE417.out) | exact HB.out))) : w.heap.size ≤ gb424)); have n5_ := Aside0.mk ((by rw [hg]; exact Nat.ne_of_lt (blk_lt (g := gb417) (o := .cells #[.bool a0_0, .string a0_1, .int .i64 a0_2] 23 (0, 0)) (by (with_reducible repeat (first | refine blk_drewN ?_ _ | refine blk_drew ?_ | refine blk_alloc ?_ _)); exact BK417.out)) : gb417 ≠ gb424)); have n6_ := Aside0.mk ((by rw [hg]; exact Nat.ne_of_gt (blk_lt (g := gb417) (o := .cells #[.bool a0_0, .string a0_1, .int .i64 a0_2] 23 (0, 0)) (by (with_reducible repeat (first | refine blk_drewN ?_ _ | refine blk_drew ?_ | refine blk_alloc ?_ _)); exact BK417.out)) : gb424 ≠ gb417)); clear BK417; clear HB; have BK417 := n0_; have HB := n1_; have BK424 := n2_; have GW424 := n3_; have GE424 := n4_; have NB417_424 := n5_; have NB424_417 := n6_; clear n0_ n1_ n2_ n3_ n4_ n5_ n6_; clear hb hbox hg; have hnb128 := NB424_417.out; have hnc128 := NB417_424.out; have hcz129_0 : w127.cell? ⟨gb424, 0, none⟩ = some (.bool false) := (blk_cell BK424.out 0).trans rfl; have hcz129_1 : w127.cell? ⟨gb424, 1, none⟩ = some (.string (⟨#[]⟩ : ByteArray)) := (blk_cell BK424.out 1).trans rfl; have hcz129_2 : w127.cell? ⟨gb424, 2, none⟩ = some (.int .i64 0) := (blk_cell BK424.out 2).trans rfl; have hfz129_0 := blk_frozen BK424.out 0; have hfz129_1 := blk_frozen BK424.out 1; have hfz129_2 := blk_frozen BK424.out 2; have hcz130_0 : w127.cell? ⟨gb417, 0, none⟩ = some (.bool a0_0) := (blk_cell BK417.out 0).trans rfl; have hcz130_1 : w127.cell? ⟨gb417, 1, none⟩ = some (.string a0_1) := (blk_cell BK417.out 1).trans rfl; have hcz130_2 : w127.cell? ⟨gb417, 2, none⟩ = some (.int .i64 a0_2) := (blk_cell BK417.out 2).trans rfl; have hfz130_0 := blk_frozen BK417.out 0; have hfz130_1 := blk_frozen BK417.out 1; have hfz130_2 := blk_frozen BK417.out 2) | ((with_reducible refine gate_callee (f := 24) rfl ?_); refine goesL_ (some 33) rfl rfl Tryd.func24 (by kernel_rfl) rfl #[.agg #[.bool a0_0, .string a0_1, .int .i64 a0_2]] rfl (by (try simp only [List.map_toArray, List.map_cons, List.map_nil]); first | done | rfl | (simp only [List.length_drop, List.length_take]; rfl)) ?_; (with_reducible refine (scan_Text.calls kj2 a0_0 a0_1 a0_2 t425 t426 _ ?side1 A9.out).mono ?_); (case side1 => exact GW.below HG.out (by repeat (first | (with_reducible first | exact HB.out | apply below_alloc | apply pw_below_drewN | apply below_drew1 | refine below_set ?_ GE417.out | refine below_set ?_ GE424.out) | exact HB.out))); rintro e w131 ⟨rfl, hb⟩; refine ⟨_, rfl, ?_⟩; have n0_ := Aside0.mk (blk_below (g := gb417) (o := .cells #[.bool a0_0, .string a0_1, .int .i64 a0_2] 23 (0, 0)) (by (with_reducible repeat (first | refine blk_drewN ?_ _ | refine blk_drew ?_ | refine blk_alloc ?_ _)); refine blk_far ?_ NB417_424.out _; (with_reducible repeat (first | refine blk_drewN ?_ _ | refine blk_drew ?_ | refine blk_alloc ?_ _)); refine blk_far ?_ NB417_424.out _; (with_reducible repeat (first | refine blk_drewN ?_ _ | refine blk_drew ?_ | refine blk_alloc ?_ _)); refine blk_far ?_ NB417_424.out _; (with_reducible repeat (first | refine blk_drewN ?_ _ | refine blk_drew ?_ | refine blk_alloc ?_ _)); exact BK417.out) hb); have n1_ := Aside0.mk (blk_below (g := gb424) (o := .cells #[.bool t420, .string t421, .int .i64 t422] 23 (0, 0)) (by (with_reducible repeat (first | refine blk_drewN ?_ _ | refine blk_drew ?_ | refine blk_alloc ?_ _)); refine blk_put (cs := #[.bool t420, .string t421, .int .i64 0]) ?_ 2 _ rfl; (with_reducible repeat (first | refine blk_drewN ?_ _ | refine blk_drew ?_ | refine blk_alloc ?_ _)); refine blk_put (cs := #[.bool t420, .string (⟨#[]⟩ : ByteArray), .int .i64 0]) ?_ 1 _ rfl; (with_reducible repeat (first | refine blk_drewN ?_ _ | refine blk_drew ?_ | refine blk_alloc ?_ _)); refine blk_put (cs := #[.bool false, .string (⟨#[]⟩ : ByteArray), .int .i64 0]) ?_ 0 _ rfl; (with_reducible repeat (first | refine blk_drewN ?_ _ | refine blk_drew ?_ | refine blk_alloc ?_ _)); exact BK424.out) hb); have n2_ := Aside0.mk (below_step (by repeat (first | (with_reducible first | exact HB.out | apply below_alloc | apply pw_below_drewN | apply below_drew1 | refine below_set ?_ GE417.out | refine below_set ?_ GE424.out) | exact HB.out)) hb); clear BK417; clear BK424; clear HB; have BK417 := n0_; have BK424 := n1_; have HB := n2_; clear n0_ n1_ n2_; (try clear hb); (try clear hb2); (try clear hk); (try clear hi); have hcz132_0 : w131.cell? ⟨gb417, 0, none⟩ = some (.bool a0_0) := (blk_cell BK417.out 0).trans rfl; have hcz132_1 : w131.cell? ⟨gb417, 1, none⟩ = some (.string a0_1) := (blk_cell BK417.out 1).trans rfl; have hcz132_2 : w131.cell? ⟨gb417, 2, none⟩ = some (.int .i64 a0_2) := (blk_cell BK417.out 2).trans rfl; have hfz132_0 := blk_frozen BK417.out 0; have hfz132_1 := blk_frozen BK417.out 1; have hfz132_2 := blk_frozen BK417.out 2) | ((with_reducible refine gate_callee (f := 9) rfl ?_); refine goesL_ (some 39) rfl rfl Tryd.func9 (by kernel_rfl) rfl #[.agg #[.bool a0_0, .string a0_1, .int .i64 a0_2], .agg #[.bool a0_0, .string a0_1, .int .i64 a0_2]] rfl (by (try simp only [List.map_toArray, List.map_cons, List.map_nil]); first | done | rfl | (simp only [List.length_drop, List.length_take]; rfl)) ?_; (with_reducible refine (scan_Cmp.calls kj2 a0_0 a0_1 a0_2 a0_0 a0_1 a0_2 t427 t428 _ A10.out).mono ?_); rintro e w133 ⟨rfl, hb⟩; refine ⟨_, rfl, ?_⟩; have n0_ := Aside0.mk (blk_below (g := gb417) (o := .cells #[.bool a0_0, .string a0_1, .int .i64 a0_2] 23 (0, 0)) (by (with_reducible repeat (first | refine blk_drewN ?_ _ | refine blk_drew ?_ | refine blk_alloc ?_ _)); exact BK417.out) hb); have n1_ := Aside0.mk (blk_below (g := gb424) (o := .cells #[.bool t420, .string t421, .int .i64 t422] 23 (0, 0)) (by (with_reducible repeat (first | refine blk_drewN ?_ _ | refine blk_drew ?_ | refine blk_alloc ?_ _)); exact BK424.out) hb); have n2_ := Aside0.mk (below_step (by repeat (first | (with_reducible first | exact HB.out | apply below_alloc | apply pw_below_drewN | apply below_drew1 | refine below_set ?_ GE417.out | refine below_set ?_ GE424.out) | exact HB.out)) hb); clear BK417; clear BK424; clear HB; have BK417 := n0_; have BK424 := n1_; have HB := n2_; clear n0_ n1_ n2_; (try clear hb); (try clear hb2); (try clear hk); (try clear hi); have hcz134_0 : w133.cell? ⟨gb417, 0, none⟩ = some (.bool a0_0) := (blk_cell BK417.out 0).trans rfl; have hcz134_1 : w133.cell? ⟨gb417, 1, none⟩ = some (.string a0_1) := (blk_cell BK417.out 1).trans rfl; have hcz134_2 : w133.cell? ⟨gb417, 2, none⟩ = some (.int .i64 a0_2) := (blk_cell BK417.out 2).trans rfl; have hfz134_0 := blk_frozen BK417.out 0; have hfz134_1 := blk_frozen BK417.out 1; have hfz134_2 := blk_frozen BK417.out 2) | ((with_reducible refine gate_callee (f := 10) rfl ?_); refine goesL_ (some 43) rfl rfl Tryd.func10 (by kernel_rfl) rfl #[.agg #[.bool a0_0, .string a0_1, .int .i64 a0_2]] rfl (by (try simp only [List.map_toArray, List.map_cons, List.map_nil]); first | done | rfl | (simp only [List.length_drop, List.length_take]; rfl)) ?_; (with_reducible refine (abacuslaw08_is.calls kj2 a0_0 a0_1 a0_2 false _ A11.out).mono ?_); rintro e w135 ⟨rfl, hb⟩; refine ⟨_, rfl, ?_⟩; have n0_ := Aside0.mk (blk_below (g := gb417) (o := .cells #[.bool a0_0, .string a0_1, .int .i64 a0_2] 23 (0, 0)) (by (with_reducible repeat (first | refine blk_drewN ?_ _ | refine blk_drew ?_ | refine blk_alloc ?_ _)); exact BK417.out) hb); have n1_ := Aside0.mk (blk_below (g := gb424) (o := .cells #[.bool t420, .string t421, .int .i64 t422] 23 (0, 0)) (by (with_reducible repeat (first | refine blk_drewN ?_ _ | refine blk_drew ?_ | refine blk_alloc ?_ _)); exact BK424.out) hb); have n2_ := Aside0.mk (below_step (by repeat (first | (with_reducible first | exact HB.out | apply below_alloc | apply pw_below_drewN | apply below_drew1 | refine below_set ?_ GE417.out | refine below_set ?_ GE424.out) | exact HB.out)) hb); clear BK417; clear BK424; clear HB; have BK417 := n0_; have BK424 := n1_; have HB := n2_; clear n0_ n1_ n2_; (try clear hb); (try clear hb2); (try clear hk); (try clear hi); have hcz136_0 : w135.cell? ⟨gb424, 0, none⟩ = some (.bool t420) := (blk_cell BK424.out 0).trans rfl; have hcz136_1 : w135.cell? ⟨gb424, 1, none⟩ = some (.string t421) := (blk_cell BK424.out 1).trans rfl; have hcz136_2 : w135.cell? ⟨gb424, 2, none⟩ = some (.int .i64 t422) := (blk_cell BK424.out 2).trans rfl; have hfz136_0 := blk_frozen BK424.out 0; have hfz136_1 := blk_frozen BK424.out 1; have hfz136_2 := blk_frozen BK424.out 2))
                    go_ret
                    exact ⟨by first | exact congrArg (fun b_ => Ending.returned (Value.bool b_)) HX.out | (have hx_ := HX.out; simp at hx_ ⊢; done) | (have hx_ := HX.out; simp at hx_ ⊢; exact hx_) | (have hx_ := HX.out; simp_all) | (simp [*, errW_none, errW_some] <;> rfl), by repeat (first | (with_reducible first | exact HB.out | apply below_alloc | apply pw_below_drewN | apply below_drew1 | refine below_set ?_ GE417.out | refine below_set ?_ GE424.out) | exact HB.out)⟩
                  · rw [if_neg c124] at H
                    have c124b0 : (t427 == 0) = false := beq_eq_false_iff_ne.mpr c124
                    have c124b1 : (t427 != 0) = true := bne_iff_ne.mpr c124
                    exact absurd H (by simp)
                · rw [if_neg c123] at H
                  have c123b0 : (t425.toList == ([] : List UInt8)) = false := beq_eq_false_iff_ne.mpr c123
                  have c123b1 : (t425.toList != ([] : List UInt8)) = true := bne_iff_ne.mpr c123
                  exact absurd H (by simp)
              · rw [if_neg c122] at H
                have c122b0 : (t428 == 80) = false := beq_eq_false_iff_ne.mpr c122
                have c122b1 : (t428 != 80) = true := bne_iff_ne.mpr c122
                exact absurd H (by simp)
            · rw [if_neg c121] at H
              have c121b0 : (t426 == 80) = false := beq_eq_false_iff_ne.mpr c121
              have c121b1 : (t426 != 80) = true := bne_iff_ne.mpr c121
              exact absurd H (by simp)
          · rw [if_neg c120] at H
            have c120b0 : (t423 == 80) = false := beq_eq_false_iff_ne.mpr c120
            have c120b1 : (t423 != 80) = true := bne_iff_ne.mpr c120
            exact absurd H (by simp)

end Go.Proofs.YtcgjfckhnpimbaaDoor.EScan
