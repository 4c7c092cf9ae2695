-- Written by eprint.py (a program of this session's, over the kit's print), not by hand.
import Derived.Test.YtcgjfckhnpimbaaDoorEScanx0
import Derived.Test.YtcgjfckhnpimbaaDoorEScanx1
import Derived.Test.YtcgjfckhnpimbaaDoorEScanx14
import Derived.Test.YtcgjfckhnpimbaaDoorEScanx24
import Derived.Test.YtcgjfckhnpimbaaDoorEScanx28
namespace Go.Proofs.YtcgjfckhnpimbaaDoor.EScan
open Go.RowKit Go.Proofs.YtcgjfckhnpimbaaDoorW.PrintWords Go.Proofs.YtcgjfckhnpimbaaDoorW.PrintLast Go.Proofs.YtcgjfckhnpimbaaDoorW.PrintMore
attribute [local go_sem] max2_int min2_int max_two min_two max_three min_three max_four min_four   -- for this text's walks alone
set_option linter.unusedVariables false
set_option linter.unusedSimpArgs false

attribute [local go_sem high] eqA23
/-! ### abacuslaw08_ScanLongest: function 5 -/
mutual
def abacuslaw08_ScanLongest.j0 : Nat → ByteArray → Bool → Option (Bool)
  | 0, _, _ => none
  | k + 1, x0, x29 => if x29 = true then (some false) else (if (x0.size : Int) > 1500 then (some true) else ((scan_Number.f k x0).bind fun bt270 => (if bt270.2.2.2 < 0 then (abacuslaw08_ScanLongest.j1 k x0 bt270.2.2.2 true bt270.1 bt270.2.1 bt270.2.2.1) else (abacuslaw08_ScanLongest.j1 k x0 bt270.2.2.2 (decide (bt270.2.2.2 > (x0.size : Int))) bt270.1 bt270.2.1 bt270.2.2.1))))
def abacuslaw08_ScanLongest.j1 : Nat → ByteArray → Int → Bool → Bool → ByteArray → Int → Option (Bool)
  | 0, _, _, _, _, _, _ => none
  | k + 1, x0, x4, x45, x270000, x270001, x270002 => if x45 = true then (some false) else (if x4 = 0 then (if x270000 = true then (abacuslaw08_ScanLongest.j2 k x0 x4 true x270000 x270001 x270002) else (if x270001.toList = ([] : List UInt8) then (abacuslaw08_ScanLongest.j2 k x0 x4 (x270002 != 0) x270000 x270001 x270002) else (abacuslaw08_ScanLongest.j2 k x0 x4 true x270000 x270001 x270002))) else (abacuslaw08_ScanLongest.j2 k x0 x4 false x270000 x270001 x270002))
def abacuslaw08_ScanLongest.j2 : Nat → ByteArray → Int → Bool → Bool → ByteArray → Int → Option (Bool)
  | 0, _, _, _, _, _, _ => none
  | k + 1, x0, x4, x61, x270000, x270001, x270002 => if x61 = true then (some false) else (if x4 > 0 then (if 0 ≤ x4 then (if x4 ≤ (x0.size : Int) then ((scan_Whole.f k (x0.extract 0 (x4 : Int).toNat)).bind fun bt274 => (if bt274.2.2.2 = true then (if (!(bt274.1 == x270000) || (!(bt274.2.1.toList == x270001.toList) || (!(bt274.2.2.1 == x270002)))) = true then (some false) else (if 0 ≤ (wrap64 (x4 - 1)) then (if (wrap64 (x4 - 1)) < (x0.size : Int) then ((abacuslaw08_blank.f (bt x0 (wrap64 (x4 - 1)))).bind fun t279 => (if t279 = true then (some false) else (abacuslaw08_ScanLongest.j3 k x0 x4 x270000 x270001 x270002))) else (none)) else (none))) else (some false))) else (none)) else (none)) else (abacuslaw08_ScanLongest.j3 k x0 x4 x270000 x270001 x270002))
def abacuslaw08_ScanLongest.j3 : Nat → ByteArray → Int → Bool → ByteArray → Int → Option (Bool)
  | 0, _, _, _, _, _ => none
  | k + 1, x0, x4, x270000, x270001, x270002 => abacuslaw08_ScanLongest.l0 k x0 x4 (wrap64 (x4 + 1)) x270000 x270001 x270002
def abacuslaw08_ScanLongest.l0 : Nat → ByteArray → Int → Int → Bool → ByteArray → Int → Option (Bool)
  | 0, _, _, _, _, _, _ => none
  | k + 1, x0, x4, x7, x270000, x270001, x270002 => if x7 ≤ (x0.size : Int) then (if 0 ≤ x7 then ((scan_Whole.f k (x0.extract 0 (x7 : Int).toNat)).bind fun bt280 => (if x4 > 0 then (if 0 ≤ (wrap64 (x7 - 1)) then (if (wrap64 (x7 - 1)) < (x0.size : Int) then ((abacuslaw08_blank.f (bt x0 (wrap64 (x7 - 1)))).bind fun t285 => (abacuslaw08_ScanLongest.j5 k x0 x4 x7 bt280.2.2.2 t285 x270000 x270001 x270002 bt280.1 bt280.2.1 bt280.2.2.1)) else (none)) else (none)) else (abacuslaw08_ScanLongest.j5 k x0 x4 x7 bt280.2.2.2 false x270000 x270001 x270002 bt280.1 bt280.2.1 bt280.2.2.1))) else (none)) else (some true)
def abacuslaw08_ScanLongest.j5 : Nat → ByteArray → Int → Int → Bool → Bool → Bool → ByteArray → Int → Bool → ByteArray → Int → Option (Bool)
  | 0, _, _, _, _, _, _, _, _, _, _, _ => none
  | k + 1, x0, x4, x7, x9, x108, x270000, x270001, x270002, x285000, x285001, x285002 => if x108 = true then (if x9 = true then (abacuslaw08_ScanLongest.j6 k x0 x4 x7 (!(x285000 == x270000) || (!(x285001.toList == x270001.toList) || (!(x285002 == x270002)))) x270000 x270001 x270002) else (abacuslaw08_ScanLongest.j6 k x0 x4 x7 false x270000 x270001 x270002)) else (if x9 = true then (some false) else (abacuslaw08_ScanLongest.l0 k x0 x4 (wrap64 (x7 + 1)) x270000 x270001 x270002))
def abacuslaw08_ScanLongest.j6 : Nat → ByteArray → Int → Int → Bool → Bool → ByteArray → Int → Option (Bool)
  | 0, _, _, _, _, _, _, _ => none
  | k + 1, x0, x4, x7, x114, x270000, x270001, x270002 => if x114 = true then (some false) else (abacuslaw08_ScanLongest.l0 k x0 x4 (wrap64 (x7 + 1)) x270000 x270001 x270002)
end
def abacuslaw08_ScanLongest.f (k : Nat) (a0 : ByteArray) : Option (Bool) := (scan_Number.f k (⟨#[32, 50, 46, 53, 101, 49, 101]⟩ : ByteArray)).bind fun bt265 => (if bt265.2.2.2 = 6 then (if bt265.1 = true then (abacuslaw08_ScanLongest.j0 k a0 true) else (if bt265.2.1.toList = ([50, 53] : List UInt8) then (abacuslaw08_ScanLongest.j0 k a0 (bt265.2.2.1 != 0)) else (abacuslaw08_ScanLongest.j0 k a0 true))) else (abacuslaw08_ScanLongest.j0 k a0 true))
theorem abacuslaw08_ScanLongest.mono_l : ∀ k, (∀ y0 y1, LeO (abacuslaw08_ScanLongest.j0 k y0 y1) (abacuslaw08_ScanLongest.j0 (k + 1) y0 y1)) ∧ (∀ y0 y1 y2 y3 y4 y5, LeO (abacuslaw08_ScanLongest.j1 k y0 y1 y2 y3 y4 y5) (abacuslaw08_ScanLongest.j1 (k + 1) y0 y1 y2 y3 y4 y5)) ∧ (∀ y0 y1 y2 y3 y4 y5, LeO (abacuslaw08_ScanLongest.j2 k y0 y1 y2 y3 y4 y5) (abacuslaw08_ScanLongest.j2 (k + 1) y0 y1 y2 y3 y4 y5)) ∧ (∀ y0 y1 y2 y3 y4, LeO (abacuslaw08_ScanLongest.j3 k y0 y1 y2 y3 y4) (abacuslaw08_ScanLongest.j3 (k + 1) y0 y1 y2 y3 y4)) ∧ (∀ y0 y1 y2 y3 y4 y5, LeO (abacuslaw08_ScanLongest.l0 k y0 y1 y2 y3 y4 y5) (abacuslaw08_ScanLongest.l0 (k + 1) y0 y1 y2 y3 y4 y5)) ∧ (∀ y0 y1 y2 y3 y4 y5 y6 y7 y8 y9 y10, LeO (abacuslaw08_ScanLongest.j5 k y0 y1 y2 y3 y4 y5 y6 y7 y8 y9 y10) (abacuslaw08_ScanLongest.j5 (k + 1) y0 y1 y2 y3 y4 y5 y6 y7 y8 y9 y10)) ∧ (∀ y0 y1 y2 y3 y4 y5 y6, LeO (abacuslaw08_ScanLongest.j6 k y0 y1 y2 y3 y4 y5 y6) (abacuslaw08_ScanLongest.j6 (k + 1) y0 y1 y2 y3 y4 y5 y6))
  | 0 => ⟨fun _ _ r h => by simp [abacuslaw08_ScanLongest.j0] at h, fun _ _ _ _ _ _ r h => by simp [abacuslaw08_ScanLongest.j1] at h, fun _ _ _ _ _ _ r h => by simp [abacuslaw08_ScanLongest.j2] at h, fun _ _ _ _ _ r h => by simp [abacuslaw08_ScanLongest.j3] at h, fun _ _ _ _ _ _ r h => by simp [abacuslaw08_ScanLongest.l0] at h, fun _ _ _ _ _ _ _ _ _ _ _ r h => by simp [abacuslaw08_ScanLongest.j5] at h, fun _ _ _ _ _ _ _ r h => by simp [abacuslaw08_ScanLongest.j6] at h⟩
  | k + 1 => by
    obtain ⟨ih0, ih1, ih2, ih3, ih4, ih5, ih6⟩ := abacuslaw08_ScanLongest.mono_l k
    refine ⟨?_, ?_, ?_, ?_, ?_, ?_, ?_⟩
    · intro y0 y1
      unfold abacuslaw08_ScanLongest.j0
      repeat' first
      | (with_reducible exact ih0 _ _)
      | (with_reducible exact ih1 _ _ _ _ _ _)
      | (with_reducible exact ih2 _ _ _ _ _ _)
      | (with_reducible exact ih3 _ _ _ _ _)
      | (with_reducible exact ih4 _ _ _ _ _ _)
      | (with_reducible exact ih5 _ _ _ _ _ _ _ _ _ _ _)
      | (with_reducible exact ih6 _ _ _ _ _ _ _)
      | (with_reducible exact scan_Number.mono _ _)
      | (with_reducible exact scan_Whole.mono _ _)
      | (with_reducible exact LeO.refl _)
      | (with_reducible exact LeO.none _)
      | (with_reducible refine LeO.ite ?_ ?_)
      | (with_reducible refine LeO.bind ?_ (fun _ => ?_))
      | exact ih0 _ _
      | exact ih1 _ _ _ _ _ _
      | exact ih2 _ _ _ _ _ _
      | exact ih3 _ _ _ _ _
      | exact ih4 _ _ _ _ _ _
      | exact ih5 _ _ _ _ _ _ _ _ _ _ _
      | exact ih6 _ _ _ _ _ _ _
      | exact scan_Number.mono _ _
      | exact scan_Whole.mono _ _
      | exact LeO.none _
      | refine LeO.ite ?_ ?_
      | refine LeO.bind ?_ (fun _ => ?_)
    · intro y0 y1 y2 y3 y4 y5
      unfold abacuslaw08_ScanLongest.j1
      repeat' first
      | (with_reducible exact ih0 _ _)
      | (with_reducible exact ih1 _ _ _ _ _ _)
      | (with_reducible exact ih2 _ _ _ _ _ _)
      | (with_reducible exact ih3 _ _ _ _ _)
      | (with_reducible exact ih4 _ _ _ _ _ _)
      | (with_reducible exact ih5 _ _ _ _ _ _ _ _ _ _ _)
      | (with_reducible exact ih6 _ _ _ _ _ _ _)
      | (with_reducible exact scan_Number.mono _ _)
      | (with_reducible exact scan_Whole.mono _ _)
      | (with_reducible exact LeO.refl _)
      | (with_reducible exact LeO.none _)
      | (with_reducible refine LeO.ite ?_ ?_)
      | (with_reducible refine LeO.bind ?_ (fun _ => ?_))
      | exact ih0 _ _
      | exact ih1 _ _ _ _ _ _
      | exact ih2 _ _ _ _ _ _
      | exact ih3 _ _ _ _ _
      | exact ih4 _ _ _ _ _ _
      | exact ih5 _ _ _ _ _ _ _ _ _ _ _
      | exact ih6 _ _ _ _ _ _ _
      | exact scan_Number.mono _ _
      | exact scan_Whole.mono _ _
      | exact LeO.none _
      | refine LeO.ite ?_ ?_
      | refine LeO.bind ?_ (fun _ => ?_)
    · intro y0 y1 y2 y3 y4 y5
      unfold abacuslaw08_ScanLongest.j2
      repeat' first
      | (with_reducible exact ih0 _ _)
      | (with_reducible exact ih1 _ _ _ _ _ _)
      | (with_reducible exact ih2 _ _ _ _ _ _)
      | (with_reducible exact ih3 _ _ _ _ _)
      | (with_reducible exact ih4 _ _ _ _ _ _)
      | (with_reducible exact ih5 _ _ _ _ _ _ _ _ _ _ _)
      | (with_reducible exact ih6 _ _ _ _ _ _ _)
      | (with_reducible exact scan_Number.mono _ _)
      | (with_reducible exact scan_Whole.mono _ _)
      | (with_reducible exact LeO.refl _)
      | (with_reducible exact LeO.none _)
      | (with_reducible refine LeO.ite ?_ ?_)
      | (with_reducible refine LeO.bind ?_ (fun _ => ?_))
      | exact ih0 _ _
      | exact ih1 _ _ _ _ _ _
      | exact ih2 _ _ _ _ _ _
      | exact ih3 _ _ _ _ _
      | exact ih4 _ _ _ _ _ _
      | exact ih5 _ _ _ _ _ _ _ _ _ _ _
      | exact ih6 _ _ _ _ _ _ _
      | exact scan_Number.mono _ _
      | exact scan_Whole.mono _ _
      | exact LeO.none _
      | refine LeO.ite ?_ ?_
      | refine LeO.bind ?_ (fun _ => ?_)
    · intro y0 y1 y2 y3 y4
      unfold abacuslaw08_ScanLongest.j3
      repeat' first
      | (with_reducible exact ih0 _ _)
      | (with_reducible exact ih1 _ _ _ _ _ _)
      | (with_reducible exact ih2 _ _ _ _ _ _)
      | (with_reducible exact ih3 _ _ _ _ _)
      | (with_reducible exact ih4 _ _ _ _ _ _)
      | (with_reducible exact ih5 _ _ _ _ _ _ _ _ _ _ _)
      | (with_reducible exact ih6 _ _ _ _ _ _ _)
      | (with_reducible exact scan_Number.mono _ _)
      | (with_reducible exact scan_Whole.mono _ _)
      | (with_reducible exact LeO.refl _)
      | (with_reducible exact LeO.none _)
      | (with_reducible refine LeO.ite ?_ ?_)
      | (with_reducible refine LeO.bind ?_ (fun _ => ?_))
      | exact ih0 _ _
      | exact ih1 _ _ _ _ _ _
      | exact ih2 _ _ _ _ _ _
      | exact ih3 _ _ _ _ _
      | exact ih4 _ _ _ _ _ _
      | exact ih5 _ _ _ _ _ _ _ _ _ _ _
      | exact ih6 _ _ _ _ _ _ _
      | exact scan_Number.mono _ _
      | exact scan_Whole.mono _ _
      | exact LeO.none _
      | refine LeO.ite ?_ ?_
      | refine LeO.bind ?_ (fun _ => ?_)
    · intro y0 y1 y2 y3 y4 y5
      unfold abacuslaw08_ScanLongest.l0
      repeat' first
      | (with_reducible exact ih0 _ _)
      | (with_reducible exact ih1 _ _ _ _ _ _)
      | (with_reducible exact ih2 _ _ _ _ _ _)
      | (with_reducible exact ih3 _ _ _ _ _)
      | (with_reducible exact ih4 _ _ _ _ _ _)
      | (with_reducible exact ih5 _ _ _ _ _ _ _ _ _ _ _)
      | (with_reducible exact ih6 _ _ _ _ _ _ _)
      | (with_reducible exact scan_Number.mono _ _)
      | (with_reducible exact scan_Whole.mono _ _)
      | (with_reducible exact LeO.refl _)
      | (with_reducible exact LeO.none _)
      | (with_reducible refine LeO.ite ?_ ?_)
      | (with_reducible refine LeO.bind ?_ (fun _ => ?_))
      | exact ih0 _ _
      | exact ih1 _ _ _ _ _ _
      | exact ih2 _ _ _ _ _ _
      | exact ih3 _ _ _ _ _
      | exact ih4 _ _ _ _ _ _
      | exact ih5 _ _ _ _ _ _ _ _ _ _ _
      | exact ih6 _ _ _ _ _ _ _
      | exact scan_Number.mono _ _
      | exact scan_Whole.mono _ _
      | exact LeO.none _
      | refine LeO.ite ?_ ?_
      | refine LeO.bind ?_ (fun _ => ?_)
    · intro y0 y1 y2 y3 y4 y5 y6 y7 y8 y9 y10
      unfold abacuslaw08_ScanLongest.j5
      repeat' first
      | (with_reducible exact ih0 _ _)
      | (with_reducible exact ih1 _ _ _ _ _ _)
      | (with_reducible exact ih2 _ _ _ _ _ _)
      | (with_reducible exact ih3 _ _ _ _ _)
      | (with_reducible exact ih4 _ _ _ _ _ _)
      | (with_reducible exact ih5 _ _ _ _ _ _ _ _ _ _ _)
      | (with_reducible exact ih6 _ _ _ _ _ _ _)
      | (with_reducible exact scan_Number.mono _ _)
      | (with_reducible exact scan_Whole.mono _ _)
      | (with_reducible exact LeO.refl _)
      | (with_reducible exact LeO.none _)
      | (with_reducible refine LeO.ite ?_ ?_)
      | (with_reducible refine LeO.bind ?_ (fun _ => ?_))
      | exact ih0 _ _
      | exact ih1 _ _ _ _ _ _
      | exact ih2 _ _ _ _ _ _
      | exact ih3 _ _ _ _ _
      | exact ih4 _ _ _ _ _ _
      | exact ih5 _ _ _ _ _ _ _ _ _ _ _
      | exact ih6 _ _ _ _ _ _ _
      | exact scan_Number.mono _ _
      | exact scan_Whole.mono _ _
      | exact LeO.none _
      | refine LeO.ite ?_ ?_
      | refine LeO.bind ?_ (fun _ => ?_)
    · intro y0 y1 y2 y3 y4 y5 y6
      unfold abacuslaw08_ScanLongest.j6
      repeat' first
      | (with_reducible exact ih0 _ _)
      | (with_reducible exact ih1 _ _ _ _ _ _)
      | (with_reducible exact ih2 _ _ _ _ _ _)
      | (with_reducible exact ih3 _ _ _ _ _)
      | (with_reducible exact ih4 _ _ _ _ _ _)
      | (with_reducible exact ih5 _ _ _ _ _ _ _ _ _ _ _)
      | (with_reducible exact ih6 _ _ _ _ _ _ _)
      | (with_reducible exact scan_Number.mono _ _)
      | (with_reducible exact scan_Whole.mono _ _)
      | (with_reducible exact LeO.refl _)
      | (with_reducible exact LeO.none _)
      | (with_reducible refine LeO.ite ?_ ?_)
      | (with_reducible refine LeO.bind ?_ (fun _ => ?_))
      | exact ih0 _ _
      | exact ih1 _ _ _ _ _ _
      | exact ih2 _ _ _ _ _ _
      | exact ih3 _ _ _ _ _
      | exact ih4 _ _ _ _ _ _
      | exact ih5 _ _ _ _ _ _ _ _ _ _ _
      | exact ih6 _ _ _ _ _ _ _
      | exact scan_Number.mono _ _
      | exact scan_Whole.mono _ _
      | exact LeO.none _
      | refine LeO.ite ?_ ?_
      | refine LeO.bind ?_ (fun _ => ?_)
theorem abacuslaw08_ScanLongest.mono : ∀ a0 k, LeO (abacuslaw08_ScanLongest.f k a0) (abacuslaw08_ScanLongest.f (k + 1) a0) := by
  intro a0 k
  obtain ⟨ih0, ih1, ih2, ih3, ih4, ih5, ih6⟩ := abacuslaw08_ScanLongest.mono_l k
  unfold abacuslaw08_ScanLongest.f
  repeat' first
      | (with_reducible exact ih0 _ _)
      | (with_reducible exact ih1 _ _ _ _ _ _)
      | (with_reducible exact ih2 _ _ _ _ _ _)
      | (with_reducible exact ih3 _ _ _ _ _)
      | (with_reducible exact ih4 _ _ _ _ _ _)
      | (with_reducible exact ih5 _ _ _ _ _ _ _ _ _ _ _)
      | (with_reducible exact ih6 _ _ _ _ _ _ _)
      | (with_reducible exact scan_Number.mono _ _)
      | (with_reducible exact scan_Whole.mono _ _)
      | (with_reducible exact LeO.refl _)
      | (with_reducible exact LeO.none _)
      | (with_reducible refine LeO.ite ?_ ?_)
      | (with_reducible refine LeO.bind ?_ (fun _ => ?_))
      | exact ih0 _ _
      | exact ih1 _ _ _ _ _ _
      | exact ih2 _ _ _ _ _ _
      | exact ih3 _ _ _ _ _
      | exact ih4 _ _ _ _ _ _
      | exact ih5 _ _ _ _ _ _ _ _ _ _ _
      | exact ih6 _ _ _ _ _ _ _
      | exact scan_Number.mono _ _
      | exact scan_Whole.mono _ _
      | exact LeO.none _
      | refine LeO.ite ?_ ?_
      | refine LeO.bind ?_ (fun _ => ?_)
set_option maxHeartbeats 8000000 in
set_option maxRecDepth 100000 in
theorem abacuslaw08_ScanLongest.calls (k : Nat) (a0 : ByteArray) (w : World) (h : abacuslaw08_ScanLongest.f k a0 = some true) :
    Calls Tryd.prog 5 #[.string a0] w fun e w' => e = .returned (.bool true) ∧ Below w.heap.size w w' := by
  have hu23 := Tryd.underlying23
  have HB := Aside0.mk (Below.refl w.heap.size w)
  have H : ((scan_Number.f k (⟨#[32, 50, 46, 53, 101, 49, 101]⟩ : ByteArray)).bind fun bt265 => (if bt265.2.2.2 = 6 then (if bt265.1 = true then (abacuslaw08_ScanLongest.j0 k a0 true) else (if bt265.2.1.toList = ([50, 53] : List UInt8) then (abacuslaw08_ScanLongest.j0 k a0 (bt265.2.2.1 != 0)) else (abacuslaw08_ScanLongest.j0 k a0 true))) else (abacuslaw08_ScanLongest.j0 k a0 true))) = some true := h
  clear h
  replace H := Option.bind_eq_some_iff.mp H
  obtain ⟨⟨t265, t266, t267, t268⟩, A20, H⟩ := H
  replace H : (if t268 = 6 then (if t265 = true then (abacuslaw08_ScanLongest.j0 k a0 true) else (if t266.toList = ([50, 53] : List UInt8) then (abacuslaw08_ScanLongest.j0 k a0 (t267 != 0)) else (abacuslaw08_ScanLongest.j0 k a0 true))) else (abacuslaw08_ScanLongest.j0 k a0 true)) = some true := H
  have A2 := Aside0.mk A20
  clear A20
  have HC3 := Aside0.mk H
  clear H
  go_enter Tryd.func5, Tryd.ntmps5
  go_upto_region 2 with (first | ((with_reducible refine gate_callee (f := 17) rfl ?_); refine goesL_ (some 11) rfl rfl Tryd.func17 (by kernel_rfl) rfl #[.string (⟨#[32, 50, 46, 53, 101, 49, 101]⟩ : ByteArray)] rfl (by (try simp only [List.map_toArray, List.map_cons, List.map_nil]); first | done | rfl | (simp only [List.length_drop, List.length_take]; rfl)) ?_; (with_reducible refine (scan_Number.calls k (⟨#[32, 50, 46, 53, 101, 49, 101]⟩ : ByteArray) t265 t266 t267 t268 _ A2.out).mono ?_); rintro e w4 ⟨rfl, hb⟩; refine ⟨_, rfl, ?_⟩; have n0_ := Aside0.mk (below_step (by repeat (first | (with_reducible first | exact HB.out | apply below_alloc | apply pw_below_drewN | apply below_drew1) | exact HB.out)) hb); clear HB; have HB := n0_; clear n0_; (try clear hb); (try clear hb2); (try clear hk); (try clear hi)) | ((with_reducible refine gate_dst (N := 3) rfl ?_); (try (refine gate_guard (by rfl) ?_; dsimp only)); refine box_event ?hg (N := 3) ?hd (cs := #[.bool false, .string (⟨#[]⟩ : ByteArray), .int .i64 0]) (t := 23) ?hr ?_; (case hd => rfl); (case hg => rfl); (case hr => first | (go_simp; done) | (go_simp; rfl)); intro gb269 hg w5 hbox hb; have n0_ := Aside0.mk (below_step (by repeat (first | (with_reducible first | exact HB.out | apply below_alloc | apply pw_below_drewN | apply below_drew1) | exact HB.out)) hb); have n1_ := Aside0.mk (hbox); have n2_ := Aside0.mk ((by rw [hg]; exact (below_size (by repeat (first | (with_reducible first | exact HB.out | apply below_alloc | apply pw_below_drewN | apply below_drew1) | exact HB.out))) : w.heap.size ≤ gb269)); have n3_ := Aside0.mk ((by rw [hg]; exact (below_size (by repeat (first | (with_reducible first | exact HB.out | apply below_alloc | apply pw_below_drewN | apply below_drew1) | exact HB.out))) : w.heap.size ≤ gb269)); clear HB; have HB := n0_; have BK269 := n1_; have GW269 := n2_; have GE269 := n3_; clear n0_ n1_ n2_ n3_; clear hb hbox hg; have hcz6_0 : w5.cell? ⟨gb269, 0, none⟩ = some (.bool false) := (blk_cell BK269.out 0).trans rfl; have hcz6_1 : w5.cell? ⟨gb269, 1, none⟩ = some (.string (⟨#[]⟩ : ByteArray)) := (blk_cell BK269.out 1).trans rfl; have hcz6_2 : w5.cell? ⟨gb269, 2, none⟩ = some (.int .i64 0) := (blk_cell BK269.out 2).trans rfl; have hfz6_0 := blk_frozen BK269.out 0; have hfz6_1 := blk_frozen BK269.out 1; have hfz6_2 := blk_frozen BK269.out 2))
  (try simp only [Act.put, List.setIfInBounds_toArray, List.set_cons_zero, List.set_cons_succ])
  go_cut [29] (fun v29 wc => ∃ (kq : Nat) (x29_2 : Bool), v29 = .bool x29_2 ∧ Aside0 (abacuslaw08_ScanLongest.j0 kq a0 x29_2 = some true) ∧ Aside0 (kq ≤ k) ∧ Aside0 (wc.heap[gb269]? = some (.cells #[.bool t265, .string t266, .int .i64 t267] 23 (0, 0))) ∧ Aside0 (Below w.heap.size w wc))
  case first =>
    have H := HC3.out
    clear HC3
    by_cases c7 : t268 = 6
    · rw [if_pos c7] at H
      have c7b0 : (t268 == 6) = true := beq_iff_eq.mpr c7
      have c7b1 : (t268 != 6) = false := bne_eq_false_iff_eq.mpr c7
      clear c7
      (first | rw [c7b0] | (simp only [i64_w, i32_w]; rw [c7b0]) | skip)
      by_cases c8 : t265 = true
      · subst c8
        have H1 : (abacuslaw08_ScanLongest.j0 k a0 true) = some true := by rw [if_pos rfl] at H; exact H
        clear H
        have H := H1
        clear H1
        have H' := Aside0.mk H
        clear H
        have hcz9_0 : w5.cell? ⟨gb269, 0, none⟩ = some (.bool false) := (blk_cell BK269.out 0).trans rfl
        have hcz9_1 : w5.cell? ⟨gb269, 1, none⟩ = some (.string (⟨#[]⟩ : ByteArray)) := (blk_cell BK269.out 1).trans rfl
        have hcz9_2 : w5.cell? ⟨gb269, 2, none⟩ = some (.int .i64 0) := (blk_cell BK269.out 2).trans rfl
        have hfz9_0 := blk_frozen BK269.out 0
        have hfz9_1 := blk_frozen BK269.out 1
        have hfz9_2 := blk_frozen BK269.out 2
        go_wp2
        go_meet
        case rel => exact ⟨_, (true), (by first | rfl | (simp; done) | (simp [*]; done)), H', ⟨by first | omega | exact Nat.le_refl _⟩, ⟨by (with_reducible repeat (first | refine blk_drewN ?_ _ | refine blk_drew ?_ | refine blk_alloc ?_ _)); refine blk_put (cs := #[.bool true, .string t266, .int .i64 0]) ?_ 2 _ rfl; (with_reducible repeat (first | refine blk_drewN ?_ _ | refine blk_drew ?_ | refine blk_alloc ?_ _)); refine blk_put (cs := #[.bool true, .string (⟨#[]⟩ : ByteArray), .int .i64 0]) ?_ 1 _ rfl; (with_reducible repeat (first | refine blk_drewN ?_ _ | refine blk_drew ?_ | refine blk_alloc ?_ _)); refine blk_put (cs := #[.bool false, .string (⟨#[]⟩ : ByteArray), .int .i64 0]) ?_ 0 _ rfl; (with_reducible repeat (first | refine blk_drewN ?_ _ | refine blk_drew ?_ | refine blk_alloc ?_ _)); exact BK269.out⟩, ⟨by repeat (first | (with_reducible first | exact HB.out | apply below_alloc | apply pw_below_drewN | apply below_drew1 | refine below_set ?_ GE269.out) | exact HB.out)⟩⟩
      · replace c8 := Bool.eq_false_iff.mpr c8
        subst c8
        have H1 : (if t266.toList = ([50, 53] : List UInt8) then (abacuslaw08_ScanLongest.j0 k a0 (t267 != 0)) else (abacuslaw08_ScanLongest.j0 k a0 true)) = some true := by rw [if_neg (show ¬ (false = true) by decide)] at H; exact H
        clear H
        have H := H1
        clear H1
        by_cases c10 : t266.toList = ([50, 53] : List UInt8)
        · rw [if_pos c10] at H
          have c10b0 : (t266.toList == ([50, 53] : List UInt8)) = true := beq_iff_eq.mpr c10
          have c10b1 : (t266.toList != ([50, 53] : List UInt8)) = false := bne_eq_false_iff_eq.mpr c10
          clear c10
          have H' := Aside0.mk H
          clear H
          have hcz11_0 : w5.cell? ⟨gb269, 0, none⟩ = some (.bool false) := (blk_cell BK269.out 0).trans rfl
          have hcz11_1 : w5.cell? ⟨gb269, 1, none⟩ = some (.string (⟨#[]⟩ : ByteArray)) := (blk_cell BK269.out 1).trans rfl
          have hcz11_2 : w5.cell? ⟨gb269, 2, none⟩ = some (.int .i64 0) := (blk_cell BK269.out 2).trans rfl
          have hfz11_0 := blk_frozen BK269.out 0
          have hfz11_1 := blk_frozen BK269.out 1
          have hfz11_2 := blk_frozen BK269.out 2
          go_wp2
          go_meet
          case rel => exact ⟨_, ((t267 != 0)), (by first | rfl | (simp; done) | (simp [*]; done)), H', ⟨by first | omega | exact Nat.le_refl _⟩, ⟨by (with_reducible repeat (first | refine blk_drewN ?_ _ | refine blk_drew ?_ | refine blk_alloc ?_ _)); refine blk_put (cs := #[.bool false, .string t266, .int .i64 0]) ?_ 2 _ rfl; (with_reducible repeat (first | refine blk_drewN ?_ _ | refine blk_drew ?_ | refine blk_alloc ?_ _)); refine blk_put (cs := #[.bool false, .string (⟨#[]⟩ : ByteArray), .int .i64 0]) ?_ 1 _ rfl; (with_reducible repeat (first | refine blk_drewN ?_ _ | refine blk_drew ?_ | refine blk_alloc ?_ _)); refine blk_put (cs := #[.bool false, .string (⟨#[]⟩ : ByteArray), .int .i64 0]) ?_ 0 _ rfl; (with_reducible repeat (first | refine blk_drewN ?_ _ | refine blk_drew ?_ | refine blk_alloc ?_ _)); exact BK269.out⟩, ⟨by repeat (first | (with_reducible first | exact HB.out | apply below_alloc | apply pw_below_drewN | apply below_drew1 | refine below_set ?_ GE269.out) | exact HB.out)⟩⟩
        · rw [if_neg c10] at H
          have c10b0 : (t266.toList == ([50, 53] : List UInt8)) = false := beq_eq_false_iff_ne.mpr c10
          have c10b1 : (t266.toList != ([50, 53] : List UInt8)) = true := bne_iff_ne.mpr c10
          have H' := Aside0.mk H
          clear H
          have hcz12_0 : w5.cell? ⟨gb269, 0, none⟩ = some (.bool false) := (blk_cell BK269.out 0).trans rfl
          have hcz12_1 : w5.cell? ⟨gb269, 1, none⟩ = some (.string (⟨#[]⟩ : ByteArray)) := (blk_cell BK269.out 1).trans rfl
          have hcz12_2 : w5.cell? ⟨gb269, 2, none⟩ = some (.int .i64 0) := (blk_cell BK269.out 2).trans rfl
          have hfz12_0 := blk_frozen BK269.out 0
          have hfz12_1 := blk_frozen BK269.out 1
          have hfz12_2 := blk_frozen BK269.out 2
          go_wp2
          go_meet
          case rel => exact ⟨_, (true), (by first | rfl | (simp; done) | (simp [*]; done)), H', ⟨by first | omega | exact Nat.le_refl _⟩, ⟨by (with_reducible repeat (first | refine blk_drewN ?_ _ | refine blk_drew ?_ | refine blk_alloc ?_ _)); refine blk_put (cs := #[.bool false, .string t266, .int .i64 0]) ?_ 2 _ rfl; (with_reducible repeat (first | refine blk_drewN ?_ _ | refine blk_drew ?_ | refine blk_alloc ?_ _)); refine blk_put (cs := #[.bool false, .string (⟨#[]⟩ : ByteArray), .int .i64 0]) ?_ 1 _ rfl; (with_reducible repeat (first | refine blk_drewN ?_ _ | refine blk_drew ?_ | refine blk_alloc ?_ _)); refine blk_put (cs := #[.bool false, .string (⟨#[]⟩ : ByteArray), .int .i64 0]) ?_ 0 _ rfl; (with_reducible repeat (first | refine blk_drewN ?_ _ | refine blk_drew ?_ | refine blk_alloc ?_ _)); exact BK269.out⟩, ⟨by repeat (first | (with_reducible first | exact HB.out | apply below_alloc | apply pw_below_drewN | apply below_drew1 | refine below_set ?_ GE269.out) | exact HB.out)⟩⟩
    · rw [if_neg c7] at H
      have c7b0 : (t268 == 6) = false := beq_eq_false_iff_ne.mpr c7
      have c7b1 : (t268 != 6) = true := bne_iff_ne.mpr c7
      (first | rw [c7b0] | (simp only [i64_w, i32_w]; rw [c7b0]) | skip)
      have H' := Aside0.mk H
      clear H
      go_wp2
      go_meet
      case rel => exact ⟨_, (true), (by first | rfl | (simp; done) | (simp [*]; done)), H', ⟨by first | omega | exact Nat.le_refl _⟩, ⟨by (with_reducible repeat (first | refine blk_drewN ?_ _ | refine blk_drew ?_ | refine blk_alloc ?_ _)); refine blk_put (cs := #[.bool t265, .string t266, .int .i64 0]) ?_ 2 _ rfl; (with_reducible repeat (first | refine blk_drewN ?_ _ | refine blk_drew ?_ | refine blk_alloc ?_ _)); refine blk_put (cs := #[.bool t265, .string (⟨#[]⟩ : ByteArray), .int .i64 0]) ?_ 1 _ rfl; (with_reducible repeat (first | refine blk_drewN ?_ _ | refine blk_drew ?_ | refine blk_alloc ?_ _)); refine blk_put (cs := #[.bool false, .string (⟨#[]⟩ : ByteArray), .int .i64 0]) ?_ 0 _ rfl; (with_reducible repeat (first | refine blk_drewN ?_ _ | refine blk_drew ?_ | refine blk_alloc ?_ _)); exact BK269.out⟩, ⟨by repeat (first | (with_reducible first | exact HB.out | apply below_alloc | apply pw_below_drewN | apply below_drew1 | refine below_set ?_ GE269.out) | exact HB.out)⟩⟩
  case rest =>
    clear HC3
    try clear c1
    try clear p2
    try clear c5
    try clear c7
    try clear c7b0
    try clear c7b1
    try clear c8
    try clear c10
    try clear c10b0
    try clear c10b1
    try clear hcz11_0
    try clear hcz11_1
    try clear hcz11_2
    try clear hcz12_0
    try clear hcz12_1
    try clear hcz12_2
    try clear hcz6_0
    try clear hcz6_1
    try clear hcz6_2
    try clear hcz9_0
    try clear hcz9_1
    try clear hcz9_2
    try clear hfz11_0
    try clear hfz11_1
    try clear hfz11_2
    try clear hfz12_0
    try clear hfz12_1
    try clear hfz12_2
    try clear hfz6_0
    try clear hfz6_1
    try clear hfz6_2
    try clear hfz9_0
    try clear hfz9_1
    try clear hfz9_2
    obtain ⟨kq, x29_2, rfl, HA, HJ2, BK269, HB⟩ := hcut
    cases kq with
    | zero => exact absurd HA.out (by simp [abacuslaw08_ScanLongest.j0])
    | succ kj2 =>
      have H := HA.out
      clear HA
      simp only [abacuslaw08_ScanLongest.j0] at H
      by_cases c13 : x29_2 = true
      · subst c13
        have H1 : (some false) = some true := by rw [if_pos rfl] at H; exact H
        clear H
        have H := H1
        clear H1
        exact absurd H (by simp)
      · replace c13 := Bool.eq_false_iff.mpr c13
        subst c13
        have H1 : (if (a0.size : Int) > 1500 then (some true) else ((scan_Number.f kj2 a0).bind fun bt270 => (if bt270.2.2.2 < 0 then (abacuslaw08_ScanLongest.j1 kj2 a0 bt270.2.2.2 true bt270.1 bt270.2.1 bt270.2.2.1) else (abacuslaw08_ScanLongest.j1 kj2 a0 bt270.2.2.2 (decide (bt270.2.2.2 > (a0.size : Int))) bt270.1 bt270.2.1 bt270.2.2.1)))) = some true := by rw [if_neg (show ¬ (false = true) by decide)] at H; exact H
        clear H
        have H := H1
        clear H1
        by_cases c14 : (a0.size : Int) > 1500
        · rw [if_pos c14] at H
          have c14b0 : decide (1500 < (a0.size : Int)) = true := decide_eq_true c14
          have c14b1 : decide (1500 < a0.size) = true := decide_eq_true (by omega)
          clear c14
          clear H
          go_wp2
          go_ret
          exact ⟨by first | rfl | (simp [errW_none, errW_some] <;> rfl) | (simp [*, errW_none, errW_some] <;> rfl), by repeat (first | (with_reducible first | exact HB.out | apply below_alloc | apply pw_below_drewN | apply below_drew1 | refine below_set ?_ GE269.out) | exact HB.out)⟩
        · rw [if_neg c14] at H
          have c14b0 : decide (1500 < (a0.size : Int)) = false := decide_eq_false c14
          have c14b1 : decide (1500 < a0.size) = false := decide_eq_false (by omega)
          clear c14
          replace H := Option.bind_eq_some_iff.mp H
          obtain ⟨⟨t270, t271, t272, t273⟩, A150, H⟩ := H
          replace H : (if t273 < 0 then (abacuslaw08_ScanLongest.j1 kj2 a0 t273 true t270 t271 t272) else (abacuslaw08_ScanLongest.j1 kj2 a0 t273 (decide (t273 > (a0.size : Int))) t270 t271 t272)) = some true := H
          have A15 := Aside0.mk A150
          clear A150
          have HC16 := Aside0.mk H
          clear H
          go_upto_region 7 with (first | ((with_reducible refine gate_callee (f := 17) rfl ?_); refine goesL_ (some 35) rfl rfl Tryd.func17 (by kernel_rfl) rfl #[.string a0] rfl (by (try simp only [List.map_toArray, List.map_cons, List.map_nil]); first | done | rfl | (simp only [List.length_drop, List.length_take]; rfl)) ?_; (with_reducible refine (scan_Number.calls kj2 a0 t270 t271 t272 t273 _ A15.out).mono ?_); rintro e w17 ⟨rfl, hb⟩; refine ⟨_, rfl, ?_⟩; have n0_ := Aside0.mk (blk_below (g := gb269) (o := .cells #[.bool t265, .string t266, .int .i64 t267] 23 (0, 0)) (by (with_reducible repeat (first | refine blk_drewN ?_ _ | refine blk_drew ?_ | refine blk_alloc ?_ _)); exact BK269.out) hb); have n1_ := Aside0.mk (below_step (by repeat (first | (with_reducible first | exact HB.out | apply below_alloc | apply pw_below_drewN | apply below_drew1 | refine below_set ?_ GE269.out) | exact HB.out)) hb); clear BK269; clear HB; have BK269 := n0_; have HB := n1_; clear n0_ n1_; (try clear hb); (try clear hb2); (try clear hk); (try clear hi); have hcz18_0 : w17.cell? ⟨gb269, 0, none⟩ = some (.bool t265) := (blk_cell BK269.out 0).trans rfl; have hcz18_1 : w17.cell? ⟨gb269, 1, none⟩ = some (.string t266) := (blk_cell BK269.out 1).trans rfl; have hcz18_2 : w17.cell? ⟨gb269, 2, none⟩ = some (.int .i64 t267) := (blk_cell BK269.out 2).trans rfl; have hfz18_0 := blk_frozen BK269.out 0; have hfz18_1 := blk_frozen BK269.out 1; have hfz18_2 := blk_frozen BK269.out 2))
          (try simp only [Act.put, List.setIfInBounds_toArray, List.set_cons_zero, List.set_cons_succ])
          go_cut [45] (fun v45 wc => ∃ (kq : Nat) (x45_15 : Bool), v45 = .bool x45_15 ∧ Aside0 (abacuslaw08_ScanLongest.j1 kq a0 t273 x45_15 t270 t271 t272 = some true) ∧ Aside0 (kq ≤ kj2) ∧ Aside0 (wc.heap[gb269]? = some (.cells #[.bool t270, .string t271, .int .i64 t272] 23 (0, 0))) ∧ Aside0 (Below w.heap.size w wc))
          case first =>
            have H := HC16.out
            clear HC16
            by_cases c19 : t273 < 0
            · rw [if_pos c19] at H
              have c19b0 : decide (t273 < 0) = true := decide_eq_true c19
              clear c19
              (first | rw [c19b0] | (simp only [i64_w, i32_w]; rw [c19b0]) | skip)
              have H' := Aside0.mk H
              clear H
              go_wp2
              go_meet
              case rel => exact ⟨_, (true), (by first | rfl | (simp; done) | (simp [*]; done)), H', ⟨by have := HJ2.out; first | omega | exact Nat.le_refl _⟩, ⟨by (with_reducible repeat (first | refine blk_drewN ?_ _ | refine blk_drew ?_ | refine blk_alloc ?_ _)); refine blk_put (cs := #[.bool t270, .string t271, .int .i64 t267]) ?_ 2 _ rfl; (with_reducible repeat (first | refine blk_drewN ?_ _ | refine blk_drew ?_ | refine blk_alloc ?_ _)); refine blk_put (cs := #[.bool t270, .string t266, .int .i64 t267]) ?_ 1 _ rfl; (with_reducible repeat (first | refine blk_drewN ?_ _ | refine blk_drew ?_ | refine blk_alloc ?_ _)); refine blk_put (cs := #[.bool t265, .string t266, .int .i64 t267]) ?_ 0 _ rfl; (with_reducible repeat (first | refine blk_drewN ?_ _ | refine blk_drew ?_ | refine blk_alloc ?_ _)); exact BK269.out⟩, ⟨by repeat (first | (with_reducible first | exact HB.out | apply below_alloc | apply pw_below_drewN | apply below_drew1 | refine below_set ?_ GE269.out) | exact HB.out)⟩⟩
            · rw [if_neg c19] at H
              have c19b0 : decide (t273 < 0) = false := decide_eq_false c19
              clear c19
              (first | rw [c19b0] | (simp only [i64_w, i32_w]; rw [c19b0]) | skip)
              have H' := Aside0.mk H
              clear H
              go_wp2
              go_meet
              case rel => exact ⟨_, (decide (t273 > (a0.size : Int))), (by first | rfl | (simp; done) | (simp [*]; done)), H', ⟨by have := HJ2.out; first | omega | exact Nat.le_refl _⟩, ⟨by (with_reducible repeat (first | refine blk_drewN ?_ _ | refine blk_drew ?_ | refine blk_alloc ?_ _)); refine blk_put (cs := #[.bool t270, .string t271, .int .i64 t267]) ?_ 2 _ rfl; (with_reducible repeat (first | refine blk_drewN ?_ _ | refine blk_drew ?_ | refine blk_alloc ?_ _)); refine blk_put (cs := #[.bool t270, .string t266, .int .i64 t267]) ?_ 1 _ rfl; (with_reducible repeat (first | refine blk_drewN ?_ _ | refine blk_drew ?_ | refine blk_alloc ?_ _)); refine blk_put (cs := #[.bool t265, .string t266, .int .i64 t267]) ?_ 0 _ rfl; (with_reducible repeat (first | refine blk_drewN ?_ _ | refine blk_drew ?_ | refine blk_alloc ?_ _)); exact BK269.out⟩, ⟨by repeat (first | (with_reducible first | exact HB.out | apply below_alloc | apply pw_below_drewN | apply below_drew1 | refine below_set ?_ GE269.out) | exact HB.out)⟩⟩
          case rest =>
            clear HC16
            try clear c1
            try clear p2
            try clear c5
            try clear c7
            try clear c7b0
            try clear c7b1
            try clear c8
            try clear c10
            try clear c10b0
            try clear c10b1
            try clear c13
            try clear c14
            try clear c14b0
            try clear c14b1
            try clear c17
            try clear c19
            try clear c19b0
            try clear hcz11_0
            try clear hcz11_1
            try clear hcz11_2
            try clear hcz12_0
            try clear hcz12_1
            try clear hcz12_2
            try clear hcz18_0
            try clear hcz18_1
            try clear hcz18_2
            try clear hcz6_0
            try clear hcz6_1
            try clear hcz6_2
            try clear hcz9_0
            try clear hcz9_1
            try clear hcz9_2
            try clear hfz11_0
            try clear hfz11_1
            try clear hfz11_2
            try clear hfz12_0
            try clear hfz12_1
            try clear hfz12_2
            try clear hfz18_0
            try clear hfz18_1
            try clear hfz18_2
            try clear hfz6_0
            try clear hfz6_1
            try clear hfz6_2
            try clear hfz9_0
            try clear hfz9_1
            try clear hfz9_2
            try clear p2
            obtain ⟨kq, x45_15, rfl, HA, HJ15, BK269, HB⟩ := hcut
            cases kq with
            | zero => exact absurd HA.out (by simp [abacuslaw08_ScanLongest.j1])
            | succ kj15 =>
              have H := HA.out
              clear HA
              simp only [abacuslaw08_ScanLongest.j1] at H
              by_cases c20 : x45_15 = true
              · subst c20
                have H1 : (some false) = some true := by rw [if_pos rfl] at H; exact H
                clear H
                have H := H1
                clear H1
                exact absurd H (by simp)
              · replace c20 := Bool.eq_false_iff.mpr c20
                subst c20
                have H1 : (if t273 = 0 then (if t270 = true then (abacuslaw08_ScanLongest.j2 kj15 a0 t273 true t270 t271 t272) else (if t271.toList = ([] : List UInt8) then (abacuslaw08_ScanLongest.j2 kj15 a0 t273 (t272 != 0) t270 t271 t272) else (abacuslaw08_ScanLongest.j2 kj15 a0 t273 true t270 t271 t272))) else (abacuslaw08_ScanLongest.j2 kj15 a0 t273 false t270 t271 t272)) = some true := by rw [if_neg (show ¬ (false = true) by decide)] at H; exact H
                clear H
                have H := H1
                clear H1
                have HC21 := Aside0.mk H
                clear H
                go_upto_region 9 with (fail)
                go_cut [61] (fun v61 wc => ∃ (kq : Nat) (x61_20 : Bool), v61 = .bool x61_20 ∧ Aside0 (abacuslaw08_ScanLongest.j2 kq a0 t273 x61_20 t270 t271 t272 = some true) ∧ Aside0 (kq ≤ kj15) ∧ Aside0 (wc.heap[gb269]? = some (.cells #[.bool t270, .string t271, .int .i64 t272] 23 (0, 0))) ∧ Aside0 (Below w.heap.size w wc))
                case first =>
                  have H := HC21.out
                  clear HC21
                  by_cases c22 : t273 = 0
                  · rw [if_pos c22] at H
                    have c22b0 : (t273 == 0) = true := beq_iff_eq.mpr c22
                    have c22b1 : (t273 != 0) = false := bne_eq_false_iff_eq.mpr c22
                    clear c22
                    (first | rw [c22b0] | (simp only [i64_w, i32_w]; rw [c22b0]) | skip)
                    by_cases c23 : t270 = true
                    · subst c23
                      have H1 : (abacuslaw08_ScanLongest.j2 kj15 a0 t273 true true t271 t272) = some true := by rw [if_pos rfl] at H; exact H
                      clear H
                      have H := H1
                      clear H1
                      have H' := Aside0.mk H
                      clear H
                      have hcz24_0 : wc.cell? ⟨gb269, 0, none⟩ = some (.bool true) := (blk_cell BK269.out 0).trans rfl
                      have hcz24_1 : wc.cell? ⟨gb269, 1, none⟩ = some (.string t271) := (blk_cell BK269.out 1).trans rfl
                      have hcz24_2 : wc.cell? ⟨gb269, 2, none⟩ = some (.int .i64 t272) := (blk_cell BK269.out 2).trans rfl
                      have hfz24_0 := blk_frozen BK269.out 0
                      have hfz24_1 := blk_frozen BK269.out 1
                      have hfz24_2 := blk_frozen BK269.out 2
                      go_wp2
                      go_meet
                      case rel => exact ⟨_, (true), (by first | rfl | (simp; done) | (simp [*]; done)), H', ⟨by have := HJ2.out; have := HJ15.out; first | omega | exact Nat.le_refl _⟩, ⟨by (with_reducible repeat (first | refine blk_drewN ?_ _ | refine blk_drew ?_ | refine blk_alloc ?_ _)); exact BK269.out⟩, ⟨by repeat (first | (with_reducible first | exact HB.out | apply below_alloc | apply pw_below_drewN | apply below_drew1 | refine below_set ?_ GE269.out) | exact HB.out)⟩⟩
                    · replace c23 := Bool.eq_false_iff.mpr c23
                      subst c23
                      have H1 : (if t271.toList = ([] : List UInt8) then (abacuslaw08_ScanLongest.j2 kj15 a0 t273 (t272 != 0) false t271 t272) else (abacuslaw08_ScanLongest.j2 kj15 a0 t273 true false t271 t272)) = some true := by rw [if_neg (show ¬ (false = true) by decide)] at H; exact H
                      clear H
                      have H := H1
                      clear H1
                      by_cases c25 : t271.toList = ([] : List UInt8)
                      · rw [if_pos c25] at H
                        have c25b0 : (t271.toList == ([] : List UInt8)) = true := beq_iff_eq.mpr c25
                        have c25b1 : (t271.toList != ([] : List UInt8)) = false := bne_eq_false_iff_eq.mpr c25
                        clear c25
                        have H' := Aside0.mk H
                        clear H
                        have hcz26_0 : wc.cell? ⟨gb269, 0, none⟩ = some (.bool false) := (blk_cell BK269.out 0).trans rfl
                        have hcz26_1 : wc.cell? ⟨gb269, 1, none⟩ = some (.string t271) := (blk_cell BK269.out 1).trans rfl
                        have hcz26_2 : wc.cell? ⟨gb269, 2, none⟩ = some (.int .i64 t272) := (blk_cell BK269.out 2).trans rfl
                        have hfz26_0 := blk_frozen BK269.out 0
                        have hfz26_1 := blk_frozen BK269.out 1
                        have hfz26_2 := blk_frozen BK269.out 2
                        go_wp2
                        go_meet
                        case rel => exact ⟨_, ((t272 != 0)), (by first | rfl | (simp; done) | (simp [*]; done)), H', ⟨by have := HJ2.out; have := HJ15.out; first | omega | exact Nat.le_refl _⟩, ⟨by (with_reducible repeat (first | refine blk_drewN ?_ _ | refine blk_drew ?_ | refine blk_alloc ?_ _)); exact BK269.out⟩, ⟨by repeat (first | (with_reducible first | exact HB.out | apply below_alloc | apply pw_below_drewN | apply below_drew1 | refine below_set ?_ GE269.out) | exact HB.out)⟩⟩
                      · rw [if_neg c25] at H
                        have c25b0 : (t271.toList == ([] : List UInt8)) = false := beq_eq_false_iff_ne.mpr c25
                        have c25b1 : (t271.toList != ([] : List UInt8)) = true := bne_iff_ne.mpr c25
                        have H' := Aside0.mk H
                        clear H
                        have hcz27_0 : wc.cell? ⟨gb269, 0, none⟩ = some (.bool false) := (blk_cell BK269.out 0).trans rfl
                        have hcz27_1 : wc.cell? ⟨gb269, 1, none⟩ = some (.string t271) := (blk_cell BK269.out 1).trans rfl
                        have hcz27_2 : wc.cell? ⟨gb269, 2, none⟩ = some (.int .i64 t272) := (blk_cell BK269.out 2).trans rfl
                        have hfz27_0 := blk_frozen BK269.out 0
                        have hfz27_1 := blk_frozen BK269.out 1
                        have hfz27_2 := blk_frozen BK269.out 2
                        go_wp2
                        go_meet
                        case rel => exact ⟨_, (true), (by first | rfl | (simp; done) | (simp [*]; done)), H', ⟨by have := HJ2.out; have := HJ15.out; first | omega | exact Nat.le_refl _⟩, ⟨by (with_reducible repeat (first | refine blk_drewN ?_ _ | refine blk_drew ?_ | refine blk_alloc ?_ _)); exact BK269.out⟩, ⟨by repeat (first | (with_reducible first | exact HB.out | apply below_alloc | apply pw_below_drewN | apply below_drew1 | refine below_set ?_ GE269.out) | exact HB.out)⟩⟩
                  · rw [if_neg c22] at H
                    have c22b0 : (t273 == 0) = false := beq_eq_false_iff_ne.mpr c22
                    have c22b1 : (t273 != 0) = true := bne_iff_ne.mpr c22
                    (first | rw [c22b0] | (simp only [i64_w, i32_w]; rw [c22b0]) | skip)
                    have H' := Aside0.mk H
                    clear H
                    go_wp2
                    go_meet
                    case rel => exact ⟨_, (false), (by first | rfl | (simp; done) | (simp [*]; done)), H', ⟨by have := HJ2.out; have := HJ15.out; first | omega | exact Nat.le_refl _⟩, ⟨by (with_reducible repeat (first | refine blk_drewN ?_ _ | refine blk_drew ?_ | refine blk_alloc ?_ _)); exact BK269.out⟩, ⟨by repeat (first | (with_reducible first | exact HB.out | apply below_alloc | apply pw_below_drewN | apply below_drew1 | refine below_set ?_ GE269.out) | exact HB.out)⟩⟩
                case rest =>
                  clear HC21
                  try clear c1
                  try clear c2
                  try clear p2
                  try clear c5
                  try clear c7
                  try clear c7b0
                  try clear c7b1
                  try clear c8
                  try clear c10
                  try clear c10b0
                  try clear c10b1
                  try clear c13
                  try clear c14
                  try clear c14b0
                  try clear c14b1
                  try clear c17
                  try clear c19
                  try clear c19b0
                  try clear c20
                  try clear c22
                  try clear c22b0
                  try clear c22b1
                  try clear c23
                  try clear c25
                  try clear c25b0
                  try clear c25b1
                  try clear hcz11_0
                  try clear hcz11_1
                  try clear hcz11_2
                  try clear hcz12_0
                  try clear hcz12_1
                  try clear hcz12_2
                  try clear hcz18_0
                  try clear hcz18_1
                  try clear hcz18_2
                  try clear hcz24_0
                  try clear hcz24_1
                  try clear hcz24_2
                  try clear hcz26_0
                  try clear hcz26_1
                  try clear hcz26_2
                  try clear hcz27_0
                  try clear hcz27_1
                  try clear hcz27_2
                  try clear hcz6_0
                  try clear hcz6_1
                  try clear hcz6_2
                  try clear hcz9_0
                  try clear hcz9_1
                  try clear hcz9_2
                  try clear hfz11_0
                  try clear hfz11_1
                  try clear hfz11_2
                  try clear hfz12_0
                  try clear hfz12_1
                  try clear hfz12_2
                  try clear hfz18_0
                  try clear hfz18_1
                  try clear hfz18_2
                  try clear hfz24_0
                  try clear hfz24_1
                  try clear hfz24_2
                  try clear hfz26_0
                  try clear hfz26_1
                  try clear hfz26_2
                  try clear hfz27_0
                  try clear hfz27_1
                  try clear hfz27_2
                  try clear hfz6_0
                  try clear hfz6_1
                  try clear hfz6_2
                  try clear hfz9_0
                  try clear hfz9_1
                  try clear hfz9_2
                  try clear p2
                  obtain ⟨kq, x61_20, rfl, HA, HJ20, BK269, HB⟩ := hcut
                  cases kq with
                  | zero => exact absurd HA.out (by simp [abacuslaw08_ScanLongest.j2])
                  | succ kj20 =>
                    have H := HA.out
                    clear HA
                    simp only [abacuslaw08_ScanLongest.j2] at H
                    by_cases c28 : x61_20 = true
                    · subst c28
                      have H1 : (some false) = some true := by rw [if_pos rfl] at H; exact H
                      clear H
                      have H := H1
                      clear H1
                      exact absurd H (by simp)
                    · replace c28 := Bool.eq_false_iff.mpr c28
                      subst c28
                      have H1 : (if t273 > 0 then (if 0 ≤ t273 then (if t273 ≤ (a0.size : Int) then ((scan_Whole.f kj20 (a0.extract 0 (t273 : Int).toNat)).bind fun bt274 => (if bt274.2.2.2 = true then (if (!(bt274.1 == t270) || (!(bt274.2.1.toList == t271.toList) || (!(bt274.2.2.1 == t272)))) = true then (some false) else (if 0 ≤ (wrap64 (t273 - 1)) then (if (wrap64 (t273 - 1)) < (a0.size : Int) then ((abacuslaw08_blank.f (bt a0 (wrap64 (t273 - 1)))).bind fun t279 => (if t279 = true then (some false) else (abacuslaw08_ScanLongest.j3 kj20 a0 t273 t270 t271 t272))) else (none)) else (none))) else (some false))) else (none)) else (none)) else (abacuslaw08_ScanLongest.j3 kj20 a0 t273 t270 t271 t272)) = some true := by rw [if_neg (show ¬ (false = true) by decide)] at H; exact H
                      clear H
                      have H := H1
                      clear H1
                      have HC29 := Aside0.mk H
                      clear H
                      go_upto_if 63 with (fail)
                      go_cut [] (fun wc => ∃ (kq : Nat), Aside0 (abacuslaw08_ScanLongest.j3 kq a0 t273 t270 t271 t272 = some true) ∧ Aside0 (kq ≤ kj20) ∧ Aside0 (wc.heap[gb269]? = some (.cells #[.bool t270, .string t271, .int .i64 t272] 23 (0, 0))) ∧ Aside0 (Below w.heap.size w wc))
                      case first =>
                        have H := HC29.out
                        clear HC29
                        by_cases c30 : t273 > 0
                        · rw [if_pos c30] at H
                          have c30b0 : decide (0 < t273) = true := decide_eq_true c30
                          clear c30
                          (first | rw [c30b0] | (simp only [i64_w, i32_w]; rw [c30b0]) | skip)
                          by_cases c31 : 0 ≤ t273
                          · rw [if_pos c31] at H
                            have c31b0 := eq_true c31
                            have c31b1 : decide (0 ≤ t273) = true := decide_eq_true c31
                            clear c31
                            by_cases c32 : t273 ≤ (a0.size : Int)
                            · rw [if_pos c32] at H
                              have c32b0 := eq_true c32
                              have c32b1 : decide (t273 ≤ (a0.size : Int)) = true := decide_eq_true c32
                              clear c32
                              replace H := Option.bind_eq_some_iff.mp H
                              obtain ⟨⟨t274, t275, t276, t277⟩, A330, H⟩ := H
                              replace H : (if t277 = true then (if (!(t274 == t270) || (!(t275.toList == t271.toList) || (!(t276 == t272)))) = true then (some false) else (if 0 ≤ (wrap64 (t273 - 1)) then (if (wrap64 (t273 - 1)) < (a0.size : Int) then ((abacuslaw08_blank.f (bt a0 (wrap64 (t273 - 1)))).bind fun t279 => (if t279 = true then (some false) else (abacuslaw08_ScanLongest.j3 kj20 a0 t273 t270 t271 t272))) else (none)) else (none))) else (some false)) = some true := H
                              have A33 := Aside0.mk A330
                              clear A330
                              by_cases c34 : t277 = true
                              · subst c34
                                have H1 : (if (!(t274 == t270) || (!(t275.toList == t271.toList) || (!(t276 == t272)))) = true then (some false) else (if 0 ≤ (wrap64 (t273 - 1)) then (if (wrap64 (t273 - 1)) < (a0.size : Int) then ((abacuslaw08_blank.f (bt a0 (wrap64 (t273 - 1)))).bind fun t279 => (if t279 = true then (some false) else (abacuslaw08_ScanLongest.j3 kj20 a0 t273 t270 t271 t272))) else (none)) else (none))) = some true := by rw [if_pos rfl] at H; exact H
                                clear H
                                have H := H1
                                clear H1
                                by_cases c35 : (!(t274 == t270) || (!(t275.toList == t271.toList) || (!(t276 == t272)))) = true
                                · rw [if_pos c35] at H
                                  have c35b0 : (!(t274 == t270) || (!(t275.toList == t271.toList) || (!(t276 == t272)))) = true := c35
                                  clear c35
                                  exact absurd H (by simp)
                                · rw [if_neg c35] at H
                                  have c35b0 : (!(t274 == t270) || (!(t275.toList == t271.toList) || (!(t276 == t272)))) = false := by simpa using c35
                                  clear c35
                                  obtain ⟨ji36, hji36⟩ : ∃ j_ : Int, (wrap64 (t273 - 1)) = j_ := ⟨_, rfl⟩
                                  replace H : (if 0 ≤ (ji36) then (if (ji36) < (a0.size : Int) then ((abacuslaw08_blank.f (bt a0 (ji36))).bind fun t279 => (if t279 = true then (some false) else (abacuslaw08_ScanLongest.j3 kj20 a0 t273 t270 t271 t272))) else (none)) else (none)) = some true := by first | (rw [hji36] at H; exact H) | (simp only [hji36] at H ⊢; exact H)
                                  (try rw [hji36] at A33)
                                  have hji36w : (IntKind.i64.wrap (t273 - 1)) = ji36 := (i64_w _).trans hji36
                                  by_cases c37 : 0 ≤ (ji36)
                                  · rw [if_pos c37] at H
                                    have c37b0 : decide (0 ≤ (ji36)) = true := decide_eq_true c37
                                    clear c37
                                    by_cases c38 : (ji36) < (a0.size : Int)
                                    · rw [if_pos c38] at H
                                      have c38b0 : decide ((ji36) < (a0.size : Int)) = true := decide_eq_true c38
                                      clear c38
                                      replace H := Option.bind_eq_some_iff.mp H
                                      obtain ⟨t279, A400, H⟩ := H
                                      replace H : (if t279 = true then (some false) else (abacuslaw08_ScanLongest.j3 kj20 a0 t273 t270 t271 t272)) = some true := H
                                      have A40 := Aside0.mk A400
                                      clear A400
                                      by_cases c41 : t279 = true
                                      · subst c41
                                        have H1 : (some false) = some true := by rw [if_pos rfl] at H; exact H
                                        clear H
                                        have H := H1
                                        clear H1
                                        exact absurd H (by simp)
                                      · replace c41 := Bool.eq_false_iff.mpr c41
                                        subst c41
                                        have H1 : (abacuslaw08_ScanLongest.j3 kj20 a0 t273 t270 t271 t272) = some true := by rw [if_neg (show ¬ (false = true) by decide)] at H; exact H
                                        clear H
                                        have H := H1
                                        clear H1
                                        have H' := Aside0.mk H
                                        clear H
                                        go_wp2_with (first | ((with_reducible refine gate_callee (f := 18) rfl ?_); refine goesL_ (some 68) rfl rfl Tryd.func18 (by kernel_rfl) rfl #[.string (a0.extract 0 (t273 : Int).toNat)] rfl (by (try simp only [List.map_toArray, List.map_cons, List.map_nil]); first | done | rfl | (simp only [List.length_drop, List.length_take]; rfl)) ?_; (with_reducible refine (scan_Whole.calls kj20 (a0.extract 0 (t273 : Int).toNat) t274 t275 t276 true _ A33.out).mono ?_); rintro e w42 ⟨rfl, hb⟩; refine ⟨_, rfl, ?_⟩; have n0_ := Aside0.mk (blk_below (g := gb269) (o := .cells #[.bool t270, .string t271, .int .i64 t272] 23 (0, 0)) (by (with_reducible repeat (first | refine blk_drewN ?_ _ | refine blk_drew ?_ | refine blk_alloc ?_ _)); exact BK269.out) hb); have n1_ := Aside0.mk (below_step (by repeat (first | (with_reducible first | exact HB.out | apply below_alloc | apply pw_below_drewN | apply below_drew1 | refine below_set ?_ GE269.out) | exact HB.out)) hb); clear BK269; clear HB; have BK269 := n0_; have HB := n1_; clear n0_ n1_; (try clear hb); (try clear hb2); (try clear hk); (try clear hi)) | ((with_reducible refine gate_dst (N := 5) rfl ?_); (try (refine gate_guard (by rfl) ?_; dsimp only)); refine box_event ?hg (N := 5) ?hd (cs := #[.bool false, .string (⟨#[]⟩ : ByteArray), .int .i64 0]) (t := 23) ?hr ?_; (case hd => rfl); (case hg => rfl); (case hr => first | (go_simp; done) | (go_simp; rfl)); intro gb278 hg w43 hbox hb; have n0_ := Aside0.mk (blk_below (g := gb269) (o := .cells #[.bool t270, .string t271, .int .i64 t272] 23 (0, 0)) (by (with_reducible repeat (first | refine blk_drewN ?_ _ | refine blk_drew ?_ | refine blk_alloc ?_ _)); exact BK269.out) hb); have n1_ := Aside0.mk (below_step (by repeat (first | (with_reducible first | exact HB.out | apply below_alloc | apply pw_below_drewN | apply below_drew1 | refine below_set ?_ GE269.out) | exact HB.out)) hb); have n2_ := Aside0.mk (hbox); have n3_ := Aside0.mk ((by rw [hg]; exact (below_size (by repeat (first | (with_reducible first | exact HB.out | apply below_alloc | apply pw_below_drewN | apply below_drew1 | refine below_set ?_ GE269.out) | exact HB.out))) : w.heap.size ≤ gb278)); have n4_ := Aside0.mk ((by rw [hg]; exact (below_size (by repeat (first | (with_reducible first | exact HB.out | apply below_alloc | apply pw_below_drewN | apply below_drew1 | refine below_set ?_ GE269.out) | exact HB.out))) : w.heap.size ≤ gb278)); have n5_ := Aside0.mk ((by rw [hg]; exact Nat.ne_of_lt (blk_lt (g := gb269) (o := .cells #[.bool t270, .string t271, .int .i64 t272] 23 (0, 0)) (by (with_reducible repeat (first | refine blk_drewN ?_ _ | refine blk_drew ?_ | refine blk_alloc ?_ _)); exact BK269.out)) : gb269 ≠ gb278)); have n6_ := Aside0.mk ((by rw [hg]; exact Nat.ne_of_gt (blk_lt (g := gb269) (o := .cells #[.bool t270, .string t271, .int .i64 t272] 23 (0, 0)) (by (with_reducible repeat (first | refine blk_drewN ?_ _ | refine blk_drew ?_ | refine blk_alloc ?_ _)); exact BK269.out)) : gb278 ≠ gb269)); clear BK269; clear HB; have BK269 := n0_; have HB := n1_; have BK278 := n2_; have GW278 := n3_; have GE278 := n4_; have NB269_278 := n5_; have NB278_269 := n6_; clear n0_ n1_ n2_ n3_ n4_ n5_ n6_; clear hb hbox hg; have hnb44 := NB278_269.out; have hnc44 := NB269_278.out; have hcz45_0 : w43.cell? ⟨gb278, 0, none⟩ = some (.bool false) := (blk_cell BK278.out 0).trans rfl; have hcz45_1 : w43.cell? ⟨gb278, 1, none⟩ = some (.string (⟨#[]⟩ : ByteArray)) := (blk_cell BK278.out 1).trans rfl; have hcz45_2 : w43.cell? ⟨gb278, 2, none⟩ = some (.int .i64 0) := (blk_cell BK278.out 2).trans rfl; have hfz45_0 := blk_frozen BK278.out 0; have hfz45_1 := blk_frozen BK278.out 1; have hfz45_2 := blk_frozen BK278.out 2; have hcz46_0 : w43.cell? ⟨gb269, 0, none⟩ = some (.bool t270) := (blk_cell BK269.out 0).trans rfl; have hcz46_1 : w43.cell? ⟨gb269, 1, none⟩ = some (.string t271) := (blk_cell BK269.out 1).trans rfl; have hcz46_2 : w43.cell? ⟨gb269, 2, none⟩ = some (.int .i64 t272) := (blk_cell BK269.out 2).trans rfl; have hfz46_0 := blk_frozen BK269.out 0; have hfz46_1 := blk_frozen BK269.out 1; have hfz46_2 := blk_frozen BK269.out 2; have p39 : 0 ≤ ((ji36) : Int) := of_decide_eq_true (by first | (with_reducible assumption) | assumption); have q39 : (ji36) < (a0.size : Int) := of_decide_eq_true (by first | (with_reducible assumption) | assumption); have hx39 := bt_at a0 (ji36); replace p39 := eq_true p39; replace q39 := eq_true q39) | (go_at_call 19; (with_reducible refine (abacuslaw08_blank.calls (bt a0 (ji36)) false _ A40.out).mono ?_); rintro e w' ⟨rfl, ⟨nd, rfl⟩⟩))
                                        go_meet
                                        case rel => exact ⟨_, H', ⟨by have := HJ2.out; have := HJ15.out; have := HJ20.out; first | omega | exact Nat.le_refl _⟩, ⟨by (with_reducible repeat (first | refine blk_drewN ?_ _ | refine blk_drew ?_ | refine blk_alloc ?_ _)); refine blk_far ?_ NB269_278.out _; (with_reducible repeat (first | refine blk_drewN ?_ _ | refine blk_drew ?_ | refine blk_alloc ?_ _)); refine blk_far ?_ NB269_278.out _; (with_reducible repeat (first | refine blk_drewN ?_ _ | refine blk_drew ?_ | refine blk_alloc ?_ _)); refine blk_far ?_ NB269_278.out _; (with_reducible repeat (first | refine blk_drewN ?_ _ | refine blk_drew ?_ | refine blk_alloc ?_ _)); exact BK269.out⟩, ⟨by repeat (first | (with_reducible first | exact HB.out | apply below_alloc | apply pw_below_drewN | apply below_drew1 | refine below_set ?_ GE269.out | refine below_set ?_ GE278.out) | exact HB.out)⟩⟩
                                    · rw [if_neg c38] at H
                                      exact absurd H (by simp)
                                  · rw [if_neg c37] at H
                                    exact absurd H (by simp)
                              · replace c34 := Bool.eq_false_iff.mpr c34
                                subst c34
                                have H1 : (some false) = some true := by rw [if_neg (show ¬ (false = true) by decide)] at H; exact H
                                clear H
                                have H := H1
                                clear H1
                                exact absurd H (by simp)
                            · rw [if_neg c32] at H
                              exact absurd H (by simp)
                          · rw [if_neg c31] at H
                            exact absurd H (by simp)
                        · rw [if_neg c30] at H
                          have c30b0 : decide (0 < t273) = false := decide_eq_false c30
                          clear c30
                          (first | rw [c30b0] | (simp only [i64_w, i32_w]; rw [c30b0]) | skip)
                          have H' := Aside0.mk H
                          clear H
                          go_wp2
                          go_meet
                          case rel => exact ⟨_, H', ⟨by have := HJ2.out; have := HJ15.out; have := HJ20.out; first | omega | exact Nat.le_refl _⟩, ⟨by (with_reducible repeat (first | refine blk_drewN ?_ _ | refine blk_drew ?_ | refine blk_alloc ?_ _)); exact BK269.out⟩, ⟨by repeat (first | (with_reducible first | exact HB.out | apply below_alloc | apply pw_below_drewN | apply below_drew1 | refine below_set ?_ GE269.out) | exact HB.out)⟩⟩
                      case rest =>
                        clear HC29
                        try clear c1
                        try clear c2
                        try clear p2
                        try clear c3
                        try clear p3
                        try clear q3
                        try clear hx3
                        try clear c4
                        try clear c5
                        try clear p6
                        try clear c7
                        try clear c7b0
                        try clear c7b1
                        try clear c8
                        try clear c10
                        try clear c10b0
                        try clear c10b1
                        try clear c13
                        try clear c14
                        try clear c14b0
                        try clear c14b1
                        try clear c17
                        try clear c18
                        try clear c19
                        try clear c19b0
                        try clear c20
                        try clear c22
                        try clear c22b0
                        try clear c22b1
                        try clear c23
                        try clear c25
                        try clear c25b0
                        try clear c25b1
                        try clear c28
                        try clear c30
                        try clear c30b0
                        try clear c31
                        try clear c31b0
                        try clear c31b1
                        try clear c32
                        try clear c32b0
                        try clear c32b1
                        try clear c34
                        try clear c35
                        try clear c35b0
                        try clear c37
                        try clear c37b0
                        try clear c38
                        try clear c38b0
                        try clear p39
                        try clear q39
                        try clear hx39
                        try clear c41
                        try clear c44
                        try clear hcz11_0
                        try clear hcz11_1
                        try clear hcz11_2
                        try clear hcz12_0
                        try clear hcz12_1
                        try clear hcz12_2
                        try clear hcz18_0
                        try clear hcz18_1
                        try clear hcz18_2
                        try clear hcz24_0
                        try clear hcz24_1
                        try clear hcz24_2
                        try clear hcz26_0
                        try clear hcz26_1
                        try clear hcz26_2
                        try clear hcz27_0
                        try clear hcz27_1
                        try clear hcz27_2
                        try clear hcz45_0
                        try clear hcz45_1
                        try clear hcz45_2
                        try clear hcz46_0
                        try clear hcz46_1
                        try clear hcz46_2
                        try clear hcz6_0
                        try clear hcz6_1
                        try clear hcz6_2
                        try clear hcz9_0
                        try clear hcz9_1
                        try clear hcz9_2
                        try clear hfz11_0
                        try clear hfz11_1
                        try clear hfz11_2
                        try clear hfz12_0
                        try clear hfz12_1
                        try clear hfz12_2
                        try clear hfz18_0
                        try clear hfz18_1
                        try clear hfz18_2
                        try clear hfz24_0
                        try clear hfz24_1
                        try clear hfz24_2
                        try clear hfz26_0
                        try clear hfz26_1
                        try clear hfz26_2
                        try clear hfz27_0
                        try clear hfz27_1
                        try clear hfz27_2
                        try clear hfz45_0
                        try clear hfz45_1
                        try clear hfz45_2
                        try clear hfz46_0
                        try clear hfz46_1
                        try clear hfz46_2
                        try clear hfz6_0
                        try clear hfz6_1
                        try clear hfz6_2
                        try clear hfz9_0
                        try clear hfz9_1
                        try clear hfz9_2
                        try clear p2
                        try clear p39
                        try clear q39
                        obtain ⟨kq, HA, HJ28, BK269, HB⟩ := hcut
                        cases kq with
                        | zero => exact absurd HA.out (by simp [abacuslaw08_ScanLongest.j3])
                        | succ kj28 =>
                          have H := HA.out
                          clear HA
                          simp only [abacuslaw08_ScanLongest.j3] at H
                          have H' := Aside0.mk H
                          clear H
                          go_wp2
                          go_loopg [7] kj28 (fun kq v7 w' => ∃ (x7_5 : Int), v7 = .int .i64 x7_5 ∧ Aside0 (abacuslaw08_ScanLongest.l0 kq a0 t273 x7_5 t270 t271 t272 = some true) ∧ Aside0 (kq ≤ kj28) ∧ Aside0 (w'.heap[gb269]? = some (.cells #[.bool t270, .string t271, .int .i64 t272] 23 (0, 0))) ∧ Aside0 (Below w.heap.size w w'))
                          case atStart => exact ⟨(wrap64 (t273 + 1)), (by first | rfl | (simp; done) | (simp [*]; done)), H', ⟨Nat.le_refl _⟩, ⟨by (with_reducible repeat (first | refine blk_drewN ?_ _ | refine blk_drew ?_ | refine blk_alloc ?_ _)); exact BK269.out⟩, ⟨by repeat (first | (with_reducible first | exact HB.out | apply below_alloc | apply pw_below_drewN | apply below_drew1 | refine below_set ?_ GE269.out) | exact HB.out)⟩⟩
                          case round =>
                            clear H'
                            try clear c1
                            try clear c2
                            try clear p2
                            try clear c3
                            try clear p3
                            try clear q3
                            try clear hx3
                            try clear c4
                            try clear c5
                            try clear p6
                            try clear c7
                            try clear c7b0
                            try clear c7b1
                            try clear c8
                            try clear c10
                            try clear c10b0
                            try clear c10b1
                            try clear c13
                            try clear c14
                            try clear c14b0
                            try clear c14b1
                            try clear c17
                            try clear c18
                            try clear c19
                            try clear c19b0
                            try clear c20
                            try clear c22
                            try clear c22b0
                            try clear c22b1
                            try clear c23
                            try clear c25
                            try clear c25b0
                            try clear c25b1
                            try clear c28
                            try clear c30
                            try clear c30b0
                            try clear c31
                            try clear c31b0
                            try clear c31b1
                            try clear c32
                            try clear c32b0
                            try clear c32b1
                            try clear c34
                            try clear c35
                            try clear c35b0
                            try clear c37
                            try clear c37b0
                            try clear c38
                            try clear c38b0
                            try clear p39
                            try clear q39
                            try clear hx39
                            try clear c41
                            try clear c44
                            try clear hcz11_0
                            try clear hcz11_1
                            try clear hcz11_2
                            try clear hcz12_0
                            try clear hcz12_1
                            try clear hcz12_2
                            try clear hcz18_0
                            try clear hcz18_1
                            try clear hcz18_2
                            try clear hcz24_0
                            try clear hcz24_1
                            try clear hcz24_2
                            try clear hcz26_0
                            try clear hcz26_1
                            try clear hcz26_2
                            try clear hcz27_0
                            try clear hcz27_1
                            try clear hcz27_2
                            try clear hcz45_0
                            try clear hcz45_1
                            try clear hcz45_2
                            try clear hcz46_0
                            try clear hcz46_1
                            try clear hcz46_2
                            try clear hcz6_0
                            try clear hcz6_1
                            try clear hcz6_2
                            try clear hcz9_0
                            try clear hcz9_1
                            try clear hcz9_2
                            try clear hfz11_0
                            try clear hfz11_1
                            try clear hfz11_2
                            try clear hfz12_0
                            try clear hfz12_1
                            try clear hfz12_2
                            try clear hfz18_0
                            try clear hfz18_1
                            try clear hfz18_2
                            try clear hfz24_0
                            try clear hfz24_1
                            try clear hfz24_2
                            try clear hfz26_0
                            try clear hfz26_1
                            try clear hfz26_2
                            try clear hfz27_0
                            try clear hfz27_1
                            try clear hfz27_2
                            try clear hfz45_0
                            try clear hfz45_1
                            try clear hfz45_2
                            try clear hfz46_0
                            try clear hfz46_1
                            try clear hfz46_2
                            try clear hfz6_0
                            try clear hfz6_1
                            try clear hfz6_2
                            try clear hfz9_0
                            try clear hfz9_1
                            try clear hfz9_2
                            try clear p2
                            try clear p3
                            try clear p39
                            try clear p6
                            try clear q3
                            try clear q39
                            obtain ⟨x7_5, rfl, HA, HK5, BK269, HB⟩ := hrel
                            cases gk with
                            | zero => exact absurd HA.out (by simp [abacuslaw08_ScanLongest.l0])
                            | succ k5 =>
                              have H := HA.out
                              clear HA
                              simp only [abacuslaw08_ScanLongest.l0] at H
                              by_cases c47 : x7_5 ≤ (a0.size : Int)
                              · rw [if_pos c47] at H
                                have c47b0 : decide (x7_5 ≤ (a0.size : Int)) = true := decide_eq_true c47
                                clear c47
                                by_cases c48 : 0 ≤ x7_5
                                · rw [if_pos c48] at H
                                  have c48b0 := eq_true c48
                                  have c48b1 : decide (0 ≤ x7_5) = true := decide_eq_true c48
                                  clear c48
                                  have c49b0 := eq_true (of_decide_eq_true (by first | (with_reducible assumption) | assumption) : x7_5 ≤ (a0.size : Int))
                                  replace H := Option.bind_eq_some_iff.mp H
                                  obtain ⟨⟨t280, t281, t282, t283⟩, A500, H⟩ := H
                                  replace H : (if t273 > 0 then (if 0 ≤ (wrap64 (x7_5 - 1)) then (if (wrap64 (x7_5 - 1)) < (a0.size : Int) then ((abacuslaw08_blank.f (bt a0 (wrap64 (x7_5 - 1)))).bind fun t285 => (abacuslaw08_ScanLongest.j5 k5 a0 t273 x7_5 t283 t285 t270 t271 t272 t280 t281 t282)) else (none)) else (none)) else (abacuslaw08_ScanLongest.j5 k5 a0 t273 x7_5 t283 false t270 t271 t272 t280 t281 t282)) = some true := H
                                  have A50 := Aside0.mk A500
                                  clear A500
                                  have HC51 := Aside0.mk H
                                  clear H
                                  go_upto_region 19 with (first | ((with_reducible refine gate_callee (f := 18) rfl ?_); refine goesL_ (some 97) rfl rfl Tryd.func18 (by kernel_rfl) rfl #[.string (a0.extract 0 (x7_5 : Int).toNat)] rfl (by (try simp only [List.map_toArray, List.map_cons, List.map_nil]); first | done | rfl | (simp only [List.length_drop, List.length_take]; rfl)) ?_; (with_reducible refine (scan_Whole.calls k5 (a0.extract 0 (x7_5 : Int).toNat) t280 t281 t282 t283 _ A50.out).mono ?_); rintro e w52 ⟨rfl, hb⟩; refine ⟨_, rfl, ?_⟩; have n0_ := Aside0.mk (blk_below (g := gb269) (o := .cells #[.bool t270, .string t271, .int .i64 t272] 23 (0, 0)) (by (with_reducible repeat (first | refine blk_drewN ?_ _ | refine blk_drew ?_ | refine blk_alloc ?_ _)); exact BK269.out) hb); have n1_ := Aside0.mk (below_step (by repeat (first | (with_reducible first | exact HB.out | apply below_alloc | apply pw_below_drewN | apply below_drew1 | refine below_set ?_ GE269.out) | exact HB.out)) hb); clear BK269; clear HB; have BK269 := n0_; have HB := n1_; clear n0_ n1_; (try clear hb); (try clear hb2); (try clear hk); (try clear hi)) | ((with_reducible refine gate_dst (N := 8) rfl ?_); (try (refine gate_guard (by rfl) ?_; dsimp only)); refine box_event ?hg (N := 8) ?hd (cs := #[.bool false, .string (⟨#[]⟩ : ByteArray), .int .i64 0]) (t := 23) ?hr ?_; (case hd => rfl); (case hg => rfl); (case hr => first | (go_simp; done) | (go_simp; rfl)); intro gb284 hg w53 hbox hb; have n0_ := Aside0.mk (blk_below (g := gb269) (o := .cells #[.bool t270, .string t271, .int .i64 t272] 23 (0, 0)) (by (with_reducible repeat (first | refine blk_drewN ?_ _ | refine blk_drew ?_ | refine blk_alloc ?_ _)); exact BK269.out) hb); have n1_ := Aside0.mk (below_step (by repeat (first | (with_reducible first | exact HB.out | apply below_alloc | apply pw_below_drewN | apply below_drew1 | refine below_set ?_ GE269.out) | exact HB.out)) hb); have n2_ := Aside0.mk (hbox); have n3_ := Aside0.mk ((by rw [hg]; exact (below_size (by repeat (first | (with_reducible first | exact HB.out | apply below_alloc | apply pw_below_drewN | apply below_drew1 | refine below_set ?_ GE269.out) | exact HB.out))) : w.heap.size ≤ gb284)); have n4_ := Aside0.mk ((by rw [hg]; exact (below_size (by repeat (first | (with_reducible first | exact HB.out | apply below_alloc | apply pw_below_drewN | apply below_drew1 | refine below_set ?_ GE269.out) | exact HB.out))) : w.heap.size ≤ gb284)); have n5_ := Aside0.mk ((by rw [hg]; exact Nat.ne_of_lt (blk_lt (g := gb269) (o := .cells #[.bool t270, .string t271, .int .i64 t272] 23 (0, 0)) (by (with_reducible repeat (first | refine blk_drewN ?_ _ | refine blk_drew ?_ | refine blk_alloc ?_ _)); exact BK269.out)) : gb269 ≠ gb284)); have n6_ := Aside0.mk ((by rw [hg]; exact Nat.ne_of_gt (blk_lt (g := gb269) (o := .cells #[.bool t270, .string t271, .int .i64 t272] 23 (0, 0)) (by (with_reducible repeat (first | refine blk_drewN ?_ _ | refine blk_drew ?_ | refine blk_alloc ?_ _)); exact BK269.out)) : gb284 ≠ gb269)); clear BK269; clear HB; have BK269 := n0_; have HB := n1_; have BK284 := n2_; have GW284 := n3_; have GE284 := n4_; have NB269_284 := n5_; have NB284_269 := n6_; clear n0_ n1_ n2_ n3_ n4_ n5_ n6_; clear hb hbox hg; have hnb54 := NB284_269.out; have hnc54 := NB269_284.out; have hcz55_0 : w53.cell? ⟨gb284, 0, none⟩ = some (.bool false) := (blk_cell BK284.out 0).trans rfl; have hcz55_1 : w53.cell? ⟨gb284, 1, none⟩ = some (.string (⟨#[]⟩ : ByteArray)) := (blk_cell BK284.out 1).trans rfl; have hcz55_2 : w53.cell? ⟨gb284, 2, none⟩ = some (.int .i64 0) := (blk_cell BK284.out 2).trans rfl; have hfz55_0 := blk_frozen BK284.out 0; have hfz55_1 := blk_frozen BK284.out 1; have hfz55_2 := blk_frozen BK284.out 2))
                                  (try simp only [Act.put, List.setIfInBounds_toArray, List.set_cons_zero, List.set_cons_succ])
                                  go_cut [108] (fun v108 wc => ∃ (kq : Nat) (x108_50 : Bool), v108 = .bool x108_50 ∧ Aside0 (abacuslaw08_ScanLongest.j5 kq a0 t273 x7_5 t283 x108_50 t270 t271 t272 t280 t281 t282 = some true) ∧ Aside0 (kq ≤ k5) ∧ Aside0 (wc.heap[gb269]? = some (.cells #[.bool t270, .string t271, .int .i64 t272] 23 (0, 0))) ∧ Aside0 (wc.heap[gb284]? = some (.cells #[.bool t280, .string t281, .int .i64 t282] 23 (0, 0))) ∧ Aside0 (Below w.heap.size w wc))
                                  case first =>
                                    have H := HC51.out
                                    clear HC51
                                    by_cases c56 : t273 > 0
                                    · rw [if_pos c56] at H
                                      have c56b0 : decide (0 < t273) = true := decide_eq_true c56
                                      clear c56
                                      (first | rw [c56b0] | (simp only [i64_w, i32_w]; rw [c56b0]) | skip)
                                      obtain ⟨ji57, hji57⟩ : ∃ j_ : Int, (wrap64 (x7_5 - 1)) = j_ := ⟨_, rfl⟩
                                      replace H : (if 0 ≤ (ji57) then (if (ji57) < (a0.size : Int) then ((abacuslaw08_blank.f (bt a0 (ji57))).bind fun t285 => (abacuslaw08_ScanLongest.j5 k5 a0 t273 x7_5 t283 t285 t270 t271 t272 t280 t281 t282)) else (none)) else (none)) = some true := by first | (rw [hji57] at H; exact H) | (simp only [hji57] at H ⊢; exact H)
                                      have hji57w : (IntKind.i64.wrap (x7_5 - 1)) = ji57 := (i64_w _).trans hji57
                                      by_cases c58 : 0 ≤ (ji57)
                                      · rw [if_pos c58] at H
                                        have c58b0 : decide (0 ≤ (ji57)) = true := decide_eq_true c58
                                        clear c58
                                        by_cases c59 : (ji57) < (a0.size : Int)
                                        · rw [if_pos c59] at H
                                          have c59b0 : decide ((ji57) < (a0.size : Int)) = true := decide_eq_true c59
                                          clear c59
                                          replace H := Option.bind_eq_some_iff.mp H
                                          obtain ⟨t285, A610, H⟩ := H
                                          replace H : (abacuslaw08_ScanLongest.j5 k5 a0 t273 x7_5 t283 t285 t270 t271 t272 t280 t281 t282) = some true := H
                                          have A61 := Aside0.mk A610
                                          clear A610
                                          have H' := Aside0.mk H
                                          clear H
                                          have p60 : 0 ≤ ((ji57) : Int) := of_decide_eq_true (by first | (with_reducible assumption) | assumption)
                                          have q60 : (ji57) < (a0.size : Int) := of_decide_eq_true (by first | (with_reducible assumption) | assumption)
                                          have hx60 := bt_at a0 (ji57)
                                          replace p60 := eq_true p60
                                          replace q60 := eq_true q60
                                          go_wp2_with (first | (go_at_call 19; (with_reducible refine (abacuslaw08_blank.calls (bt a0 (ji57)) t285 _ A61.out).mono ?_); rintro e w' ⟨rfl, ⟨nd, rfl⟩⟩))
                                          go_meet
                                          case rel => exact ⟨_, (t285), (by first | rfl | (simp; done) | (simp [*]; done)), H', ⟨by have := HJ2.out; have := HJ15.out; have := HJ20.out; have := HJ28.out; have := HK5.out; first | omega | exact Nat.le_refl _⟩, ⟨by (with_reducible repeat (first | refine blk_drewN ?_ _ | refine blk_drew ?_ | refine blk_alloc ?_ _)); refine blk_far ?_ NB269_284.out _; (with_reducible repeat (first | refine blk_drewN ?_ _ | refine blk_drew ?_ | refine blk_alloc ?_ _)); refine blk_far ?_ NB269_284.out _; (with_reducible repeat (first | refine blk_drewN ?_ _ | refine blk_drew ?_ | refine blk_alloc ?_ _)); refine blk_far ?_ NB269_284.out _; (with_reducible repeat (first | refine blk_drewN ?_ _ | refine blk_drew ?_ | refine blk_alloc ?_ _)); exact BK269.out⟩, ⟨by (with_reducible repeat (first | refine blk_drewN ?_ _ | refine blk_drew ?_ | refine blk_alloc ?_ _)); refine blk_put (cs := #[.bool t280, .string t281, .int .i64 0]) ?_ 2 _ rfl; (with_reducible repeat (first | refine blk_drewN ?_ _ | refine blk_drew ?_ | refine blk_alloc ?_ _)); refine blk_put (cs := #[.bool t280, .string (⟨#[]⟩ : ByteArray), .int .i64 0]) ?_ 1 _ rfl; (with_reducible repeat (first | refine blk_drewN ?_ _ | refine blk_drew ?_ | refine blk_alloc ?_ _)); refine blk_put (cs := #[.bool false, .string (⟨#[]⟩ : ByteArray), .int .i64 0]) ?_ 0 _ rfl; (with_reducible repeat (first | refine blk_drewN ?_ _ | refine blk_drew ?_ | refine blk_alloc ?_ _)); exact BK284.out⟩, ⟨by repeat (first | (with_reducible first | exact HB.out | apply below_alloc | apply pw_below_drewN | apply below_drew1 | refine below_set ?_ GE269.out | refine below_set ?_ GE284.out) | exact HB.out)⟩⟩
                                        · rw [if_neg c59] at H
                                          exact absurd H (by simp)
                                      · rw [if_neg c58] at H
                                        exact absurd H (by simp)
                                    · rw [if_neg c56] at H
                                      have c56b0 : decide (0 < t273) = false := decide_eq_false c56
                                      clear c56
                                      (first | rw [c56b0] | (simp only [i64_w, i32_w]; rw [c56b0]) | skip)
                                      have H' := Aside0.mk H
                                      clear H
                                      go_wp2
                                      go_meet
                                      case rel => exact ⟨_, (false), (by first | rfl | (simp; done) | (simp [*]; done)), H', ⟨by have := HJ2.out; have := HJ15.out; have := HJ20.out; have := HJ28.out; have := HK5.out; first | omega | exact Nat.le_refl _⟩, ⟨by (with_reducible repeat (first | refine blk_drewN ?_ _ | refine blk_drew ?_ | refine blk_alloc ?_ _)); refine blk_far ?_ NB269_284.out _; (with_reducible repeat (first | refine blk_drewN ?_ _ | refine blk_drew ?_ | refine blk_alloc ?_ _)); refine blk_far ?_ NB269_284.out _; (with_reducible repeat (first | refine blk_drewN ?_ _ | refine blk_drew ?_ | refine blk_alloc ?_ _)); refine blk_far ?_ NB269_284.out _; (with_reducible repeat (first | refine blk_drewN ?_ _ | refine blk_drew ?_ | refine blk_alloc ?_ _)); exact BK269.out⟩, ⟨by (with_reducible repeat (first | refine blk_drewN ?_ _ | refine blk_drew ?_ | refine blk_alloc ?_ _)); refine blk_put (cs := #[.bool t280, .string t281, .int .i64 0]) ?_ 2 _ rfl; (with_reducible repeat (first | refine blk_drewN ?_ _ | refine blk_drew ?_ | refine blk_alloc ?_ _)); refine blk_put (cs := #[.bool t280, .string (⟨#[]⟩ : ByteArray), .int .i64 0]) ?_ 1 _ rfl; (with_reducible repeat (first | refine blk_drewN ?_ _ | refine blk_drew ?_ | refine blk_alloc ?_ _)); refine blk_put (cs := #[.bool false, .string (⟨#[]⟩ : ByteArray), .int .i64 0]) ?_ 0 _ rfl; (with_reducible repeat (first | refine blk_drewN ?_ _ | refine blk_drew ?_ | refine blk_alloc ?_ _)); exact BK284.out⟩, ⟨by repeat (first | (with_reducible first | exact HB.out | apply below_alloc | apply pw_below_drewN | apply below_drew1 | refine below_set ?_ GE269.out | refine below_set ?_ GE284.out) | exact HB.out)⟩⟩
                                  case rest =>
                                    clear HC51
                                    try clear c1
                                    try clear c2
                                    try clear p2
                                    try clear c3
                                    try clear p3
                                    try clear q3
                                    try clear hx3
                                    try clear c4
                                    try clear c5
                                    try clear p6
                                    try clear q6
                                    try clear hx6
                                    try clear c7
                                    try clear c7b0
                                    try clear c7b1
                                    try clear c8
                                    try clear c10
                                    try clear c10b0
                                    try clear c10b1
                                    try clear c13
                                    try clear c14
                                    try clear c14b0
                                    try clear c14b1
                                    try clear c17
                                    try clear c18
                                    try clear c19
                                    try clear c19b0
                                    try clear c20
                                    try clear c22
                                    try clear c22b0
                                    try clear c22b1
                                    try clear c23
                                    try clear c25
                                    try clear c25b0
                                    try clear c25b1
                                    try clear c28
                                    try clear c30
                                    try clear c30b0
                                    try clear c31
                                    try clear c31b0
                                    try clear c31b1
                                    try clear c32
                                    try clear c32b0
                                    try clear c32b1
                                    try clear c34
                                    try clear c35
                                    try clear c35b0
                                    try clear c37
                                    try clear c37b0
                                    try clear c38
                                    try clear c38b0
                                    try clear p39
                                    try clear q39
                                    try clear hx39
                                    try clear c41
                                    try clear c44
                                    try clear c47
                                    try clear c47b0
                                    try clear c48
                                    try clear c48b0
                                    try clear c48b1
                                    try clear c49
                                    try clear c49b0
                                    try clear c54
                                    try clear c56
                                    try clear c56b0
                                    try clear c58
                                    try clear c58b0
                                    try clear c59
                                    try clear c59b0
                                    try clear p60
                                    try clear q60
                                    try clear hx60
                                    try clear hcz11_0
                                    try clear hcz11_1
                                    try clear hcz11_2
                                    try clear hcz12_0
                                    try clear hcz12_1
                                    try clear hcz12_2
                                    try clear hcz18_0
                                    try clear hcz18_1
                                    try clear hcz18_2
                                    try clear hcz24_0
                                    try clear hcz24_1
                                    try clear hcz24_2
                                    try clear hcz26_0
                                    try clear hcz26_1
                                    try clear hcz26_2
                                    try clear hcz27_0
                                    try clear hcz27_1
                                    try clear hcz27_2
                                    try clear hcz45_0
                                    try clear hcz45_1
                                    try clear hcz45_2
                                    try clear hcz46_0
                                    try clear hcz46_1
                                    try clear hcz46_2
                                    try clear hcz55_0
                                    try clear hcz55_1
                                    try clear hcz55_2
                                    try clear hcz6_0
                                    try clear hcz6_1
                                    try clear hcz6_2
                                    try clear hcz9_0
                                    try clear hcz9_1
                                    try clear hcz9_2
                                    try clear hfz11_0
                                    try clear hfz11_1
                                    try clear hfz11_2
                                    try clear hfz12_0
                                    try clear hfz12_1
                                    try clear hfz12_2
                                    try clear hfz18_0
                                    try clear hfz18_1
                                    try clear hfz18_2
                                    try clear hfz24_0
                                    try clear hfz24_1
                                    try clear hfz24_2
                                    try clear hfz26_0
                                    try clear hfz26_1
                                    try clear hfz26_2
                                    try clear hfz27_0
                                    try clear hfz27_1
                                    try clear hfz27_2
                                    try clear hfz45_0
                                    try clear hfz45_1
                                    try clear hfz45_2
                                    try clear hfz46_0
                                    try clear hfz46_1
                                    try clear hfz46_2
                                    try clear hfz55_0
                                    try clear hfz55_1
                                    try clear hfz55_2
                                    try clear hfz6_0
                                    try clear hfz6_1
                                    try clear hfz6_2
                                    try clear hfz9_0
                                    try clear hfz9_1
                                    try clear hfz9_2
                                    try clear p2
                                    try clear p3
                                    try clear p39
                                    try clear p6
                                    try clear p60
                                    try clear q3
                                    try clear q39
                                    try clear q60
                                    obtain ⟨kq, x108_50, rfl, HA, HJ50, BK269, BK284, HB⟩ := hcut
                                    cases kq with
                                    | zero => exact absurd HA.out (by simp [abacuslaw08_ScanLongest.j5])
                                    | succ kj50 =>
                                      have H := HA.out
                                      clear HA
                                      simp only [abacuslaw08_ScanLongest.j5] at H
                                      by_cases c62 : x108_50 = true
                                      · subst c62
                                        have H1 : (if t283 = true then (abacuslaw08_ScanLongest.j6 kj50 a0 t273 x7_5 (!(t280 == t270) || (!(t281.toList == t271.toList) || (!(t282 == t272)))) t270 t271 t272) else (abacuslaw08_ScanLongest.j6 kj50 a0 t273 x7_5 false t270 t271 t272)) = some true := by rw [if_pos rfl] at H; exact H
                                        clear H
                                        have H := H1
                                        clear H1
                                        have HC63 := Aside0.mk H
                                        clear H
                                        go_upto_region 20 with (fail)
                                        go_cut [114] (fun v114 wc => ∃ (kq : Nat) (x114_62 : Bool), v114 = .bool x114_62 ∧ Aside0 (abacuslaw08_ScanLongest.j6 kq a0 t273 x7_5 x114_62 t270 t271 t272 = some true) ∧ Aside0 (kq ≤ kj50) ∧ Aside0 (wc.heap[gb269]? = some (.cells #[.bool t270, .string t271, .int .i64 t272] 23 (0, 0))) ∧ Aside0 (wc.heap[gb284]? = some (.cells #[.bool t280, .string t281, .int .i64 t282] 23 (0, 0))) ∧ Aside0 (Below w.heap.size w wc))
                                        case first =>
                                          have H := HC63.out
                                          clear HC63
                                          by_cases c64 : t283 = true
                                          · subst c64
                                            have H1 : (abacuslaw08_ScanLongest.j6 kj50 a0 t273 x7_5 (!(t280 == t270) || (!(t281.toList == t271.toList) || (!(t282 == t272)))) t270 t271 t272) = some true := by rw [if_pos rfl] at H; exact H
                                            clear H
                                            have H := H1
                                            clear H1
                                            have H' := Aside0.mk H
                                            clear H
                                            have hnb65 := NB284_269.out
                                            have hnc65 := NB269_284.out
                                            have hcz66_0 : wc.cell? ⟨gb284, 0, none⟩ = some (.bool t280) := (blk_cell BK284.out 0).trans rfl
                                            have hcz66_1 : wc.cell? ⟨gb284, 1, none⟩ = some (.string t281) := (blk_cell BK284.out 1).trans rfl
                                            have hcz66_2 : wc.cell? ⟨gb284, 2, none⟩ = some (.int .i64 t282) := (blk_cell BK284.out 2).trans rfl
                                            have hfz66_0 := blk_frozen BK284.out 0
                                            have hfz66_1 := blk_frozen BK284.out 1
                                            have hfz66_2 := blk_frozen BK284.out 2
                                            have hcz67_0 : wc.cell? ⟨gb269, 0, none⟩ = some (.bool t270) := (blk_cell BK269.out 0).trans rfl
                                            have hcz67_1 : wc.cell? ⟨gb269, 1, none⟩ = some (.string t271) := (blk_cell BK269.out 1).trans rfl
                                            have hcz67_2 : wc.cell? ⟨gb269, 2, none⟩ = some (.int .i64 t272) := (blk_cell BK269.out 2).trans rfl
                                            have hfz67_0 := blk_frozen BK269.out 0
                                            have hfz67_1 := blk_frozen BK269.out 1
                                            have hfz67_2 := blk_frozen BK269.out 2
                                            go_wp2
                                            go_meet
                                            case rel => exact ⟨_, ((!(t280 == t270) || (!(t281.toList == t271.toList) || (!(t282 == t272))))), (by first | rfl | (simp; done) | (simp [*]; done)), H', ⟨by have := HJ2.out; have := HJ15.out; have := HJ20.out; have := HJ28.out; have := HK5.out; have := HJ50.out; first | omega | exact Nat.le_refl _⟩, ⟨by (with_reducible repeat (first | refine blk_drewN ?_ _ | refine blk_drew ?_ | refine blk_alloc ?_ _)); exact BK269.out⟩, ⟨by (with_reducible repeat (first | refine blk_drewN ?_ _ | refine blk_drew ?_ | refine blk_alloc ?_ _)); exact BK284.out⟩, ⟨by repeat (first | (with_reducible first | exact HB.out | apply below_alloc | apply pw_below_drewN | apply below_drew1 | refine below_set ?_ GE269.out | refine below_set ?_ GE284.out) | exact HB.out)⟩⟩
                                          · replace c64 := Bool.eq_false_iff.mpr c64
                                            subst c64
                                            have H1 : (abacuslaw08_ScanLongest.j6 kj50 a0 t273 x7_5 false t270 t271 t272) = some true := by rw [if_neg (show ¬ (false = true) by decide)] at H; exact H
                                            clear H
                                            have H := H1
                                            clear H1
                                            have H' := Aside0.mk H
                                            clear H
                                            go_wp2
                                            go_meet
                                            case rel => exact ⟨_, (false), (by first | rfl | (simp; done) | (simp [*]; done)), H', ⟨by have := HJ2.out; have := HJ15.out; have := HJ20.out; have := HJ28.out; have := HK5.out; have := HJ50.out; first | omega | exact Nat.le_refl _⟩, ⟨by (with_reducible repeat (first | refine blk_drewN ?_ _ | refine blk_drew ?_ | refine blk_alloc ?_ _)); exact BK269.out⟩, ⟨by (with_reducible repeat (first | refine blk_drewN ?_ _ | refine blk_drew ?_ | refine blk_alloc ?_ _)); exact BK284.out⟩, ⟨by repeat (first | (with_reducible first | exact HB.out | apply below_alloc | apply pw_below_drewN | apply below_drew1 | refine below_set ?_ GE269.out | refine below_set ?_ GE284.out) | exact HB.out)⟩⟩
                                        case rest =>
                                          clear HC63
                                          try clear c1
                                          try clear c2
                                          try clear p2
                                          try clear c3
                                          try clear p3
                                          try clear q3
                                          try clear hx3
                                          try clear c4
                                          try clear c5
                                          try clear c6
                                          try clear p6
                                          try clear q6
                                          try clear hx6
                                          try clear c7
                                          try clear c7b0
                                          try clear c7b1
                                          try clear c8
                                          try clear c10
                                          try clear c10b0
                                          try clear c10b1
                                          try clear c13
                                          try clear c14
                                          try clear c14b0
                                          try clear c14b1
                                          try clear c17
                                          try clear c18
                                          try clear c19
                                          try clear c19b0
                                          try clear c20
                                          try clear c22
                                          try clear c22b0
                                          try clear c22b1
                                          try clear c23
                                          try clear c25
                                          try clear c25b0
                                          try clear c25b1
                                          try clear c28
                                          try clear c30
                                          try clear c30b0
                                          try clear c31
                                          try clear c31b0
                                          try clear c31b1
                                          try clear c32
                                          try clear c32b0
                                          try clear c32b1
                                          try clear c34
                                          try clear c35
                                          try clear c35b0
                                          try clear c37
                                          try clear c37b0
                                          try clear c38
                                          try clear c38b0
                                          try clear p39
                                          try clear q39
                                          try clear hx39
                                          try clear c41
                                          try clear c44
                                          try clear c47
                                          try clear c47b0
                                          try clear c48
                                          try clear c48b0
                                          try clear c48b1
                                          try clear c49
                                          try clear c49b0
                                          try clear c54
                                          try clear c56
                                          try clear c56b0
                                          try clear c58
                                          try clear c58b0
                                          try clear c59
                                          try clear c59b0
                                          try clear p60
                                          try clear q60
                                          try clear hx60
                                          try clear c62
                                          try clear c64
                                          try clear p64
                                          try clear c65
                                          try clear hcz11_0
                                          try clear hcz11_1
                                          try clear hcz11_2
                                          try clear hcz12_0
                                          try clear hcz12_1
                                          try clear hcz12_2
                                          try clear hcz18_0
                                          try clear hcz18_1
                                          try clear hcz18_2
                                          try clear hcz24_0
                                          try clear hcz24_1
                                          try clear hcz24_2
                                          try clear hcz26_0
                                          try clear hcz26_1
                                          try clear hcz26_2
                                          try clear hcz27_0
                                          try clear hcz27_1
                                          try clear hcz27_2
                                          try clear hcz45_0
                                          try clear hcz45_1
                                          try clear hcz45_2
                                          try clear hcz46_0
                                          try clear hcz46_1
                                          try clear hcz46_2
                                          try clear hcz55_0
                                          try clear hcz55_1
                                          try clear hcz55_2
                                          try clear hcz66_0
                                          try clear hcz66_1
                                          try clear hcz66_2
                                          try clear hcz67_0
                                          try clear hcz67_1
                                          try clear hcz67_2
                                          try clear hcz6_0
                                          try clear hcz6_1
                                          try clear hcz6_2
                                          try clear hcz9_0
                                          try clear hcz9_1
                                          try clear hcz9_2
                                          try clear hfz11_0
                                          try clear hfz11_1
                                          try clear hfz11_2
                                          try clear hfz12_0
                                          try clear hfz12_1
                                          try clear hfz12_2
                                          try clear hfz18_0
                                          try clear hfz18_1
                                          try clear hfz18_2
                                          try clear hfz24_0
                                          try clear hfz24_1
                                          try clear hfz24_2
                                          try clear hfz26_0
                                          try clear hfz26_1
                                          try clear hfz26_2
                                          try clear hfz27_0
                                          try clear hfz27_1
                                          try clear hfz27_2
                                          try clear hfz45_0
                                          try clear hfz45_1
                                          try clear hfz45_2
                                          try clear hfz46_0
                                          try clear hfz46_1
                                          try clear hfz46_2
                                          try clear hfz55_0
                                          try clear hfz55_1
                                          try clear hfz55_2
                                          try clear hfz66_0
                                          try clear hfz66_1
                                          try clear hfz66_2
                                          try clear hfz67_0
                                          try clear hfz67_1
                                          try clear hfz67_2
                                          try clear hfz6_0
                                          try clear hfz6_1
                                          try clear hfz6_2
                                          try clear hfz9_0
                                          try clear hfz9_1
                                          try clear hfz9_2
                                          try clear p2
                                          try clear p3
                                          try clear p39
                                          try clear p6
                                          try clear p60
                                          try clear q3
                                          try clear q39
                                          try clear q6
                                          try clear q60
                                          obtain ⟨kq, x114_62, rfl, HA, HJ62, BK269, BK284, HB⟩ := hcut
                                          cases kq with
                                          | zero => exact absurd HA.out (by simp [abacuslaw08_ScanLongest.j6])
                                          | succ kj62 =>
                                            have H := HA.out
                                            clear HA
                                            simp only [abacuslaw08_ScanLongest.j6] at H
                                            by_cases c68 : x114_62 = true
                                            · subst c68
                                              have H1 : (some false) = some true := by rw [if_pos rfl] at H; exact H
                                              clear H
                                              have H := H1
                                              clear H1
                                              exact absurd H (by simp)
                                            · replace c68 := Bool.eq_false_iff.mpr c68
                                              subst c68
                                              have H1 : (abacuslaw08_ScanLongest.l0 kj62 a0 t273 (wrap64 (x7_5 + 1)) t270 t271 t272) = some true := by rw [if_neg (show ¬ (false = true) by decide)] at H; exact H
                                              clear H
                                              have H := H1
                                              clear H1
                                              have H' := Aside0.mk H
                                              clear H
                                              go_wp2
                                              go_roundg kj62
                                              case measure => have := HJ2.out; have := HJ15.out; have := HJ20.out; have := HJ28.out; have := HK5.out; have := HJ50.out; have := HJ62.out; omega
                                              case rel => exact ⟨(wrap64 (x7_5 + 1)), (by first | rfl | (simp; done) | (simp [*]; done)), H', ⟨by have := HJ2.out; have := HJ15.out; have := HJ20.out; have := HJ28.out; have := HK5.out; have := HJ50.out; have := HJ62.out; omega⟩, ⟨by (with_reducible repeat (first | refine blk_drewN ?_ _ | refine blk_drew ?_ | refine blk_alloc ?_ _)); exact BK269.out⟩, ⟨by repeat (first | (with_reducible first | exact HB.out | apply below_alloc | apply pw_below_drewN | apply below_drew1 | refine below_set ?_ GE269.out | refine below_set ?_ GE284.out) | exact HB.out)⟩⟩
                                      · replace c62 := Bool.eq_false_iff.mpr c62
                                        subst c62
                                        have H1 : (if t283 = true then (some false) else (abacuslaw08_ScanLongest.l0 kj50 a0 t273 (wrap64 (x7_5 + 1)) t270 t271 t272)) = some true := by rw [if_neg (show ¬ (false = true) by decide)] at H; exact H
                                        clear H
                                        have H := H1
                                        clear H1
                                        by_cases c69 : t283 = true
                                        · subst c69
                                          have H1 : (some false) = some true := by rw [if_pos rfl] at H; exact H
                                          clear H
                                          have H := H1
                                          clear H1
                                          exact absurd H (by simp)
                                        · replace c69 := Bool.eq_false_iff.mpr c69
                                          subst c69
                                          have H1 : (abacuslaw08_ScanLongest.l0 kj50 a0 t273 (wrap64 (x7_5 + 1)) t270 t271 t272) = some true := by rw [if_neg (show ¬ (false = true) by decide)] at H; exact H
                                          clear H
                                          have H := H1
                                          clear H1
                                          have H' := Aside0.mk H
                                          clear H
                                          go_wp2
                                          go_roundg kj50
                                          case measure => have := HJ2.out; have := HJ15.out; have := HJ20.out; have := HJ28.out; have := HK5.out; have := HJ50.out; omega
                                          case rel => exact ⟨(wrap64 (x7_5 + 1)), (by first | rfl | (simp; done) | (simp [*]; done)), H', ⟨by have := HJ2.out; have := HJ15.out; have := HJ20.out; have := HJ28.out; have := HK5.out; have := HJ50.out; omega⟩, ⟨by (with_reducible repeat (first | refine blk_drewN ?_ _ | refine blk_drew ?_ | refine blk_alloc ?_ _)); exact BK269.out⟩, ⟨by repeat (first | (with_reducible first | exact HB.out | apply below_alloc | apply pw_below_drewN | apply below_drew1 | refine below_set ?_ GE269.out | refine below_set ?_ GE284.out) | exact HB.out)⟩⟩
                                · rw [if_neg c48] at H
                                  exact absurd H (by simp)
                              · rw [if_neg c47] at H
                                have c47b0 : decide (x7_5 ≤ (a0.size : Int)) = false := decide_eq_false c47
                                clear c47
                                clear H
                                go_wp2
                                go_ret
                                exact ⟨by first | rfl | (simp [errW_none, errW_some] <;> rfl) | (simp [*, errW_none, errW_some] <;> rfl), by repeat (first | (with_reducible first | exact HB.out | apply below_alloc | apply pw_below_drewN | apply below_drew1 | refine below_set ?_ GE269.out) | exact HB.out)⟩

end Go.Proofs.YtcgjfckhnpimbaaDoor.EScan
