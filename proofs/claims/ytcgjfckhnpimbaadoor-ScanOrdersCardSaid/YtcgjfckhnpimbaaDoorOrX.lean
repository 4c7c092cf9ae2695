/-
  Contracts of library functions that the scan statements call (strings.TrimLeft, TrimRight, Clone, Compare, strconv.Itoa), in the shape of the printed ones: out of the shelf's contracts. No conditions but those in the plain functions (none where the bound or the cutset does not fit).
-/
import Derived.Test.YtcgjfckhnpimbaaDoorOrShelf
import Derived.Test.YtcgjfckhnpimbaaDoorOrWWords
import Derived.Lib.LaidTab
import Derived.Lib.SmallJoins
import Derived.Lib.AppendIntMem
set_option linter.unusedVariables false
namespace Go.Proofs.YtcgjfckhnpimbaaDoor.X
open Go.RowKit Go.Proofs.YtcgjfckhnpimbaaDoorW.PrintWords
/-- What the calls of strconv.Itoa ask of the world: its table holds the powers of ten. -/
def GW (w : World) : Prop := Lib.TabIs Tryd.prog w "internal/strconv.uint64pow10" .u64 Lib.pow10Tab
theorem gPow : Tryd.prog.globalNamed "internal/strconv.uint64pow10" = some 1 := by kernel_rfl
theorem GW.below {w w' : World} (h : GW w) (hb : Below w.heap.size w w') : GW w' := Go.Joins.tab_stays gPow h hb (Nat.le_refl _)
def xTrimLeft.f (a0 a1 : ByteArray) : Option ByteArray := if a1 = (⟨#[48]⟩ : ByteArray) then some ⟨(Lib.trimLeftB a0.data.toList 48).toArray⟩ else none
theorem xTrimLeft.calls (a0 a1 r : ByteArray) (w : World) (h : xTrimLeft.f a0 a1 = some r) :
    Calls Tryd.prog 41 #[.string a0, .string a1] w fun e w' => e = .returned (.string r) ∧ Below w.heap.size w w' := by
  unfold xTrimLeft.f at h
  split at h
  · rename_i e
    subst e
    obtain rfl := Option.some.inj h
    exact (Tryd.strings_TrimLeft_one a0 48 (by decide) w).mono fun e w' ⟨h1, h2⟩ => ⟨h1, by subst h2; exact Below.refl _ _⟩
  · cases h
def xTrimRight.f (a0 a1 : ByteArray) : Option ByteArray := if a1 = (⟨#[48]⟩ : ByteArray) ∧ a0.size ≤ 9223372036854775807 then some ⟨(Lib.trimRightB a0.data.toList 48).toArray⟩ else none
theorem xTrimRight.calls (a0 a1 r : ByteArray) (w : World) (h : xTrimRight.f a0 a1 = some r) :
    Calls Tryd.prog 42 #[.string a0, .string a1] w fun e w' => e = .returned (.string r) ∧ Below w.heap.size w w' := by
  unfold xTrimRight.f at h
  split at h
  · rename_i e
    obtain ⟨e, hs⟩ := e
    subst e
    obtain rfl := Option.some.inj h
    exact (Tryd.strings_TrimRight_one a0 48 (by decide) w hs).mono fun e w' ⟨h1, h2⟩ => ⟨h1, by subst h2; exact Below.refl _ _⟩
  · cases h
def xCompare.f (a0 a1 : ByteArray) : Option Int := some (Lib.compareBytes a0.data.toList a1.data.toList)
theorem xCompare.calls (a0 a1 : ByteArray) (r : Int) (w : World) (h : xCompare.f a0 a1 = some r) :
    Calls Tryd.prog 40 #[.string a0, .string a1] w fun e w' => e = .returned (.int .i64 r) ∧ Below w.heap.size w w' := by
  obtain rfl := Option.some.inj h
  exact (Tryd.strings_Compare a0 a1 w).mono fun e w' ⟨h1, h2⟩ => ⟨h1, by subst h2; exact Below.refl _ _⟩
def xClone.f (a0 : ByteArray) : Option ByteArray := if a0.size ≤ 281474976710656 then some a0 else none
set_option maxHeartbeats 400000 in
theorem xClone.calls (a0 r : ByteArray) (w : World) (h : xClone.f a0 = some r) :
    Calls Tryd.prog 43 #[.string a0] w fun e w' => e = .returned (.string r) ∧ Below w.heap.size w w' := by
  unfold xClone.f at h
  split at h
  · rename_i hs
    obtain rfl := Option.some.inj h
    clear h
    go_enter Tryd.func43, Tryd.ntmps43
    go_wp2_with (go_at_call 60; refine (Tryd.stringslite_Clone a0 _ hs).mono ?_; rintro e w1 ⟨rfl, hb⟩)
    go_ret
    exact ⟨rfl, hb⟩
  · cases h
end Go.Proofs.YtcgjfckhnpimbaaDoor.X
