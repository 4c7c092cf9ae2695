/-
  Contracts of library functions that the directive statements call (strings.IndexByte, strconv.Itoa), in the shape of the printed ones. Conditions: a byte is one; the number is an int64.
-/
import Derived.Test.YtlmijjekaelhcaaDoorExShelf
import Derived.Test.YtlmijjekaelhcaaDoorExWWords
import Derived.Lib.LaidTab
import Derived.Lib.SmallJoins
import Derived.Lib.AppendIntMem
set_option linter.unusedVariables false
namespace Go.Proofs.YtlmijjekaelhcaaDoor.X
open Go.RowKit Go.Proofs.YtlmijjekaelhcaaDoorW.PrintWords
/-- What the calls of strconv.Itoa ask of the world: its table holds the powers of ten. -/
def GW (w : World) : Prop := Lib.TabIs Tryd.prog w "internal/strconv.uint64pow10" .u64 Lib.pow10Tab
theorem gPow : Tryd.prog.globalNamed "internal/strconv.uint64pow10" = some 1 := by kernel_rfl
theorem GW.below {w w' : World} (h : GW w) (hb : Below w.heap.size w w') : GW w' := Go.Joins.tab_stays gPow h hb (Nat.le_refl _)
def xIndexByte.f (a0 : ByteArray) (a1 : Int) : Option Int := some (Lib.indexByte a0.data.toList a1.toNat.toUInt8)
set_option maxHeartbeats 400000 in
theorem xIndexByte.calls (a0 : ByteArray) (a1 : Int) (r : Int) (w : World) (h : xIndexByte.f a0 a1 = some r) :
  Calls Tryd.prog 25 #[.string a0, .int .u8 a1] w fun e w' => e = .returned (.int .i64 r) ∧ Below w.heap.size w w' := by
 obtain rfl := Option.some.inj h
 clear h
 go_enter Tryd.func25, Tryd.ntmps25
 go_wp2_with (go_at_call 41; refine (Tryd.stringslite_IndexByte a0 a1 _).mono ?_; rintro e w1 ⟨rfl, rfl⟩)
 go_ret
 exact ⟨rfl, Below.refl _ _⟩
def xItoa.f (a0 : Int) : Option ByteArray := if -9223372036854775808 ≤ a0 ∧ a0 ≤ 9223372036854775807 then some ⟨(Lib.itoa a0).toArray⟩ else none
theorem xItoa.calls (a0 : Int) (r : ByteArray) (w : World) (hG : GW w) (h : xItoa.f a0 = some r) :
  Calls Tryd.prog 55 #[.int .i64 a0] w fun e w' => e = .returned (.string r) ∧ Below w.heap.size w w' := by
 unfold xItoa.f at h
 split at h
 ·rename_i e
  obtain rfl := Option.some.inj h
  exact (Tryd.strconv_Itoa a0 e.1 e.2 w hG).mono fun e w' ⟨h1, k, os, h2⟩ => ⟨h1, by subst h2; exact Lib.below_grow _ _ (Nat.le_refl _) _ _⟩
 ·cases h
def xReader.f (s : ByteArray) (at_ : Int) : Option (ByteArray × Int × Int × Int × ByteArray × Int × Int × Int × Int × Int × Int) := some (s, at_, 0, 0, ⟨#[]⟩, 0, 0, 0, 0, 0, 0)
end Go.Proofs.YtlmijjekaelhcaaDoor.X
