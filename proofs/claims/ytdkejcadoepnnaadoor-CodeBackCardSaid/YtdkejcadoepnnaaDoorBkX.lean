/-
  Contracts of library functions that the code statements call (strconv.Itoa), in the shape of the printed ones. Conditions: the number is an int64.
-/
import Derived.Test.YtdkejcadoepnnaaDoorBkShelf
import Derived.Test.YtdkejcadoepnnaaDoorBkWWords
import Derived.Lib.LaidTab
import Derived.Lib.SmallJoins
import Derived.Lib.AppendIntMem
set_option linter.unusedSimpArgs false
set_option linter.unusedVariables false
namespace Go.Proofs.YtdkejcadoepnnaaDoor.X
open Go.RowKit Go.Proofs.YtdkejcadoepnnaaDoorW.PrintWords
/-- What the calls of strconv.Itoa ask of the world: its table holds the powers of ten. -/
def GW (w : World) : Prop := Lib.TabIs Tryd.prog w "internal/strconv.uint64pow10" .u64 Lib.pow10Tab
theorem gPow : Tryd.prog.globalNamed "internal/strconv.uint64pow10" = some 0 := by kernel_rfl
theorem GW.below {w w' : World} (h : GW w) (hb : Below w.heap.size w w') : GW w' := Go.Joins.tab_stays gPow h hb (Nat.le_refl _)
def xItoa.f (a0 : Int) : Option ByteArray := if -9223372036854775808 ≤ a0 ∧ a0 ≤ 9223372036854775807 then some ⟨(Lib.itoa a0).toArray⟩ else none
theorem xItoa.calls (a0 : Int) (r : ByteArray) (w : World) (hG : GW w) (h : xItoa.f a0 = some r) :
  Calls Tryd.prog 44 #[.int .i64 a0] w fun e w' => e = .returned (.string r) ∧ Below w.heap.size w w' := by
 unfold xItoa.f at h
 split at h
 ·rename_i e
  obtain rfl := Option.some.inj h
  exact (Tryd.strconv_Itoa a0 e.1 e.2 w hG).mono fun e w' ⟨h1, k, os, h2⟩ => ⟨h1, by subst h2; exact Lib.below_grow _ _ (Nat.le_refl _) _ _⟩
 ·cases h
end Go.Proofs.YtdkejcadoepnnaaDoor.X
