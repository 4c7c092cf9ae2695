/-
  A text of this session's own.
-/
import Derived.Test.YtcgjfckhnpimbaaDoorOrEScanx0
namespace Go.Proofs.YtcgjfckhnpimbaaDoor.EScan
open Go.RowKit Go.Proofs.YtcgjfckhnpimbaaDoorW.PrintWords Go.Proofs.YtcgjfckhnpimbaaDoorW.PrintLast Go.Proofs.YtcgjfckhnpimbaaDoorW.PrintMore
attribute [local go_sem] max2_int min2_int max_two min_two max_three min_three max_four min_four   -- for this text's walks alone
set_option linter.unusedVariables false
set_option linter.unusedSimpArgs false
def abacuslaw08_built.T12 : Bool × List (List Nat × List Nat) := (true, [([], []), ([], []), ([1], [1]), ([2], [2]), ([], []), ([4], [4]), ([3, 5], [3, 5]), ([0, 6], [0, 6]), ([], []), ([8], [8]), ([9], [9]), ([7, 10], [7, 10]), ([], []), ([12], [12]), ([13, 10], [13]), ([11, 14], [11, 14]), ([15, 14, 0, 1, 2, 3, 4, 5, 6, 7, 8, 9, 10, 11, 12, 13, 14, 15], [0, 15])])
def abacuslaw08_built.B12 : List Nat := [0, 0, 2, 6, 0, 16, 62, 127, 0, 256, 768, 2047, 0, 4096, 14080, 32767, 65535]
theorem abacuslaw08_built.tab12 : rtab .any (opsOf Tryd.f20 12) = abacuslaw08_built.T12 := by kernel_rfl
theorem abacuslaw08_built.bits12 : waitsOk abacuslaw08_built.T12.2 abacuslaw08_built.B12 = true := by kernel_rfl
end Go.Proofs.YtcgjfckhnpimbaaDoor.EScan
