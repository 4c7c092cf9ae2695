/-
  Digits and single bytes of a text by place, and where a run of digits ends.
-/
import Derived.Test.YtcgjfckhnpimbaaDoorOrWWords
set_option linter.unusedVariables false
namespace Go.Proofs.YtcgjfckhnpimbaaDoor.X
open Go.RowKit Go.Proofs.YtcgjfckhnpimbaaDoorW.PrintWords
def dgB (s : ByteArray) (i : Int) : Bool := decide (i < (s.size : Int)) && (decide (48 ≤ bt s i) && decide (bt s i ≤ 57))
theorem dgB_lt {s : ByteArray} {i : Int} (h : dgB s i = true) : i < (s.size : Int) := by
  unfold dgB at h
  simp at h
  exact h.1
def digEnd (s : ByteArray) (i : Int) : Int := if h : dgB s i = true then digEnd s (i + 1) else i
termination_by ((s.size : Int) - i).toNat
decreasing_by have := dgB_lt h; omega
theorem digEnd_yes {s : ByteArray} {i : Int} (h : dgB s i = true) : digEnd s i = digEnd s (i + 1) := by rw [digEnd, dif_pos h]
theorem digEnd_no {s : ByteArray} {i : Int} (h : dgB s i = false) : digEnd s i = i := by rw [digEnd, dif_neg (by simp [h])]
end Go.Proofs.YtcgjfckhnpimbaaDoor.X
