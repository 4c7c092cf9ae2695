/-
  Plain laws of the scan statements: a Dec's text reads back as the Dec; ScanBacks answers true.
-/
import Derived.Test.YtcgjfckhnpimbaaDoorBuPi
import Derived.Test.YtcgjfckhnpimbaaDoorBuXLit
import Derived.Test.YtcgjfckhnpimbaaDoorBuEScanx14
import Derived.Test.YtcgjfckhnpimbaaDoorBuEScanx0
import Derived.Test.YtcgjfckhnpimbaaDoorBuEScanx1
import Derived.Test.YtcgjfckhnpimbaaDoorBuEScanyA
import Derived.Test.YtcgjfckhnpimbaaDoorBuX
set_option linter.unusedVariables false
set_option linter.unusedSimpArgs false
set_option linter.unusedSectionVars false
namespace Go.Proofs.YtcgjfckhnpimbaaDoor.Pl
open Go.RowKit Go.Proofs.YtcgjfckhnpimbaaDoorW.PrintWords Go.Proofs.YtcgjfckhnpimbaaDoor.X Go.Proofs.YtcgjfckhnpimbaaDoor.EScan
section
variable (neg : Bool) (s : ByteArray) (exp : Int) (hs : s.size ≤ 140737488351232)
include hs
end
theorem at_list {t : ByteArray} {A B : List UInt8} {b : UInt8} (h : t.data.toList = A ++ b :: B) : bt t A.length = b.toNat ∧ A.length < t.size := by
  have hl : t.data.toList.length = t.size := by simp
  constructor
  · refine bt_list ?_
    rw [h]
    simp
  · rw [← hl, h]
    simp
def hfold (x : Int) (l : List UInt8) : Int := l.foldl (fun x b => cap15 (x * 10 + ((b.toNat : Int) - 48))) x
theorem dgt (v : Nat) (h : v < 10) : (UInt8.ofNat (48 + v)).toNat = 48 + v := by
  rw [UInt8.toNat_ofNat']
  omega
theorem dec_all : ∀ u : Nat, Lib.decDigits u ≠ [] ∧ ∀ b ∈ Lib.decDigits u, 48 ≤ b.toNat ∧ b.toNat ≤ 57 := by
  intro u
  induction u using Nat.strongRecOn with
  | _ u ih =>
    by_cases h : u < 10
    · rw [Lib.decDigits_one h]
      refine ⟨by simp, fun b hb => ?_⟩
      rw [List.mem_singleton.1 hb, dgt u h]
      omega
    · rw [Lib.decDigits, dif_neg h]
      have := ih (u / 10) (by omega)
      refine ⟨by simp, fun b hb => ?_⟩
      rcases List.mem_append.1 hb with hb | hb
      · exact this.2 b hb
      · rw [List.mem_singleton.1 hb, dgt (u % 10) (by omega)]
        omega
def c12 : ByteArray := ⟨#[49, 50]⟩
section
variable (g : Bool) {d : ByteArray} {e : Int} (n : Nrm d e) (h1 : -1152921504606846976 ≤ e) (h2 : e ≤ 1152921504606846976) (hd : d.size ≤ 140737488351232)
include n h1 h2 hd
end
end Go.Proofs.YtcgjfckhnpimbaaDoor.Pl
