/-
  Plain laws of the chars statements, second seat: Split at a text; CharsSplits answers true.
-/
import Derived.Test.YtdeannaaafffbaaDoorKePb
set_option linter.unusedSimpArgs false
set_option linter.unusedVariables false
set_option linter.unusedSimpArgs false
set_option linter.unusedSectionVars false
namespace Go.Proofs.YtdeannaaafffbaaDoor.Pl
open Go.RowKit Go.Proofs.YtdeannaaafffbaaDoorW.PrintWords Go.Proofs.YtdeannaaafffbaaDoor.X Go.Proofs.YtdeannaaafffbaaDoor.ECd
/-- The parts from b on, cut at the next c places. -/
def parts (s o : ByteArray) : Nat → Nat → List ByteArray
  | 0, b => [s.extract b s.size]
  | c + 1, b => s.extract b (b + (Lib.index (s.data.toList.drop b) o.data.toList).toNat) :: parts s o c (b + (Lib.index (s.data.toList.drop b) o.data.toList).toNat + o.size)
theorem parts_len (s o : ByteArray) : ∀ c b, (parts s o c b).length = c + 1
  | 0, _ => rfl
  | c + 1, b => by rw [parts, List.length_cons, parts_len s o c]
theorem splitB_parts (s o : ByteArray) (ho : 0 < o.size) : ∀ (c b : Nat) (rest : ByteArray), b ≤ s.size → rest.data.toList = s.data.toList.drop b → c = Lib.count (s.data.toList.drop b) o.data.toList → Lib.splitB o 0 c rest = parts s o c b
  | 0, b, rest, hb, hr, hc => by
    rw [Lib.splitB_zero, parts]
    congr 1
    apply ba_ext
    rw [hr, ext_l, List.take_of_length_le (by rw [List.length_drop, size_l]; omega)]
  | c + 1, b, rest, hb, hr, hc => by
    have h2 := size_l s
    have h3 := size_l o
    have hO : o.data.toList ≠ [] := fun e => by
      rw [e] at h3
      have : ([] : List UInt8).length = 0 := rfl
      omega
    obtain ⟨i, g1, g2, g3, g4⟩ := hit_of_count o.data.toList (l := s.data.toList.drop b) (by omega)
    have hroom := (Lib.occAt_room g3).resolve_right hO
    have hcnt := Lib.count_hit hO g1
    rw [List.length_drop] at hroom
    rw [List.drop_drop] at hcnt
    have hi : Lib.indexB rest o = i := by
      show Lib.index rest.data.toList o.data.toList = i
      rw [hr]
      exact g1
    have hrl : rest.size = s.size - b := by rw [← size_l, hr, List.length_drop, h2]
    have hrest : (rest.extract (i + o.size) rest.size).data.toList = s.data.toList.drop (b + i + o.size) := by
      rw [ext_l, hr, List.drop_drop, List.take_of_length_le (by rw [List.length_drop]; omega)]
      congr 1
      omega
    have ih := splitB_parts s o ho c (b + i + o.size) (rest.extract (i + o.size) rest.size) (by omega) hrest (by
      rw [show b + i + o.size = b + (i + o.data.toList.length) by omega]
      omega)
    rw [Lib.splitB_hit o 0 c rest i hi, ih, parts, g1, Int.toNat_natCast]
    congr 1
    apply ba_ext
    rw [ext_l, ext_l, hr]
    simp
section
variable (s o : ByteArray) (hs : s.size ≤ 1048576) (ho : o.size ≤ 1048576) (hol : 0 < o.size)
include hs ho hol
end
/-- What both answer. -/
def splitV (s o : ByteArray) : List ByteArray :=
  if s.data.toList = [] then [] else if o.data.toList = [32] then runL s (-1) 0 else if o.data.toList = [] then sing s s.size else parts s o (Lib.count s.data.toList o.data.toList) 0
theorem runL_len (s : ByteArray) : ∀ i : Int, i ≤ (s.size : Int) → 0 ≤ i → ∀ b : Int, ((runL s b i).length : Int) ≤ (s.size : Int) - i + 1 := by
  refine left_ind fun i hi ih h0 b => ?_
  rw [runL]
  split
  · rename_i hlt
    have n1 := ih (i + 1) (by omega) (by omega) (by omega)
    have := n1 (-1)
    have := n1 i
    have := n1 b
    split
    · split
      · omega
      · rw [List.length_cons]
        omega
    · split
      · omega
      · omega
  · split
    · simp
      omega
    · simp
      omega
theorem splitV_len (s o : ByteArray) : (splitV s o).length ≤ s.size + 2 := by
  have h2 := size_l s
  have hc := Lib.count_le s.data.toList o.data.toList
  have hr := runL_len s 0 (by omega) (by omega) (-1)
  unfold splitV
  split
  · simp
  · split
    · omega
    · split
      · rw [sing_len]
        omega
      · rw [parts_len]
        omega
section
variable (s o : ByteArray) (hs : s.size ≤ 1048576) (ho : o.size ≤ 1048576)
include hs ho
end
section
variable (l : List S29) (hl : l.length ≤ 1048576) (hs : ∀ a ∈ l, a.f0.size ≤ 1048576 ∧ a.f1.size ≤ 1048576 ∧ a.f5.length ≤ 1048576 ∧ ∀ x ∈ a.f5, x.size ≤ 1152921504606846976)
include hl hs
end
end Go.Proofs.YtdeannaaafffbaaDoor.Pl
