/-
  Plain laws of the chars statements, second seat: what is cut is joined again; CharsBack answers true.
-/
import Derived.Test.YtdeannaaafffbaaDoorSwPc
import Derived.Test.YtdeannaaafffbaaDoorSwECdx0
import Derived.Test.YtdeannaaafffbaaDoorSwECdx4
import Derived.Test.YtdeannaaafffbaaDoorSwECdx5
import Derived.Test.YtdeannaaafffbaaDoorSwX
set_option linter.unusedVariables false
set_option linter.unusedSimpArgs false
set_option linter.unusedSectionVars false
namespace Go.Proofs.YtdeannaaafffbaaDoor.Pl
open Go.RowKit Go.Proofs.YtdeannaaafffbaaDoorW.PrintWords Go.Proofs.YtdeannaaafffbaaDoor.X Go.Proofs.YtdeannaaafffbaaDoor.ECd
theorem jb_false (sep : ByteArray) : ∀ {r : List ByteArray}, r ≠ [] → jb sep false r = sep.data.toList ++ jb sep true r
  | [], h => absurd rfl h
  | x :: r, _ => by
    rw [jb, jb]
    simp
theorem jb_cons (sep x : ByteArray) {r : List ByteArray} (h : r ≠ []) : jb sep true (x :: r) = x.data.toList ++ (sep.data.toList ++ jb sep true r) := by
  rw [jb, jb_false sep h]
  simp
theorem parts_ne (s o : ByteArray) (c b : Nat) : parts s o c b ≠ [] := by cases c <;> simp [parts]
theorem take_occ {l O : List UInt8} {i : Nat} (h : Lib.occAt l O i = true) : l = l.take i ++ (O ++ l.drop (i + O.length)) := by
  unfold Lib.occAt at h
  rw [List.isPrefixOf_iff_prefix] at h
  obtain ⟨t, ht⟩ := h
  have h2 : l.drop (i + O.length) = t := by
    rw [← List.drop_drop, ← ht]
    simp
  rw [h2, ht, List.take_append_drop]
theorem parts_join (s o : ByteArray) (hol : 0 < o.size) : ∀ (c b : Nat), b ≤ s.size → c = Lib.count (s.data.toList.drop b) o.data.toList → jb o true (parts s o c b) = s.data.toList.drop b
  | 0, b, hb, hc => by
    rw [parts, jb, jb, ext_l, List.take_of_length_le (by rw [List.length_drop, size_l]; exact Nat.le_refl _)]
    simp
  | c + 1, b, hb, hc => by
    have h2 := size_l s
    have h3 := size_l o
    have hO : o.data.toList ≠ [] := fun e => by
      rw [e] at h3
      have : ([] : List UInt8).length = 0 := rfl
      omega
    obtain ⟨i, g1, g2, g3, g4⟩ := hit_of_count o.data.toList (l := s.data.toList.drop b) (by omega)
    have hroom := (Lib.occAt_room g3).resolve_right hO
    have hcnt := Lib.count_hit hO g1
    rw [List.length_drop] at hroom
    rw [List.drop_drop] at hcnt
    have ih := parts_join s o hol c (b + i + o.size) (by omega) (by
      rw [show b + i + o.size = b + (i + o.data.toList.length) by omega]
      omega)
    rw [parts, g1, Int.toNat_natCast, jb_cons o _ (parts_ne s o c _), ih, ext_l, show b + i - b = i by omega]
    have := take_occ g3
    rw [List.drop_drop, h3] at this
    rw [show b + i + o.size = b + (i + o.size) by omega]
    exact this.symm
end Go.Proofs.YtdeannaaafffbaaDoor.Pl
