/-
  Plain laws of the chars statements, second seat: to replace is to cut and to join by another text.
-/
import Derived.Test.YtdeannaaafffbaaDoorSwPf
set_option linter.unusedVariables false
set_option linter.unusedSimpArgs false
set_option linter.unusedSectionVars false
namespace Go.Proofs.YtdeannaaafffbaaDoor.Pl
open Go.RowKit Go.Proofs.YtdeannaaafffbaaDoorW.PrintWords Go.Proofs.YtdeannaaafffbaaDoor.X Go.Proofs.YtdeannaaafffbaaDoor.ECd
theorem parts_get (s o : ByteArray) {c k b : Nat} (h : k ≤ c) : k < (parts s o c b).length := by rw [parts_len]; omega
/-- The first k replaced: the first k cuts joined by the new text, the rest by the old. -/
theorem asm_parts (s o w : ByteArray) (hol : 0 < o.size) : ∀ (k c b : Nat) (h : k ≤ c), b ≤ s.size → c = Lib.count (s.data.toList.drop b) o.data.toList →
    asm s.data.toList o.data.toList w.data.toList b (plc s.data.toList o.data.toList k b) = jb w true ((parts s o c b).take (k + 1)) ++ (jb o true ((parts s o c b).drop k)).drop ((parts s o c b)[k]'(parts_get s o h)).size
  | 0, c, b, h, hb, hc => by
    have hj := parts_join s o hol c b hb hc
    rw [plc, asm, List.drop_zero, ← hj]
    have hl := parts_get s o (b := b) (Nat.zero_le c)
    obtain ⟨x, r, hp⟩ : ∃ x r, parts s o c b = x :: r := by
      cases hh : parts s o c b with
      | nil => exact absurd hh (parts_ne s o c b)
      | cons x r => exact ⟨x, r, rfl⟩
    simp only [hp, List.getElem_cons_zero, Nat.zero_add, List.take_succ_cons, List.take_zero]
    rw [jb, jb, jb]
    simp only [if_true, List.nil_append, List.append_nil]
    rw [List.drop_append_of_le_length (by rw [size_l]; exact Nat.le_refl _), List.drop_eq_nil_of_le (by rw [size_l]; exact Nat.le_refl _), List.nil_append]
  | k + 1, 0, b, h, hb, hc => by omega
  | k + 1, c + 1, b, h, hb, hc => by
    have h2 := size_l s
    have h3 := size_l o
    have hO : o.data.toList ≠ [] := fun e => by
      rw [e] at h3
      have : ([] : List UInt8).length = 0 := rfl
      omega
    obtain ⟨i, g1, g2, g3, g4⟩ := hit_of_count o.data.toList (l := s.data.toList.drop b) (by omega)
    have hroom := (Lib.occAt_room g3).resolve_right hO
    have hcnt := Lib.count_hit hO g1
    rw [List.length_drop] at hroom
    rw [List.drop_drop] at hcnt
    have ih := asm_parts s o w hol k c (b + i + o.size) (by omega) (by omega) (by
      rw [show b + i + o.size = b + (i + o.data.toList.length) by omega]
      omega)
    have hp : parts s o (c + 1) b = s.extract b (b + i) :: parts s o c (b + i + o.size) := by rw [parts, g1, Int.toNat_natCast]
    simp only [hp, List.getElem_cons_succ, List.drop_succ_cons, List.take_succ_cons]
    rw [plc, g1, Int.toNat_natCast, asm, h3, ih, show b + i - b = i by omega]
    have hne : (parts s o c (b + i + o.size)).take (k + 1) ≠ [] := by
      intro e
      have := congrArg List.length e
      rw [List.length_take, parts_len] at this
      have h0 : ([] : List ByteArray).length = 0 := rfl
      omega
    rw [jb_cons w _ hne, ext_l, show b + i - b = i by omega]
    simp [List.append_assoc]
end Go.Proofs.YtdeannaaafffbaaDoor.Pl
