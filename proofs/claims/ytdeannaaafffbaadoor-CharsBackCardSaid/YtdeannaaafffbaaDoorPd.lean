/-
  Plain laws of the chars statements, second seat: what is cut is joined again; CharsBack answers true.
-/
import Derived.Test.YtdeannaaafffbaaDoorPc
import Derived.Test.YtdeannaaafffbaaDoorECdx20
set_option linter.unusedVariables false
set_option linter.unusedSimpArgs false
set_option linter.unusedSectionVars false
namespace Go.Proofs.YtdeannaaafffbaaDoor.Pl
open Go.RowKit Go.Proofs.YtdeannaaafffbaaDoorW.PrintWords Go.Proofs.YtdeannaaafffbaaDoor.X Go.Proofs.YtdeannaaafffbaaDoor.ECd

theorem jb_false (sep : ByteArray) : ∀ {r : List ByteArray}, r ≠ [] → jb sep false r = sep.data.toList ++ jb sep true r
  | [], h => absurd rfl h
  | x :: r, _ => by
    rw [jb, jb]
    simp
theorem jb_cons (sep x : ByteArray) {r : List ByteArray} (h : r ≠ []) : jb sep true (x :: r) = x.data.toList ++ (sep.data.toList ++ jb sep true r) := by
  rw [jb, jb_false sep h]
  simp
theorem parts_ne (s o : ByteArray) (c b : Nat) : parts s o c b ≠ [] := by cases c <;> simp [parts]
theorem take_occ {l O : List UInt8} {i : Nat} (h : Lib.occAt l O i = true) : l = l.take i ++ (O ++ l.drop (i + O.length)) := by
  unfold Lib.occAt at h
  rw [List.isPrefixOf_iff_prefix] at h
  obtain ⟨t, ht⟩ := h
  have h2 : l.drop (i + O.length) = t := by
    rw [← List.drop_drop, ← ht]
    simp
  rw [h2, ht, List.take_append_drop]
theorem parts_join (s o : ByteArray) (hol : 0 < o.size) : ∀ (c b : Nat), b ≤ s.size → c = Lib.count (s.data.toList.drop b) o.data.toList → jb o true (parts s o c b) = s.data.toList.drop b
  | 0, b, hb, hc => by
    rw [parts, jb, jb, ext_l, List.take_of_length_le (by rw [List.length_drop, size_l]; exact Nat.le_refl _)]
    simp
  | c + 1, b, hb, hc => by
    have h2 := size_l s
    have h3 := size_l o
    have hO : o.data.toList ≠ [] := fun e => by
      rw [e] at h3
      have : ([] : List UInt8).length = 0 := rfl
      omega
    obtain ⟨i, g1, g2, g3, g4⟩ := hit_of_count o.data.toList (l := s.data.toList.drop b) (by omega)
    have hroom := (Lib.occAt_room g3).resolve_right hO
    have hcnt := Lib.count_hit hO g1
    rw [List.length_drop] at hroom
    rw [List.drop_drop] at hcnt
    have ih := parts_join s o hol c (b + i + o.size) (by omega) (by
      rw [show b + i + o.size = b + (i + o.data.toList.length) by omega]
      omega)
    rw [parts, g1, Int.toNat_natCast, jb_cons o _ (parts_ne s o c _), ih, ext_l, show b + i - b = i by omega]
    have := take_occ g3
    rw [List.drop_drop, h3] at this
    rw [show b + i + o.size = b + (i + o.size) by omega]
    exact this.symm
/-- The texts, one behind the other. -/
def cat (l : List ByteArray) : List UInt8 := (l.map (·.data.toList)).flatten
theorem jb_cat : ∀ (l : List ByteArray) (f : Bool), jb ⟨#[]⟩ f l = cat l
  | [], _ => rfl
  | x :: l, f => by
    rw [jb, jb_cat l]
    cases f <;> simp [cat]
theorem sing_cat (s : ByteArray) : ∀ n, n ≤ s.size → cat (sing s n) = s.data.toList.take n
  | 0, _ => rfl
  | n + 1, h => by
    have h2 := size_l s
    have ih := sing_cat s n (by omega)
    have e : sing s (n + 1) = sing s n ++ [s.extract n (n + 1)] := by unfold sing; rw [List.range_succ, List.map_append]; rfl
    unfold cat at ih ⊢
    rw [e, List.map_append, List.flatten_append, ih, List.map_cons, List.map_nil, List.flatten_cons, List.flatten_nil, List.append_nil, ext_l, show n + 1 - n = 1 by omega]
    rw [List.take_add]
theorem split_join (s o : ByteArray) (ho : o.data.toList ≠ [32]) : jb o true (splitV s o) = s.data.toList := by
  have h3 := size_l o
  unfold splitV
  by_cases c1 : s.data.toList = []
  · rw [if_pos c1, c1]
    rfl
  · rw [if_neg c1, if_neg ho]
    by_cases c3 : o.data.toList = []
    · rw [if_pos c3]
      have : o = ⟨#[]⟩ := ba_ext c3
      rw [this, jb_cat, sing_cat s s.size (Nat.le_refl _), List.take_of_length_le (by rw [size_l]; exact Nat.le_refl _)]
    · rw [if_neg c3]
      have := parts_join s o (by rw [← h3]; exact List.length_pos_iff.2 c3) _ 0 (by omega) rfl
      rw [List.drop_zero] at this
      exact this
/-- No part holds what it was cut at. -/
theorem parts_no (s o : ByteArray) (hol : 0 < o.size) : ∀ (c b : Nat), b ≤ s.size → c = Lib.count (s.data.toList.drop b) o.data.toList → ∀ x ∈ parts s o c b, Lib.index x.data.toList o.data.toList = -1
  | 0, b, hb, hc => by
    intro x hx
    rw [parts, List.mem_singleton] at hx
    rw [hx, ext_l, List.take_of_length_le (by rw [List.length_drop, size_l]; exact Nat.le_refl _)]
    have h3 := size_l o
    have hO : o.data.toList ≠ [] := fun e => by
      rw [e] at h3
      have : ([] : List UInt8).length = 0 := rfl
      omega
    rcases Lib.index_spec (s.data.toList.drop b) o.data.toList with ⟨g1, _⟩ | ⟨m, g1, g2, g3, g4⟩
    · exact g1
    · have := Lib.count_hit hO g1
      omega
  | c + 1, b, hb, hc => by
    have h2 := size_l s
    have h3 := size_l o
    have hO : o.data.toList ≠ [] := fun e => by
      rw [e] at h3
      have : ([] : List UInt8).length = 0 := rfl
      omega
    obtain ⟨i, g1, g2, g3, g4⟩ := hit_of_count o.data.toList (l := s.data.toList.drop b) (by omega)
    have hroom := (Lib.occAt_room g3).resolve_right hO
    have hcnt := Lib.count_hit hO g1
    rw [List.length_drop] at hroom
    rw [List.drop_drop] at hcnt
    intro x hx
    rw [parts, g1, Int.toNat_natCast, List.mem_cons] at hx
    rcases hx with hx | hx
    · rw [hx, ext_l, show b + i - b = i by omega]
      refine Lib.index_none fun j hj => ?_
      cases hh : Lib.occAt ((s.data.toList.drop b).take i) o.data.toList j
      · rfl
      · have hr2 := (Lib.occAt_room hh).resolve_right hO
        rw [List.length_take] at hr2
        have := g4 j (by omega)
        unfold Lib.occAt at hh this
        rw [List.isPrefixOf_iff_prefix, List.drop_take] at hh
        rw [Bool.eq_false_iff, ne_eq, List.isPrefixOf_iff_prefix] at this
        exact absurd (hh.trans (List.take_prefix _ _)) this
    · exact parts_no s o hol c (b + i + o.size) (by omega) (by
        rw [show b + i + o.size = b + (i + o.data.toList.length) by omega]
        omega) x hx
theorem split_no (s o : ByteArray) (h1 : o.data.toList ≠ [32]) (h2 : o.data.toList ≠ []) : ∀ x ∈ splitV s o, Lib.index x.data.toList o.data.toList = -1 := by
  have h3 := size_l o
  intro x hx
  unfold splitV at hx
  by_cases c1 : s.data.toList = []
  · rw [if_pos c1] at hx
    cases hx
  · rw [if_neg c1, if_neg h1, if_neg h2] at hx
    exact parts_no s o (by rw [← h3]; exact List.length_pos_iff.2 h2) _ 0 (by omega) rfl x hx
theorem split_one (s o : ByteArray) (h2 : o.data.toList = []) : ∀ x ∈ splitV s o, x.size = 1 := by
  intro x hx
  unfold splitV at hx
  by_cases c1 : s.data.toList = []
  · rw [if_pos c1] at hx
    cases hx
  · rw [if_neg c1, if_neg (by rw [h2]; simp), if_pos h2] at hx
    unfold sing at hx
    obtain ⟨j, hj, rfl⟩ := List.mem_map.1 hx
    have := List.mem_range.1 hj
    rw [← size_l, ext_l, List.length_take, List.length_drop, size_l]
    omega
theorem split_size (s o : ByteArray) (h1 : o.data.toList ≠ [32]) : ∀ x ∈ splitV s o, x.size ≤ s.size := by
  intro x hx
  have := split_join s o h1
  have hl : ∀ (l : List ByteArray) (f : Bool), x ∈ l → x.size ≤ (jb o f l).length := by
    intro l
    induction l with
    | nil => intro f h; cases h
    | cons y l ih =>
      intro f h
      rw [jb, List.length_append, List.length_append, size_l]
      rcases List.mem_cons.1 h with rfl | h
      · omega
      · have := ih false h
        omega
  have := hl _ true hx
  rw [split_join s o h1, size_l] at this
  exact this
end Go.Proofs.YtdeannaaafffbaaDoor.Pl
