/-
  The contract of strings.Join at a list of texts that reads, in the shape of the printed ones. Conditions: those in the plain function (the joined text within 2^47 bytes).
-/
import Derived.Test.YtdeannaaafffbaaDoorKeX
import Derived.Lib.SplitLaws
import Derived.Lib.CountLaws
set_option linter.unusedSimpArgs false
set_option linter.unusedVariables false
namespace Go.Proofs.YtdeannaaafffbaaDoor.X
open Go.RowKit Go.Proofs.YtdeannaaafffbaaDoorW.PrintWords
def xJoin.f (l : List ByteArray) (a1 : ByteArray) : Option ByteArray :=
  if l.length ≤ 140737488355328 ∧ (Lib.join (l.map (·.data.toList)) a1.data.toList).length ≤ 140737488355328 then some ⟨(Lib.join (l.map (·.data.toList)) a1.data.toList).toArray⟩ else none
theorem cell_spot {w : World} {a : Addr} {v : Value} (h : w.cell? a = some v) : a.spot = none ∧ a.block < w.heap.size := by
  unfold World.cell? at h
  split at h
  · rename_i c _ _ hb
    refine ⟨?_, (Array.getElem?_eq_some_iff.1 hb).1⟩
    cases hs : a.spot
    · rfl
    · rw [hs] at h
      simp at h
  · simp at h
theorem xJoin.calls (A : Option Addr) (c : Nat) (l : List ByteArray) (a1 : ByteArray) (r : ByteArray) (w : World) (hr : Kd.C Kd.string w A l.length l) (hc : l.length ≤ c) (hG : GW w) (h : xJoin.f l a1 = some r) :
    Calls Tryd.prog 30 #[.slice A l.length c, .string a1] w fun e w' => e = .returned (.string r) ∧ Below w.heap.size w w' := by
  unfold xJoin.f at h
  split at h
  · rename_i hs
    obtain rfl := Option.some.inj h
    by_cases hl : l = []
    · subst hl
      exact (Tryd.strings_Join_none A c a1 w).mono fun e w' ⟨h1, h2⟩ => ⟨h1, by subst h2; exact Below.refl _ _⟩
    · have hpos : 0 < l.length := List.length_pos_iff.2 hl
      obtain ⟨ad, rfl, hcell⟩ := hr.2.2 hpos
      have rd : ∀ (j : Nat) x, l[j]? = some x → w.cell? (ad.add j) = some (.string x) := by
        intro j x hj
        obtain ⟨cs, hlen, hK, hu⟩ := hcell j x hj
        have hK' : cs = [Value.string x] := hK
        have := hu 0 (.string x) (by rw [hK']; rfl)
        have hz : j * Kd.sz Kd.string + 0 = j := by show j * 1 + 0 = j; omega
        rwa [hz] at this
      obtain ⟨b, o, sp⟩ := ad
      obtain ⟨hsp, hb⟩ := cell_spot (rd 0 _ (List.getElem?_eq_getElem hpos))
      have hsp' : sp = none := hsp
      subst hsp'
      have hb' : b < w.heap.size := hb
      refine (Tryd.strings_Join b o c l a1 w (fun j x hj => ?_) hb' hs.1 hc hs.2)
      have := rd j x hj
      have hadd : (⟨b, o, none⟩ : Addr).add j = ⟨b, o + j, none⟩ := by unfold Addr.add; split <;> simp_all
      rwa [hadd] at this
  · cases h
/-- strings.Split at a separator that is not empty. -/
def xSplit.f (a0 a1 : ByteArray) : Option (List ByteArray) := if a0.size < 4294967281 ∧ 1 ≤ a1.size then some (Lib.splitB a1 0 (Lib.countB a0 a1) a0) else none
theorem xSplit.calls (a0 a1 : ByteArray) (r : List ByteArray) (w : World) (hG : GW w) (h : xSplit.f a0 a1 = some r) :
    Calls Tryd.prog 25 #[.string a0, .string a1] w fun e w' => ∃ v0_ : Value, e = .returned (v0_) ∧ Kd.R Kd.string 9 w' w.heap.size (fun _ => True) v0_ r ∧ Below w.heap.size w w' := by
  unfold xSplit.f at h
  split at h
  · rename_i hs
    obtain rfl := Option.some.inj h
    obtain ⟨m, hm⟩ := hG
    have hlen := Lib.splitB_all a1 hs.2 0 _ a0 rfl
    have hcl := Lib.count_le a0.data.toList a1.data.toList
    have hsz : a0.data.toList.length = a0.size := by simp
    have hc : Lib.countB a0 a1 = Lib.count a0.data.toList a1.data.toList := rfl
    refine (Tryd.strings_Split a0 a1 m w hs.1 hm hs.2).mono fun e w' ⟨h1, h2⟩ => ⟨_, h1, ?_, by subst h2; exact below_alloc (Below.refl _ _) _⟩
    subst h2
    have ho := World.ownsRow_lit (base := w.heap.size) (e := 9) (size := 1) w ((Lib.splitB a1 0 (Lib.countB a0 a1) a0).map Value.string).toArray (Lib.splitB a1 0 (Lib.countB a0 a1) a0).length (Nat.le_refl _) (by rw [hlen]; unfold maxLen; omega) (by simp)
    rw [hlen] at ho
    refine Kd.R_of_own ?_ (fun _ _ => trivial)
    rw [hlen]
    exact ho
  · cases h
end Go.Proofs.YtdeannaaafffbaaDoor.X
