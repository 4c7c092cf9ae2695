/-
  Plain laws of the chars statements, second seat: the runs of bytes that are no blanks; CharsBack answers true.
-/
import Derived.Test.YtdeannaaafffbaaDoorSwPd
set_option linter.unusedVariables false
set_option linter.unusedSimpArgs false
set_option linter.unusedSectionVars false
namespace Go.Proofs.YtdeannaaafffbaaDoor.Pl
open Go.RowKit Go.Proofs.YtdeannaaafffbaaDoorW.PrintWords Go.Proofs.YtdeannaaafffbaaDoor.X Go.Proofs.YtdeannaaafffbaaDoor.ECd
section
variable (s : ByteArray)
end
section
variable (s : ByteArray) (hs : s.size ≤ 1048576)
include hs
end
/-- Split, whatever the separator's length. -/
theorem split_any (s o : ByteArray) (hs : s.size ≤ 1048576) : Ans (fun k => chars_Split.f k s o) (splitV s o) := by
  have h2 := size_l s
  have h3 := size_l o
  unfold chars_Split.f splitV
  simp only [Go.ByteArray.toList_eq]
  by_cases c1 : s.data.toList = []
  · simp only [if_pos c1]
    exact Ans.ret _
  · simp only [if_neg c1]
    by_cases c2 : o.data.toList = [32]
    · simp only [if_pos c2]
      refine Ans.bind (words_t s hs) ?_
      exact Ans.ret _
    · simp only [if_neg c2]
      by_cases c3 : o.data.toList = []
      · simp only [if_pos c3, if_pos (show (0 : Int) ≤ (s.size : Int) by omega), Int.toNat_natCast, if_pos (show s.size ≤ 17592186044416 by omega), Option.bind_some, List.length_replicate]
        exact bytes1 s hs 0 (by omega) (by omega) _ (by simp) (fun j hj => by omega)
      · have hol : 0 < o.size := by rw [← h3]; exact List.length_pos_iff.2 c3
        have hx : xSplit.f s o = some (parts s o (Lib.count s.data.toList o.data.toList) 0) := by
          unfold xSplit.f
          rw [if_pos ⟨by omega, by omega⟩]
          congr 1
          exact splitB_parts s o hol _ 0 s (by omega) (by simp) (by simp)
        simp only [if_neg c3, hx, Option.bind_some]
        exact Ans.ret _
section
variable (s o : ByteArray) (hs : s.size ≤ 1048576) (ho : o.size ≤ 140737488351232) (h1 : o.data.toList ≠ [32])
include hs ho h1
end
end Go.Proofs.YtdeannaaafffbaaDoor.Pl
