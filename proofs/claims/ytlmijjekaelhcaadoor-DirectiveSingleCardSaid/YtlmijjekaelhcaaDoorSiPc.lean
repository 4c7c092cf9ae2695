/-
  Plain laws of the directive statements: where the first fault of a format stands, what its beginnings answer, and DirectiveFault. Conditions: the texts' bytes are at most 2^39.
-/
import Derived.Test.YtlmijjekaelhcaaDoorSiPb
import Derived.Test.YtlmijjekaelhcaaDoorSiEDix27
set_option linter.unusedVariables false
set_option linter.unusedSimpArgs false
namespace Go.Proofs.YtlmijjekaelhcaaDoor.Pl
open Go.RowKit Go.Proofs.YtlmijjekaelhcaaDoorW.PrintWords Go.Proofs.YtlmijjekaelhcaaDoor.EDi Go.Proofs.YtlmijjekaelhcaaDoor.X
theorem awake_true' : abacuslaw13_awake.f 40 = some true := by kernel_rfl
theorem awake_ans' : Ans (fun k => abacuslaw13_awake.f k) true := by
  refine ⟨40, fun k hk => ?_⟩
  obtain ⟨d, rfl⟩ := Nat.exists_eq_add_of_le hk
  induction d with
  | zero => exact awake_true'
  | succ d ih => exact abacuslaw13_awake.mono (40 + d) _ (ih (by omega))
def runL (s : St) (p : Int) : List UInt8 → St
  | [] => s
  | c :: l => runL (step p s c) (p + 1) l
theorem parseL_append : ∀ (u v : List UInt8) (s : St) (p : Int), parseL s p (u ++ v) = parseL (runL s p u) (p + u.length) v
  | [], v, s, p => by simp [runL]
  | c :: u, v, s, p => by
    show parseL (step p s c) (p + 1) (u ++ v) = parseL (runL (step p s c) (p + 1) u) _ v
    rw [parseL_append u v, List.length_cons]
    congr 1
    omega
theorem runL_append : ∀ (u v : List UInt8) (s : St) (p : Int), runL s p (u ++ v) = runL (runL s p u) (p + u.length) v
  | [], v, s, p => by simp [runL]
  | c :: u, v, s, p => by
    show runL (step p s c) (p + 1) (u ++ v) = runL (runL (step p s c) (p + 1) u) _ v
    rw [runL_append u v, List.length_cons]
    congr 1
    omega
theorem parseL_fin (l : List UInt8) (s : St) (p : Int) : parseL s p l = fin (p + l.length) (runL s p l) := by
  have := parseL_append l [] s p
  rw [List.append_nil] at this
  exact this
def Open (s : St) : Prop := ∀ p, fin p s = ([], p, 131)
theorem tl_len (T : ByteArray) : T.data.toList.length = T.size := by simp
end Go.Proofs.YtlmijjekaelhcaaDoor.Pl
