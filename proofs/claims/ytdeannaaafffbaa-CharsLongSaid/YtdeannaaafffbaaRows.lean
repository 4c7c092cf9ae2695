/-
  No cell of these rows narrows 'for every input' (looked for: loops, veiled, ifaces, maps, wideKeys, modest, calm, conditions, laid).
  DERIVED. THE GIVEN ROWS OF THIS SEAT. 3 by the template 'for every input the law returns true; each argument reads behind the call as it read before'; 0 by the template 'total and deterministic' (their statements: YtdeannaaafffbaaTotals.lean).
  GIVEN WITH THE SEED: the statements are not yours to turn. If you find one false, say at which input.
  Laid BY PROGRAM, IN A SANDBOX (cutbox-rows.mjs): the forced cells as the released guide's own fill.sh prints them over the translation 4e0abea2fcbf32ab… (all of the seat's roots in one cut). By AI agents, Wed Nov 11 2026. No macro, syntax, notation, axiom, sorry.
-/
import Derived.Test.YtdeannaaafffbaaChecked
import GoSem.Claim
import GoSem.ClaimJoined
import GoSem.ClaimMapViews
import Derived.JoinedTies
import Derived.KernelRfl
namespace Go.Proofs.Ytdeannaaafffbaa
/- THE CELL 'sum', in the pinned program and in every row, IS THE sha256 OF THE DUMP (.gsa) THAT YtdeannaaafffbaaProg.lean LOADS. Nothing in Lean hashes anything: it is a label: what it is worth is what the hold of that sum in a sandbox is worth. -/
noncomputable def Try.pinned : Pinned := { name := "ytdeannaaafffbaa", sum := "4e0abea2fcbf32ab38fece085f7376ac87f391359de6eaedbe0d5027211a7b70", checked := Try.checked }
namespace Rows
def none {H : Type} : Left H := { results := [], args := [] }

/-- 'abacuslaw20.CharsIndexes': WHATEVER THE INPUT: true; the input reads as it did. -/
def charsIndexesSpec : ChangeSpec := { name := "charsIndexes", fn := fun _ => fun
  | [d] => { results := [.lit (.bool true)], args := [d] }
  | _ => none }
def charsIndexesRow : OpenClaim := { program := "ytdeannaaafffbaa", sum := "4e0abea2fcbf32ab38fece085f7376ac87f391359de6eaedbe0d5027211a7b70", func := "abacus/abacuslaw20.CharsIndexes", spec := "charsIndexes", inPlace := ["internal/bytealg.IndexByteString", "internal/bytealg.IndexString"], named := ["internal/bytealg.MaxLen"], apart := false }
def CharsIndexesSaid : Prop := charsIndexesRow.holds Try.pinned (OpenSpec.ofChange charsIndexesSpec)

/-- ITS FALSE NEIGHBOUR: 'it returns false'. Refute it at one input. -/
def charsIndexesWrong : ChangeSpec := { name := "charsIndexes", fn := fun _ => fun
  | [d] => { results := [.lit (.bool false)], args := [d] }
  | _ => none }
def CharsIndexesWrongFalsely : Prop := charsIndexesRow.holds Try.pinned (OpenSpec.ofChange charsIndexesWrong)

/-- 'abacuslaw20.CharsReplaces': WHATEVER THE INPUT: true; the input reads as it did. -/
def charsReplacesSpec : ChangeSpec := { name := "charsReplaces", fn := fun _ => fun
  | [d] => { results := [.lit (.bool true)], args := [d] }
  | _ => none }
def charsReplacesRow : OpenClaim := { program := "ytdeannaaafffbaa", sum := "4e0abea2fcbf32ab38fece085f7376ac87f391359de6eaedbe0d5027211a7b70", func := "abacus/abacuslaw20.CharsReplaces", spec := "charsReplaces", inPlace := ["internal/bytealg.CountString", "internal/bytealg.IndexByteString", "internal/bytealg.IndexString", "internal/abi.NoEscape"], named := ["internal/bytealg.MaxLen"], apart := false }
def CharsReplacesSaid : Prop := charsReplacesRow.holds Try.pinned (OpenSpec.ofChange charsReplacesSpec)

/-- ITS FALSE NEIGHBOUR: 'it returns false'. Refute it at one input. -/
def charsReplacesWrong : ChangeSpec := { name := "charsReplaces", fn := fun _ => fun
  | [d] => { results := [.lit (.bool false)], args := [d] }
  | _ => none }
def CharsReplacesWrongFalsely : Prop := charsReplacesRow.holds Try.pinned (OpenSpec.ofChange charsReplacesWrong)

/-- 'abacuslaw20.CharsLong': WHATEVER THE INPUT: true; the input reads as it did. -/
def charsLongSpec : ChangeSpec := { name := "charsLong", fn := fun _ => fun
  | [] => { results := [.lit (.bool true)], args := [] }
  | _ => none }
def charsLongRow : OpenClaim := { program := "ytdeannaaafffbaa", sum := "4e0abea2fcbf32ab38fece085f7376ac87f391359de6eaedbe0d5027211a7b70", func := "abacus/abacuslaw20.CharsLong", spec := "charsLong", inPlace := ["internal/abi.NoEscape", "internal/bytealg.MakeNoZero", "internal/bytealg.CountString", "internal/bytealg.IndexByteString", "internal/bytealg.IndexString"], named := ["internal/bytealg.MaxLen"], apart := false }
def CharsLongSaid : Prop := charsLongRow.holds Try.pinned (OpenSpec.ofChange charsLongSpec)

/-- ITS FALSE NEIGHBOUR: 'it returns false'. Refute it at one input. -/
def charsLongWrong : ChangeSpec := { name := "charsLong", fn := fun _ => fun
  | [] => { results := [.lit (.bool false)], args := [] }
  | _ => none }
def CharsLongWrongFalsely : Prop := charsLongRow.holds Try.pinned (OpenSpec.ofChange charsLongWrong)

/- THE SECOND FORM. 'bulk': how many values and letters a reading holds, each counted each time it is reached (what is shared counts as often as it is met; a slice's spare places count too). A statement '..UptoSaid' is the law's where the arguments, and the package variables that the reading takes, are together of bulk at most 1048576: NARROWER than '..Said'. Prove '..Said' where nothing that the law and all that it calls make is longer than what came in: it says more and counts as full. Else prove '..UptoSaid'. A law counts once. -/
mutual
def uptoBulk {H : Type} : DataW H → Nat
  | .lit (.string bytes) => bytes.length + 1
  | .lit _ => 1
  | .nil => 1
  | .ptr d => uptoBulk d + 1
  | .slice elems spare => uptoBulkAll elems + uptoBulkAll spare + 1
  | .agg parts => uptoBulkAll parts + 1
  | .iface _ d => uptoBulk d + 1
  | .map entries => uptoBulkEntries entries + 1
  | .held _ => 1
def uptoBulkAll {H : Type} : List (DataW H) → Nat
  | [] => 0
  | d :: r => uptoBulk d + uptoBulkAll r
def uptoBulkEntries {H : Type} : List (Lit × DataW H) → Nat
  | [] => 0
  | x :: r => uptoBulkEntry x + uptoBulkEntries r
def uptoBulkEntry {H : Type} : Lit × DataW H → Nat
  | (.string bytes, d) => bytes.length + uptoBulk d + 1
  | (_, d) => uptoBulk d + 1
 end
def uptoSmall : (H : Type) → List (DataW H) → Bool := fun _ ds => decide (uptoBulkAll ds ≤ 1048576)
def OpenSpec.upto (s : _root_.Go.ChangeSpec) : _root_.Go.OpenSpec := { _root_.Go.OpenSpec.ofChange s with cond := some uptoSmall }

/-- 'abacuslaw20.CharsIndexes', WHERE WHAT IT READS IS OF BULK AT MOST 1048576: true; the input reads as it did. -/
def charsIndexesUptoRow : OpenClaim := { program := "ytdeannaaafffbaa", sum := "4e0abea2fcbf32ab38fece085f7376ac87f391359de6eaedbe0d5027211a7b70", func := "abacus/abacuslaw20.CharsIndexes", spec := "charsIndexes", inPlace := ["internal/bytealg.IndexByteString", "internal/bytealg.IndexString"], named := ["internal/bytealg.MaxLen"], apart := false, narrowed := true }
def CharsIndexesUptoSaid : Prop := charsIndexesUptoRow.holds Try.pinned (OpenSpec.upto charsIndexesSpec)

/-- 'abacuslaw20.CharsReplaces', WHERE WHAT IT READS IS OF BULK AT MOST 1048576: true; the input reads as it did. -/
def charsReplacesUptoRow : OpenClaim := { program := "ytdeannaaafffbaa", sum := "4e0abea2fcbf32ab38fece085f7376ac87f391359de6eaedbe0d5027211a7b70", func := "abacus/abacuslaw20.CharsReplaces", spec := "charsReplaces", inPlace := ["internal/bytealg.CountString", "internal/bytealg.IndexByteString", "internal/bytealg.IndexString", "internal/abi.NoEscape"], named := ["internal/bytealg.MaxLen"], apart := false, narrowed := true }
def CharsReplacesUptoSaid : Prop := charsReplacesUptoRow.holds Try.pinned (OpenSpec.upto charsReplacesSpec)

/-- 'abacuslaw20.CharsLong', WHERE WHAT IT READS IS OF BULK AT MOST 1048576: true; the input reads as it did. -/
def charsLongUptoRow : OpenClaim := { program := "ytdeannaaafffbaa", sum := "4e0abea2fcbf32ab38fece085f7376ac87f391359de6eaedbe0d5027211a7b70", func := "abacus/abacuslaw20.CharsLong", spec := "charsLong", inPlace := ["internal/abi.NoEscape", "internal/bytealg.MakeNoZero", "internal/bytealg.CountString", "internal/bytealg.IndexByteString", "internal/bytealg.IndexString"], named := ["internal/bytealg.MaxLen"], apart := false, narrowed := true }
def CharsLongUptoSaid : Prop := charsLongUptoRow.holds Try.pinned (OpenSpec.upto charsLongSpec)

end Rows
end Go.Proofs.Ytdeannaaafffbaa
