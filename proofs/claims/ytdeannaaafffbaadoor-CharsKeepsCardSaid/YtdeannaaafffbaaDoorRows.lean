/-
  NARROWER THAN 'FOR EVERY INPUT', by the rows' own cells (each row's printed sentence says how): CharsSplits: laid · CharsKeeps: laid · CharsBack: laid · CharsSwaps: laid · CharsSubstrs: laid · CharsCuts: laid.
  DERIVED. THE GIVEN ROWS OF THIS SEAT. 6 by the template 'for every input the law returns true; each argument reads behind the call as it read before'; 0 by the template 'total and deterministic' (their statements: YtdeannaaafffbaaDoorTotals.lean).
  GIVEN WITH THE SEED: the statements are not yours to turn. If you find one false, say at which input.
  Laid BY PROGRAM, IN A SANDBOX (cutbox-rows.mjs): the forced cells as the released guide's own fill.sh prints them over the translation 751bbd2a41ffd17e… (all of the seat's roots in one cut). By AI agents, Wed Nov 11 2026. No macro, syntax, notation, axiom, sorry.
-/
import Derived.Test.YtdeannaaafffbaaDoorChecked
import GoSem.PinnedTables
import GoSem.Claim
import GoSem.ClaimJoined
import GoSem.ClaimMapViews
import Derived.JoinedTies
import Derived.KernelRfl
namespace Go.Proofs.YtdeannaaafffbaaDoor
/- THE CELL 'sum', in the pinned program and in every row, IS THE sha256 OF THE DUMP (.gsa) THAT YtdeannaaafffbaaDoorProg.lean LOADS. Nothing in Lean hashes anything: it is a label: what it is worth is what the hold of that sum in a sandbox is worth. -/
noncomputable def Tryd.pinned : Pinned := { name := "ytdeannaaafffbaadoor", sum := "751bbd2a41ffd17eb48cca072731d34c4b9fb25f2c994a086da1735d3c4cfdaa", checked := Tryd.checked }
namespace Rows
def none {H : Type} : Left H := { results := [], args := [] }

/- WHAT THE LISTED PACKAGE-LEVEL VARIABLES READ AS WHEN THE CALL BEGINS. Each datum BY PROGRAM (the guide's laid-datum.mjs) off the statement by which the dump's own 'gosem.cut.vars' lays the variable. In a bare row this is a premise. The card (YtdeannaaafffbaaDoorCards.lean) ties it to the program's text. -/
def laid_unicode_utf8_acceptRanges {H : Type} : DataW H := .agg [.agg [.lit (.int .u8 128), .lit (.int .u8 191)], .agg [.lit (.int .u8 160), .lit (.int .u8 191)], .agg [.lit (.int .u8 128), .lit (.int .u8 159)], .agg [.lit (.int .u8 144), .lit (.int .u8 191)], .agg [.lit (.int .u8 128), .lit (.int .u8 143)], .agg [.lit (.int .u8 0), .lit (.int .u8 0)], .agg [.lit (.int .u8 0), .lit (.int .u8 0)], .agg [.lit (.int .u8 0), .lit (.int .u8 0)], .agg [.lit (.int .u8 0), .lit (.int .u8 0)], .agg [.lit (.int .u8 0), .lit (.int .u8 0)], .agg [.lit (.int .u8 0), .lit (.int .u8 0)], .agg [.lit (.int .u8 0), .lit (.int .u8 0)], .agg [.lit (.int .u8 0), .lit (.int .u8 0)], .agg [.lit (.int .u8 0), .lit (.int .u8 0)], .agg [.lit (.int .u8 0), .lit (.int .u8 0)], .agg [.lit (.int .u8 0), .lit (.int .u8 0)]]
/-- One of Go's own tables, pinned by name: the form's constant. -/
def laid_unicode_utf8_first : DataW Unit := Go.Pinned.utf8First
def laid_math_bits_deBruijn64tab {H : Type} : DataW H := .agg [.lit (.int .u8 0), .lit (.int .u8 1), .lit (.int .u8 56), .lit (.int .u8 2), .lit (.int .u8 57), .lit (.int .u8 49), .lit (.int .u8 28), .lit (.int .u8 3), .lit (.int .u8 61), .lit (.int .u8 58), .lit (.int .u8 42), .lit (.int .u8 50), .lit (.int .u8 38), .lit (.int .u8 29), .lit (.int .u8 17), .lit (.int .u8 4), .lit (.int .u8 62), .lit (.int .u8 47), .lit (.int .u8 59), .lit (.int .u8 36), .lit (.int .u8 45), .lit (.int .u8 43), .lit (.int .u8 51), .lit (.int .u8 22), .lit (.int .u8 53), .lit (.int .u8 39), .lit (.int .u8 33), .lit (.int .u8 30), .lit (.int .u8 24), .lit (.int .u8 18), .lit (.int .u8 12), .lit (.int .u8 5), .lit (.int .u8 63), .lit (.int .u8 55), .lit (.int .u8 48), .lit (.int .u8 27), .lit (.int .u8 60), .lit (.int .u8 41), .lit (.int .u8 37), .lit (.int .u8 16), .lit (.int .u8 46), .lit (.int .u8 35), .lit (.int .u8 44), .lit (.int .u8 21), .lit (.int .u8 52), .lit (.int .u8 32), .lit (.int .u8 23), .lit (.int .u8 11), .lit (.int .u8 54), .lit (.int .u8 26), .lit (.int .u8 40), .lit (.int .u8 15), .lit (.int .u8 34), .lit (.int .u8 20), .lit (.int .u8 31), .lit (.int .u8 10), .lit (.int .u8 25), .lit (.int .u8 14), .lit (.int .u8 19), .lit (.int .u8 9), .lit (.int .u8 13), .lit (.int .u8 8), .lit (.int .u8 7), .lit (.int .u8 6)]

/-- 'abacuslaw20.CharsSplits': WHATEVER THE INPUT: true; the input reads as it did. -/
def charsSplitsSpec : ChangeSpec := { name := "charsSplits", fn := fun _ => fun
  | [d] => { results := [.lit (.bool true)], args := [d] }
  | _ => none }
def charsSplitsRow : OpenClaim := { program := "ytdeannaaafffbaadoor", sum := "751bbd2a41ffd17eb48cca072731d34c4b9fb25f2c994a086da1735d3c4cfdaa", func := "abacus/abacuslaw20.CharsSplits", spec := "charsSplits", inPlace := ["internal/bytealg.CountString", "internal/bytealg.IndexByteString", "internal/bytealg.IndexString", "internal/abi.NoEscape", "internal/bytealg.MakeNoZero"], named := ["unicode/utf8.first", "unicode/utf8.acceptRanges", "internal/bytealg.MaxLen"], apart := false, laid := [("unicode/utf8.acceptRanges", laid_unicode_utf8_acceptRanges), ("unicode/utf8.first", laid_unicode_utf8_first)] }
def CharsSplitsSaid : Prop := charsSplitsRow.holds Tryd.pinned (OpenSpec.ofChange charsSplitsSpec)

/-- ITS FALSE NEIGHBOUR: 'it returns false'. Refute it at one input. -/
def charsSplitsWrong : ChangeSpec := { name := "charsSplits", fn := fun _ => fun
  | [d] => { results := [.lit (.bool false)], args := [d] }
  | _ => none }
def CharsSplitsWrongFalsely : Prop := charsSplitsRow.holds Tryd.pinned (OpenSpec.ofChange charsSplitsWrong)

/-- 'abacuslaw20.CharsKeeps': WHATEVER THE INPUT: true; the input reads as it did. -/
def charsKeepsSpec : ChangeSpec := { name := "charsKeeps", fn := fun _ => fun
  | [d] => { results := [.lit (.bool true)], args := [d] }
  | _ => none }
def charsKeepsRow : OpenClaim := { program := "ytdeannaaafffbaadoor", sum := "751bbd2a41ffd17eb48cca072731d34c4b9fb25f2c994a086da1735d3c4cfdaa", func := "abacus/abacuslaw20.CharsKeeps", spec := "charsKeeps", inPlace := ["internal/bytealg.CountString", "internal/bytealg.IndexByteString", "internal/bytealg.IndexString", "internal/abi.NoEscape", "internal/bytealg.MakeNoZero"], named := ["unicode/utf8.first", "unicode/utf8.acceptRanges", "internal/bytealg.MaxLen"], apart := false, laid := [("unicode/utf8.acceptRanges", laid_unicode_utf8_acceptRanges), ("unicode/utf8.first", laid_unicode_utf8_first)] }
def CharsKeepsSaid : Prop := charsKeepsRow.holds Tryd.pinned (OpenSpec.ofChange charsKeepsSpec)

/-- ITS FALSE NEIGHBOUR: 'it returns false'. Refute it at one input. -/
def charsKeepsWrong : ChangeSpec := { name := "charsKeeps", fn := fun _ => fun
  | [d] => { results := [.lit (.bool false)], args := [d] }
  | _ => none }
def CharsKeepsWrongFalsely : Prop := charsKeepsRow.holds Tryd.pinned (OpenSpec.ofChange charsKeepsWrong)

/-- 'abacuslaw20.CharsBack': WHATEVER THE INPUT: true; the input reads as it did. -/
def charsBackSpec : ChangeSpec := { name := "charsBack", fn := fun _ => fun
  | [d1, d2] => { results := [.lit (.bool true)], args := [d1, d2] }
  | _ => none }
def charsBackRow : OpenClaim := { program := "ytdeannaaafffbaadoor", sum := "751bbd2a41ffd17eb48cca072731d34c4b9fb25f2c994a086da1735d3c4cfdaa", func := "abacus/abacuslaw20.CharsBack", spec := "charsBack", inPlace := ["internal/bytealg.CountString", "internal/bytealg.IndexByteString", "internal/bytealg.IndexString", "internal/abi.NoEscape", "internal/bytealg.MakeNoZero"], named := ["unicode/utf8.first", "unicode/utf8.acceptRanges", "internal/bytealg.MaxLen"], apart := false, laid := [("unicode/utf8.acceptRanges", laid_unicode_utf8_acceptRanges), ("unicode/utf8.first", laid_unicode_utf8_first)] }
def CharsBackSaid : Prop := charsBackRow.holds Tryd.pinned (OpenSpec.ofChange charsBackSpec)

/-- ITS FALSE NEIGHBOUR: 'it returns false'. Refute it at one input. -/
def charsBackWrong : ChangeSpec := { name := "charsBack", fn := fun _ => fun
  | [d1, d2] => { results := [.lit (.bool false)], args := [d1, d2] }
  | _ => none }
def CharsBackWrongFalsely : Prop := charsBackRow.holds Tryd.pinned (OpenSpec.ofChange charsBackWrong)

/-- 'abacuslaw20.CharsSwaps': WHATEVER THE INPUT: true; the input reads as it did. -/
def charsSwapsSpec : ChangeSpec := { name := "charsSwaps", fn := fun _ => fun
  | [d1, d2, d3, d4] => { results := [.lit (.bool true)], args := [d1, d2, d3, d4] }
  | _ => none }
def charsSwapsRow : OpenClaim := { program := "ytdeannaaafffbaadoor", sum := "751bbd2a41ffd17eb48cca072731d34c4b9fb25f2c994a086da1735d3c4cfdaa", func := "abacus/abacuslaw20.CharsSwaps", spec := "charsSwaps", inPlace := ["internal/bytealg.CountString", "internal/bytealg.IndexByteString", "internal/bytealg.IndexString", "internal/abi.NoEscape", "internal/bytealg.MakeNoZero"], named := ["internal/bytealg.MaxLen", "unicode/utf8.first", "unicode/utf8.acceptRanges"], apart := false, laid := [("unicode/utf8.acceptRanges", laid_unicode_utf8_acceptRanges), ("unicode/utf8.first", laid_unicode_utf8_first)] }
def CharsSwapsSaid : Prop := charsSwapsRow.holds Tryd.pinned (OpenSpec.ofChange charsSwapsSpec)

/-- ITS FALSE NEIGHBOUR: 'it returns false'. Refute it at one input. -/
def charsSwapsWrong : ChangeSpec := { name := "charsSwaps", fn := fun _ => fun
  | [d1, d2, d3, d4] => { results := [.lit (.bool false)], args := [d1, d2, d3, d4] }
  | _ => none }
def CharsSwapsWrongFalsely : Prop := charsSwapsRow.holds Tryd.pinned (OpenSpec.ofChange charsSwapsWrong)

/-- 'abacuslaw20.CharsSubstrs': WHATEVER THE INPUT: true; the input reads as it did. -/
def charsSubstrsSpec : ChangeSpec := { name := "charsSubstrs", fn := fun _ => fun
  | [d] => { results := [.lit (.bool true)], args := [d] }
  | _ => none }
def charsSubstrsRow : OpenClaim := { program := "ytdeannaaafffbaadoor", sum := "751bbd2a41ffd17eb48cca072731d34c4b9fb25f2c994a086da1735d3c4cfdaa", func := "abacus/abacuslaw20.CharsSubstrs", spec := "charsSubstrs", inPlace := ["math/bits.Add64", "math/bits.Sub64"], unfollowed := true, recurses := true, named := ["math/bits.deBruijn64tab"], apart := false, laid := [("math/bits.deBruijn64tab", laid_math_bits_deBruijn64tab)] }
def CharsSubstrsSaid : Prop := charsSubstrsRow.holds Tryd.pinned (OpenSpec.ofChange charsSubstrsSpec)

/-- ITS FALSE NEIGHBOUR: 'it returns false'. Refute it at one input. -/
def charsSubstrsWrong : ChangeSpec := { name := "charsSubstrs", fn := fun _ => fun
  | [d] => { results := [.lit (.bool false)], args := [d] }
  | _ => none }
def CharsSubstrsWrongFalsely : Prop := charsSubstrsRow.holds Tryd.pinned (OpenSpec.ofChange charsSubstrsWrong)

/-- 'abacuslaw20.CharsCuts': WHATEVER THE INPUT: true; the input reads as it did. -/
def charsCutsSpec : ChangeSpec := { name := "charsCuts", fn := fun _ => fun
  | [d1, d2, d3] => { results := [.lit (.bool true)], args := [d1, d2, d3] }
  | _ => none }
def charsCutsRow : OpenClaim := { program := "ytdeannaaafffbaadoor", sum := "751bbd2a41ffd17eb48cca072731d34c4b9fb25f2c994a086da1735d3c4cfdaa", func := "abacus/abacuslaw20.CharsCuts", spec := "charsCuts", inPlace := ["math/bits.Add64", "math/bits.Sub64"], unfollowed := true, recurses := true, named := ["math/bits.deBruijn64tab"], apart := false, laid := [("math/bits.deBruijn64tab", laid_math_bits_deBruijn64tab)] }
def CharsCutsSaid : Prop := charsCutsRow.holds Tryd.pinned (OpenSpec.ofChange charsCutsSpec)

/-- ITS FALSE NEIGHBOUR: 'it returns false'. Refute it at one input. -/
def charsCutsWrong : ChangeSpec := { name := "charsCuts", fn := fun _ => fun
  | [d1, d2, d3] => { results := [.lit (.bool false)], args := [d1, d2, d3] }
  | _ => none }
def CharsCutsWrongFalsely : Prop := charsCutsRow.holds Tryd.pinned (OpenSpec.ofChange charsCutsWrong)

/- THE SECOND FORM. 'bulk': how many values and letters a reading holds, each counted each time it is reached (what is shared counts as often as it is met; a slice's spare places count too). A statement '..UptoSaid' is the law's where the arguments, and the package variables that the reading takes, are together of bulk at most 1048576: NARROWER than '..Said'. Prove '..Said' where nothing that the law and all that it calls make is longer than what came in: it says more and counts as full. Else prove '..UptoSaid'. A law counts once. -/
mutual
def uptoBulk {H : Type} : DataW H → Nat
  | .lit (.string bytes) => bytes.length + 1
  | .lit _ => 1
  | .nil => 1
  | .ptr d => uptoBulk d + 1
  | .slice elems spare => uptoBulkAll elems + uptoBulkAll spare + 1
  | .agg parts => uptoBulkAll parts + 1
  | .iface _ d => uptoBulk d + 1
  | .map entries => uptoBulkEntries entries + 1
  | .held _ => 1
def uptoBulkAll {H : Type} : List (DataW H) → Nat
  | [] => 0
  | d :: r => uptoBulk d + uptoBulkAll r
def uptoBulkEntries {H : Type} : List (Lit × DataW H) → Nat
  | [] => 0
  | x :: r => uptoBulkEntry x + uptoBulkEntries r
def uptoBulkEntry {H : Type} : Lit × DataW H → Nat
  | (.string bytes, d) => bytes.length + uptoBulk d + 1
  | (_, d) => uptoBulk d + 1
 end
def uptoSmall : (H : Type) → List (DataW H) → Bool := fun _ ds => decide (uptoBulkAll ds ≤ 1048576)
def OpenSpec.upto (s : _root_.Go.ChangeSpec) : _root_.Go.OpenSpec := { _root_.Go.OpenSpec.ofChange s with cond := some uptoSmall }

/-- 'abacuslaw20.CharsSplits', WHERE WHAT IT READS IS OF BULK AT MOST 1048576: true; the input reads as it did. -/
def charsSplitsUptoRow : OpenClaim := { program := "ytdeannaaafffbaadoor", sum := "751bbd2a41ffd17eb48cca072731d34c4b9fb25f2c994a086da1735d3c4cfdaa", func := "abacus/abacuslaw20.CharsSplits", spec := "charsSplits", inPlace := ["internal/bytealg.CountString", "internal/bytealg.IndexByteString", "internal/bytealg.IndexString", "internal/abi.NoEscape", "internal/bytealg.MakeNoZero"], named := ["unicode/utf8.first", "unicode/utf8.acceptRanges", "internal/bytealg.MaxLen"], apart := false, laid := [("unicode/utf8.acceptRanges", laid_unicode_utf8_acceptRanges), ("unicode/utf8.first", laid_unicode_utf8_first)], narrowed := true }
def CharsSplitsUptoSaid : Prop := charsSplitsUptoRow.holds Tryd.pinned (OpenSpec.upto charsSplitsSpec)

/-- 'abacuslaw20.CharsKeeps', WHERE WHAT IT READS IS OF BULK AT MOST 1048576: true; the input reads as it did. -/
def charsKeepsUptoRow : OpenClaim := { program := "ytdeannaaafffbaadoor", sum := "751bbd2a41ffd17eb48cca072731d34c4b9fb25f2c994a086da1735d3c4cfdaa", func := "abacus/abacuslaw20.CharsKeeps", spec := "charsKeeps", inPlace := ["internal/bytealg.CountString", "internal/bytealg.IndexByteString", "internal/bytealg.IndexString", "internal/abi.NoEscape", "internal/bytealg.MakeNoZero"], named := ["unicode/utf8.first", "unicode/utf8.acceptRanges", "internal/bytealg.MaxLen"], apart := false, laid := [("unicode/utf8.acceptRanges", laid_unicode_utf8_acceptRanges), ("unicode/utf8.first", laid_unicode_utf8_first)], narrowed := true }
def CharsKeepsUptoSaid : Prop := charsKeepsUptoRow.holds Tryd.pinned (OpenSpec.upto charsKeepsSpec)

/-- 'abacuslaw20.CharsBack', WHERE WHAT IT READS IS OF BULK AT MOST 1048576: true; the input reads as it did. -/
def charsBackUptoRow : OpenClaim := { program := "ytdeannaaafffbaadoor", sum := "751bbd2a41ffd17eb48cca072731d34c4b9fb25f2c994a086da1735d3c4cfdaa", func := "abacus/abacuslaw20.CharsBack", spec := "charsBack", inPlace := ["internal/bytealg.CountString", "internal/bytealg.IndexByteString", "internal/bytealg.IndexString", "internal/abi.NoEscape", "internal/bytealg.MakeNoZero"], named := ["unicode/utf8.first", "unicode/utf8.acceptRanges", "internal/bytealg.MaxLen"], apart := false, laid := [("unicode/utf8.acceptRanges", laid_unicode_utf8_acceptRanges), ("unicode/utf8.first", laid_unicode_utf8_first)], narrowed := true }
def CharsBackUptoSaid : Prop := charsBackUptoRow.holds Tryd.pinned (OpenSpec.upto charsBackSpec)

/-- 'abacuslaw20.CharsSwaps', WHERE WHAT IT READS IS OF BULK AT MOST 1048576: true; the input reads as it did. -/
def charsSwapsUptoRow : OpenClaim := { program := "ytdeannaaafffbaadoor", sum := "751bbd2a41ffd17eb48cca072731d34c4b9fb25f2c994a086da1735d3c4cfdaa", func := "abacus/abacuslaw20.CharsSwaps", spec := "charsSwaps", inPlace := ["internal/bytealg.CountString", "internal/bytealg.IndexByteString", "internal/bytealg.IndexString", "internal/abi.NoEscape", "internal/bytealg.MakeNoZero"], named := ["internal/bytealg.MaxLen", "unicode/utf8.first", "unicode/utf8.acceptRanges"], apart := false, laid := [("unicode/utf8.acceptRanges", laid_unicode_utf8_acceptRanges), ("unicode/utf8.first", laid_unicode_utf8_first)], narrowed := true }
def CharsSwapsUptoSaid : Prop := charsSwapsUptoRow.holds Tryd.pinned (OpenSpec.upto charsSwapsSpec)

/-- 'abacuslaw20.CharsSubstrs', WHERE WHAT IT READS IS OF BULK AT MOST 1048576: true; the input reads as it did. -/
def charsSubstrsUptoRow : OpenClaim := { program := "ytdeannaaafffbaadoor", sum := "751bbd2a41ffd17eb48cca072731d34c4b9fb25f2c994a086da1735d3c4cfdaa", func := "abacus/abacuslaw20.CharsSubstrs", spec := "charsSubstrs", inPlace := ["math/bits.Add64", "math/bits.Sub64"], unfollowed := true, recurses := true, named := ["math/bits.deBruijn64tab"], apart := false, laid := [("math/bits.deBruijn64tab", laid_math_bits_deBruijn64tab)], narrowed := true }
def CharsSubstrsUptoSaid : Prop := charsSubstrsUptoRow.holds Tryd.pinned (OpenSpec.upto charsSubstrsSpec)

/-- 'abacuslaw20.CharsCuts', WHERE WHAT IT READS IS OF BULK AT MOST 1048576: true; the input reads as it did. -/
def charsCutsUptoRow : OpenClaim := { program := "ytdeannaaafffbaadoor", sum := "751bbd2a41ffd17eb48cca072731d34c4b9fb25f2c994a086da1735d3c4cfdaa", func := "abacus/abacuslaw20.CharsCuts", spec := "charsCuts", inPlace := ["math/bits.Add64", "math/bits.Sub64"], unfollowed := true, recurses := true, named := ["math/bits.deBruijn64tab"], apart := false, laid := [("math/bits.deBruijn64tab", laid_math_bits_deBruijn64tab)], narrowed := true }
def CharsCutsUptoSaid : Prop := charsCutsUptoRow.holds Tryd.pinned (OpenSpec.upto charsCutsSpec)

end Rows
end Go.Proofs.YtdeannaaafffbaaDoor
