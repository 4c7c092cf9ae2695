/-
  DERIVED. GIVEN WITH THE SEED: THE CARDS: each row of YtlmijjekaelhcaaDoorRows.lean that lists a variable, with what it lists TIED to the program's text (the seventh form; the later family's looks); each row that meets fmt, with fmt's text TOLD by the authors' own Lean function (tested against real Go, not proved from fmt's source: count such statements apart). THE CARD IS WHAT COUNTS. Prove the row's statement (the work); the ties are given (YtlmijjekaelhcaaDoorTie.lean); close each card by the builder's one call (the guide's Derived/Test/ToyasCard.lean, 'card_holds'). Laid BY PROGRAM, IN A SANDBOX (cutbox-door.mjs). By AI agents, Wed Nov 11 2026. No macro, syntax, notation, axiom, sorry.
-/
import Derived.Test.YtlmijjekaelhcaaDoorRows
import GoSem.ClaimSeven
namespace Go.Proofs.YtlmijjekaelhcaaDoor
namespace Rows

/-- THE TIED CARD OF 'abacuslaw13.DirectiveBack'. -/
def directiveBackCard : Claim7 := { stood := { row := directiveBackRow, standIns := [], harness := (true, "8c14c9e9324953d6f468595d99e8be94d97518e2f72a7dd1263bc4f37fbe1f73"), looks := false }, kinds := [], alts := [], laidByText := true, laidKinds := [.data, .data, .data], laidTests := true, laidLooks := .later }
def DirectiveBackCardSaid : Prop := Claim7.holds Tryd.pinned (.plain (OpenSpec.ofChange directiveBackSpec)) directiveBackCard

/-- THE TIED CARD OF 'abacuslaw13.DirectiveFault'. -/
def directiveFaultCard : Claim7 := { stood := { row := directiveFaultRow, standIns := [], harness := (true, "8c14c9e9324953d6f468595d99e8be94d97518e2f72a7dd1263bc4f37fbe1f73"), looks := false }, kinds := [], alts := [], laidByText := true, laidKinds := [.data, .data, .data], laidTests := true, laidLooks := .later }
def DirectiveFaultCardSaid : Prop := Claim7.holds Tryd.pinned (.plain (OpenSpec.ofChange directiveFaultSpec)) directiveFaultCard

/-- THE TIED CARD OF 'abacuslaw13.DirectiveChain'. -/
def directiveChainCard : Claim7 := { stood := { row := directiveChainRow, standIns := [], harness := (true, "8c14c9e9324953d6f468595d99e8be94d97518e2f72a7dd1263bc4f37fbe1f73"), looks := false }, kinds := [], alts := [], laidByText := true, laidKinds := [.data, .data, .data], laidTests := true, laidLooks := .later }
def DirectiveChainCardSaid : Prop := Claim7.holds Tryd.pinned (.plain (OpenSpec.ofChange directiveChainSpec)) directiveChainCard

/-- THE TIED CARD OF 'abacuslaw13.DirectiveStars'. -/
def directiveStarsCard : Claim7 := { stood := { row := directiveStarsRow, standIns := [], harness := (true, "8c14c9e9324953d6f468595d99e8be94d97518e2f72a7dd1263bc4f37fbe1f73"), looks := false }, kinds := [], alts := [], laidByText := true, laidKinds := [.data, .data, .data], laidTests := true, laidLooks := .later }
def DirectiveStarsCardSaid : Prop := Claim7.holds Tryd.pinned (.plain (OpenSpec.ofChange directiveStarsSpec)) directiveStarsCard

/-- THE TIED CARD OF 'abacuslaw13.DirectiveExact'. -/
def directiveExactCard : Claim7 := { stood := { row := directiveExactRow, standIns := [], harness := (true, "8c14c9e9324953d6f468595d99e8be94d97518e2f72a7dd1263bc4f37fbe1f73"), looks := false }, kinds := [], alts := [], laidByText := true, laidKinds := [.data, .data, .data], laidTests := true, laidLooks := .later }
def DirectiveExactCardSaid : Prop := Claim7.holds Tryd.pinned (.plain (OpenSpec.ofChange directiveExactSpec)) directiveExactCard

/-- THE TIED CARD OF 'abacuslaw13.DirectiveMemory'. -/
def directiveMemoryCard : Claim7 := { stood := { row := directiveMemoryRow, standIns := [], harness := (true, "8c14c9e9324953d6f468595d99e8be94d97518e2f72a7dd1263bc4f37fbe1f73"), looks := false }, kinds := [], alts := [], laidByText := true, laidKinds := [.data, .data, .data], laidTests := true, laidLooks := .later }
def DirectiveMemoryCardSaid : Prop := Claim7.holds Tryd.pinned (.plain (OpenSpec.ofChange directiveMemorySpec)) directiveMemoryCard

/-- THE TIED CARD OF 'abacuslaw13.DirectiveSingle'. -/
def directiveSingleCard : Claim7 := { stood := { row := directiveSingleRow, standIns := [], harness := (true, "8c14c9e9324953d6f468595d99e8be94d97518e2f72a7dd1263bc4f37fbe1f73"), looks := false }, kinds := [], alts := [], laidByText := true, laidKinds := [.data, .data, .data], laidTests := true, laidLooks := .later }
def DirectiveSingleCardSaid : Prop := Claim7.holds Tryd.pinned (.plain (OpenSpec.ofChange directiveSingleSpec)) directiveSingleCard

/-- THE SECOND FORM's CARD OF 'abacuslaw13.DirectiveBack'. -/
def directiveBackUptoCard : Claim7 := { stood := { row := directiveBackUptoRow, standIns := [], harness := (true, "8c14c9e9324953d6f468595d99e8be94d97518e2f72a7dd1263bc4f37fbe1f73"), looks := false }, kinds := [], alts := [], laidByText := true, laidKinds := [.data, .data, .data], laidTests := true, laidLooks := .later }
def DirectiveBackUptoCardSaid : Prop := Claim7.holds Tryd.pinned (.plain (OpenSpec.upto directiveBackSpec)) directiveBackUptoCard

/-- THE SECOND FORM's CARD OF 'abacuslaw13.DirectiveFault'. -/
def directiveFaultUptoCard : Claim7 := { stood := { row := directiveFaultUptoRow, standIns := [], harness := (true, "8c14c9e9324953d6f468595d99e8be94d97518e2f72a7dd1263bc4f37fbe1f73"), looks := false }, kinds := [], alts := [], laidByText := true, laidKinds := [.data, .data, .data], laidTests := true, laidLooks := .later }
def DirectiveFaultUptoCardSaid : Prop := Claim7.holds Tryd.pinned (.plain (OpenSpec.upto directiveFaultSpec)) directiveFaultUptoCard

/-- THE SECOND FORM's CARD OF 'abacuslaw13.DirectiveChain'. -/
def directiveChainUptoCard : Claim7 := { stood := { row := directiveChainUptoRow, standIns := [], harness := (true, "8c14c9e9324953d6f468595d99e8be94d97518e2f72a7dd1263bc4f37fbe1f73"), looks := false }, kinds := [], alts := [], laidByText := true, laidKinds := [.data, .data, .data], laidTests := true, laidLooks := .later }
def DirectiveChainUptoCardSaid : Prop := Claim7.holds Tryd.pinned (.plain (OpenSpec.upto directiveChainSpec)) directiveChainUptoCard

/-- THE SECOND FORM's CARD OF 'abacuslaw13.DirectiveStars'. -/
def directiveStarsUptoCard : Claim7 := { stood := { row := directiveStarsUptoRow, standIns := [], harness := (true, "8c14c9e9324953d6f468595d99e8be94d97518e2f72a7dd1263bc4f37fbe1f73"), looks := false }, kinds := [], alts := [], laidByText := true, laidKinds := [.data, .data, .data], laidTests := true, laidLooks := .later }
def DirectiveStarsUptoCardSaid : Prop := Claim7.holds Tryd.pinned (.plain (OpenSpec.upto directiveStarsSpec)) directiveStarsUptoCard

/-- THE SECOND FORM's CARD OF 'abacuslaw13.DirectiveExact'. -/
def directiveExactUptoCard : Claim7 := { stood := { row := directiveExactUptoRow, standIns := [], harness := (true, "8c14c9e9324953d6f468595d99e8be94d97518e2f72a7dd1263bc4f37fbe1f73"), looks := false }, kinds := [], alts := [], laidByText := true, laidKinds := [.data, .data, .data], laidTests := true, laidLooks := .later }
def DirectiveExactUptoCardSaid : Prop := Claim7.holds Tryd.pinned (.plain (OpenSpec.upto directiveExactSpec)) directiveExactUptoCard

/-- THE SECOND FORM's CARD OF 'abacuslaw13.DirectiveMemory'. -/
def directiveMemoryUptoCard : Claim7 := { stood := { row := directiveMemoryUptoRow, standIns := [], harness := (true, "8c14c9e9324953d6f468595d99e8be94d97518e2f72a7dd1263bc4f37fbe1f73"), looks := false }, kinds := [], alts := [], laidByText := true, laidKinds := [.data, .data, .data], laidTests := true, laidLooks := .later }
def DirectiveMemoryUptoCardSaid : Prop := Claim7.holds Tryd.pinned (.plain (OpenSpec.upto directiveMemorySpec)) directiveMemoryUptoCard

/-- THE SECOND FORM's CARD OF 'abacuslaw13.DirectiveSingle'. -/
def directiveSingleUptoCard : Claim7 := { stood := { row := directiveSingleUptoRow, standIns := [], harness := (true, "8c14c9e9324953d6f468595d99e8be94d97518e2f72a7dd1263bc4f37fbe1f73"), looks := false }, kinds := [], alts := [], laidByText := true, laidKinds := [.data, .data, .data], laidTests := true, laidLooks := .later }
def DirectiveSingleUptoCardSaid : Prop := Claim7.holds Tryd.pinned (.plain (OpenSpec.upto directiveSingleSpec)) directiveSingleUptoCard
end Rows
end Go.Proofs.YtlmijjekaelhcaaDoor
