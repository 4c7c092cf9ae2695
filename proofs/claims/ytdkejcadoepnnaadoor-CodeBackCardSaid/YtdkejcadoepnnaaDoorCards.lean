/-
  DERIVED. GIVEN WITH THE SEED: THE CARDS: each row of YtdkejcadoepnnaaDoorRows.lean that lists a variable, with what it lists TIED to the program's text (the seventh form; the later family's looks); each row that meets fmt, with fmt's text TOLD by the authors' own Lean function (tested against real Go, not proved from fmt's source: count such statements apart). THE CARD IS WHAT COUNTS. Prove the row's statement (the work); the ties are given (YtdkejcadoepnnaaDoorTie.lean); close each card by the builder's one call (the guide's Derived/Test/ToyasCard.lean, 'card_holds'). Laid BY PROGRAM, IN A SANDBOX (cutbox-door.mjs). By AI agents, Wed Nov 11 2026. No macro, syntax, notation, axiom, sorry.
-/
import Derived.Test.YtdkejcadoepnnaaDoorRows
import GoSem.ClaimSeven
namespace Go.Proofs.YtdkejcadoepnnaaDoor
namespace Rows

/-- THE TIED CARD OF 'abacuslaw26.CodeHeights'. -/
def codeHeightsCard : Claim7 := { stood := { row := codeHeightsRow, standIns := [], harness := (true, "321d925084649920ddedd9a7bbbdb49415a900b2f178cd8ba5ebc5afad1d954c"), looks := true }, kinds := [], alts := [], laidByText := true, laidKinds := [.data, .data, .data], laidTests := true, laidLooks := .later }
def CodeHeightsCardSaid : Prop := Claim7.holds Tryd.pinned (.plain (OpenSpec.ofChange codeHeightsSpec)) codeHeightsCard

/-- THE TIED CARD OF 'abacuslaw26.CodeRuns'. -/
def codeRunsCard : Claim7 := { stood := { row := codeRunsRow, standIns := [], harness := (true, "321d925084649920ddedd9a7bbbdb49415a900b2f178cd8ba5ebc5afad1d954c"), looks := true }, kinds := [], alts := [], laidByText := true, laidKinds := [.data, .data, .data], laidTests := true, laidLooks := .later }
def CodeRunsCardSaid : Prop := Claim7.holds Tryd.pinned (.plain (OpenSpec.ofChange codeRunsSpec)) codeRunsCard

/-- THE TIED CARD OF 'abacuslaw26.CodeTurned'. -/
def codeTurnedCard : Claim7 := { stood := { row := codeTurnedRow, standIns := [], harness := (true, "321d925084649920ddedd9a7bbbdb49415a900b2f178cd8ba5ebc5afad1d954c"), looks := true }, kinds := [], alts := [], laidByText := true, laidKinds := [.data, .data, .data], laidTests := true, laidLooks := .later }
def CodeTurnedCardSaid : Prop := Claim7.holds Tryd.pinned (.plain (OpenSpec.ofChange codeTurnedSpec)) codeTurnedCard

/-- THE TIED CARD OF 'abacuslaw26.CodeListed'. -/
def codeListedCard : Claim7 := { stood := { row := codeListedRow, standIns := [], harness := (true, "321d925084649920ddedd9a7bbbdb49415a900b2f178cd8ba5ebc5afad1d954c"), looks := true }, kinds := [], alts := [], laidByText := true, laidKinds := [.data, .data, .data], laidTests := true, laidLooks := .later }
def CodeListedCardSaid : Prop := Claim7.holds Tryd.pinned (.plain (OpenSpec.ofChange codeListedSpec)) codeListedCard

/-- THE TIED CARD OF 'abacuslaw26.CodeExact'. -/
def codeExactCard : Claim7 := { stood := { row := codeExactRow, standIns := [], harness := (true, "321d925084649920ddedd9a7bbbdb49415a900b2f178cd8ba5ebc5afad1d954c"), looks := true }, kinds := [], alts := [], laidByText := true, laidKinds := [.data, .data, .data], laidTests := true, laidLooks := .later }
def CodeExactCardSaid : Prop := Claim7.holds Tryd.pinned (.plain (OpenSpec.ofChange codeExactSpec)) codeExactCard

/-- THE TIED CARD OF 'abacuslaw26.CodeMemory'. -/
def codeMemoryCard : Claim7 := { stood := { row := codeMemoryRow, standIns := [], harness := (true, "321d925084649920ddedd9a7bbbdb49415a900b2f178cd8ba5ebc5afad1d954c"), looks := true }, kinds := [], alts := [], laidByText := true, laidKinds := [.data, .data, .data], laidTests := true, laidLooks := .later }
def CodeMemoryCardSaid : Prop := Claim7.holds Tryd.pinned (.plain (OpenSpec.ofChange codeMemorySpec)) codeMemoryCard

/-- THE TIED CARD OF 'abacuslaw26.CodeBack'. -/
def codeBackCard : Claim7 := { stood := { row := codeBackRow, standIns := [], harness := (true, "321d925084649920ddedd9a7bbbdb49415a900b2f178cd8ba5ebc5afad1d954c"), looks := true }, kinds := [], alts := [], laidByText := true, laidKinds := [.data, .data, .data], laidTests := true, laidLooks := .later }
def CodeBackCardSaid : Prop := Claim7.holds Tryd.pinned (.plain (OpenSpec.ofChange codeBackSpec)) codeBackCard

/-- THE TIED CARD OF 'abacuslaw26.CodeBytes'. -/
def codeBytesCard : Claim7 := { stood := { row := codeBytesRow, standIns := [], harness := (true, "321d925084649920ddedd9a7bbbdb49415a900b2f178cd8ba5ebc5afad1d954c"), looks := true }, kinds := [], alts := [], laidByText := true, laidKinds := [.data, .data, .data], laidTests := true, laidLooks := .later }
def CodeBytesCardSaid : Prop := Claim7.holds Tryd.pinned (.plain (OpenSpec.ofChange codeBytesSpec)) codeBytesCard

/-- THE SECOND FORM's CARD OF 'abacuslaw26.CodeHeights'. -/
def codeHeightsUptoCard : Claim7 := { stood := { row := codeHeightsUptoRow, standIns := [], harness := (true, "321d925084649920ddedd9a7bbbdb49415a900b2f178cd8ba5ebc5afad1d954c"), looks := true }, kinds := [], alts := [], laidByText := true, laidKinds := [.data, .data, .data], laidTests := true, laidLooks := .later }
def CodeHeightsUptoCardSaid : Prop := Claim7.holds Tryd.pinned (.plain (OpenSpec.upto codeHeightsSpec)) codeHeightsUptoCard

/-- THE SECOND FORM's CARD OF 'abacuslaw26.CodeRuns'. -/
def codeRunsUptoCard : Claim7 := { stood := { row := codeRunsUptoRow, standIns := [], harness := (true, "321d925084649920ddedd9a7bbbdb49415a900b2f178cd8ba5ebc5afad1d954c"), looks := true }, kinds := [], alts := [], laidByText := true, laidKinds := [.data, .data, .data], laidTests := true, laidLooks := .later }
def CodeRunsUptoCardSaid : Prop := Claim7.holds Tryd.pinned (.plain (OpenSpec.upto codeRunsSpec)) codeRunsUptoCard

/-- THE SECOND FORM's CARD OF 'abacuslaw26.CodeTurned'. -/
def codeTurnedUptoCard : Claim7 := { stood := { row := codeTurnedUptoRow, standIns := [], harness := (true, "321d925084649920ddedd9a7bbbdb49415a900b2f178cd8ba5ebc5afad1d954c"), looks := true }, kinds := [], alts := [], laidByText := true, laidKinds := [.data, .data, .data], laidTests := true, laidLooks := .later }
def CodeTurnedUptoCardSaid : Prop := Claim7.holds Tryd.pinned (.plain (OpenSpec.upto codeTurnedSpec)) codeTurnedUptoCard

/-- THE SECOND FORM's CARD OF 'abacuslaw26.CodeListed'. -/
def codeListedUptoCard : Claim7 := { stood := { row := codeListedUptoRow, standIns := [], harness := (true, "321d925084649920ddedd9a7bbbdb49415a900b2f178cd8ba5ebc5afad1d954c"), looks := true }, kinds := [], alts := [], laidByText := true, laidKinds := [.data, .data, .data], laidTests := true, laidLooks := .later }
def CodeListedUptoCardSaid : Prop := Claim7.holds Tryd.pinned (.plain (OpenSpec.upto codeListedSpec)) codeListedUptoCard

/-- THE SECOND FORM's CARD OF 'abacuslaw26.CodeExact'. -/
def codeExactUptoCard : Claim7 := { stood := { row := codeExactUptoRow, standIns := [], harness := (true, "321d925084649920ddedd9a7bbbdb49415a900b2f178cd8ba5ebc5afad1d954c"), looks := true }, kinds := [], alts := [], laidByText := true, laidKinds := [.data, .data, .data], laidTests := true, laidLooks := .later }
def CodeExactUptoCardSaid : Prop := Claim7.holds Tryd.pinned (.plain (OpenSpec.upto codeExactSpec)) codeExactUptoCard

/-- THE SECOND FORM's CARD OF 'abacuslaw26.CodeMemory'. -/
def codeMemoryUptoCard : Claim7 := { stood := { row := codeMemoryUptoRow, standIns := [], harness := (true, "321d925084649920ddedd9a7bbbdb49415a900b2f178cd8ba5ebc5afad1d954c"), looks := true }, kinds := [], alts := [], laidByText := true, laidKinds := [.data, .data, .data], laidTests := true, laidLooks := .later }
def CodeMemoryUptoCardSaid : Prop := Claim7.holds Tryd.pinned (.plain (OpenSpec.upto codeMemorySpec)) codeMemoryUptoCard

/-- THE SECOND FORM's CARD OF 'abacuslaw26.CodeBack'. -/
def codeBackUptoCard : Claim7 := { stood := { row := codeBackUptoRow, standIns := [], harness := (true, "321d925084649920ddedd9a7bbbdb49415a900b2f178cd8ba5ebc5afad1d954c"), looks := true }, kinds := [], alts := [], laidByText := true, laidKinds := [.data, .data, .data], laidTests := true, laidLooks := .later }
def CodeBackUptoCardSaid : Prop := Claim7.holds Tryd.pinned (.plain (OpenSpec.upto codeBackSpec)) codeBackUptoCard

/-- THE SECOND FORM's CARD OF 'abacuslaw26.CodeBytes'. -/
def codeBytesUptoCard : Claim7 := { stood := { row := codeBytesUptoRow, standIns := [], harness := (true, "321d925084649920ddedd9a7bbbdb49415a900b2f178cd8ba5ebc5afad1d954c"), looks := true }, kinds := [], alts := [], laidByText := true, laidKinds := [.data, .data, .data], laidTests := true, laidLooks := .later }
def CodeBytesUptoCardSaid : Prop := Claim7.holds Tryd.pinned (.plain (OpenSpec.upto codeBytesSpec)) codeBytesUptoCard
end Rows
end Go.Proofs.YtdkejcadoepnnaaDoor
