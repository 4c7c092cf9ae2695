/-
  DERIVED. GIVEN WITH THE SEED: THE CARDS: each row of YtdeannaaafffbaaDoorRows.lean that lists a variable, with what it lists TIED to the program's text (the seventh form; the later family's looks); each row that meets fmt, with fmt's text TOLD by the authors' own Lean function (tested against real Go, not proved from fmt's source: count such statements apart). THE CARD IS WHAT COUNTS. Prove the row's statement (the work); the ties are given (YtdeannaaafffbaaDoorTie.lean); close each card by the builder's one call (the guide's Derived/Test/ToyasCard.lean, 'card_holds'). Laid BY PROGRAM, IN A SANDBOX (cutbox-door.mjs). By AI agents, Wed Nov 11 2026. No macro, syntax, notation, axiom, sorry.
-/
import Derived.Test.YtdeannaaafffbaaDoorRows
import GoSem.ClaimSeven
namespace Go.Proofs.YtdeannaaafffbaaDoor
namespace Rows

/-- THE TIED CARD OF 'abacuslaw20.CharsSplits'. -/
def charsSplitsCard : Claim7 := { stood := { row := charsSplitsRow, standIns := [], harness := (true, "04bc1bcfec825872f5b189418ee3bf63b67d4fb4e2cce1783662e87d76fb9eb7"), looks := false }, kinds := [], alts := [], laidByText := true, laidKinds := [.data, .pinned], laidTests := true, laidLooks := .later }
def CharsSplitsCardSaid : Prop := Claim7.holds Tryd.pinned (.plain (OpenSpec.ofChange charsSplitsSpec)) charsSplitsCard

/-- THE TIED CARD OF 'abacuslaw20.CharsKeeps'. -/
def charsKeepsCard : Claim7 := { stood := { row := charsKeepsRow, standIns := [], harness := (true, "04bc1bcfec825872f5b189418ee3bf63b67d4fb4e2cce1783662e87d76fb9eb7"), looks := false }, kinds := [], alts := [], laidByText := true, laidKinds := [.data, .pinned], laidTests := true, laidLooks := .later }
def CharsKeepsCardSaid : Prop := Claim7.holds Tryd.pinned (.plain (OpenSpec.ofChange charsKeepsSpec)) charsKeepsCard

/-- THE TIED CARD OF 'abacuslaw20.CharsBack'. -/
def charsBackCard : Claim7 := { stood := { row := charsBackRow, standIns := [], harness := (true, "04bc1bcfec825872f5b189418ee3bf63b67d4fb4e2cce1783662e87d76fb9eb7"), looks := false }, kinds := [], alts := [], laidByText := true, laidKinds := [.data, .pinned], laidTests := true, laidLooks := .later }
def CharsBackCardSaid : Prop := Claim7.holds Tryd.pinned (.plain (OpenSpec.ofChange charsBackSpec)) charsBackCard

/-- THE TIED CARD OF 'abacuslaw20.CharsSwaps'. -/
def charsSwapsCard : Claim7 := { stood := { row := charsSwapsRow, standIns := [], harness := (true, "04bc1bcfec825872f5b189418ee3bf63b67d4fb4e2cce1783662e87d76fb9eb7"), looks := false }, kinds := [], alts := [], laidByText := true, laidKinds := [.data, .pinned], laidTests := true, laidLooks := .later }
def CharsSwapsCardSaid : Prop := Claim7.holds Tryd.pinned (.plain (OpenSpec.ofChange charsSwapsSpec)) charsSwapsCard

/-- THE TIED CARD OF 'abacuslaw20.CharsSubstrs'. -/
def charsSubstrsCard : Claim7 := { stood := { row := charsSubstrsRow, standIns := [], harness := (true, "04bc1bcfec825872f5b189418ee3bf63b67d4fb4e2cce1783662e87d76fb9eb7"), looks := false }, kinds := [], alts := [], laidByText := true, laidKinds := [.data], laidTests := true, laidLooks := .later }
def CharsSubstrsCardSaid : Prop := Claim7.holds Tryd.pinned (.plain (OpenSpec.ofChange charsSubstrsSpec)) charsSubstrsCard

/-- THE TIED CARD OF 'abacuslaw20.CharsCuts'. -/
def charsCutsCard : Claim7 := { stood := { row := charsCutsRow, standIns := [], harness := (true, "04bc1bcfec825872f5b189418ee3bf63b67d4fb4e2cce1783662e87d76fb9eb7"), looks := false }, kinds := [], alts := [], laidByText := true, laidKinds := [.data], laidTests := true, laidLooks := .later }
def CharsCutsCardSaid : Prop := Claim7.holds Tryd.pinned (.plain (OpenSpec.ofChange charsCutsSpec)) charsCutsCard

/-- THE SECOND FORM's CARD OF 'abacuslaw20.CharsSplits'. -/
def charsSplitsUptoCard : Claim7 := { stood := { row := charsSplitsUptoRow, standIns := [], harness := (true, "04bc1bcfec825872f5b189418ee3bf63b67d4fb4e2cce1783662e87d76fb9eb7"), looks := false }, kinds := [], alts := [], laidByText := true, laidKinds := [.data, .pinned], laidTests := true, laidLooks := .later }
def CharsSplitsUptoCardSaid : Prop := Claim7.holds Tryd.pinned (.plain (OpenSpec.upto charsSplitsSpec)) charsSplitsUptoCard

/-- THE SECOND FORM's CARD OF 'abacuslaw20.CharsKeeps'. -/
def charsKeepsUptoCard : Claim7 := { stood := { row := charsKeepsUptoRow, standIns := [], harness := (true, "04bc1bcfec825872f5b189418ee3bf63b67d4fb4e2cce1783662e87d76fb9eb7"), looks := false }, kinds := [], alts := [], laidByText := true, laidKinds := [.data, .pinned], laidTests := true, laidLooks := .later }
def CharsKeepsUptoCardSaid : Prop := Claim7.holds Tryd.pinned (.plain (OpenSpec.upto charsKeepsSpec)) charsKeepsUptoCard

/-- THE SECOND FORM's CARD OF 'abacuslaw20.CharsBack'. -/
def charsBackUptoCard : Claim7 := { stood := { row := charsBackUptoRow, standIns := [], harness := (true, "04bc1bcfec825872f5b189418ee3bf63b67d4fb4e2cce1783662e87d76fb9eb7"), looks := false }, kinds := [], alts := [], laidByText := true, laidKinds := [.data, .pinned], laidTests := true, laidLooks := .later }
def CharsBackUptoCardSaid : Prop := Claim7.holds Tryd.pinned (.plain (OpenSpec.upto charsBackSpec)) charsBackUptoCard

/-- THE SECOND FORM's CARD OF 'abacuslaw20.CharsSwaps'. -/
def charsSwapsUptoCard : Claim7 := { stood := { row := charsSwapsUptoRow, standIns := [], harness := (true, "04bc1bcfec825872f5b189418ee3bf63b67d4fb4e2cce1783662e87d76fb9eb7"), looks := false }, kinds := [], alts := [], laidByText := true, laidKinds := [.data, .pinned], laidTests := true, laidLooks := .later }
def CharsSwapsUptoCardSaid : Prop := Claim7.holds Tryd.pinned (.plain (OpenSpec.upto charsSwapsSpec)) charsSwapsUptoCard

/-- THE SECOND FORM's CARD OF 'abacuslaw20.CharsSubstrs'. -/
def charsSubstrsUptoCard : Claim7 := { stood := { row := charsSubstrsUptoRow, standIns := [], harness := (true, "04bc1bcfec825872f5b189418ee3bf63b67d4fb4e2cce1783662e87d76fb9eb7"), looks := false }, kinds := [], alts := [], laidByText := true, laidKinds := [.data], laidTests := true, laidLooks := .later }
def CharsSubstrsUptoCardSaid : Prop := Claim7.holds Tryd.pinned (.plain (OpenSpec.upto charsSubstrsSpec)) charsSubstrsUptoCard

/-- THE SECOND FORM's CARD OF 'abacuslaw20.CharsCuts'. -/
def charsCutsUptoCard : Claim7 := { stood := { row := charsCutsUptoRow, standIns := [], harness := (true, "04bc1bcfec825872f5b189418ee3bf63b67d4fb4e2cce1783662e87d76fb9eb7"), looks := false }, kinds := [], alts := [], laidByText := true, laidKinds := [.data], laidTests := true, laidLooks := .later }
def CharsCutsUptoCardSaid : Prop := Claim7.holds Tryd.pinned (.plain (OpenSpec.upto charsCutsSpec)) charsCutsUptoCard
end Rows
end Go.Proofs.YtdeannaaafffbaaDoor
