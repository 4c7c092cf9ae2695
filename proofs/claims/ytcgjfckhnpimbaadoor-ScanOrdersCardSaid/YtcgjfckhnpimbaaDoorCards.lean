/-
  DERIVED. GIVEN WITH THE SEED: THE CARDS: each row of YtcgjfckhnpimbaaDoorRows.lean that lists a variable, with what it lists TIED to the program's text (the seventh form; the later family's looks); each row that meets fmt, with fmt's text TOLD by the authors' own Lean function (tested against real Go, not proved from fmt's source: count such statements apart). THE CARD IS WHAT COUNTS. Prove the row's statement (the work); the ties are given (YtcgjfckhnpimbaaDoorTie.lean); close each card by the builder's one call (the guide's Derived/Test/ToyasCard.lean, 'card_holds'). Laid BY PROGRAM, IN A SANDBOX (cutbox-door.mjs). By AI agents, Wed Nov 11 2026. No macro, syntax, notation, axiom, sorry.
-/
import Derived.Test.YtcgjfckhnpimbaaDoorRows
import GoSem.ClaimSeven
namespace Go.Proofs.YtcgjfckhnpimbaaDoor
namespace Rows

/-- THE TIED CARD OF 'abacuslaw08.ScanOrders'. -/
def scanOrdersCard : Claim7 := { stood := { row := scanOrdersRow, standIns := [], harness := (true, "946ba31caa43f717dd1977c806b49a3392da866f1e222cdb803e56ca4ccb6f46"), looks := false }, kinds := [], alts := [], laidByText := true, laidKinds := [.data, .pinned], laidTests := true, laidLooks := .later }
def ScanOrdersCardSaid : Prop := Claim7.holds Tryd.pinned (.plain (OpenSpec.ofChange scanOrdersSpec)) scanOrdersCard

/-- THE TIED CARD OF 'abacuslaw08.ScanNumbers'. -/
def scanNumbersCard : Claim7 := { stood := { row := scanNumbersRow, standIns := [], harness := (true, "946ba31caa43f717dd1977c806b49a3392da866f1e222cdb803e56ca4ccb6f46"), looks := false }, kinds := [], alts := [], laidByText := true, laidKinds := [.data, .pinned], laidTests := true, laidLooks := .later }
def ScanNumbersCardSaid : Prop := Claim7.holds Tryd.pinned (.plain (OpenSpec.ofChange scanNumbersSpec)) scanNumbersCard

/-- THE TIED CARD OF 'abacuslaw08.ScanLongest'. -/
def scanLongestCard : Claim7 := { stood := { row := scanLongestRow, standIns := [], harness := (true, "946ba31caa43f717dd1977c806b49a3392da866f1e222cdb803e56ca4ccb6f46"), looks := false }, kinds := [], alts := [], laidByText := true, laidKinds := [.data, .pinned], laidTests := true, laidLooks := .later }
def ScanLongestCardSaid : Prop := Claim7.holds Tryd.pinned (.plain (OpenSpec.ofChange scanLongestSpec)) scanLongestCard

/-- THE TIED CARD OF 'abacuslaw08.ScanBuilds'. -/
def scanBuildsCard : Claim7 := { stood := { row := scanBuildsRow, standIns := [], harness := (true, "946ba31caa43f717dd1977c806b49a3392da866f1e222cdb803e56ca4ccb6f46"), looks := false }, kinds := [], alts := [], laidByText := true, laidKinds := [.data, .pinned], laidTests := true, laidLooks := .later }
def ScanBuildsCardSaid : Prop := Claim7.holds Tryd.pinned (.plain (OpenSpec.ofChange scanBuildsSpec)) scanBuildsCard

/-- THE TIED CARD OF 'abacuslaw08.ScanNorms'. -/
def scanNormsCard : Claim7 := { stood := { row := scanNormsRow, standIns := [], harness := (true, "946ba31caa43f717dd1977c806b49a3392da866f1e222cdb803e56ca4ccb6f46"), looks := false }, kinds := [], alts := [], laidByText := true, laidKinds := [.data, .data, .data, .data, .pinned], laidTests := true, laidLooks := .later }
def ScanNormsCardSaid : Prop := Claim7.holds Tryd.pinned (.plain (OpenSpec.ofChange scanNormsSpec)) scanNormsCard

/-- THE TIED CARD OF 'abacuslaw08.ScanBacks'. -/
def scanBacksCard : Claim7 := { stood := { row := scanBacksRow, standIns := [], harness := (true, "946ba31caa43f717dd1977c806b49a3392da866f1e222cdb803e56ca4ccb6f46"), looks := false }, kinds := [], alts := [], laidByText := true, laidKinds := [.data, .data, .data, .data, .pinned], laidTests := true, laidLooks := .later }
def ScanBacksCardSaid : Prop := Claim7.holds Tryd.pinned (.plain (OpenSpec.ofChange scanBacksSpec)) scanBacksCard

/-- THE SECOND FORM's CARD OF 'abacuslaw08.ScanOrders'. -/
def scanOrdersUptoCard : Claim7 := { stood := { row := scanOrdersUptoRow, standIns := [], harness := (true, "946ba31caa43f717dd1977c806b49a3392da866f1e222cdb803e56ca4ccb6f46"), looks := false }, kinds := [], alts := [], laidByText := true, laidKinds := [.data, .pinned], laidTests := true, laidLooks := .later }
def ScanOrdersUptoCardSaid : Prop := Claim7.holds Tryd.pinned (.plain (OpenSpec.upto scanOrdersSpec)) scanOrdersUptoCard

/-- THE SECOND FORM's CARD OF 'abacuslaw08.ScanNumbers'. -/
def scanNumbersUptoCard : Claim7 := { stood := { row := scanNumbersUptoRow, standIns := [], harness := (true, "946ba31caa43f717dd1977c806b49a3392da866f1e222cdb803e56ca4ccb6f46"), looks := false }, kinds := [], alts := [], laidByText := true, laidKinds := [.data, .pinned], laidTests := true, laidLooks := .later }
def ScanNumbersUptoCardSaid : Prop := Claim7.holds Tryd.pinned (.plain (OpenSpec.upto scanNumbersSpec)) scanNumbersUptoCard

/-- THE SECOND FORM's CARD OF 'abacuslaw08.ScanLongest'. -/
def scanLongestUptoCard : Claim7 := { stood := { row := scanLongestUptoRow, standIns := [], harness := (true, "946ba31caa43f717dd1977c806b49a3392da866f1e222cdb803e56ca4ccb6f46"), looks := false }, kinds := [], alts := [], laidByText := true, laidKinds := [.data, .pinned], laidTests := true, laidLooks := .later }
def ScanLongestUptoCardSaid : Prop := Claim7.holds Tryd.pinned (.plain (OpenSpec.upto scanLongestSpec)) scanLongestUptoCard

/-- THE SECOND FORM's CARD OF 'abacuslaw08.ScanBuilds'. -/
def scanBuildsUptoCard : Claim7 := { stood := { row := scanBuildsUptoRow, standIns := [], harness := (true, "946ba31caa43f717dd1977c806b49a3392da866f1e222cdb803e56ca4ccb6f46"), looks := false }, kinds := [], alts := [], laidByText := true, laidKinds := [.data, .pinned], laidTests := true, laidLooks := .later }
def ScanBuildsUptoCardSaid : Prop := Claim7.holds Tryd.pinned (.plain (OpenSpec.upto scanBuildsSpec)) scanBuildsUptoCard

/-- THE SECOND FORM's CARD OF 'abacuslaw08.ScanNorms'. -/
def scanNormsUptoCard : Claim7 := { stood := { row := scanNormsUptoRow, standIns := [], harness := (true, "946ba31caa43f717dd1977c806b49a3392da866f1e222cdb803e56ca4ccb6f46"), looks := false }, kinds := [], alts := [], laidByText := true, laidKinds := [.data, .data, .data, .data, .pinned], laidTests := true, laidLooks := .later }
def ScanNormsUptoCardSaid : Prop := Claim7.holds Tryd.pinned (.plain (OpenSpec.upto scanNormsSpec)) scanNormsUptoCard

/-- THE SECOND FORM's CARD OF 'abacuslaw08.ScanBacks'. -/
def scanBacksUptoCard : Claim7 := { stood := { row := scanBacksUptoRow, standIns := [], harness := (true, "946ba31caa43f717dd1977c806b49a3392da866f1e222cdb803e56ca4ccb6f46"), looks := false }, kinds := [], alts := [], laidByText := true, laidKinds := [.data, .data, .data, .data, .pinned], laidTests := true, laidLooks := .later }
def ScanBacksUptoCardSaid : Prop := Claim7.holds Tryd.pinned (.plain (OpenSpec.upto scanBacksSpec)) scanBacksUptoCard
end Rows
end Go.Proofs.YtcgjfckhnpimbaaDoor
