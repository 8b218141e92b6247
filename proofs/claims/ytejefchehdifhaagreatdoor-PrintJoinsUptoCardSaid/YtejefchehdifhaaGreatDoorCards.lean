/-
  DERIVED. GIVEN WITH THE SEED: THE CARDS: each row of YtejefchehdifhaaGreatDoorRows.lean that lists a variable, with what it lists TIED to the program's text (the seventh form; the later family's looks); each row that meets fmt, with fmt's text TOLD by the authors' own Lean function (tested against real Go, not proved from fmt's source: count such statements apart). THE CARD IS WHAT COUNTS. Prove the row's statement (the work); the ties are given (YtejefchehdifhaaGreatDoorTie.lean); close each card by the builder's one call (the guide's Derived/Test/ToyasCard.lean, 'card_holds'). Laid BY PROGRAM, IN A SANDBOX (cutbox-door.mjs). By AI agents, Wed Nov 11 2026. No macro, syntax, notation, axiom, sorry.
-/
import Derived.Test.YtejefchehdifhaaGreatDoorRows
import GoSem.ClaimSeven
namespace Go.Proofs.YtejefchehdifhaaGreatDoor
namespace Rows

/-- THE TIED CARD OF 'marginalialaw03.TokenScans'. -/
def tokenScansCard : Claim7 := { stood := { row := tokenScansRow, standIns := [], harness := (true, "b7fd62ea3e1cb0ae30951ff2f781820105a8fe0c0743b841a15bd4ce99226292"), looks := true }, kinds := [], alts := [], laidByText := true, laidKinds := [.data, .data, .data, .data, .sentinel, .sentinel, .data, .data, .pinned], laidTests := true, laidLooks := .later }
def TokenScansCardSaid : Prop := Claim7.holds Tryz.pinned (.plain (OpenSpec.ofChange tokenScansSpec)) tokenScansCard

/-- THE TIED CARD OF 'marginalialaw03.TokenAtoms'. -/
def tokenAtomsCard : Claim7 := { stood := { row := tokenAtomsRow, standIns := [], harness := (true, "b7fd62ea3e1cb0ae30951ff2f781820105a8fe0c0743b841a15bd4ce99226292"), looks := true }, kinds := [], alts := [], laidByText := true, laidKinds := [.data, .data, .data, .data, .sentinel, .sentinel, .data, .data, .pinned], laidTests := true, laidLooks := .later }
def TokenAtomsCardSaid : Prop := Claim7.holds Tryz.pinned (.plain (OpenSpec.ofChange tokenAtomsSpec)) tokenAtomsCard

/-- THE TIED CARD OF 'marginalialaw05.PrintTexts'. -/
def printTextsCard : Claim7 := { stood := { row := printTextsRow, standIns := [], harness := (true, "b7fd62ea3e1cb0ae30951ff2f781820105a8fe0c0743b841a15bd4ce99226292"), looks := true }, kinds := [], alts := [], laidByText := true, laidKinds := [.data, .data, .data, .data, .sentinel, .sentinel, .data, .pinned], laidTests := true, laidLooks := .later }
def PrintTextsCardSaid : Prop := Claim7.holds Tryz.pinned (.plain (OpenSpec.ofChange printTextsSpec)) printTextsCard

/-- THE TIED CARD OF 'marginalialaw05.PrintQuotes'. -/
def printQuotesCard : Claim7 := { stood := { row := printQuotesRow, standIns := [], harness := (true, "b7fd62ea3e1cb0ae30951ff2f781820105a8fe0c0743b841a15bd4ce99226292"), looks := true }, kinds := [], alts := [], laidByText := true, laidKinds := [.data, .data, .data, .data, .sentinel, .sentinel, .data, .pinned], laidTests := true, laidLooks := .later }
def PrintQuotesCardSaid : Prop := Claim7.holds Tryz.pinned (.plain (OpenSpec.ofChange printQuotesSpec)) printQuotesCard

/-- THE TIED CARD OF 'marginalialaw05.PrintApart'. -/
def printApartCard : Claim7 := { stood := { row := printApartRow, standIns := [], harness := (true, "b7fd62ea3e1cb0ae30951ff2f781820105a8fe0c0743b841a15bd4ce99226292"), looks := true }, kinds := [], alts := [], laidByText := true, laidKinds := [.data, .data, .data, .data, .sentinel, .sentinel, .data, .pinned], laidTests := true, laidLooks := .later }
def PrintApartCardSaid : Prop := Claim7.holds Tryz.pinned (.plain (OpenSpec.ofChange printApartSpec)) printApartCard

/-- THE TIED CARD OF 'marginalialaw05.PrintJoins'. -/
def printJoinsCard : Claim7 := { stood := { row := printJoinsRow, standIns := [], harness := (true, "b7fd62ea3e1cb0ae30951ff2f781820105a8fe0c0743b841a15bd4ce99226292"), looks := true }, kinds := [], alts := [], laidByText := true, laidKinds := [.data, .data, .data, .data, .sentinel, .sentinel, .data, .pinned], laidTests := true, laidLooks := .later }
def PrintJoinsCardSaid : Prop := Claim7.holds Tryz.pinned (.plain (OpenSpec.ofChange printJoinsSpec)) printJoinsCard

/-- THE TIED CARD OF 'marginalialaw05.PrintBack'. -/
def printBackCard : Claim7 := { stood := { row := printBackRow, standIns := [], harness := (true, "b7fd62ea3e1cb0ae30951ff2f781820105a8fe0c0743b841a15bd4ce99226292"), looks := true }, kinds := [], alts := [], laidByText := true, laidKinds := [.data, .data, .data, .data, .sentinel, .sentinel, .data, .data, .pinned], laidTests := true, laidLooks := .later }
def PrintBackCardSaid : Prop := Claim7.holds Tryz.pinned (.plain (OpenSpec.ofChange printBackSpec)) printBackCard

/-- THE SECOND FORM's CARD OF 'marginalialaw03.TokenScans'. -/
def tokenScansUptoCard : Claim7 := { stood := { row := tokenScansUptoRow, standIns := [], harness := (true, "b7fd62ea3e1cb0ae30951ff2f781820105a8fe0c0743b841a15bd4ce99226292"), looks := true }, kinds := [], alts := [], laidByText := true, laidKinds := [.data, .data, .data, .data, .sentinel, .sentinel, .data, .data, .pinned], laidTests := true, laidLooks := .later }
def TokenScansUptoCardSaid : Prop := Claim7.holds Tryz.pinned (.plain (OpenSpec.upto tokenScansSpec)) tokenScansUptoCard

/-- THE SECOND FORM's CARD OF 'marginalialaw03.TokenAtoms'. -/
def tokenAtomsUptoCard : Claim7 := { stood := { row := tokenAtomsUptoRow, standIns := [], harness := (true, "b7fd62ea3e1cb0ae30951ff2f781820105a8fe0c0743b841a15bd4ce99226292"), looks := true }, kinds := [], alts := [], laidByText := true, laidKinds := [.data, .data, .data, .data, .sentinel, .sentinel, .data, .data, .pinned], laidTests := true, laidLooks := .later }
def TokenAtomsUptoCardSaid : Prop := Claim7.holds Tryz.pinned (.plain (OpenSpec.upto tokenAtomsSpec)) tokenAtomsUptoCard

/-- THE SECOND FORM's CARD OF 'marginalialaw05.PrintTexts'. -/
def printTextsUptoCard : Claim7 := { stood := { row := printTextsUptoRow, standIns := [], harness := (true, "b7fd62ea3e1cb0ae30951ff2f781820105a8fe0c0743b841a15bd4ce99226292"), looks := true }, kinds := [], alts := [], laidByText := true, laidKinds := [.data, .data, .data, .data, .sentinel, .sentinel, .data, .pinned], laidTests := true, laidLooks := .later }
def PrintTextsUptoCardSaid : Prop := Claim7.holds Tryz.pinned (.plain (OpenSpec.upto printTextsSpec)) printTextsUptoCard

/-- THE SECOND FORM's CARD OF 'marginalialaw05.PrintQuotes'. -/
def printQuotesUptoCard : Claim7 := { stood := { row := printQuotesUptoRow, standIns := [], harness := (true, "b7fd62ea3e1cb0ae30951ff2f781820105a8fe0c0743b841a15bd4ce99226292"), looks := true }, kinds := [], alts := [], laidByText := true, laidKinds := [.data, .data, .data, .data, .sentinel, .sentinel, .data, .pinned], laidTests := true, laidLooks := .later }
def PrintQuotesUptoCardSaid : Prop := Claim7.holds Tryz.pinned (.plain (OpenSpec.upto printQuotesSpec)) printQuotesUptoCard

/-- THE SECOND FORM's CARD OF 'marginalialaw05.PrintApart'. -/
def printApartUptoCard : Claim7 := { stood := { row := printApartUptoRow, standIns := [], harness := (true, "b7fd62ea3e1cb0ae30951ff2f781820105a8fe0c0743b841a15bd4ce99226292"), looks := true }, kinds := [], alts := [], laidByText := true, laidKinds := [.data, .data, .data, .data, .sentinel, .sentinel, .data, .pinned], laidTests := true, laidLooks := .later }
def PrintApartUptoCardSaid : Prop := Claim7.holds Tryz.pinned (.plain (OpenSpec.upto printApartSpec)) printApartUptoCard

/-- THE SECOND FORM's CARD OF 'marginalialaw05.PrintJoins'. -/
def printJoinsUptoCard : Claim7 := { stood := { row := printJoinsUptoRow, standIns := [], harness := (true, "b7fd62ea3e1cb0ae30951ff2f781820105a8fe0c0743b841a15bd4ce99226292"), looks := true }, kinds := [], alts := [], laidByText := true, laidKinds := [.data, .data, .data, .data, .sentinel, .sentinel, .data, .pinned], laidTests := true, laidLooks := .later }
def PrintJoinsUptoCardSaid : Prop := Claim7.holds Tryz.pinned (.plain (OpenSpec.upto printJoinsSpec)) printJoinsUptoCard

/-- THE SECOND FORM's CARD OF 'marginalialaw05.PrintBack'. -/
def printBackUptoCard : Claim7 := { stood := { row := printBackUptoRow, standIns := [], harness := (true, "b7fd62ea3e1cb0ae30951ff2f781820105a8fe0c0743b841a15bd4ce99226292"), looks := true }, kinds := [], alts := [], laidByText := true, laidKinds := [.data, .data, .data, .data, .sentinel, .sentinel, .data, .data, .pinned], laidTests := true, laidLooks := .later }
def PrintBackUptoCardSaid : Prop := Claim7.holds Tryz.pinned (.plain (OpenSpec.upto printBackSpec)) printBackUptoCard
end Rows
end Go.Proofs.YtejefchehdifhaaGreatDoor
