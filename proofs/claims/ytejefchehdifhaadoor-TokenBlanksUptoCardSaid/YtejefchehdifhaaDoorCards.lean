/-
  DERIVED. GIVEN WITH THE SEED: THE CARDS: each row of YtejefchehdifhaaDoorRows.lean that lists a variable, with what it lists TIED to the program's text (the seventh form; the later family's looks); each row that meets fmt, with fmt's text TOLD by the authors' own Lean function (tested against real Go, not proved from fmt's source: count such statements apart). THE CARD IS WHAT COUNTS. Prove the row's statement (the work); the ties are given (YtejefchehdifhaaDoorTie.lean); close each card by the builder's one call (the guide's Derived/Test/ToyasCard.lean, 'card_holds'). Laid BY PROGRAM, IN A SANDBOX (cutbox-door.mjs). By AI agents, Wed Nov 11 2026. No macro, syntax, notation, axiom, sorry.
-/
import Derived.Test.YtejefchehdifhaaDoorRows
import GoSem.ClaimSeven
namespace Go.Proofs.YtejefchehdifhaaDoor
namespace Rows

/-- THE TIED CARD OF 'marginalialaw03.TokenBlanks'. -/
def tokenBlanksCard : Claim7 := { stood := { row := tokenBlanksRow, standIns := [], harness := (true, "1082c8195d53d4c379180013bf5bbf77daab47af34830393639ba355cb98f386"), looks := true }, kinds := [], alts := [], laidByText := true, laidKinds := [.data, .data, .data, .data, .sentinel, .sentinel, .data, .data, .pinned], laidTests := true, laidLooks := .later }
def TokenBlanksCardSaid : Prop := Claim7.holds Tryd.pinned (.plain (OpenSpec.ofChange tokenBlanksSpec)) tokenBlanksCard

/-- THE TIED CARD OF 'marginalialaw03.TokenStrings'. -/
def tokenStringsCard : Claim7 := { stood := { row := tokenStringsRow, standIns := [], harness := (true, "1082c8195d53d4c379180013bf5bbf77daab47af34830393639ba355cb98f386"), looks := true }, kinds := [], alts := [], laidByText := true, laidKinds := [.data, .data, .data, .data, .sentinel, .sentinel, .data, .data, .pinned], laidTests := true, laidLooks := .later }
def TokenStringsCardSaid : Prop := Claim7.holds Tryd.pinned (.plain (OpenSpec.ofChange tokenStringsSpec)) tokenStringsCard

/-- THE TIED CARD OF 'marginalialaw03.TokenLong'. -/
def tokenLongCard : Claim7 := { stood := { row := tokenLongRow, standIns := [], harness := (true, "1082c8195d53d4c379180013bf5bbf77daab47af34830393639ba355cb98f386"), looks := true }, kinds := [], alts := [], laidByText := true, laidKinds := [.data, .data, .data, .data, .sentinel, .sentinel, .data, .data, .pinned], laidTests := true, laidLooks := .later }
def TokenLongCardSaid : Prop := Claim7.holds Tryd.pinned (.plain (OpenSpec.ofChange tokenLongSpec)) tokenLongCard

/-- THE TIED CARD OF 'marginalialaw03.TokenWords'. -/
def tokenWordsCard : Claim7 := { stood := { row := tokenWordsRow, standIns := [], harness := (true, "1082c8195d53d4c379180013bf5bbf77daab47af34830393639ba355cb98f386"), looks := true }, kinds := [], alts := [], laidByText := true, laidKinds := [.data, .data, .data, .data, .sentinel, .sentinel, .data, .data, .pinned], laidTests := true, laidLooks := .later }
def TokenWordsCardSaid : Prop := Claim7.holds Tryd.pinned (.plain (OpenSpec.ofChange tokenWordsSpec)) tokenWordsCard

/-- THE SECOND FORM's CARD OF 'marginalialaw03.TokenBlanks'. -/
def tokenBlanksUptoCard : Claim7 := { stood := { row := tokenBlanksUptoRow, standIns := [], harness := (true, "1082c8195d53d4c379180013bf5bbf77daab47af34830393639ba355cb98f386"), looks := true }, kinds := [], alts := [], laidByText := true, laidKinds := [.data, .data, .data, .data, .sentinel, .sentinel, .data, .data, .pinned], laidTests := true, laidLooks := .later }
def TokenBlanksUptoCardSaid : Prop := Claim7.holds Tryd.pinned (.plain (OpenSpec.upto tokenBlanksSpec)) tokenBlanksUptoCard

/-- THE SECOND FORM's CARD OF 'marginalialaw03.TokenStrings'. -/
def tokenStringsUptoCard : Claim7 := { stood := { row := tokenStringsUptoRow, standIns := [], harness := (true, "1082c8195d53d4c379180013bf5bbf77daab47af34830393639ba355cb98f386"), looks := true }, kinds := [], alts := [], laidByText := true, laidKinds := [.data, .data, .data, .data, .sentinel, .sentinel, .data, .data, .pinned], laidTests := true, laidLooks := .later }
def TokenStringsUptoCardSaid : Prop := Claim7.holds Tryd.pinned (.plain (OpenSpec.upto tokenStringsSpec)) tokenStringsUptoCard

/-- THE SECOND FORM's CARD OF 'marginalialaw03.TokenLong'. -/
def tokenLongUptoCard : Claim7 := { stood := { row := tokenLongUptoRow, standIns := [], harness := (true, "1082c8195d53d4c379180013bf5bbf77daab47af34830393639ba355cb98f386"), looks := true }, kinds := [], alts := [], laidByText := true, laidKinds := [.data, .data, .data, .data, .sentinel, .sentinel, .data, .data, .pinned], laidTests := true, laidLooks := .later }
def TokenLongUptoCardSaid : Prop := Claim7.holds Tryd.pinned (.plain (OpenSpec.upto tokenLongSpec)) tokenLongUptoCard

/-- THE SECOND FORM's CARD OF 'marginalialaw03.TokenWords'. -/
def tokenWordsUptoCard : Claim7 := { stood := { row := tokenWordsUptoRow, standIns := [], harness := (true, "1082c8195d53d4c379180013bf5bbf77daab47af34830393639ba355cb98f386"), looks := true }, kinds := [], alts := [], laidByText := true, laidKinds := [.data, .data, .data, .data, .sentinel, .sentinel, .data, .data, .pinned], laidTests := true, laidLooks := .later }
def TokenWordsUptoCardSaid : Prop := Claim7.holds Tryd.pinned (.plain (OpenSpec.upto tokenWordsSpec)) tokenWordsUptoCard
end Rows
end Go.Proofs.YtejefchehdifhaaDoor
