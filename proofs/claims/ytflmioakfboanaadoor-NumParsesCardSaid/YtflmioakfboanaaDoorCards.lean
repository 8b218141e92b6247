/-
  DERIVED. GIVEN WITH THE SEED: THE CARDS: each row of YtflmioakfboanaaDoorRows.lean that lists a variable, with what it lists TIED to the program's text (the seventh form; the later family's looks); each row that meets fmt, with fmt's text TOLD by the authors' own Lean function (tested against real Go, not proved from fmt's source: count such statements apart). THE CARD IS WHAT COUNTS. Prove the row's statement (the work); the ties are given (YtflmioakfboanaaDoorTie.lean); close each card by the builder's one call (the guide's Derived/Test/ToyasCard.lean, 'card_holds'). Laid BY PROGRAM, IN A SANDBOX (cutbox-door.mjs). By AI agents, Wed Nov 11 2026. No macro, syntax, notation, axiom, sorry.
-/
import Derived.Test.YtflmioakfboanaaDoorRows
import GoSem.ClaimSeven
namespace Go.Proofs.YtflmioakfboanaaDoor
namespace Rows

/-- THE TIED CARD OF 'marginalialaw01.NumTimes'. -/
def numTimesCard : Claim7 := { stood := { row := numTimesRow, standIns := [], harness := (true, "c882deb6c08a6e4fc319056acccbaaa87bfe25e16c1c8d476e088865a2e3e750"), looks := true }, kinds := [], alts := [], laidByText := true, laidKinds := [.data, .data, .data], laidTests := true, laidLooks := .later }
def NumTimesCardSaid : Prop := Claim7.holds Tryd.pinned (.plain (OpenSpec.ofChange numTimesSpec)) numTimesCard

/-- THE TIED CARD OF 'marginalialaw01.NumSums'. -/
def numSumsCard : Claim7 := { stood := { row := numSumsRow, standIns := [], harness := (true, "c882deb6c08a6e4fc319056acccbaaa87bfe25e16c1c8d476e088865a2e3e750"), looks := true }, kinds := [], alts := [], laidByText := true, laidKinds := [.data, .data, .data], laidTests := true, laidLooks := .later }
def NumSumsCardSaid : Prop := Claim7.holds Tryd.pinned (.plain (OpenSpec.ofChange numSumsSpec)) numSumsCard

/-- THE TIED CARD OF 'marginalialaw01.NumRing'. -/
def numRingCard : Claim7 := { stood := { row := numRingRow, standIns := [], harness := (true, "c882deb6c08a6e4fc319056acccbaaa87bfe25e16c1c8d476e088865a2e3e750"), looks := true }, kinds := [], alts := [], laidByText := true, laidKinds := [.data, .data, .data], laidTests := true, laidLooks := .later }
def NumRingCardSaid : Prop := Claim7.holds Tryd.pinned (.plain (OpenSpec.ofChange numRingSpec)) numRingCard

/-- THE TIED CARD OF 'marginalialaw01.NumDivides'. -/
def numDividesCard : Claim7 := { stood := { row := numDividesRow, standIns := [], harness := (true, "c882deb6c08a6e4fc319056acccbaaa87bfe25e16c1c8d476e088865a2e3e750"), looks := true }, kinds := [], alts := [], laidByText := true, laidKinds := [.data, .data, .data], laidTests := true, laidLooks := .later }
def NumDividesCardSaid : Prop := Claim7.holds Tryd.pinned (.plain (OpenSpec.ofChange numDividesSpec)) numDividesCard

/-- THE TIED CARD OF 'marginalialaw01.NumDoubles'. -/
def numDoublesCard : Claim7 := { stood := { row := numDoublesRow, standIns := [], harness := (true, "c882deb6c08a6e4fc319056acccbaaa87bfe25e16c1c8d476e088865a2e3e750"), looks := true }, kinds := [], alts := [], laidByText := true, laidKinds := [.data, .data, .data], laidTests := true, laidLooks := .later }
def NumDoublesCardSaid : Prop := Claim7.holds Tryd.pinned (.plain (OpenSpec.ofChange numDoublesSpec)) numDoublesCard

/-- THE TIED CARD OF 'marginalialaw01.NumTexts'. -/
def numTextsCard : Claim7 := { stood := { row := numTextsRow, standIns := [], harness := (true, "c882deb6c08a6e4fc319056acccbaaa87bfe25e16c1c8d476e088865a2e3e750"), looks := true }, kinds := [], alts := [], laidByText := true, laidKinds := [.data, .data, .data, .sentinel, .sentinel], laidTests := true, laidLooks := .later }
def NumTextsCardSaid : Prop := Claim7.holds Tryd.pinned (.plain (OpenSpec.ofChange numTextsSpec)) numTextsCard

/-- THE TIED CARD OF 'marginalialaw01.NumWhole'. -/
def numWholeCard : Claim7 := { stood := { row := numWholeRow, standIns := [], harness := (true, "c882deb6c08a6e4fc319056acccbaaa87bfe25e16c1c8d476e088865a2e3e750"), looks := true }, kinds := [], alts := [], laidByText := true, laidKinds := [.data, .data, .data], laidTests := true, laidLooks := .later }
def NumWholeCardSaid : Prop := Claim7.holds Tryd.pinned (.plain (OpenSpec.ofChange numWholeSpec)) numWholeCard

/-- THE TIED CARD OF 'marginalialaw01.NumParses'. -/
def numParsesCard : Claim7 := { stood := { row := numParsesRow, standIns := [], harness := (true, "c882deb6c08a6e4fc319056acccbaaa87bfe25e16c1c8d476e088865a2e3e750"), looks := true }, kinds := [], alts := [], laidByText := true, laidKinds := [.data, .data, .data, .data, .sentinel, .sentinel, .pinned], laidTests := true, laidLooks := .later }
def NumParsesCardSaid : Prop := Claim7.holds Tryd.pinned (.plain (OpenSpec.ofChange numParsesSpec)) numParsesCard

/-- THE TIED CARD OF 'marginalialaw01.NumBack'. -/
def numBackCard : Claim7 := { stood := { row := numBackRow, standIns := [], harness := (true, "c882deb6c08a6e4fc319056acccbaaa87bfe25e16c1c8d476e088865a2e3e750"), looks := true }, kinds := [], alts := [], laidByText := true, laidKinds := [.data, .data, .data, .data, .sentinel, .sentinel, .pinned], laidTests := true, laidLooks := .later }
def NumBackCardSaid : Prop := Claim7.holds Tryd.pinned (.plain (OpenSpec.ofChange numBackSpec)) numBackCard

/-- THE SECOND FORM's CARD OF 'marginalialaw01.NumTimes'. -/
def numTimesUptoCard : Claim7 := { stood := { row := numTimesUptoRow, standIns := [], harness := (true, "c882deb6c08a6e4fc319056acccbaaa87bfe25e16c1c8d476e088865a2e3e750"), looks := true }, kinds := [], alts := [], laidByText := true, laidKinds := [.data, .data, .data], laidTests := true, laidLooks := .later }
def NumTimesUptoCardSaid : Prop := Claim7.holds Tryd.pinned (.plain (OpenSpec.upto numTimesSpec)) numTimesUptoCard

/-- THE SECOND FORM's CARD OF 'marginalialaw01.NumSums'. -/
def numSumsUptoCard : Claim7 := { stood := { row := numSumsUptoRow, standIns := [], harness := (true, "c882deb6c08a6e4fc319056acccbaaa87bfe25e16c1c8d476e088865a2e3e750"), looks := true }, kinds := [], alts := [], laidByText := true, laidKinds := [.data, .data, .data], laidTests := true, laidLooks := .later }
def NumSumsUptoCardSaid : Prop := Claim7.holds Tryd.pinned (.plain (OpenSpec.upto numSumsSpec)) numSumsUptoCard

/-- THE SECOND FORM's CARD OF 'marginalialaw01.NumRing'. -/
def numRingUptoCard : Claim7 := { stood := { row := numRingUptoRow, standIns := [], harness := (true, "c882deb6c08a6e4fc319056acccbaaa87bfe25e16c1c8d476e088865a2e3e750"), looks := true }, kinds := [], alts := [], laidByText := true, laidKinds := [.data, .data, .data], laidTests := true, laidLooks := .later }
def NumRingUptoCardSaid : Prop := Claim7.holds Tryd.pinned (.plain (OpenSpec.upto numRingSpec)) numRingUptoCard

/-- THE SECOND FORM's CARD OF 'marginalialaw01.NumDivides'. -/
def numDividesUptoCard : Claim7 := { stood := { row := numDividesUptoRow, standIns := [], harness := (true, "c882deb6c08a6e4fc319056acccbaaa87bfe25e16c1c8d476e088865a2e3e750"), looks := true }, kinds := [], alts := [], laidByText := true, laidKinds := [.data, .data, .data], laidTests := true, laidLooks := .later }
def NumDividesUptoCardSaid : Prop := Claim7.holds Tryd.pinned (.plain (OpenSpec.upto numDividesSpec)) numDividesUptoCard

/-- THE SECOND FORM's CARD OF 'marginalialaw01.NumDoubles'. -/
def numDoublesUptoCard : Claim7 := { stood := { row := numDoublesUptoRow, standIns := [], harness := (true, "c882deb6c08a6e4fc319056acccbaaa87bfe25e16c1c8d476e088865a2e3e750"), looks := true }, kinds := [], alts := [], laidByText := true, laidKinds := [.data, .data, .data], laidTests := true, laidLooks := .later }
def NumDoublesUptoCardSaid : Prop := Claim7.holds Tryd.pinned (.plain (OpenSpec.upto numDoublesSpec)) numDoublesUptoCard

/-- THE SECOND FORM's CARD OF 'marginalialaw01.NumTexts'. -/
def numTextsUptoCard : Claim7 := { stood := { row := numTextsUptoRow, standIns := [], harness := (true, "c882deb6c08a6e4fc319056acccbaaa87bfe25e16c1c8d476e088865a2e3e750"), looks := true }, kinds := [], alts := [], laidByText := true, laidKinds := [.data, .data, .data, .sentinel, .sentinel], laidTests := true, laidLooks := .later }
def NumTextsUptoCardSaid : Prop := Claim7.holds Tryd.pinned (.plain (OpenSpec.upto numTextsSpec)) numTextsUptoCard

/-- THE SECOND FORM's CARD OF 'marginalialaw01.NumWhole'. -/
def numWholeUptoCard : Claim7 := { stood := { row := numWholeUptoRow, standIns := [], harness := (true, "c882deb6c08a6e4fc319056acccbaaa87bfe25e16c1c8d476e088865a2e3e750"), looks := true }, kinds := [], alts := [], laidByText := true, laidKinds := [.data, .data, .data], laidTests := true, laidLooks := .later }
def NumWholeUptoCardSaid : Prop := Claim7.holds Tryd.pinned (.plain (OpenSpec.upto numWholeSpec)) numWholeUptoCard

/-- THE SECOND FORM's CARD OF 'marginalialaw01.NumParses'. -/
def numParsesUptoCard : Claim7 := { stood := { row := numParsesUptoRow, standIns := [], harness := (true, "c882deb6c08a6e4fc319056acccbaaa87bfe25e16c1c8d476e088865a2e3e750"), looks := true }, kinds := [], alts := [], laidByText := true, laidKinds := [.data, .data, .data, .data, .sentinel, .sentinel, .pinned], laidTests := true, laidLooks := .later }
def NumParsesUptoCardSaid : Prop := Claim7.holds Tryd.pinned (.plain (OpenSpec.upto numParsesSpec)) numParsesUptoCard

/-- THE SECOND FORM's CARD OF 'marginalialaw01.NumBack'. -/
def numBackUptoCard : Claim7 := { stood := { row := numBackUptoRow, standIns := [], harness := (true, "c882deb6c08a6e4fc319056acccbaaa87bfe25e16c1c8d476e088865a2e3e750"), looks := true }, kinds := [], alts := [], laidByText := true, laidKinds := [.data, .data, .data, .data, .sentinel, .sentinel, .pinned], laidTests := true, laidLooks := .later }
def NumBackUptoCardSaid : Prop := Claim7.holds Tryd.pinned (.plain (OpenSpec.upto numBackSpec)) numBackUptoCard
end Rows
end Go.Proofs.YtflmioakfboanaaDoor
