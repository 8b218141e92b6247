/-
  DERIVED. GIVEN WITH THE SEED: THE CARDS: each row of YtenkkekooimpjaaGreatDoorRows.lean that lists a variable, with what it lists TIED to the program's text (the seventh form; the later family's looks); each row that meets fmt, with fmt's text TOLD by the authors' own Lean function (tested against real Go, not proved from fmt's source: count such statements apart). THE CARD IS WHAT COUNTS. Prove the row's statement (the work); the ties are given (YtenkkekooimpjaaGreatDoorTie.lean); close each card by the builder's one call (the guide's Derived/Test/ToyasCard.lean, 'card_holds'). Laid BY PROGRAM, IN A SANDBOX (cutbox-door.mjs). By AI agents, Wed Nov 11 2026. No macro, syntax, notation, axiom, sorry.
-/
import Derived.Test.YtenkkekooimpjaaGreatDoorRows
import GoSem.ClaimSeven
namespace Go.Proofs.YtenkkekooimpjaaGreatDoor
namespace Rows

/-- THE TIED CARD OF 'marginalialaw04.ReadGives'. -/
def readGivesCard : Claim7 := { stood := { row := readGivesRow, standIns := [], harness := (true, "599665cc979de442e69c142b75cdfbabafec359deacebc3d3842f03d6df96406"), looks := true }, kinds := [], alts := [], laidByText := true, laidKinds := [.data, .data, .data, .data, .sentinel, .sentinel, .data, .data, .pinned], laidTests := true, laidLooks := .later }
def ReadGivesCardSaid : Prop := Claim7.holds Tryz.pinned (.plain (OpenSpec.ofChange readGivesSpec)) readGivesCard

/-- THE TIED CARD OF 'marginalialaw04.ReadDeep'. -/
def readDeepCard : Claim7 := { stood := { row := readDeepRow, standIns := [], harness := (true, "599665cc979de442e69c142b75cdfbabafec359deacebc3d3842f03d6df96406"), looks := true }, kinds := [], alts := [], laidByText := true, laidKinds := [.data, .data, .data, .data, .sentinel, .sentinel, .data, .data, .pinned], laidTests := true, laidLooks := .later }
def ReadDeepCardSaid : Prop := Claim7.holds Tryz.pinned (.plain (OpenSpec.ofChange readDeepSpec)) readDeepCard

/-- THE TIED CARD OF 'marginalialaw04.ReadMany'. -/
def readManyCard : Claim7 := { stood := { row := readManyRow, standIns := [], harness := (true, "599665cc979de442e69c142b75cdfbabafec359deacebc3d3842f03d6df96406"), looks := true }, kinds := [], alts := [], laidByText := true, laidKinds := [.data, .data, .data, .data, .sentinel, .sentinel, .data, .data, .pinned], laidTests := true, laidLooks := .later }
def ReadManyCardSaid : Prop := Claim7.holds Tryz.pinned (.plain (OpenSpec.ofChange readManySpec)) readManyCard

/-- THE TIED CARD OF 'marginalialaw04.ReadDots'. -/
def readDotsCard : Claim7 := { stood := { row := readDotsRow, standIns := [], harness := (true, "599665cc979de442e69c142b75cdfbabafec359deacebc3d3842f03d6df96406"), looks := true }, kinds := [], alts := [], laidByText := true, laidKinds := [.data, .data, .data, .data, .sentinel, .sentinel, .data, .data, .pinned], laidTests := true, laidLooks := .later }
def ReadDotsCardSaid : Prop := Claim7.holds Tryz.pinned (.plain (OpenSpec.ofChange readDotsSpec)) readDotsCard

/-- THE TIED CARD OF 'marginalialaw04.ReadSame'. -/
def readSameCard : Claim7 := { stood := { row := readSameRow, standIns := [], harness := (true, "599665cc979de442e69c142b75cdfbabafec359deacebc3d3842f03d6df96406"), looks := true }, kinds := [], alts := [], laidByText := true, laidKinds := [.data, .data, .data, .data, .sentinel, .sentinel, .data, .data, .pinned], laidTests := true, laidLooks := .later }
def ReadSameCardSaid : Prop := Claim7.holds Tryz.pinned (.plain (OpenSpec.ofChange readSameSpec)) readSameCard

/-- THE TIED CARD OF 'marginalialaw04.ReadShorts'. -/
def readShortsCard : Claim7 := { stood := { row := readShortsRow, standIns := [], harness := (true, "599665cc979de442e69c142b75cdfbabafec359deacebc3d3842f03d6df96406"), looks := true }, kinds := [], alts := [], laidByText := true, laidKinds := [.data, .data, .data, .data, .sentinel, .sentinel, .data, .data, .pinned], laidTests := true, laidLooks := .later }
def ReadShortsCardSaid : Prop := Claim7.holds Tryz.pinned (.plain (OpenSpec.ofChange readShortsSpec)) readShortsCard

/-- THE TIED CARD OF 'marginalialaw04.ReadSound'. -/
def readSoundCard : Claim7 := { stood := { row := readSoundRow, standIns := [], harness := (true, "599665cc979de442e69c142b75cdfbabafec359deacebc3d3842f03d6df96406"), looks := true }, kinds := [], alts := [], laidByText := true, laidKinds := [.data, .data, .data, .data, .sentinel, .sentinel, .data, .data, .pinned], laidTests := true, laidLooks := .later }
def ReadSoundCardSaid : Prop := Claim7.holds Tryz.pinned (.plain (OpenSpec.ofChange readSoundSpec)) readSoundCard

/-- THE TIED CARD OF 'marginalialaw05.PrintApart'. -/
def printApartCard : Claim7 := { stood := { row := printApartRow, standIns := [], harness := (true, "599665cc979de442e69c142b75cdfbabafec359deacebc3d3842f03d6df96406"), looks := true }, kinds := [], alts := [], laidByText := true, laidKinds := [.data, .data, .data, .data, .sentinel, .sentinel, .data, .pinned], laidTests := true, laidLooks := .later }
def PrintApartCardSaid : Prop := Claim7.holds Tryz.pinned (.plain (OpenSpec.ofChange printApartSpec)) printApartCard

/-- THE TIED CARD OF 'marginalialaw05.PrintBack'. -/
def printBackCard : Claim7 := { stood := { row := printBackRow, standIns := [], harness := (true, "599665cc979de442e69c142b75cdfbabafec359deacebc3d3842f03d6df96406"), looks := true }, kinds := [], alts := [], laidByText := true, laidKinds := [.data, .data, .data, .data, .sentinel, .sentinel, .data, .data, .pinned], laidTests := true, laidLooks := .later }
def PrintBackCardSaid : Prop := Claim7.holds Tryz.pinned (.plain (OpenSpec.ofChange printBackSpec)) printBackCard

/-- THE TIED CARD OF 'marginalialaw14.CoreFrames'. -/
def coreFramesCard : Claim7 := { stood := { row := coreFramesRow, standIns := [], harness := (true, "599665cc979de442e69c142b75cdfbabafec359deacebc3d3842f03d6df96406"), looks := true }, kinds := [], alts := [], laidByText := true, laidKinds := [.data, .data, .data, .data, .sentinel, .sentinel, .data, .pinned], laidTests := true, laidLooks := .later }
def CoreFramesCardSaid : Prop := Claim7.holds Tryz.pinned (.plain (OpenSpec.ofChange coreFramesSpec)) coreFramesCard

/-- THE TIED CARD OF 'marginalialaw14.CoreSound'. -/
def coreSoundCard : Claim7 := { stood := { row := coreSoundRow, standIns := [], harness := (true, "599665cc979de442e69c142b75cdfbabafec359deacebc3d3842f03d6df96406"), looks := true }, kinds := [], alts := [], laidByText := true, laidKinds := [.data, .data, .data, .data, .sentinel, .sentinel, .data, .pinned], laidTests := true, laidLooks := .later }
def CoreSoundCardSaid : Prop := Claim7.holds Tryz.pinned (.plain (OpenSpec.ofChange coreSoundSpec)) coreSoundCard

/-- THE TIED CARD OF 'marginalialaw14.CoreDeep'. -/
def coreDeepCard : Claim7 := { stood := { row := coreDeepRow, standIns := [], harness := (true, "599665cc979de442e69c142b75cdfbabafec359deacebc3d3842f03d6df96406"), looks := true }, kinds := [], alts := [], laidByText := true, laidKinds := [.data, .data, .data, .data, .sentinel, .sentinel, .data, .pinned], laidTests := true, laidLooks := .later }
def CoreDeepCardSaid : Prop := Claim7.holds Tryz.pinned (.plain (OpenSpec.ofChange coreDeepSpec)) coreDeepCard

/-- THE SECOND FORM's CARD OF 'marginalialaw04.ReadGives'. -/
def readGivesUptoCard : Claim7 := { stood := { row := readGivesUptoRow, standIns := [], harness := (true, "599665cc979de442e69c142b75cdfbabafec359deacebc3d3842f03d6df96406"), looks := true }, kinds := [], alts := [], laidByText := true, laidKinds := [.data, .data, .data, .data, .sentinel, .sentinel, .data, .data, .pinned], laidTests := true, laidLooks := .later }
def ReadGivesUptoCardSaid : Prop := Claim7.holds Tryz.pinned (.plain (OpenSpec.upto readGivesSpec)) readGivesUptoCard

/-- THE SECOND FORM's CARD OF 'marginalialaw04.ReadDeep'. -/
def readDeepUptoCard : Claim7 := { stood := { row := readDeepUptoRow, standIns := [], harness := (true, "599665cc979de442e69c142b75cdfbabafec359deacebc3d3842f03d6df96406"), looks := true }, kinds := [], alts := [], laidByText := true, laidKinds := [.data, .data, .data, .data, .sentinel, .sentinel, .data, .data, .pinned], laidTests := true, laidLooks := .later }
def ReadDeepUptoCardSaid : Prop := Claim7.holds Tryz.pinned (.plain (OpenSpec.upto readDeepSpec)) readDeepUptoCard

/-- THE SECOND FORM's CARD OF 'marginalialaw04.ReadMany'. -/
def readManyUptoCard : Claim7 := { stood := { row := readManyUptoRow, standIns := [], harness := (true, "599665cc979de442e69c142b75cdfbabafec359deacebc3d3842f03d6df96406"), looks := true }, kinds := [], alts := [], laidByText := true, laidKinds := [.data, .data, .data, .data, .sentinel, .sentinel, .data, .data, .pinned], laidTests := true, laidLooks := .later }
def ReadManyUptoCardSaid : Prop := Claim7.holds Tryz.pinned (.plain (OpenSpec.upto readManySpec)) readManyUptoCard

/-- THE SECOND FORM's CARD OF 'marginalialaw04.ReadDots'. -/
def readDotsUptoCard : Claim7 := { stood := { row := readDotsUptoRow, standIns := [], harness := (true, "599665cc979de442e69c142b75cdfbabafec359deacebc3d3842f03d6df96406"), looks := true }, kinds := [], alts := [], laidByText := true, laidKinds := [.data, .data, .data, .data, .sentinel, .sentinel, .data, .data, .pinned], laidTests := true, laidLooks := .later }
def ReadDotsUptoCardSaid : Prop := Claim7.holds Tryz.pinned (.plain (OpenSpec.upto readDotsSpec)) readDotsUptoCard

/-- THE SECOND FORM's CARD OF 'marginalialaw04.ReadSame'. -/
def readSameUptoCard : Claim7 := { stood := { row := readSameUptoRow, standIns := [], harness := (true, "599665cc979de442e69c142b75cdfbabafec359deacebc3d3842f03d6df96406"), looks := true }, kinds := [], alts := [], laidByText := true, laidKinds := [.data, .data, .data, .data, .sentinel, .sentinel, .data, .data, .pinned], laidTests := true, laidLooks := .later }
def ReadSameUptoCardSaid : Prop := Claim7.holds Tryz.pinned (.plain (OpenSpec.upto readSameSpec)) readSameUptoCard

/-- THE SECOND FORM's CARD OF 'marginalialaw04.ReadShorts'. -/
def readShortsUptoCard : Claim7 := { stood := { row := readShortsUptoRow, standIns := [], harness := (true, "599665cc979de442e69c142b75cdfbabafec359deacebc3d3842f03d6df96406"), looks := true }, kinds := [], alts := [], laidByText := true, laidKinds := [.data, .data, .data, .data, .sentinel, .sentinel, .data, .data, .pinned], laidTests := true, laidLooks := .later }
def ReadShortsUptoCardSaid : Prop := Claim7.holds Tryz.pinned (.plain (OpenSpec.upto readShortsSpec)) readShortsUptoCard

/-- THE SECOND FORM's CARD OF 'marginalialaw04.ReadSound'. -/
def readSoundUptoCard : Claim7 := { stood := { row := readSoundUptoRow, standIns := [], harness := (true, "599665cc979de442e69c142b75cdfbabafec359deacebc3d3842f03d6df96406"), looks := true }, kinds := [], alts := [], laidByText := true, laidKinds := [.data, .data, .data, .data, .sentinel, .sentinel, .data, .data, .pinned], laidTests := true, laidLooks := .later }
def ReadSoundUptoCardSaid : Prop := Claim7.holds Tryz.pinned (.plain (OpenSpec.upto readSoundSpec)) readSoundUptoCard

/-- THE SECOND FORM's CARD OF 'marginalialaw05.PrintApart'. -/
def printApartUptoCard : Claim7 := { stood := { row := printApartUptoRow, standIns := [], harness := (true, "599665cc979de442e69c142b75cdfbabafec359deacebc3d3842f03d6df96406"), looks := true }, kinds := [], alts := [], laidByText := true, laidKinds := [.data, .data, .data, .data, .sentinel, .sentinel, .data, .pinned], laidTests := true, laidLooks := .later }
def PrintApartUptoCardSaid : Prop := Claim7.holds Tryz.pinned (.plain (OpenSpec.upto printApartSpec)) printApartUptoCard

/-- THE SECOND FORM's CARD OF 'marginalialaw05.PrintBack'. -/
def printBackUptoCard : Claim7 := { stood := { row := printBackUptoRow, standIns := [], harness := (true, "599665cc979de442e69c142b75cdfbabafec359deacebc3d3842f03d6df96406"), looks := true }, kinds := [], alts := [], laidByText := true, laidKinds := [.data, .data, .data, .data, .sentinel, .sentinel, .data, .data, .pinned], laidTests := true, laidLooks := .later }
def PrintBackUptoCardSaid : Prop := Claim7.holds Tryz.pinned (.plain (OpenSpec.upto printBackSpec)) printBackUptoCard

/-- THE SECOND FORM's CARD OF 'marginalialaw14.CoreFrames'. -/
def coreFramesUptoCard : Claim7 := { stood := { row := coreFramesUptoRow, standIns := [], harness := (true, "599665cc979de442e69c142b75cdfbabafec359deacebc3d3842f03d6df96406"), looks := true }, kinds := [], alts := [], laidByText := true, laidKinds := [.data, .data, .data, .data, .sentinel, .sentinel, .data, .pinned], laidTests := true, laidLooks := .later }
def CoreFramesUptoCardSaid : Prop := Claim7.holds Tryz.pinned (.plain (OpenSpec.upto coreFramesSpec)) coreFramesUptoCard

/-- THE SECOND FORM's CARD OF 'marginalialaw14.CoreSound'. -/
def coreSoundUptoCard : Claim7 := { stood := { row := coreSoundUptoRow, standIns := [], harness := (true, "599665cc979de442e69c142b75cdfbabafec359deacebc3d3842f03d6df96406"), looks := true }, kinds := [], alts := [], laidByText := true, laidKinds := [.data, .data, .data, .data, .sentinel, .sentinel, .data, .pinned], laidTests := true, laidLooks := .later }
def CoreSoundUptoCardSaid : Prop := Claim7.holds Tryz.pinned (.plain (OpenSpec.upto coreSoundSpec)) coreSoundUptoCard

/-- THE SECOND FORM's CARD OF 'marginalialaw14.CoreDeep'. -/
def coreDeepUptoCard : Claim7 := { stood := { row := coreDeepUptoRow, standIns := [], harness := (true, "599665cc979de442e69c142b75cdfbabafec359deacebc3d3842f03d6df96406"), looks := true }, kinds := [], alts := [], laidByText := true, laidKinds := [.data, .data, .data, .data, .sentinel, .sentinel, .data, .pinned], laidTests := true, laidLooks := .later }
def CoreDeepUptoCardSaid : Prop := Claim7.holds Tryz.pinned (.plain (OpenSpec.upto coreDeepSpec)) coreDeepUptoCard
end Rows
end Go.Proofs.YtenkkekooimpjaaGreatDoor
