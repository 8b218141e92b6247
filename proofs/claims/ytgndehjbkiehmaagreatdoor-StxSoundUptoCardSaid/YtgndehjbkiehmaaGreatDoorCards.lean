/-
  DERIVED. GIVEN WITH THE SEED: THE CARDS: each row of YtgndehjbkiehmaaGreatDoorRows.lean that lists a variable, with what it lists TIED to the program's text (the seventh form; the later family's looks); each row that meets fmt, with fmt's text TOLD by the authors' own Lean function (tested against real Go, not proved from fmt's source: count such statements apart). THE CARD IS WHAT COUNTS. Prove the row's statement (the work); the ties are given (YtgndehjbkiehmaaGreatDoorTie.lean); close each card by the builder's one call (the guide's Derived/Test/ToyasCard.lean, 'card_holds'). Laid BY PROGRAM, IN A SANDBOX (cutbox-door.mjs). By AI agents, Wed Nov 11 2026. No macro, syntax, notation, axiom, sorry.
-/
import Derived.Test.YtgndehjbkiehmaaGreatDoorRows
import GoSem.ClaimSeven
namespace Go.Proofs.YtgndehjbkiehmaaGreatDoor
namespace Rows

/-- THE TIED CARD OF 'marginalialaw10.StxOf'. -/
def stxOfCard : Claim7 := { stood := { row := stxOfRow, standIns := [], harness := (true, "4d25cbcc0f8e778f5bc7b4033c924dc58881c985cd595b2e067ed6331bd0997c"), looks := true }, kinds := [], alts := [], laidByText := true, laidKinds := [.data, .data, .data, .data, .sentinel, .sentinel, .pinned], laidTests := true, laidLooks := .later }
def StxOfCardSaid : Prop := Claim7.holds Tryz.pinned (.plain (OpenSpec.ofChange stxOfSpec)) stxOfCard

/-- THE TIED CARD OF 'marginalialaw10.StxSound'. -/
def stxSoundCard : Claim7 := { stood := { row := stxSoundRow, standIns := [], harness := (true, "4d25cbcc0f8e778f5bc7b4033c924dc58881c985cd595b2e067ed6331bd0997c"), looks := true }, kinds := [], alts := [], laidByText := true, laidKinds := [.data, .data, .data, .data, .sentinel, .sentinel, .pinned], laidTests := true, laidLooks := .later }
def StxSoundCardSaid : Prop := Claim7.holds Tryz.pinned (.plain (OpenSpec.ofChange stxSoundSpec)) stxSoundCard

/-- THE TIED CARD OF 'marginalialaw10.StxPushes'. -/
def stxPushesCard : Claim7 := { stood := { row := stxPushesRow, standIns := [], harness := (true, "4d25cbcc0f8e778f5bc7b4033c924dc58881c985cd595b2e067ed6331bd0997c"), looks := true }, kinds := [], alts := [], laidByText := true, laidKinds := [.data, .data, .data, .data, .sentinel, .sentinel, .pinned], laidTests := true, laidLooks := .later }
def StxPushesCardSaid : Prop := Claim7.holds Tryz.pinned (.plain (OpenSpec.ofChange stxPushesSpec)) stxPushesCard

/-- THE TIED CARD OF 'marginalialaw10.StxKeeps'. -/
def stxKeepsCard : Claim7 := { stood := { row := stxKeepsRow, standIns := [], harness := (true, "4d25cbcc0f8e778f5bc7b4033c924dc58881c985cd595b2e067ed6331bd0997c"), looks := true }, kinds := [], alts := [], laidByText := true, laidKinds := [.data, .data, .data, .data, .sentinel, .sentinel, .pinned], laidTests := true, laidLooks := .later }
def StxKeepsCardSaid : Prop := Claim7.holds Tryz.pinned (.plain (OpenSpec.ofChange stxKeepsSpec)) stxKeepsCard

/-- THE TIED CARD OF 'marginalialaw10.StxSame'. -/
def stxSameCard : Claim7 := { stood := { row := stxSameRow, standIns := [], harness := (true, "4d25cbcc0f8e778f5bc7b4033c924dc58881c985cd595b2e067ed6331bd0997c"), looks := true }, kinds := [], alts := [], laidByText := true, laidKinds := [.data, .data, .data, .data, .sentinel, .sentinel, .pinned], laidTests := true, laidLooks := .later }
def StxSameCardSaid : Prop := Claim7.holds Tryz.pinned (.plain (OpenSpec.ofChange stxSameSpec)) stxSameCard

/-- THE TIED CARD OF 'marginalialaw10.StxLazy'. -/
def stxLazyCard : Claim7 := { stood := { row := stxLazyRow, standIns := [], harness := (true, "4d25cbcc0f8e778f5bc7b4033c924dc58881c985cd595b2e067ed6331bd0997c"), looks := true }, kinds := [], alts := [], laidByText := true, laidKinds := [.data, .data, .data, .data, .sentinel, .sentinel, .pinned], laidTests := true, laidLooks := .later }
def StxLazyCardSaid : Prop := Claim7.holds Tryz.pinned (.plain (OpenSpec.ofChange stxLazySpec)) stxLazyCard

/-- THE SECOND FORM's CARD OF 'marginalialaw10.StxOf'. -/
def stxOfUptoCard : Claim7 := { stood := { row := stxOfUptoRow, standIns := [], harness := (true, "4d25cbcc0f8e778f5bc7b4033c924dc58881c985cd595b2e067ed6331bd0997c"), looks := true }, kinds := [], alts := [], laidByText := true, laidKinds := [.data, .data, .data, .data, .sentinel, .sentinel, .pinned], laidTests := true, laidLooks := .later }
def StxOfUptoCardSaid : Prop := Claim7.holds Tryz.pinned (.plain (OpenSpec.upto stxOfSpec)) stxOfUptoCard

/-- THE SECOND FORM's CARD OF 'marginalialaw10.StxSound'. -/
def stxSoundUptoCard : Claim7 := { stood := { row := stxSoundUptoRow, standIns := [], harness := (true, "4d25cbcc0f8e778f5bc7b4033c924dc58881c985cd595b2e067ed6331bd0997c"), looks := true }, kinds := [], alts := [], laidByText := true, laidKinds := [.data, .data, .data, .data, .sentinel, .sentinel, .pinned], laidTests := true, laidLooks := .later }
def StxSoundUptoCardSaid : Prop := Claim7.holds Tryz.pinned (.plain (OpenSpec.upto stxSoundSpec)) stxSoundUptoCard

/-- THE SECOND FORM's CARD OF 'marginalialaw10.StxPushes'. -/
def stxPushesUptoCard : Claim7 := { stood := { row := stxPushesUptoRow, standIns := [], harness := (true, "4d25cbcc0f8e778f5bc7b4033c924dc58881c985cd595b2e067ed6331bd0997c"), looks := true }, kinds := [], alts := [], laidByText := true, laidKinds := [.data, .data, .data, .data, .sentinel, .sentinel, .pinned], laidTests := true, laidLooks := .later }
def StxPushesUptoCardSaid : Prop := Claim7.holds Tryz.pinned (.plain (OpenSpec.upto stxPushesSpec)) stxPushesUptoCard

/-- THE SECOND FORM's CARD OF 'marginalialaw10.StxKeeps'. -/
def stxKeepsUptoCard : Claim7 := { stood := { row := stxKeepsUptoRow, standIns := [], harness := (true, "4d25cbcc0f8e778f5bc7b4033c924dc58881c985cd595b2e067ed6331bd0997c"), looks := true }, kinds := [], alts := [], laidByText := true, laidKinds := [.data, .data, .data, .data, .sentinel, .sentinel, .pinned], laidTests := true, laidLooks := .later }
def StxKeepsUptoCardSaid : Prop := Claim7.holds Tryz.pinned (.plain (OpenSpec.upto stxKeepsSpec)) stxKeepsUptoCard

/-- THE SECOND FORM's CARD OF 'marginalialaw10.StxSame'. -/
def stxSameUptoCard : Claim7 := { stood := { row := stxSameUptoRow, standIns := [], harness := (true, "4d25cbcc0f8e778f5bc7b4033c924dc58881c985cd595b2e067ed6331bd0997c"), looks := true }, kinds := [], alts := [], laidByText := true, laidKinds := [.data, .data, .data, .data, .sentinel, .sentinel, .pinned], laidTests := true, laidLooks := .later }
def StxSameUptoCardSaid : Prop := Claim7.holds Tryz.pinned (.plain (OpenSpec.upto stxSameSpec)) stxSameUptoCard

/-- THE SECOND FORM's CARD OF 'marginalialaw10.StxLazy'. -/
def stxLazyUptoCard : Claim7 := { stood := { row := stxLazyUptoRow, standIns := [], harness := (true, "4d25cbcc0f8e778f5bc7b4033c924dc58881c985cd595b2e067ed6331bd0997c"), looks := true }, kinds := [], alts := [], laidByText := true, laidKinds := [.data, .data, .data, .data, .sentinel, .sentinel, .pinned], laidTests := true, laidLooks := .later }
def StxLazyUptoCardSaid : Prop := Claim7.holds Tryz.pinned (.plain (OpenSpec.upto stxLazySpec)) stxLazyUptoCard
end Rows
end Go.Proofs.YtgndehjbkiehmaaGreatDoor
