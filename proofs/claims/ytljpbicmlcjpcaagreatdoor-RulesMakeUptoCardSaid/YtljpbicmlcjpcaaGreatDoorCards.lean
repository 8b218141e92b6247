/-
  DERIVED. GIVEN WITH THE SEED: THE CARDS: each row of YtljpbicmlcjpcaaGreatDoorRows.lean that lists a variable, with what it lists TIED to the program's text (the seventh form; the later family's looks); each row that meets fmt, with fmt's text TOLD by the authors' own Lean function (tested against real Go, not proved from fmt's source: count such statements apart). THE CARD IS WHAT COUNTS. Prove the row's statement (the work); the ties are given (YtljpbicmlcjpcaaGreatDoorTie.lean); close each card by the builder's one call (the guide's Derived/Test/ToyasCard.lean, 'card_holds'). Laid BY PROGRAM, IN A SANDBOX (cutbox-door.mjs). By AI agents, Wed Nov 11 2026. No macro, syntax, notation, axiom, sorry.
-/
import Derived.Test.YtljpbicmlcjpcaaGreatDoorRows
import GoSem.ClaimSeven
namespace Go.Proofs.YtljpbicmlcjpcaaGreatDoor
namespace Rows

/-- THE TIED CARD OF 'marginalialaw10.StxPushes'. -/
def stxPushesCard : Claim7 := { stood := { row := stxPushesRow, standIns := [], harness := (true, "5529037661ee0e6043dad4402c2ce233d65bf9417480a107ce49451cb39ad436"), looks := true }, kinds := [], alts := [], laidByText := true, laidKinds := [.data, .data, .data, .data, .sentinel, .sentinel, .pinned], laidTests := true, laidLooks := .later }
def StxPushesCardSaid : Prop := Claim7.holds Tryz.pinned (.plain (OpenSpec.ofChange stxPushesSpec)) stxPushesCard

/-- THE TIED CARD OF 'marginalialaw10.StxKeeps'. -/
def stxKeepsCard : Claim7 := { stood := { row := stxKeepsRow, standIns := [], harness := (true, "5529037661ee0e6043dad4402c2ce233d65bf9417480a107ce49451cb39ad436"), looks := true }, kinds := [], alts := [], laidByText := true, laidKinds := [.data, .data, .data, .data, .sentinel, .sentinel, .pinned], laidTests := true, laidLooks := .later }
def StxKeepsCardSaid : Prop := Claim7.holds Tryz.pinned (.plain (OpenSpec.ofChange stxKeepsSpec)) stxKeepsCard

/-- THE TIED CARD OF 'marginalialaw10.StxSame'. -/
def stxSameCard : Claim7 := { stood := { row := stxSameRow, standIns := [], harness := (true, "5529037661ee0e6043dad4402c2ce233d65bf9417480a107ce49451cb39ad436"), looks := true }, kinds := [], alts := [], laidByText := true, laidKinds := [.data, .data, .data, .data, .sentinel, .sentinel, .pinned], laidTests := true, laidLooks := .later }
def StxSameCardSaid : Prop := Claim7.holds Tryz.pinned (.plain (OpenSpec.ofChange stxSameSpec)) stxSameCard

/-- THE TIED CARD OF 'marginalialaw10.StxLazy'. -/
def stxLazyCard : Claim7 := { stood := { row := stxLazyRow, standIns := [], harness := (true, "5529037661ee0e6043dad4402c2ce233d65bf9417480a107ce49451cb39ad436"), looks := true }, kinds := [], alts := [], laidByText := true, laidKinds := [.data, .data, .data, .data, .sentinel, .sentinel, .pinned], laidTests := true, laidLooks := .later }
def StxLazyCardSaid : Prop := Claim7.holds Tryz.pinned (.plain (OpenSpec.ofChange stxLazySpec)) stxLazyCard

/-- THE TIED CARD OF 'marginalialaw11.RibShadows'. -/
def ribShadowsCard : Claim7 := { stood := { row := ribShadowsRow, standIns := [], harness := (true, "5529037661ee0e6043dad4402c2ce233d65bf9417480a107ce49451cb39ad436"), looks := true }, kinds := [], alts := [], laidByText := true, laidKinds := [.data, .data, .data, .data, .sentinel, .sentinel, .pinned], laidTests := true, laidLooks := .later }
def RibShadowsCardSaid : Prop := Claim7.holds Tryz.pinned (.plain (OpenSpec.ofChange ribShadowsSpec)) ribShadowsCard

/-- THE TIED CARD OF 'marginalialaw11.RibMany'. -/
def ribManyCard : Claim7 := { stood := { row := ribManyRow, standIns := [], harness := (true, "5529037661ee0e6043dad4402c2ce233d65bf9417480a107ce49451cb39ad436"), looks := true }, kinds := [], alts := [], laidByText := true, laidKinds := [.data, .data, .data, .data, .sentinel, .sentinel, .pinned], laidTests := true, laidLooks := .later }
def RibManyCardSaid : Prop := Claim7.holds Tryz.pinned (.plain (OpenSpec.ofChange ribManySpec)) ribManyCard

/-- THE TIED CARD OF 'marginalialaw11.RibBound'. -/
def ribBoundCard : Claim7 := { stood := { row := ribBoundRow, standIns := [], harness := (true, "5529037661ee0e6043dad4402c2ce233d65bf9417480a107ce49451cb39ad436"), looks := true }, kinds := [], alts := [], laidByText := true, laidKinds := [.data, .data, .data, .data, .sentinel, .sentinel, .pinned], laidTests := true, laidLooks := .later }
def RibBoundCardSaid : Prop := Claim7.holds Tryz.pinned (.plain (OpenSpec.ofChange ribBoundSpec)) ribBoundCard

/-- THE TIED CARD OF 'marginalialaw11.RibFinds'. -/
def ribFindsCard : Claim7 := { stood := { row := ribFindsRow, standIns := [], harness := (true, "5529037661ee0e6043dad4402c2ce233d65bf9417480a107ce49451cb39ad436"), looks := true }, kinds := [], alts := [], laidByText := true, laidKinds := [.data, .data, .data, .data, .sentinel, .sentinel, .pinned], laidTests := true, laidLooks := .later }
def RibFindsCardSaid : Prop := Claim7.holds Tryz.pinned (.plain (OpenSpec.ofChange ribFindsSpec)) ribFindsCard

/-- THE TIED CARD OF 'marginalialaw11.RibApart'. -/
def ribApartCard : Claim7 := { stood := { row := ribApartRow, standIns := [], harness := (true, "5529037661ee0e6043dad4402c2ce233d65bf9417480a107ce49451cb39ad436"), looks := true }, kinds := [], alts := [], laidByText := true, laidKinds := [.data, .data, .data, .data, .sentinel, .sentinel, .pinned], laidTests := true, laidLooks := .later }
def RibApartCardSaid : Prop := Claim7.holds Tryz.pinned (.plain (OpenSpec.ofChange ribApartSpec)) ribApartCard

/-- THE TIED CARD OF 'marginalialaw18.RulesMake'. -/
def rulesMakeCard : Claim7 := { stood := { row := rulesMakeRow, standIns := [], harness := (true, "5529037661ee0e6043dad4402c2ce233d65bf9417480a107ce49451cb39ad436"), looks := true }, kinds := [], alts := [], laidByText := true, laidKinds := [.data, .data, .data, .data, .sentinel, .sentinel, .pinned], laidTests := true, laidLooks := .later }
def RulesMakeCardSaid : Prop := Claim7.holds Tryz.pinned (.plain (OpenSpec.ofChange rulesMakeSpec)) rulesMakeCard

/-- THE TIED CARD OF 'marginalialaw18.RulesHeads'. -/
def rulesHeadsCard : Claim7 := { stood := { row := rulesHeadsRow, standIns := [], harness := (true, "5529037661ee0e6043dad4402c2ce233d65bf9417480a107ce49451cb39ad436"), looks := true }, kinds := [], alts := [], laidByText := true, laidKinds := [.data, .data, .data, .data, .sentinel, .sentinel, .pinned], laidTests := true, laidLooks := .later }
def RulesHeadsCardSaid : Prop := Claim7.holds Tryz.pinned (.plain (OpenSpec.ofChange rulesHeadsSpec)) rulesHeadsCard

/-- THE TIED CARD OF 'marginalialaw18.RulesKeeps'. -/
def rulesKeepsCard : Claim7 := { stood := { row := rulesKeepsRow, standIns := [], harness := (true, "5529037661ee0e6043dad4402c2ce233d65bf9417480a107ce49451cb39ad436"), looks := true }, kinds := [], alts := [], laidByText := true, laidKinds := [.data, .data, .data, .data, .sentinel, .sentinel, .pinned], laidTests := true, laidLooks := .later }
def RulesKeepsCardSaid : Prop := Claim7.holds Tryz.pinned (.plain (OpenSpec.ofChange rulesKeepsSpec)) rulesKeepsCard

/-- THE SECOND FORM's CARD OF 'marginalialaw10.StxPushes'. -/
def stxPushesUptoCard : Claim7 := { stood := { row := stxPushesUptoRow, standIns := [], harness := (true, "5529037661ee0e6043dad4402c2ce233d65bf9417480a107ce49451cb39ad436"), looks := true }, kinds := [], alts := [], laidByText := true, laidKinds := [.data, .data, .data, .data, .sentinel, .sentinel, .pinned], laidTests := true, laidLooks := .later }
def StxPushesUptoCardSaid : Prop := Claim7.holds Tryz.pinned (.plain (OpenSpec.upto stxPushesSpec)) stxPushesUptoCard

/-- THE SECOND FORM's CARD OF 'marginalialaw10.StxKeeps'. -/
def stxKeepsUptoCard : Claim7 := { stood := { row := stxKeepsUptoRow, standIns := [], harness := (true, "5529037661ee0e6043dad4402c2ce233d65bf9417480a107ce49451cb39ad436"), looks := true }, kinds := [], alts := [], laidByText := true, laidKinds := [.data, .data, .data, .data, .sentinel, .sentinel, .pinned], laidTests := true, laidLooks := .later }
def StxKeepsUptoCardSaid : Prop := Claim7.holds Tryz.pinned (.plain (OpenSpec.upto stxKeepsSpec)) stxKeepsUptoCard

/-- THE SECOND FORM's CARD OF 'marginalialaw10.StxSame'. -/
def stxSameUptoCard : Claim7 := { stood := { row := stxSameUptoRow, standIns := [], harness := (true, "5529037661ee0e6043dad4402c2ce233d65bf9417480a107ce49451cb39ad436"), looks := true }, kinds := [], alts := [], laidByText := true, laidKinds := [.data, .data, .data, .data, .sentinel, .sentinel, .pinned], laidTests := true, laidLooks := .later }
def StxSameUptoCardSaid : Prop := Claim7.holds Tryz.pinned (.plain (OpenSpec.upto stxSameSpec)) stxSameUptoCard

/-- THE SECOND FORM's CARD OF 'marginalialaw10.StxLazy'. -/
def stxLazyUptoCard : Claim7 := { stood := { row := stxLazyUptoRow, standIns := [], harness := (true, "5529037661ee0e6043dad4402c2ce233d65bf9417480a107ce49451cb39ad436"), looks := true }, kinds := [], alts := [], laidByText := true, laidKinds := [.data, .data, .data, .data, .sentinel, .sentinel, .pinned], laidTests := true, laidLooks := .later }
def StxLazyUptoCardSaid : Prop := Claim7.holds Tryz.pinned (.plain (OpenSpec.upto stxLazySpec)) stxLazyUptoCard

/-- THE SECOND FORM's CARD OF 'marginalialaw11.RibShadows'. -/
def ribShadowsUptoCard : Claim7 := { stood := { row := ribShadowsUptoRow, standIns := [], harness := (true, "5529037661ee0e6043dad4402c2ce233d65bf9417480a107ce49451cb39ad436"), looks := true }, kinds := [], alts := [], laidByText := true, laidKinds := [.data, .data, .data, .data, .sentinel, .sentinel, .pinned], laidTests := true, laidLooks := .later }
def RibShadowsUptoCardSaid : Prop := Claim7.holds Tryz.pinned (.plain (OpenSpec.upto ribShadowsSpec)) ribShadowsUptoCard

/-- THE SECOND FORM's CARD OF 'marginalialaw11.RibMany'. -/
def ribManyUptoCard : Claim7 := { stood := { row := ribManyUptoRow, standIns := [], harness := (true, "5529037661ee0e6043dad4402c2ce233d65bf9417480a107ce49451cb39ad436"), looks := true }, kinds := [], alts := [], laidByText := true, laidKinds := [.data, .data, .data, .data, .sentinel, .sentinel, .pinned], laidTests := true, laidLooks := .later }
def RibManyUptoCardSaid : Prop := Claim7.holds Tryz.pinned (.plain (OpenSpec.upto ribManySpec)) ribManyUptoCard

/-- THE SECOND FORM's CARD OF 'marginalialaw11.RibBound'. -/
def ribBoundUptoCard : Claim7 := { stood := { row := ribBoundUptoRow, standIns := [], harness := (true, "5529037661ee0e6043dad4402c2ce233d65bf9417480a107ce49451cb39ad436"), looks := true }, kinds := [], alts := [], laidByText := true, laidKinds := [.data, .data, .data, .data, .sentinel, .sentinel, .pinned], laidTests := true, laidLooks := .later }
def RibBoundUptoCardSaid : Prop := Claim7.holds Tryz.pinned (.plain (OpenSpec.upto ribBoundSpec)) ribBoundUptoCard

/-- THE SECOND FORM's CARD OF 'marginalialaw11.RibFinds'. -/
def ribFindsUptoCard : Claim7 := { stood := { row := ribFindsUptoRow, standIns := [], harness := (true, "5529037661ee0e6043dad4402c2ce233d65bf9417480a107ce49451cb39ad436"), looks := true }, kinds := [], alts := [], laidByText := true, laidKinds := [.data, .data, .data, .data, .sentinel, .sentinel, .pinned], laidTests := true, laidLooks := .later }
def RibFindsUptoCardSaid : Prop := Claim7.holds Tryz.pinned (.plain (OpenSpec.upto ribFindsSpec)) ribFindsUptoCard

/-- THE SECOND FORM's CARD OF 'marginalialaw11.RibApart'. -/
def ribApartUptoCard : Claim7 := { stood := { row := ribApartUptoRow, standIns := [], harness := (true, "5529037661ee0e6043dad4402c2ce233d65bf9417480a107ce49451cb39ad436"), looks := true }, kinds := [], alts := [], laidByText := true, laidKinds := [.data, .data, .data, .data, .sentinel, .sentinel, .pinned], laidTests := true, laidLooks := .later }
def RibApartUptoCardSaid : Prop := Claim7.holds Tryz.pinned (.plain (OpenSpec.upto ribApartSpec)) ribApartUptoCard

/-- THE SECOND FORM's CARD OF 'marginalialaw18.RulesMake'. -/
def rulesMakeUptoCard : Claim7 := { stood := { row := rulesMakeUptoRow, standIns := [], harness := (true, "5529037661ee0e6043dad4402c2ce233d65bf9417480a107ce49451cb39ad436"), looks := true }, kinds := [], alts := [], laidByText := true, laidKinds := [.data, .data, .data, .data, .sentinel, .sentinel, .pinned], laidTests := true, laidLooks := .later }
def RulesMakeUptoCardSaid : Prop := Claim7.holds Tryz.pinned (.plain (OpenSpec.upto rulesMakeSpec)) rulesMakeUptoCard

/-- THE SECOND FORM's CARD OF 'marginalialaw18.RulesHeads'. -/
def rulesHeadsUptoCard : Claim7 := { stood := { row := rulesHeadsUptoRow, standIns := [], harness := (true, "5529037661ee0e6043dad4402c2ce233d65bf9417480a107ce49451cb39ad436"), looks := true }, kinds := [], alts := [], laidByText := true, laidKinds := [.data, .data, .data, .data, .sentinel, .sentinel, .pinned], laidTests := true, laidLooks := .later }
def RulesHeadsUptoCardSaid : Prop := Claim7.holds Tryz.pinned (.plain (OpenSpec.upto rulesHeadsSpec)) rulesHeadsUptoCard

/-- THE SECOND FORM's CARD OF 'marginalialaw18.RulesKeeps'. -/
def rulesKeepsUptoCard : Claim7 := { stood := { row := rulesKeepsUptoRow, standIns := [], harness := (true, "5529037661ee0e6043dad4402c2ce233d65bf9417480a107ce49451cb39ad436"), looks := true }, kinds := [], alts := [], laidByText := true, laidKinds := [.data, .data, .data, .data, .sentinel, .sentinel, .pinned], laidTests := true, laidLooks := .later }
def RulesKeepsUptoCardSaid : Prop := Claim7.holds Tryz.pinned (.plain (OpenSpec.upto rulesKeepsSpec)) rulesKeepsUptoCard
end Rows
end Go.Proofs.YtljpbicmlcjpcaaGreatDoor
