/-
  DERIVED. GIVEN WITH THE SEED: THE CARDS: each row of YtkcoicijenclhaaGreatDoorRows.lean that lists a variable, with what it lists TIED to the program's text (the seventh form; the later family's looks); each row that meets fmt, with fmt's text TOLD by the authors' own Lean function (tested against real Go, not proved from fmt's source: count such statements apart). THE CARD IS WHAT COUNTS. Prove the row's statement (the work); the ties are given (YtkcoicijenclhaaGreatDoorTie.lean); close each card by the builder's one call (the guide's Derived/Test/ToyasCard.lean, 'card_holds'). Laid BY PROGRAM, IN A SANDBOX (cutbox-door.mjs). By AI agents, Wed Nov 11 2026. No macro, syntax, notation, axiom, sorry.
-/
import Derived.Test.YtkcoicijenclhaaGreatDoorRows
import GoSem.ClaimSeven
namespace Go.Proofs.YtkcoicijenclhaaGreatDoor
namespace Rows

/-- THE TIED CARD OF 'manifoldlaw29.MessageOrigins'. -/
def messageOriginsCard : Claim7 := { stood := { row := messageOriginsRow, standIns := [], harness := (true, "fee823b0a9517b256b2129b9e7dc92b5bd70dbb612acc17c7be4fc35c2da2c4d"), looks := true }, kinds := [], alts := [], laidByText := true, laidKinds := [.data, .data, .data, .data, .pinned], laidTests := true, laidLooks := .later }
def MessageOriginsCardSaid : Prop := Claim7.holds Tryz.pinned (.plain (OpenSpec.ofChange messageOriginsSpec)) messageOriginsCard

/-- THE TIED CARD OF 'manifoldlaw29.MessageNews'. -/
def messageNewsCard : Claim7 := { stood := { row := messageNewsRow, standIns := [], harness := (true, "fee823b0a9517b256b2129b9e7dc92b5bd70dbb612acc17c7be4fc35c2da2c4d"), looks := true }, kinds := [], alts := [], laidByText := true, laidKinds := [.data, .data, .data, .data, .pinned], laidTests := true, laidLooks := .later }
def MessageNewsCardSaid : Prop := Claim7.holds Tryz.pinned (.plain (OpenSpec.ofChange messageNewsSpec)) messageNewsCard

/-- THE TIED CARD OF 'manifoldlaw29.MessageParts'. -/
def messagePartsCard : Claim7 := { stood := { row := messagePartsRow, standIns := [], harness := (true, "fee823b0a9517b256b2129b9e7dc92b5bd70dbb612acc17c7be4fc35c2da2c4d"), looks := true }, kinds := [], alts := [], laidByText := true, laidKinds := [.data, .data, .data, .data, .pinned], laidTests := true, laidLooks := .later }
def MessagePartsCardSaid : Prop := Claim7.holds Tryz.pinned (.plain (OpenSpec.ofChange messagePartsSpec)) messagePartsCard

/-- THE TIED CARD OF 'manifoldlaw29.MessageMoves'. -/
def messageMovesCard : Claim7 := { stood := { row := messageMovesRow, standIns := [], harness := (true, "fee823b0a9517b256b2129b9e7dc92b5bd70dbb612acc17c7be4fc35c2da2c4d"), looks := true }, kinds := [], alts := [], laidByText := true, laidKinds := [.data, .data, .data, .data, .pinned], laidTests := true, laidLooks := .later }
def MessageMovesCardSaid : Prop := Claim7.holds Tryz.pinned (.plain (OpenSpec.ofChange messageMovesSpec)) messageMovesCard

/-- THE TIED CARD OF 'manifoldlaw29.MessageChecks'. -/
def messageChecksCard : Claim7 := { stood := { row := messageChecksRow, standIns := [], harness := (true, "fee823b0a9517b256b2129b9e7dc92b5bd70dbb612acc17c7be4fc35c2da2c4d"), looks := true }, kinds := [], alts := [], laidByText := true, laidKinds := [.data, .data, .data, .data, .pinned], laidTests := true, laidLooks := .later }
def MessageChecksCardSaid : Prop := Claim7.holds Tryz.pinned (.plain (OpenSpec.ofChange messageChecksSpec)) messageChecksCard

/-- THE TIED CARD OF 'manifoldlaw29.MessageFates'. -/
def messageFatesCard : Claim7 := { stood := { row := messageFatesRow, standIns := [], harness := (true, "fee823b0a9517b256b2129b9e7dc92b5bd70dbb612acc17c7be4fc35c2da2c4d"), looks := true }, kinds := [], alts := [], laidByText := true, laidKinds := [.data, .data, .data, .data, .pinned], laidTests := true, laidLooks := .later }
def MessageFatesCardSaid : Prop := Claim7.holds Tryz.pinned (.plain (OpenSpec.ofChange messageFatesSpec)) messageFatesCard

/-- THE TIED CARD OF 'manifoldlaw29.MessageSorts'. -/
def messageSortsCard : Claim7 := { stood := { row := messageSortsRow, standIns := [], harness := (true, "fee823b0a9517b256b2129b9e7dc92b5bd70dbb612acc17c7be4fc35c2da2c4d"), looks := true }, kinds := [], alts := [], laidByText := true, laidKinds := [.data, .data, .data, .data, .pinned], laidTests := true, laidLooks := .later }
def MessageSortsCardSaid : Prop := Claim7.holds Tryz.pinned (.plain (OpenSpec.ofChange messageSortsSpec)) messageSortsCard

/-- THE TIED CARD OF 'manifoldlaw29.MessageReasons'. -/
def messageReasonsCard : Claim7 := { stood := { row := messageReasonsRow, standIns := [], harness := (true, "fee823b0a9517b256b2129b9e7dc92b5bd70dbb612acc17c7be4fc35c2da2c4d"), looks := true }, kinds := [], alts := [], laidByText := true, laidKinds := [.data, .data, .data, .data, .pinned], laidTests := true, laidLooks := .later }
def MessageReasonsCardSaid : Prop := Claim7.holds Tryz.pinned (.plain (OpenSpec.ofChange messageReasonsSpec)) messageReasonsCard

/-- THE TIED CARD OF 'manifoldlaw29.MessageReturns'. -/
def messageReturnsCard : Claim7 := { stood := { row := messageReturnsRow, standIns := [], harness := (true, "fee823b0a9517b256b2129b9e7dc92b5bd70dbb612acc17c7be4fc35c2da2c4d"), looks := true }, kinds := [], alts := [], laidByText := true, laidKinds := [.data, .data, .data, .data, .pinned], laidTests := true, laidLooks := .later }
def MessageReturnsCardSaid : Prop := Claim7.holds Tryz.pinned (.plain (OpenSpec.ofChange messageReturnsSpec)) messageReturnsCard

/-- THE TIED CARD OF 'manifoldlaw29.MessageMerges'. -/
def messageMergesCard : Claim7 := { stood := { row := messageMergesRow, standIns := [], harness := (true, "fee823b0a9517b256b2129b9e7dc92b5bd70dbb612acc17c7be4fc35c2da2c4d"), looks := true }, kinds := [], alts := [], laidByText := true, laidKinds := [.data, .data, .data, .data, .pinned], laidTests := true, laidLooks := .later }
def MessageMergesCardSaid : Prop := Claim7.holds Tryz.pinned (.plain (OpenSpec.ofChange messageMergesSpec)) messageMergesCard

/-- THE TIED CARD OF 'manifoldlaw29.MessageDecodes'. -/
def messageDecodesCard : Claim7 := { stood := { row := messageDecodesRow, standIns := [], harness := (true, "fee823b0a9517b256b2129b9e7dc92b5bd70dbb612acc17c7be4fc35c2da2c4d"), looks := true }, kinds := [], alts := [], laidByText := true, laidKinds := [.data, .data, .data, .data, .sentinel, .sentinel, .pinned], laidTests := true, laidLooks := .later }
def MessageDecodesCardSaid : Prop := Claim7.holds Tryz.pinned (.plain (OpenSpec.ofChange messageDecodesSpec)) messageDecodesCard

/-- THE TIED CARD OF 'manifoldlaw29.MessageTexts'. -/
def messageTextsCard : Claim7 := { stood := { row := messageTextsRow, standIns := [], harness := (true, "fee823b0a9517b256b2129b9e7dc92b5bd70dbb612acc17c7be4fc35c2da2c4d"), looks := true }, kinds := [], alts := [], laidByText := true, laidKinds := [.data, .data, .data, .data, .sentinel, .sentinel, .pinned], laidTests := true, laidLooks := .later }
def MessageTextsCardSaid : Prop := Claim7.holds Tryz.pinned (.plain (OpenSpec.ofChange messageTextsSpec)) messageTextsCard

/-- THE SECOND FORM's CARD OF 'manifoldlaw29.MessageOrigins'. -/
def messageOriginsUptoCard : Claim7 := { stood := { row := messageOriginsUptoRow, standIns := [], harness := (true, "fee823b0a9517b256b2129b9e7dc92b5bd70dbb612acc17c7be4fc35c2da2c4d"), looks := true }, kinds := [], alts := [], laidByText := true, laidKinds := [.data, .data, .data, .data, .pinned], laidTests := true, laidLooks := .later }
def MessageOriginsUptoCardSaid : Prop := Claim7.holds Tryz.pinned (.plain (OpenSpec.upto messageOriginsSpec)) messageOriginsUptoCard

/-- THE SECOND FORM's CARD OF 'manifoldlaw29.MessageNews'. -/
def messageNewsUptoCard : Claim7 := { stood := { row := messageNewsUptoRow, standIns := [], harness := (true, "fee823b0a9517b256b2129b9e7dc92b5bd70dbb612acc17c7be4fc35c2da2c4d"), looks := true }, kinds := [], alts := [], laidByText := true, laidKinds := [.data, .data, .data, .data, .pinned], laidTests := true, laidLooks := .later }
def MessageNewsUptoCardSaid : Prop := Claim7.holds Tryz.pinned (.plain (OpenSpec.upto messageNewsSpec)) messageNewsUptoCard

/-- THE SECOND FORM's CARD OF 'manifoldlaw29.MessageParts'. -/
def messagePartsUptoCard : Claim7 := { stood := { row := messagePartsUptoRow, standIns := [], harness := (true, "fee823b0a9517b256b2129b9e7dc92b5bd70dbb612acc17c7be4fc35c2da2c4d"), looks := true }, kinds := [], alts := [], laidByText := true, laidKinds := [.data, .data, .data, .data, .pinned], laidTests := true, laidLooks := .later }
def MessagePartsUptoCardSaid : Prop := Claim7.holds Tryz.pinned (.plain (OpenSpec.upto messagePartsSpec)) messagePartsUptoCard

/-- THE SECOND FORM's CARD OF 'manifoldlaw29.MessageMoves'. -/
def messageMovesUptoCard : Claim7 := { stood := { row := messageMovesUptoRow, standIns := [], harness := (true, "fee823b0a9517b256b2129b9e7dc92b5bd70dbb612acc17c7be4fc35c2da2c4d"), looks := true }, kinds := [], alts := [], laidByText := true, laidKinds := [.data, .data, .data, .data, .pinned], laidTests := true, laidLooks := .later }
def MessageMovesUptoCardSaid : Prop := Claim7.holds Tryz.pinned (.plain (OpenSpec.upto messageMovesSpec)) messageMovesUptoCard

/-- THE SECOND FORM's CARD OF 'manifoldlaw29.MessageChecks'. -/
def messageChecksUptoCard : Claim7 := { stood := { row := messageChecksUptoRow, standIns := [], harness := (true, "fee823b0a9517b256b2129b9e7dc92b5bd70dbb612acc17c7be4fc35c2da2c4d"), looks := true }, kinds := [], alts := [], laidByText := true, laidKinds := [.data, .data, .data, .data, .pinned], laidTests := true, laidLooks := .later }
def MessageChecksUptoCardSaid : Prop := Claim7.holds Tryz.pinned (.plain (OpenSpec.upto messageChecksSpec)) messageChecksUptoCard

/-- THE SECOND FORM's CARD OF 'manifoldlaw29.MessageFates'. -/
def messageFatesUptoCard : Claim7 := { stood := { row := messageFatesUptoRow, standIns := [], harness := (true, "fee823b0a9517b256b2129b9e7dc92b5bd70dbb612acc17c7be4fc35c2da2c4d"), looks := true }, kinds := [], alts := [], laidByText := true, laidKinds := [.data, .data, .data, .data, .pinned], laidTests := true, laidLooks := .later }
def MessageFatesUptoCardSaid : Prop := Claim7.holds Tryz.pinned (.plain (OpenSpec.upto messageFatesSpec)) messageFatesUptoCard

/-- THE SECOND FORM's CARD OF 'manifoldlaw29.MessageSorts'. -/
def messageSortsUptoCard : Claim7 := { stood := { row := messageSortsUptoRow, standIns := [], harness := (true, "fee823b0a9517b256b2129b9e7dc92b5bd70dbb612acc17c7be4fc35c2da2c4d"), looks := true }, kinds := [], alts := [], laidByText := true, laidKinds := [.data, .data, .data, .data, .pinned], laidTests := true, laidLooks := .later }
def MessageSortsUptoCardSaid : Prop := Claim7.holds Tryz.pinned (.plain (OpenSpec.upto messageSortsSpec)) messageSortsUptoCard

/-- THE SECOND FORM's CARD OF 'manifoldlaw29.MessageReasons'. -/
def messageReasonsUptoCard : Claim7 := { stood := { row := messageReasonsUptoRow, standIns := [], harness := (true, "fee823b0a9517b256b2129b9e7dc92b5bd70dbb612acc17c7be4fc35c2da2c4d"), looks := true }, kinds := [], alts := [], laidByText := true, laidKinds := [.data, .data, .data, .data, .pinned], laidTests := true, laidLooks := .later }
def MessageReasonsUptoCardSaid : Prop := Claim7.holds Tryz.pinned (.plain (OpenSpec.upto messageReasonsSpec)) messageReasonsUptoCard

/-- THE SECOND FORM's CARD OF 'manifoldlaw29.MessageReturns'. -/
def messageReturnsUptoCard : Claim7 := { stood := { row := messageReturnsUptoRow, standIns := [], harness := (true, "fee823b0a9517b256b2129b9e7dc92b5bd70dbb612acc17c7be4fc35c2da2c4d"), looks := true }, kinds := [], alts := [], laidByText := true, laidKinds := [.data, .data, .data, .data, .pinned], laidTests := true, laidLooks := .later }
def MessageReturnsUptoCardSaid : Prop := Claim7.holds Tryz.pinned (.plain (OpenSpec.upto messageReturnsSpec)) messageReturnsUptoCard

/-- THE SECOND FORM's CARD OF 'manifoldlaw29.MessageMerges'. -/
def messageMergesUptoCard : Claim7 := { stood := { row := messageMergesUptoRow, standIns := [], harness := (true, "fee823b0a9517b256b2129b9e7dc92b5bd70dbb612acc17c7be4fc35c2da2c4d"), looks := true }, kinds := [], alts := [], laidByText := true, laidKinds := [.data, .data, .data, .data, .pinned], laidTests := true, laidLooks := .later }
def MessageMergesUptoCardSaid : Prop := Claim7.holds Tryz.pinned (.plain (OpenSpec.upto messageMergesSpec)) messageMergesUptoCard

/-- THE SECOND FORM's CARD OF 'manifoldlaw29.MessageDecodes'. -/
def messageDecodesUptoCard : Claim7 := { stood := { row := messageDecodesUptoRow, standIns := [], harness := (true, "fee823b0a9517b256b2129b9e7dc92b5bd70dbb612acc17c7be4fc35c2da2c4d"), looks := true }, kinds := [], alts := [], laidByText := true, laidKinds := [.data, .data, .data, .data, .sentinel, .sentinel, .pinned], laidTests := true, laidLooks := .later }
def MessageDecodesUptoCardSaid : Prop := Claim7.holds Tryz.pinned (.plain (OpenSpec.upto messageDecodesSpec)) messageDecodesUptoCard

/-- THE SECOND FORM's CARD OF 'manifoldlaw29.MessageTexts'. -/
def messageTextsUptoCard : Claim7 := { stood := { row := messageTextsUptoRow, standIns := [], harness := (true, "fee823b0a9517b256b2129b9e7dc92b5bd70dbb612acc17c7be4fc35c2da2c4d"), looks := true }, kinds := [], alts := [], laidByText := true, laidKinds := [.data, .data, .data, .data, .sentinel, .sentinel, .pinned], laidTests := true, laidLooks := .later }
def MessageTextsUptoCardSaid : Prop := Claim7.holds Tryz.pinned (.plain (OpenSpec.upto messageTextsSpec)) messageTextsUptoCard
end Rows
end Go.Proofs.YtkcoicijenclhaaGreatDoor
