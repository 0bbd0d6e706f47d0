/-
  DERIVED. GIVEN WITH THE SEED: THE CARDS: each row of YtcejackabdmpkaaGreatDoorRows.lean that lists a variable, with what it lists TIED to the program's text (the seventh form; the later family's looks); each row that meets fmt, with fmt's text TOLD by the authors' own Lean function (tested against real Go, not proved from fmt's source: count such statements apart). THE CARD IS WHAT COUNTS. Prove the row's statement (the work); the ties are given (YtcejackabdmpkaaGreatDoorTie.lean); close each card by the builder's one call (the guide's Derived/Test/ToyasCard.lean, 'card_holds'). Laid BY PROGRAM, IN A SANDBOX (cutbox-door.mjs). By AI agents, Wed Nov 11 2026. No macro, syntax, notation, axiom, sorry.
-/
import Derived.Test.YtcejackabdmpkaaGreatDoorRows
import GoSem.ClaimSeven
namespace Go.Proofs.YtcejackabdmpkaaGreatDoor
namespace Rows

/-- THE TIED CARD OF 'manifoldlaw29.MessageReasons'. -/
def messageReasonsCard : Claim7 := { stood := { row := messageReasonsRow, standIns := [], harness := (true, "d32b8a4f57ca87b3717fc9e7c8f34fa665eb16937a337d502a527774b8746caa"), looks := true }, kinds := [], alts := [], laidByText := true, laidKinds := [.data, .data, .data, .data, .pinned], laidTests := true, laidLooks := .later }
def MessageReasonsCardSaid : Prop := Claim7.holds Tryz.pinned (.plain (OpenSpec.ofChange messageReasonsSpec)) messageReasonsCard

/-- THE TIED CARD OF 'manifoldlaw29.MessageReturns'. -/
def messageReturnsCard : Claim7 := { stood := { row := messageReturnsRow, standIns := [], harness := (true, "d32b8a4f57ca87b3717fc9e7c8f34fa665eb16937a337d502a527774b8746caa"), looks := true }, kinds := [], alts := [], laidByText := true, laidKinds := [.data, .data, .data, .data, .pinned], laidTests := true, laidLooks := .later }
def MessageReturnsCardSaid : Prop := Claim7.holds Tryz.pinned (.plain (OpenSpec.ofChange messageReturnsSpec)) messageReturnsCard

/-- THE TIED CARD OF 'manifoldlaw29.MessageMerges'. -/
def messageMergesCard : Claim7 := { stood := { row := messageMergesRow, standIns := [], harness := (true, "d32b8a4f57ca87b3717fc9e7c8f34fa665eb16937a337d502a527774b8746caa"), looks := true }, kinds := [], alts := [], laidByText := true, laidKinds := [.data, .data, .data, .data, .pinned], laidTests := true, laidLooks := .later }
def MessageMergesCardSaid : Prop := Claim7.holds Tryz.pinned (.plain (OpenSpec.ofChange messageMergesSpec)) messageMergesCard

/-- THE TIED CARD OF 'manifoldlaw50.EngineArrivals'. -/
def engineArrivalsCard : Claim7 := { stood := { row := engineArrivalsRow, standIns := [], harness := (true, "d32b8a4f57ca87b3717fc9e7c8f34fa665eb16937a337d502a527774b8746caa"), looks := true }, kinds := [], alts := [], laidByText := true, laidKinds := [.data, .data, .data, .data, .sentinel, .sentinel, .pinned], laidTests := true, laidLooks := .later }
def EngineArrivalsCardSaid : Prop := Claim7.holds Tryz.pinned (.plain (OpenSpec.ofChange engineArrivalsSpec)) engineArrivalsCard

/-- THE TIED CARD OF 'manifoldlaw54.ReplayCompares'. -/
def replayComparesCard : Claim7 := { stood := { row := replayComparesRow, standIns := [], harness := (true, "d32b8a4f57ca87b3717fc9e7c8f34fa665eb16937a337d502a527774b8746caa"), looks := true }, kinds := [], alts := [], laidByText := true, laidKinds := [.data, .data, .data, .data, .pinned], laidTests := true, laidLooks := .later }
def ReplayComparesCardSaid : Prop := Claim7.holds Tryz.pinned (.plain (OpenSpec.ofChange replayComparesSpec)) replayComparesCard

/-- THE TIED CARD OF 'manifoldlaw54.ReplayTexts'. -/
def replayTextsCard : Claim7 := { stood := { row := replayTextsRow, standIns := [], harness := (true, "d32b8a4f57ca87b3717fc9e7c8f34fa665eb16937a337d502a527774b8746caa"), looks := true }, kinds := [], alts := [], laidByText := true, laidKinds := [.data, .data, .data, .data, .pinned], laidTests := true, laidLooks := .later }
def ReplayTextsCardSaid : Prop := Claim7.holds Tryz.pinned (.plain (OpenSpec.ofChange replayTextsSpec)) replayTextsCard

/-- THE SECOND FORM's CARD OF 'manifoldlaw29.MessageReasons'. -/
def messageReasonsUptoCard : Claim7 := { stood := { row := messageReasonsUptoRow, standIns := [], harness := (true, "d32b8a4f57ca87b3717fc9e7c8f34fa665eb16937a337d502a527774b8746caa"), looks := true }, kinds := [], alts := [], laidByText := true, laidKinds := [.data, .data, .data, .data, .pinned], laidTests := true, laidLooks := .later }
def MessageReasonsUptoCardSaid : Prop := Claim7.holds Tryz.pinned (.plain (OpenSpec.upto messageReasonsSpec)) messageReasonsUptoCard

/-- THE SECOND FORM's CARD OF 'manifoldlaw29.MessageReturns'. -/
def messageReturnsUptoCard : Claim7 := { stood := { row := messageReturnsUptoRow, standIns := [], harness := (true, "d32b8a4f57ca87b3717fc9e7c8f34fa665eb16937a337d502a527774b8746caa"), looks := true }, kinds := [], alts := [], laidByText := true, laidKinds := [.data, .data, .data, .data, .pinned], laidTests := true, laidLooks := .later }
def MessageReturnsUptoCardSaid : Prop := Claim7.holds Tryz.pinned (.plain (OpenSpec.upto messageReturnsSpec)) messageReturnsUptoCard

/-- THE SECOND FORM's CARD OF 'manifoldlaw29.MessageMerges'. -/
def messageMergesUptoCard : Claim7 := { stood := { row := messageMergesUptoRow, standIns := [], harness := (true, "d32b8a4f57ca87b3717fc9e7c8f34fa665eb16937a337d502a527774b8746caa"), looks := true }, kinds := [], alts := [], laidByText := true, laidKinds := [.data, .data, .data, .data, .pinned], laidTests := true, laidLooks := .later }
def MessageMergesUptoCardSaid : Prop := Claim7.holds Tryz.pinned (.plain (OpenSpec.upto messageMergesSpec)) messageMergesUptoCard

/-- THE SECOND FORM's CARD OF 'manifoldlaw50.EngineArrivals'. -/
def engineArrivalsUptoCard : Claim7 := { stood := { row := engineArrivalsUptoRow, standIns := [], harness := (true, "d32b8a4f57ca87b3717fc9e7c8f34fa665eb16937a337d502a527774b8746caa"), looks := true }, kinds := [], alts := [], laidByText := true, laidKinds := [.data, .data, .data, .data, .sentinel, .sentinel, .pinned], laidTests := true, laidLooks := .later }
def EngineArrivalsUptoCardSaid : Prop := Claim7.holds Tryz.pinned (.plain (OpenSpec.upto engineArrivalsSpec)) engineArrivalsUptoCard

/-- THE SECOND FORM's CARD OF 'manifoldlaw54.ReplayCompares'. -/
def replayComparesUptoCard : Claim7 := { stood := { row := replayComparesUptoRow, standIns := [], harness := (true, "d32b8a4f57ca87b3717fc9e7c8f34fa665eb16937a337d502a527774b8746caa"), looks := true }, kinds := [], alts := [], laidByText := true, laidKinds := [.data, .data, .data, .data, .pinned], laidTests := true, laidLooks := .later }
def ReplayComparesUptoCardSaid : Prop := Claim7.holds Tryz.pinned (.plain (OpenSpec.upto replayComparesSpec)) replayComparesUptoCard

/-- THE SECOND FORM's CARD OF 'manifoldlaw54.ReplayTexts'. -/
def replayTextsUptoCard : Claim7 := { stood := { row := replayTextsUptoRow, standIns := [], harness := (true, "d32b8a4f57ca87b3717fc9e7c8f34fa665eb16937a337d502a527774b8746caa"), looks := true }, kinds := [], alts := [], laidByText := true, laidKinds := [.data, .data, .data, .data, .pinned], laidTests := true, laidLooks := .later }
def ReplayTextsUptoCardSaid : Prop := Claim7.holds Tryz.pinned (.plain (OpenSpec.upto replayTextsSpec)) replayTextsUptoCard
end Rows
end Go.Proofs.YtcejackabdmpkaaGreatDoor
