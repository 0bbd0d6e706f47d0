/-
  DERIVED. GIVEN WITH THE SEED: THE CARDS: each row of YtkljbfaemahchaaGreatDoorRows.lean that lists a variable, with what it lists TIED to the program's text (the seventh form; the later family's looks); each row that meets fmt, with fmt's text TOLD by the authors' own Lean function (tested against real Go, not proved from fmt's source: count such statements apart). THE CARD IS WHAT COUNTS. Prove the row's statement (the work); the ties are given (YtkljbfaemahchaaGreatDoorTie.lean); close each card by the builder's one call (the guide's Derived/Test/ToyasCard.lean, 'card_holds'). Laid BY PROGRAM, IN A SANDBOX (cutbox-door.mjs). By AI agents, Wed Nov 11 2026. No macro, syntax, notation, axiom, sorry.
-/
import Derived.Test.YtkljbfaemahchaaGreatDoorRows
import GoSem.ClaimSeven
namespace Go.Proofs.YtkljbfaemahchaaGreatDoor
namespace Rows

/-- THE TIED CARD OF 'manifoldlaw50.EngineArrivals'. -/
def engineArrivalsCard : Claim7 := { stood := { row := engineArrivalsRow, standIns := [], harness := (true, "97152ccb6aeca614ca029413d54d7b22b027790bdde26721bef2d21dcb8a0410"), looks := true }, kinds := [], alts := [], laidByText := true, laidKinds := [.data, .data, .data, .data, .sentinel, .sentinel, .pinned], laidTests := true, laidLooks := .later }
def EngineArrivalsCardSaid : Prop := Claim7.holds Tryz.pinned (.plain (OpenSpec.ofChange engineArrivalsSpec)) engineArrivalsCard

/-- THE TIED CARD OF 'manifoldlaw54.ReplayCompares'. -/
def replayComparesCard : Claim7 := { stood := { row := replayComparesRow, standIns := [], harness := (true, "97152ccb6aeca614ca029413d54d7b22b027790bdde26721bef2d21dcb8a0410"), looks := true }, kinds := [], alts := [], laidByText := true, laidKinds := [.data, .data, .data, .data, .pinned], laidTests := true, laidLooks := .later }
def ReplayComparesCardSaid : Prop := Claim7.holds Tryz.pinned (.plain (OpenSpec.ofChange replayComparesSpec)) replayComparesCard

/-- THE TIED CARD OF 'manifoldlaw54.ReplayTexts'. -/
def replayTextsCard : Claim7 := { stood := { row := replayTextsRow, standIns := [], harness := (true, "97152ccb6aeca614ca029413d54d7b22b027790bdde26721bef2d21dcb8a0410"), looks := true }, kinds := [], alts := [], laidByText := true, laidKinds := [.data, .data, .data, .data, .pinned], laidTests := true, laidLooks := .later }
def ReplayTextsCardSaid : Prop := Claim7.holds Tryz.pinned (.plain (OpenSpec.ofChange replayTextsSpec)) replayTextsCard

/-- THE TIED CARD OF 'manifoldlaw50.EngineTexts'. -/
def engineTextsCard : Claim7 := { stood := { row := engineTextsRow, standIns := [], harness := (true, "97152ccb6aeca614ca029413d54d7b22b027790bdde26721bef2d21dcb8a0410"), looks := true }, kinds := [], alts := [], laidByText := true, laidKinds := [.data, .data, .data, .data, .sentinel, .sentinel, .pinned], laidTests := true, laidLooks := .later }
def EngineTextsCardSaid : Prop := Claim7.holds Tryz.pinned (.plain (OpenSpec.ofChange engineTextsSpec)) engineTextsCard

/-- THE TIED CARD OF 'manifoldlaw50.EngineParses'. -/
def engineParsesCard : Claim7 := { stood := { row := engineParsesRow, standIns := [], harness := (true, "97152ccb6aeca614ca029413d54d7b22b027790bdde26721bef2d21dcb8a0410"), looks := true }, kinds := [], alts := [], laidByText := true, laidKinds := [.data, .data, .data, .data, .sentinel, .sentinel, .pinned], laidTests := true, laidLooks := .later }
def EngineParsesCardSaid : Prop := Claim7.holds Tryz.pinned (.plain (OpenSpec.ofChange engineParsesSpec)) engineParsesCard

/-- THE TIED CARD OF 'manifoldlaw29.MessageDecodes'. -/
def messageDecodesCard : Claim7 := { stood := { row := messageDecodesRow, standIns := [], harness := (true, "97152ccb6aeca614ca029413d54d7b22b027790bdde26721bef2d21dcb8a0410"), looks := true }, kinds := [], alts := [], laidByText := true, laidKinds := [.data, .data, .data, .data, .sentinel, .sentinel, .pinned], laidTests := true, laidLooks := .later }
def MessageDecodesCardSaid : Prop := Claim7.holds Tryz.pinned (.plain (OpenSpec.ofChange messageDecodesSpec)) messageDecodesCard

/-- THE TIED CARD OF 'manifoldlaw29.MessageTexts'. -/
def messageTextsCard : Claim7 := { stood := { row := messageTextsRow, standIns := [], harness := (true, "97152ccb6aeca614ca029413d54d7b22b027790bdde26721bef2d21dcb8a0410"), looks := true }, kinds := [], alts := [], laidByText := true, laidKinds := [.data, .data, .data, .data, .sentinel, .sentinel, .pinned], laidTests := true, laidLooks := .later }
def MessageTextsCardSaid : Prop := Claim7.holds Tryz.pinned (.plain (OpenSpec.ofChange messageTextsSpec)) messageTextsCard

/-- THE TIED CARD OF 'manifoldlaw30.SlotsDecodes'. -/
def slotsDecodesCard : Claim7 := { stood := { row := slotsDecodesRow, standIns := [], harness := (true, "97152ccb6aeca614ca029413d54d7b22b027790bdde26721bef2d21dcb8a0410"), looks := true }, kinds := [], alts := [], laidByText := true, laidKinds := [.data, .data, .data, .data, .sentinel, .sentinel, .pinned], laidTests := true, laidLooks := .later }
def SlotsDecodesCardSaid : Prop := Claim7.holds Tryz.pinned (.plain (OpenSpec.ofChange slotsDecodesSpec)) slotsDecodesCard

/-- THE TIED CARD OF 'manifoldlaw30.SlotsTexts'. -/
def slotsTextsCard : Claim7 := { stood := { row := slotsTextsRow, standIns := [], harness := (true, "97152ccb6aeca614ca029413d54d7b22b027790bdde26721bef2d21dcb8a0410"), looks := true }, kinds := [], alts := [], laidByText := true, laidKinds := [.data, .data, .data, .data, .sentinel, .sentinel, .pinned], laidTests := true, laidLooks := .later }
def SlotsTextsCardSaid : Prop := Claim7.holds Tryz.pinned (.plain (OpenSpec.ofChange slotsTextsSpec)) slotsTextsCard

/-- THE TIED CARD OF 'manifoldlaw46.JournalEncodes'. -/
def journalEncodesCard : Claim7 := { stood := { row := journalEncodesRow, standIns := [], harness := (true, "97152ccb6aeca614ca029413d54d7b22b027790bdde26721bef2d21dcb8a0410"), looks := true }, kinds := [], alts := [], laidByText := true, laidKinds := [.data, .data, .data, .data, .sentinel, .sentinel, .pinned], laidTests := true, laidLooks := .later }
def JournalEncodesCardSaid : Prop := Claim7.holds Tryz.pinned (.plain (OpenSpec.ofChange journalEncodesSpec)) journalEncodesCard

/-- THE TIED CARD OF 'manifoldlaw46.JournalReturns'. -/
def journalReturnsCard : Claim7 := { stood := { row := journalReturnsRow, standIns := [], harness := (true, "97152ccb6aeca614ca029413d54d7b22b027790bdde26721bef2d21dcb8a0410"), looks := true }, kinds := [], alts := [], laidByText := true, laidKinds := [.data, .data, .data, .data, .sentinel, .sentinel, .pinned], laidTests := true, laidLooks := .later }
def JournalReturnsCardSaid : Prop := Claim7.holds Tryz.pinned (.plain (OpenSpec.ofChange journalReturnsSpec)) journalReturnsCard

/-- THE TIED CARD OF 'manifoldlaw46.JournalDecodes'. -/
def journalDecodesCard : Claim7 := { stood := { row := journalDecodesRow, standIns := [], harness := (true, "97152ccb6aeca614ca029413d54d7b22b027790bdde26721bef2d21dcb8a0410"), looks := true }, kinds := [], alts := [], laidByText := true, laidKinds := [.data, .data, .data, .data, .sentinel, .sentinel, .pinned], laidTests := true, laidLooks := .later }
def JournalDecodesCardSaid : Prop := Claim7.holds Tryz.pinned (.plain (OpenSpec.ofChange journalDecodesSpec)) journalDecodesCard

/-- THE SECOND FORM's CARD OF 'manifoldlaw50.EngineArrivals'. -/
def engineArrivalsUptoCard : Claim7 := { stood := { row := engineArrivalsUptoRow, standIns := [], harness := (true, "97152ccb6aeca614ca029413d54d7b22b027790bdde26721bef2d21dcb8a0410"), looks := true }, kinds := [], alts := [], laidByText := true, laidKinds := [.data, .data, .data, .data, .sentinel, .sentinel, .pinned], laidTests := true, laidLooks := .later }
def EngineArrivalsUptoCardSaid : Prop := Claim7.holds Tryz.pinned (.plain (OpenSpec.upto engineArrivalsSpec)) engineArrivalsUptoCard

/-- THE SECOND FORM's CARD OF 'manifoldlaw54.ReplayCompares'. -/
def replayComparesUptoCard : Claim7 := { stood := { row := replayComparesUptoRow, standIns := [], harness := (true, "97152ccb6aeca614ca029413d54d7b22b027790bdde26721bef2d21dcb8a0410"), looks := true }, kinds := [], alts := [], laidByText := true, laidKinds := [.data, .data, .data, .data, .pinned], laidTests := true, laidLooks := .later }
def ReplayComparesUptoCardSaid : Prop := Claim7.holds Tryz.pinned (.plain (OpenSpec.upto replayComparesSpec)) replayComparesUptoCard

/-- THE SECOND FORM's CARD OF 'manifoldlaw54.ReplayTexts'. -/
def replayTextsUptoCard : Claim7 := { stood := { row := replayTextsUptoRow, standIns := [], harness := (true, "97152ccb6aeca614ca029413d54d7b22b027790bdde26721bef2d21dcb8a0410"), looks := true }, kinds := [], alts := [], laidByText := true, laidKinds := [.data, .data, .data, .data, .pinned], laidTests := true, laidLooks := .later }
def ReplayTextsUptoCardSaid : Prop := Claim7.holds Tryz.pinned (.plain (OpenSpec.upto replayTextsSpec)) replayTextsUptoCard

/-- THE SECOND FORM's CARD OF 'manifoldlaw50.EngineTexts'. -/
def engineTextsUptoCard : Claim7 := { stood := { row := engineTextsUptoRow, standIns := [], harness := (true, "97152ccb6aeca614ca029413d54d7b22b027790bdde26721bef2d21dcb8a0410"), looks := true }, kinds := [], alts := [], laidByText := true, laidKinds := [.data, .data, .data, .data, .sentinel, .sentinel, .pinned], laidTests := true, laidLooks := .later }
def EngineTextsUptoCardSaid : Prop := Claim7.holds Tryz.pinned (.plain (OpenSpec.upto engineTextsSpec)) engineTextsUptoCard

/-- THE SECOND FORM's CARD OF 'manifoldlaw50.EngineParses'. -/
def engineParsesUptoCard : Claim7 := { stood := { row := engineParsesUptoRow, standIns := [], harness := (true, "97152ccb6aeca614ca029413d54d7b22b027790bdde26721bef2d21dcb8a0410"), looks := true }, kinds := [], alts := [], laidByText := true, laidKinds := [.data, .data, .data, .data, .sentinel, .sentinel, .pinned], laidTests := true, laidLooks := .later }
def EngineParsesUptoCardSaid : Prop := Claim7.holds Tryz.pinned (.plain (OpenSpec.upto engineParsesSpec)) engineParsesUptoCard

/-- THE SECOND FORM's CARD OF 'manifoldlaw29.MessageDecodes'. -/
def messageDecodesUptoCard : Claim7 := { stood := { row := messageDecodesUptoRow, standIns := [], harness := (true, "97152ccb6aeca614ca029413d54d7b22b027790bdde26721bef2d21dcb8a0410"), looks := true }, kinds := [], alts := [], laidByText := true, laidKinds := [.data, .data, .data, .data, .sentinel, .sentinel, .pinned], laidTests := true, laidLooks := .later }
def MessageDecodesUptoCardSaid : Prop := Claim7.holds Tryz.pinned (.plain (OpenSpec.upto messageDecodesSpec)) messageDecodesUptoCard

/-- THE SECOND FORM's CARD OF 'manifoldlaw29.MessageTexts'. -/
def messageTextsUptoCard : Claim7 := { stood := { row := messageTextsUptoRow, standIns := [], harness := (true, "97152ccb6aeca614ca029413d54d7b22b027790bdde26721bef2d21dcb8a0410"), looks := true }, kinds := [], alts := [], laidByText := true, laidKinds := [.data, .data, .data, .data, .sentinel, .sentinel, .pinned], laidTests := true, laidLooks := .later }
def MessageTextsUptoCardSaid : Prop := Claim7.holds Tryz.pinned (.plain (OpenSpec.upto messageTextsSpec)) messageTextsUptoCard

/-- THE SECOND FORM's CARD OF 'manifoldlaw30.SlotsDecodes'. -/
def slotsDecodesUptoCard : Claim7 := { stood := { row := slotsDecodesUptoRow, standIns := [], harness := (true, "97152ccb6aeca614ca029413d54d7b22b027790bdde26721bef2d21dcb8a0410"), looks := true }, kinds := [], alts := [], laidByText := true, laidKinds := [.data, .data, .data, .data, .sentinel, .sentinel, .pinned], laidTests := true, laidLooks := .later }
def SlotsDecodesUptoCardSaid : Prop := Claim7.holds Tryz.pinned (.plain (OpenSpec.upto slotsDecodesSpec)) slotsDecodesUptoCard

/-- THE SECOND FORM's CARD OF 'manifoldlaw30.SlotsTexts'. -/
def slotsTextsUptoCard : Claim7 := { stood := { row := slotsTextsUptoRow, standIns := [], harness := (true, "97152ccb6aeca614ca029413d54d7b22b027790bdde26721bef2d21dcb8a0410"), looks := true }, kinds := [], alts := [], laidByText := true, laidKinds := [.data, .data, .data, .data, .sentinel, .sentinel, .pinned], laidTests := true, laidLooks := .later }
def SlotsTextsUptoCardSaid : Prop := Claim7.holds Tryz.pinned (.plain (OpenSpec.upto slotsTextsSpec)) slotsTextsUptoCard

/-- THE SECOND FORM's CARD OF 'manifoldlaw46.JournalEncodes'. -/
def journalEncodesUptoCard : Claim7 := { stood := { row := journalEncodesUptoRow, standIns := [], harness := (true, "97152ccb6aeca614ca029413d54d7b22b027790bdde26721bef2d21dcb8a0410"), looks := true }, kinds := [], alts := [], laidByText := true, laidKinds := [.data, .data, .data, .data, .sentinel, .sentinel, .pinned], laidTests := true, laidLooks := .later }
def JournalEncodesUptoCardSaid : Prop := Claim7.holds Tryz.pinned (.plain (OpenSpec.upto journalEncodesSpec)) journalEncodesUptoCard

/-- THE SECOND FORM's CARD OF 'manifoldlaw46.JournalReturns'. -/
def journalReturnsUptoCard : Claim7 := { stood := { row := journalReturnsUptoRow, standIns := [], harness := (true, "97152ccb6aeca614ca029413d54d7b22b027790bdde26721bef2d21dcb8a0410"), looks := true }, kinds := [], alts := [], laidByText := true, laidKinds := [.data, .data, .data, .data, .sentinel, .sentinel, .pinned], laidTests := true, laidLooks := .later }
def JournalReturnsUptoCardSaid : Prop := Claim7.holds Tryz.pinned (.plain (OpenSpec.upto journalReturnsSpec)) journalReturnsUptoCard

/-- THE SECOND FORM's CARD OF 'manifoldlaw46.JournalDecodes'. -/
def journalDecodesUptoCard : Claim7 := { stood := { row := journalDecodesUptoRow, standIns := [], harness := (true, "97152ccb6aeca614ca029413d54d7b22b027790bdde26721bef2d21dcb8a0410"), looks := true }, kinds := [], alts := [], laidByText := true, laidKinds := [.data, .data, .data, .data, .sentinel, .sentinel, .pinned], laidTests := true, laidLooks := .later }
def JournalDecodesUptoCardSaid : Prop := Claim7.holds Tryz.pinned (.plain (OpenSpec.upto journalDecodesSpec)) journalDecodesUptoCard
end Rows
end Go.Proofs.YtkljbfaemahchaaGreatDoor
