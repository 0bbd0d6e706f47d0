/-
  DERIVED. GIVEN WITH THE SEED: THE CARDS: each row of YtaofolgaiipcjaaGreatDoorRows.lean that lists a variable, with what it lists TIED to the program's text (the seventh form; the later family's looks); each row that meets fmt, with fmt's text TOLD by the authors' own Lean function (tested against real Go, not proved from fmt's source: count such statements apart). THE CARD IS WHAT COUNTS. Prove the row's statement (the work); the ties are given (YtaofolgaiipcjaaGreatDoorTie.lean); close each card by the builder's one call (the guide's Derived/Test/ToyasCard.lean, 'card_holds'). Laid BY PROGRAM, IN A SANDBOX (cutbox-door.mjs). By AI agents, Wed Nov 11 2026. No macro, syntax, notation, axiom, sorry.
-/
import Derived.Test.YtaofolgaiipcjaaGreatDoorRows
import GoSem.ClaimSeven
namespace Go.Proofs.YtaofolgaiipcjaaGreatDoor
namespace Rows

/-- THE TIED CARD OF 'manifoldlaw46.JournalEncodes'. -/
def journalEncodesCard : Claim7 := { stood := { row := journalEncodesRow, standIns := [], harness := (true, "efa6630587c261115d09c2ae62228cfc9ef583cf4ade45159ddf4cce5d8e2734"), looks := true }, kinds := [], alts := [], laidByText := true, laidKinds := [.data, .data, .data, .data, .sentinel, .sentinel, .pinned], laidTests := true, laidLooks := .later }
def JournalEncodesCardSaid : Prop := Claim7.holds Tryz.pinned (.plain (OpenSpec.ofChange journalEncodesSpec)) journalEncodesCard

/-- THE TIED CARD OF 'manifoldlaw46.JournalReturns'. -/
def journalReturnsCard : Claim7 := { stood := { row := journalReturnsRow, standIns := [], harness := (true, "efa6630587c261115d09c2ae62228cfc9ef583cf4ade45159ddf4cce5d8e2734"), looks := true }, kinds := [], alts := [], laidByText := true, laidKinds := [.data, .data, .data, .data, .sentinel, .sentinel, .pinned], laidTests := true, laidLooks := .later }
def JournalReturnsCardSaid : Prop := Claim7.holds Tryz.pinned (.plain (OpenSpec.ofChange journalReturnsSpec)) journalReturnsCard

/-- THE TIED CARD OF 'manifoldlaw46.JournalDecodes'. -/
def journalDecodesCard : Claim7 := { stood := { row := journalDecodesRow, standIns := [], harness := (true, "efa6630587c261115d09c2ae62228cfc9ef583cf4ade45159ddf4cce5d8e2734"), looks := true }, kinds := [], alts := [], laidByText := true, laidKinds := [.data, .data, .data, .data, .sentinel, .sentinel, .pinned], laidTests := true, laidLooks := .later }
def JournalDecodesCardSaid : Prop := Claim7.holds Tryz.pinned (.plain (OpenSpec.ofChange journalDecodesSpec)) journalDecodesCard

/-- THE TIED CARD OF 'manifoldlaw30.SlotsTexts'. -/
def slotsTextsCard : Claim7 := { stood := { row := slotsTextsRow, standIns := [], harness := (true, "efa6630587c261115d09c2ae62228cfc9ef583cf4ade45159ddf4cce5d8e2734"), looks := true }, kinds := [], alts := [], laidByText := true, laidKinds := [.data, .data, .data, .data, .sentinel, .sentinel, .pinned], laidTests := true, laidLooks := .later }
def SlotsTextsCardSaid : Prop := Claim7.holds Tryz.pinned (.plain (OpenSpec.ofChange slotsTextsSpec)) slotsTextsCard

/-- THE TIED CARD OF 'manifoldlaw30.SlotsDecodes'. -/
def slotsDecodesCard : Claim7 := { stood := { row := slotsDecodesRow, standIns := [], harness := (true, "efa6630587c261115d09c2ae62228cfc9ef583cf4ade45159ddf4cce5d8e2734"), looks := true }, kinds := [], alts := [], laidByText := true, laidKinds := [.data, .data, .data, .data, .sentinel, .sentinel, .pinned], laidTests := true, laidLooks := .later }
def SlotsDecodesCardSaid : Prop := Claim7.holds Tryz.pinned (.plain (OpenSpec.ofChange slotsDecodesSpec)) slotsDecodesCard

/-- THE TIED CARD OF 'manifoldlaw47.SnapshotChecks'. -/
def snapshotChecksCard : Claim7 := { stood := { row := snapshotChecksRow, standIns := [], harness := (true, "efa6630587c261115d09c2ae62228cfc9ef583cf4ade45159ddf4cce5d8e2734"), looks := true }, kinds := [], alts := [], laidByText := true, laidKinds := [.data, .data, .data, .data, .sentinel, .sentinel, .pinned], laidTests := true, laidLooks := .later }
def SnapshotChecksCardSaid : Prop := Claim7.holds Tryz.pinned (.plain (OpenSpec.ofChange snapshotChecksSpec)) snapshotChecksCard

/-- THE TIED CARD OF 'manifoldlaw47.SnapshotTexts'. -/
def snapshotTextsCard : Claim7 := { stood := { row := snapshotTextsRow, standIns := [], harness := (true, "efa6630587c261115d09c2ae62228cfc9ef583cf4ade45159ddf4cce5d8e2734"), looks := true }, kinds := [], alts := [], laidByText := true, laidKinds := [.data, .data, .data, .data, .sentinel, .sentinel, .pinned], laidTests := true, laidLooks := .later }
def SnapshotTextsCardSaid : Prop := Claim7.holds Tryz.pinned (.plain (OpenSpec.ofChange snapshotTextsSpec)) snapshotTextsCard

/-- THE TIED CARD OF 'manifoldlaw47.SnapshotDecodes'. -/
def snapshotDecodesCard : Claim7 := { stood := { row := snapshotDecodesRow, standIns := [], harness := (true, "efa6630587c261115d09c2ae62228cfc9ef583cf4ade45159ddf4cce5d8e2734"), looks := true }, kinds := [], alts := [], laidByText := true, laidKinds := [.data, .data, .data, .data, .sentinel, .sentinel, .pinned], laidTests := true, laidLooks := .later }
def SnapshotDecodesCardSaid : Prop := Claim7.holds Tryz.pinned (.plain (OpenSpec.ofChange snapshotDecodesSpec)) snapshotDecodesCard

/-- THE TIED CARD OF 'manifoldlaw47.SnapshotTorn'. -/
def snapshotTornCard : Claim7 := { stood := { row := snapshotTornRow, standIns := [], harness := (true, "efa6630587c261115d09c2ae62228cfc9ef583cf4ade45159ddf4cce5d8e2734"), looks := true }, kinds := [], alts := [], laidByText := true, laidKinds := [.data, .data, .data, .data, .sentinel, .sentinel, .pinned], laidTests := true, laidLooks := .later }
def SnapshotTornCardSaid : Prop := Claim7.holds Tryz.pinned (.plain (OpenSpec.ofChange snapshotTornSpec)) snapshotTornCard

/-- THE TIED CARD OF 'manifoldlaw47.SnapshotEquals'. -/
def snapshotEqualsCard : Claim7 := { stood := { row := snapshotEqualsRow, standIns := [], harness := (true, "efa6630587c261115d09c2ae62228cfc9ef583cf4ade45159ddf4cce5d8e2734"), looks := true }, kinds := [], alts := [], laidByText := true, laidKinds := [.data, .data, .data, .data, .sentinel, .sentinel, .pinned], laidTests := true, laidLooks := .later }
def SnapshotEqualsCardSaid : Prop := Claim7.holds Tryz.pinned (.plain (OpenSpec.ofChange snapshotEqualsSpec)) snapshotEqualsCard

/-- THE TIED CARD OF 'manifoldlaw47.SnapshotNames'. -/
def snapshotNamesCard : Claim7 := { stood := { row := snapshotNamesRow, standIns := [], harness := (true, "efa6630587c261115d09c2ae62228cfc9ef583cf4ade45159ddf4cce5d8e2734"), looks := true }, kinds := [], alts := [], laidByText := true, laidKinds := [.data, .data, .data, .data, .sentinel, .sentinel, .pinned], laidTests := true, laidLooks := .later }
def SnapshotNamesCardSaid : Prop := Claim7.holds Tryz.pinned (.plain (OpenSpec.ofChange snapshotNamesSpec)) snapshotNamesCard

/-- THE SECOND FORM's CARD OF 'manifoldlaw46.JournalEncodes'. -/
def journalEncodesUptoCard : Claim7 := { stood := { row := journalEncodesUptoRow, standIns := [], harness := (true, "efa6630587c261115d09c2ae62228cfc9ef583cf4ade45159ddf4cce5d8e2734"), looks := true }, kinds := [], alts := [], laidByText := true, laidKinds := [.data, .data, .data, .data, .sentinel, .sentinel, .pinned], laidTests := true, laidLooks := .later }
def JournalEncodesUptoCardSaid : Prop := Claim7.holds Tryz.pinned (.plain (OpenSpec.upto journalEncodesSpec)) journalEncodesUptoCard

/-- THE SECOND FORM's CARD OF 'manifoldlaw46.JournalReturns'. -/
def journalReturnsUptoCard : Claim7 := { stood := { row := journalReturnsUptoRow, standIns := [], harness := (true, "efa6630587c261115d09c2ae62228cfc9ef583cf4ade45159ddf4cce5d8e2734"), looks := true }, kinds := [], alts := [], laidByText := true, laidKinds := [.data, .data, .data, .data, .sentinel, .sentinel, .pinned], laidTests := true, laidLooks := .later }
def JournalReturnsUptoCardSaid : Prop := Claim7.holds Tryz.pinned (.plain (OpenSpec.upto journalReturnsSpec)) journalReturnsUptoCard

/-- THE SECOND FORM's CARD OF 'manifoldlaw46.JournalDecodes'. -/
def journalDecodesUptoCard : Claim7 := { stood := { row := journalDecodesUptoRow, standIns := [], harness := (true, "efa6630587c261115d09c2ae62228cfc9ef583cf4ade45159ddf4cce5d8e2734"), looks := true }, kinds := [], alts := [], laidByText := true, laidKinds := [.data, .data, .data, .data, .sentinel, .sentinel, .pinned], laidTests := true, laidLooks := .later }
def JournalDecodesUptoCardSaid : Prop := Claim7.holds Tryz.pinned (.plain (OpenSpec.upto journalDecodesSpec)) journalDecodesUptoCard

/-- THE SECOND FORM's CARD OF 'manifoldlaw30.SlotsTexts'. -/
def slotsTextsUptoCard : Claim7 := { stood := { row := slotsTextsUptoRow, standIns := [], harness := (true, "efa6630587c261115d09c2ae62228cfc9ef583cf4ade45159ddf4cce5d8e2734"), looks := true }, kinds := [], alts := [], laidByText := true, laidKinds := [.data, .data, .data, .data, .sentinel, .sentinel, .pinned], laidTests := true, laidLooks := .later }
def SlotsTextsUptoCardSaid : Prop := Claim7.holds Tryz.pinned (.plain (OpenSpec.upto slotsTextsSpec)) slotsTextsUptoCard

/-- THE SECOND FORM's CARD OF 'manifoldlaw30.SlotsDecodes'. -/
def slotsDecodesUptoCard : Claim7 := { stood := { row := slotsDecodesUptoRow, standIns := [], harness := (true, "efa6630587c261115d09c2ae62228cfc9ef583cf4ade45159ddf4cce5d8e2734"), looks := true }, kinds := [], alts := [], laidByText := true, laidKinds := [.data, .data, .data, .data, .sentinel, .sentinel, .pinned], laidTests := true, laidLooks := .later }
def SlotsDecodesUptoCardSaid : Prop := Claim7.holds Tryz.pinned (.plain (OpenSpec.upto slotsDecodesSpec)) slotsDecodesUptoCard

/-- THE SECOND FORM's CARD OF 'manifoldlaw47.SnapshotChecks'. -/
def snapshotChecksUptoCard : Claim7 := { stood := { row := snapshotChecksUptoRow, standIns := [], harness := (true, "efa6630587c261115d09c2ae62228cfc9ef583cf4ade45159ddf4cce5d8e2734"), looks := true }, kinds := [], alts := [], laidByText := true, laidKinds := [.data, .data, .data, .data, .sentinel, .sentinel, .pinned], laidTests := true, laidLooks := .later }
def SnapshotChecksUptoCardSaid : Prop := Claim7.holds Tryz.pinned (.plain (OpenSpec.upto snapshotChecksSpec)) snapshotChecksUptoCard

/-- THE SECOND FORM's CARD OF 'manifoldlaw47.SnapshotTexts'. -/
def snapshotTextsUptoCard : Claim7 := { stood := { row := snapshotTextsUptoRow, standIns := [], harness := (true, "efa6630587c261115d09c2ae62228cfc9ef583cf4ade45159ddf4cce5d8e2734"), looks := true }, kinds := [], alts := [], laidByText := true, laidKinds := [.data, .data, .data, .data, .sentinel, .sentinel, .pinned], laidTests := true, laidLooks := .later }
def SnapshotTextsUptoCardSaid : Prop := Claim7.holds Tryz.pinned (.plain (OpenSpec.upto snapshotTextsSpec)) snapshotTextsUptoCard

/-- THE SECOND FORM's CARD OF 'manifoldlaw47.SnapshotDecodes'. -/
def snapshotDecodesUptoCard : Claim7 := { stood := { row := snapshotDecodesUptoRow, standIns := [], harness := (true, "efa6630587c261115d09c2ae62228cfc9ef583cf4ade45159ddf4cce5d8e2734"), looks := true }, kinds := [], alts := [], laidByText := true, laidKinds := [.data, .data, .data, .data, .sentinel, .sentinel, .pinned], laidTests := true, laidLooks := .later }
def SnapshotDecodesUptoCardSaid : Prop := Claim7.holds Tryz.pinned (.plain (OpenSpec.upto snapshotDecodesSpec)) snapshotDecodesUptoCard

/-- THE SECOND FORM's CARD OF 'manifoldlaw47.SnapshotTorn'. -/
def snapshotTornUptoCard : Claim7 := { stood := { row := snapshotTornUptoRow, standIns := [], harness := (true, "efa6630587c261115d09c2ae62228cfc9ef583cf4ade45159ddf4cce5d8e2734"), looks := true }, kinds := [], alts := [], laidByText := true, laidKinds := [.data, .data, .data, .data, .sentinel, .sentinel, .pinned], laidTests := true, laidLooks := .later }
def SnapshotTornUptoCardSaid : Prop := Claim7.holds Tryz.pinned (.plain (OpenSpec.upto snapshotTornSpec)) snapshotTornUptoCard

/-- THE SECOND FORM's CARD OF 'manifoldlaw47.SnapshotEquals'. -/
def snapshotEqualsUptoCard : Claim7 := { stood := { row := snapshotEqualsUptoRow, standIns := [], harness := (true, "efa6630587c261115d09c2ae62228cfc9ef583cf4ade45159ddf4cce5d8e2734"), looks := true }, kinds := [], alts := [], laidByText := true, laidKinds := [.data, .data, .data, .data, .sentinel, .sentinel, .pinned], laidTests := true, laidLooks := .later }
def SnapshotEqualsUptoCardSaid : Prop := Claim7.holds Tryz.pinned (.plain (OpenSpec.upto snapshotEqualsSpec)) snapshotEqualsUptoCard

/-- THE SECOND FORM's CARD OF 'manifoldlaw47.SnapshotNames'. -/
def snapshotNamesUptoCard : Claim7 := { stood := { row := snapshotNamesUptoRow, standIns := [], harness := (true, "efa6630587c261115d09c2ae62228cfc9ef583cf4ade45159ddf4cce5d8e2734"), looks := true }, kinds := [], alts := [], laidByText := true, laidKinds := [.data, .data, .data, .data, .sentinel, .sentinel, .pinned], laidTests := true, laidLooks := .later }
def SnapshotNamesUptoCardSaid : Prop := Claim7.holds Tryz.pinned (.plain (OpenSpec.upto snapshotNamesSpec)) snapshotNamesUptoCard
end Rows
end Go.Proofs.YtaofolgaiipcjaaGreatDoor
