/-
  DERIVED. GIVEN WITH THE SEED: THE CARDS: each row of YtmgpghoamapfgaaGreatDoorRows.lean that lists a variable, with what it lists TIED to the program's text (the seventh form; the later family's looks); each row that meets fmt, with fmt's text TOLD by the authors' own Lean function (tested against real Go, not proved from fmt's source: count such statements apart). THE CARD IS WHAT COUNTS. Prove the row's statement (the work); the ties are given (YtmgpghoamapfgaaGreatDoorTie.lean); close each card by the builder's one call (the guide's Derived/Test/ToyasCard.lean, 'card_holds'). Laid BY PROGRAM, IN A SANDBOX (cutbox-door.mjs). By AI agents, Wed Nov 11 2026. No macro, syntax, notation, axiom, sorry.
-/
import Derived.Test.YtmgpghoamapfgaaGreatDoorRows
import GoSem.ClaimSeven
namespace Go.Proofs.YtmgpghoamapfgaaGreatDoor
namespace Rows

/-- THE TIED CARD OF 'manifoldlaw30.SlotsTexts'. -/
def slotsTextsCard : Claim7 := { stood := { row := slotsTextsRow, standIns := [], harness := (true, "811b11e61f9c6592a5ee7f74774b78c6a54049537a5a3ed82105ee8d4678f6b6"), looks := true }, kinds := [], alts := [], laidByText := true, laidKinds := [.data, .data, .data, .data, .sentinel, .sentinel, .pinned], laidTests := true, laidLooks := .later }
def SlotsTextsCardSaid : Prop := Claim7.holds Tryz.pinned (.plain (OpenSpec.ofChange slotsTextsSpec)) slotsTextsCard

/-- THE TIED CARD OF 'manifoldlaw46.JournalNone'. -/
def journalNoneCard : Claim7 := { stood := { row := journalNoneRow, standIns := [], harness := (true, "811b11e61f9c6592a5ee7f74774b78c6a54049537a5a3ed82105ee8d4678f6b6"), looks := true }, kinds := [], alts := [], laidByText := true, laidKinds := [.data, .data, .data, .data, .sentinel, .sentinel, .pinned], laidTests := true, laidLooks := .later }
def JournalNoneCardSaid : Prop := Claim7.holds Tryz.pinned (.plain (OpenSpec.ofChange journalNoneSpec)) journalNoneCard

/-- THE SECOND FORM's CARD OF 'manifoldlaw30.SlotsTexts'. -/
def slotsTextsUptoCard : Claim7 := { stood := { row := slotsTextsUptoRow, standIns := [], harness := (true, "811b11e61f9c6592a5ee7f74774b78c6a54049537a5a3ed82105ee8d4678f6b6"), looks := true }, kinds := [], alts := [], laidByText := true, laidKinds := [.data, .data, .data, .data, .sentinel, .sentinel, .pinned], laidTests := true, laidLooks := .later }
def SlotsTextsUptoCardSaid : Prop := Claim7.holds Tryz.pinned (.plain (OpenSpec.upto slotsTextsSpec)) slotsTextsUptoCard

/-- THE SECOND FORM's CARD OF 'manifoldlaw46.JournalNone'. -/
def journalNoneUptoCard : Claim7 := { stood := { row := journalNoneUptoRow, standIns := [], harness := (true, "811b11e61f9c6592a5ee7f74774b78c6a54049537a5a3ed82105ee8d4678f6b6"), looks := true }, kinds := [], alts := [], laidByText := true, laidKinds := [.data, .data, .data, .data, .sentinel, .sentinel, .pinned], laidTests := true, laidLooks := .later }
def JournalNoneUptoCardSaid : Prop := Claim7.holds Tryz.pinned (.plain (OpenSpec.upto journalNoneSpec)) journalNoneUptoCard
end Rows
end Go.Proofs.YtmgpghoamapfgaaGreatDoor
