/-
  DERIVED. GIVEN WITH THE SEED: THE CARDS: each row of YtoodnaghjpkjfaaGreatDoorRows.lean that lists a variable, with what it lists TIED to the program's text (the seventh form; the later family's looks); each row that meets fmt, with fmt's text TOLD by the authors' own Lean function (tested against real Go, not proved from fmt's source: count such statements apart). THE CARD IS WHAT COUNTS. Prove the row's statement (the work); the ties are given (YtoodnaghjpkjfaaGreatDoorTie.lean); close each card by the builder's one call (the guide's Derived/Test/ToyasCard.lean, 'card_holds'). Laid BY PROGRAM, IN A SANDBOX (cutbox-door.mjs). By AI agents, Wed Nov 11 2026. No macro, syntax, notation, axiom, sorry.
-/
import Derived.Test.YtoodnaghjpkjfaaGreatDoorRows
import GoSem.ClaimSeven
namespace Go.Proofs.YtoodnaghjpkjfaaGreatDoor
namespace Rows

/-- THE TIED CARD OF 'manifoldlaw47.SnapshotDecodes'. -/
def snapshotDecodesCard : Claim7 := { stood := { row := snapshotDecodesRow, standIns := [], harness := (true, "061f5b7b1f87f1d4f61643099bda1d336bf79ce18e2c6d0b8dda6f8603c44af1"), looks := true }, kinds := [], alts := [], laidByText := true, laidKinds := [.data, .data, .data, .data, .sentinel, .sentinel, .pinned], laidTests := true, laidLooks := .later }
def SnapshotDecodesCardSaid : Prop := Claim7.holds Tryz.pinned (.plain (OpenSpec.ofChange snapshotDecodesSpec)) snapshotDecodesCard

/-- THE TIED CARD OF 'manifoldlaw47.SnapshotTorn'. -/
def snapshotTornCard : Claim7 := { stood := { row := snapshotTornRow, standIns := [], harness := (true, "061f5b7b1f87f1d4f61643099bda1d336bf79ce18e2c6d0b8dda6f8603c44af1"), looks := true }, kinds := [], alts := [], laidByText := true, laidKinds := [.data, .data, .data, .data, .sentinel, .sentinel, .pinned], laidTests := true, laidLooks := .later }
def SnapshotTornCardSaid : Prop := Claim7.holds Tryz.pinned (.plain (OpenSpec.ofChange snapshotTornSpec)) snapshotTornCard

/-- THE SECOND FORM's CARD OF 'manifoldlaw47.SnapshotDecodes'. -/
def snapshotDecodesUptoCard : Claim7 := { stood := { row := snapshotDecodesUptoRow, standIns := [], harness := (true, "061f5b7b1f87f1d4f61643099bda1d336bf79ce18e2c6d0b8dda6f8603c44af1"), looks := true }, kinds := [], alts := [], laidByText := true, laidKinds := [.data, .data, .data, .data, .sentinel, .sentinel, .pinned], laidTests := true, laidLooks := .later }
def SnapshotDecodesUptoCardSaid : Prop := Claim7.holds Tryz.pinned (.plain (OpenSpec.upto snapshotDecodesSpec)) snapshotDecodesUptoCard

/-- THE SECOND FORM's CARD OF 'manifoldlaw47.SnapshotTorn'. -/
def snapshotTornUptoCard : Claim7 := { stood := { row := snapshotTornUptoRow, standIns := [], harness := (true, "061f5b7b1f87f1d4f61643099bda1d336bf79ce18e2c6d0b8dda6f8603c44af1"), looks := true }, kinds := [], alts := [], laidByText := true, laidKinds := [.data, .data, .data, .data, .sentinel, .sentinel, .pinned], laidTests := true, laidLooks := .later }
def SnapshotTornUptoCardSaid : Prop := Claim7.holds Tryz.pinned (.plain (OpenSpec.upto snapshotTornSpec)) snapshotTornUptoCard
end Rows
end Go.Proofs.YtoodnaghjpkjfaaGreatDoor
