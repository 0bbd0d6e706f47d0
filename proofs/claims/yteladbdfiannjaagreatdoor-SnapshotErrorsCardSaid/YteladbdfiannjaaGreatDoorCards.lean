/-
  DERIVED. GIVEN WITH THE SEED: THE CARDS: each row of YteladbdfiannjaaGreatDoorRows.lean that lists a variable, with what it lists TIED to the program's text (the seventh form; the later family's looks); each row that meets fmt, with fmt's text TOLD by the authors' own Lean function (tested against real Go, not proved from fmt's source: count such statements apart). THE CARD IS WHAT COUNTS. Prove the row's statement (the work); the ties are given (YteladbdfiannjaaGreatDoorTie.lean); close each card by the builder's one call (the guide's Derived/Test/ToyasCard.lean, 'card_holds'). Laid BY PROGRAM, IN A SANDBOX (cutbox-door.mjs). By AI agents, Wed Nov 11 2026. No macro, syntax, notation, axiom, sorry.
-/
import Derived.Test.YteladbdfiannjaaGreatDoorRows
import GoSem.ClaimSeven
namespace Go.Proofs.YteladbdfiannjaaGreatDoor
namespace Rows

/-- THE TIED CARD OF 'manifoldlaw47.SnapshotChecks'. -/
def snapshotChecksCard : Claim7 := { stood := { row := snapshotChecksRow, standIns := [], harness := (true, "28076e8911833fb6fd2ae0c7846c86464e738f9d6efc4ed9b2c041742a16f71b"), looks := true }, kinds := [], alts := [], laidByText := true, laidKinds := [.data, .data, .data, .data, .sentinel, .sentinel, .pinned], laidTests := true, laidLooks := .later }
def SnapshotChecksCardSaid : Prop := Claim7.holds Tryz.pinned (.plain (OpenSpec.ofChange snapshotChecksSpec)) snapshotChecksCard

/-- THE TIED CARD OF 'manifoldlaw47.SnapshotEquals'. -/
def snapshotEqualsCard : Claim7 := { stood := { row := snapshotEqualsRow, standIns := [], harness := (true, "28076e8911833fb6fd2ae0c7846c86464e738f9d6efc4ed9b2c041742a16f71b"), looks := true }, kinds := [], alts := [], laidByText := true, laidKinds := [.data, .data, .data, .data, .sentinel, .sentinel, .pinned], laidTests := true, laidLooks := .later }
def SnapshotEqualsCardSaid : Prop := Claim7.holds Tryz.pinned (.plain (OpenSpec.ofChange snapshotEqualsSpec)) snapshotEqualsCard

/-- THE TIED CARD OF 'manifoldlaw47.SnapshotErrors'. -/
def snapshotErrorsCard : Claim7 := { stood := { row := snapshotErrorsRow, standIns := [], harness := (true, "28076e8911833fb6fd2ae0c7846c86464e738f9d6efc4ed9b2c041742a16f71b"), looks := true }, kinds := [], alts := [], laidByText := true, laidKinds := [.data, .data, .data, .data, .sentinel, .sentinel, .pinned], laidTests := true, laidLooks := .later }
def SnapshotErrorsCardSaid : Prop := Claim7.holds Tryz.pinned (.plain (OpenSpec.ofChange snapshotErrorsSpec)) snapshotErrorsCard

/-- THE SECOND FORM's CARD OF 'manifoldlaw47.SnapshotChecks'. -/
def snapshotChecksUptoCard : Claim7 := { stood := { row := snapshotChecksUptoRow, standIns := [], harness := (true, "28076e8911833fb6fd2ae0c7846c86464e738f9d6efc4ed9b2c041742a16f71b"), looks := true }, kinds := [], alts := [], laidByText := true, laidKinds := [.data, .data, .data, .data, .sentinel, .sentinel, .pinned], laidTests := true, laidLooks := .later }
def SnapshotChecksUptoCardSaid : Prop := Claim7.holds Tryz.pinned (.plain (OpenSpec.upto snapshotChecksSpec)) snapshotChecksUptoCard

/-- THE SECOND FORM's CARD OF 'manifoldlaw47.SnapshotEquals'. -/
def snapshotEqualsUptoCard : Claim7 := { stood := { row := snapshotEqualsUptoRow, standIns := [], harness := (true, "28076e8911833fb6fd2ae0c7846c86464e738f9d6efc4ed9b2c041742a16f71b"), looks := true }, kinds := [], alts := [], laidByText := true, laidKinds := [.data, .data, .data, .data, .sentinel, .sentinel, .pinned], laidTests := true, laidLooks := .later }
def SnapshotEqualsUptoCardSaid : Prop := Claim7.holds Tryz.pinned (.plain (OpenSpec.upto snapshotEqualsSpec)) snapshotEqualsUptoCard

/-- THE SECOND FORM's CARD OF 'manifoldlaw47.SnapshotErrors'. -/
def snapshotErrorsUptoCard : Claim7 := { stood := { row := snapshotErrorsUptoRow, standIns := [], harness := (true, "28076e8911833fb6fd2ae0c7846c86464e738f9d6efc4ed9b2c041742a16f71b"), looks := true }, kinds := [], alts := [], laidByText := true, laidKinds := [.data, .data, .data, .data, .sentinel, .sentinel, .pinned], laidTests := true, laidLooks := .later }
def SnapshotErrorsUptoCardSaid : Prop := Claim7.holds Tryz.pinned (.plain (OpenSpec.upto snapshotErrorsSpec)) snapshotErrorsUptoCard
end Rows
end Go.Proofs.YteladbdfiannjaaGreatDoor
