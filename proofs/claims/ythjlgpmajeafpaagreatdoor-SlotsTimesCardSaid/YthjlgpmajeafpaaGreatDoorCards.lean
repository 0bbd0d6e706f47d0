/-
  DERIVED. GIVEN WITH THE SEED: THE CARDS: each row of YthjlgpmajeafpaaGreatDoorRows.lean that lists a variable, with what it lists TIED to the program's text (the seventh form; the later family's looks); each row that meets fmt, with fmt's text TOLD by the authors' own Lean function (tested against real Go, not proved from fmt's source: count such statements apart). THE CARD IS WHAT COUNTS. Prove the row's statement (the work); the ties are given (YthjlgpmajeafpaaGreatDoorTie.lean); close each card by the builder's one call (the guide's Derived/Test/ToyasCard.lean, 'card_holds'). Laid BY PROGRAM, IN A SANDBOX (cutbox-door.mjs). By AI agents, Wed Nov 11 2026. No macro, syntax, notation, axiom, sorry.
-/
import Derived.Test.YthjlgpmajeafpaaGreatDoorRows
import GoSem.ClaimSeven
namespace Go.Proofs.YthjlgpmajeafpaaGreatDoor
namespace Rows

/-- THE TIED CARD OF 'manifoldlaw29.MessageParts'. -/
def messagePartsCard : Claim7 := { stood := { row := messagePartsRow, standIns := [], harness := (true, "ee3ba1121e1ff46148e4403ae9c0740e56a669dbdfe0e2dbc01a0a80f6d9b367"), looks := false }, kinds := [], alts := [], laidByText := true, laidKinds := [.data, .data, .data, .data, .pinned], laidTests := true, laidLooks := .later }
def MessagePartsCardSaid : Prop := Claim7.holds Tryz.pinned (.plain (OpenSpec.ofChange messagePartsSpec)) messagePartsCard

/-- THE TIED CARD OF 'manifoldlaw29.MessageFates'. -/
def messageFatesCard : Claim7 := { stood := { row := messageFatesRow, standIns := [], harness := (true, "ee3ba1121e1ff46148e4403ae9c0740e56a669dbdfe0e2dbc01a0a80f6d9b367"), looks := false }, kinds := [], alts := [], laidByText := true, laidKinds := [.data, .data, .data, .data, .pinned], laidTests := true, laidLooks := .later }
def MessageFatesCardSaid : Prop := Claim7.holds Tryz.pinned (.plain (OpenSpec.ofChange messageFatesSpec)) messageFatesCard

/-- THE TIED CARD OF 'manifoldlaw30.SlotsChecks'. -/
def slotsChecksCard : Claim7 := { stood := { row := slotsChecksRow, standIns := [], harness := (true, "ee3ba1121e1ff46148e4403ae9c0740e56a669dbdfe0e2dbc01a0a80f6d9b367"), looks := false }, kinds := [], alts := [], laidByText := true, laidKinds := [.data, .data, .data, .data, .pinned], laidTests := true, laidLooks := .later }
def SlotsChecksCardSaid : Prop := Claim7.holds Tryz.pinned (.plain (OpenSpec.ofChange slotsChecksSpec)) slotsChecksCard

/-- THE TIED CARD OF 'manifoldlaw30.SlotsFinds'. -/
def slotsFindsCard : Claim7 := { stood := { row := slotsFindsRow, standIns := [], harness := (true, "ee3ba1121e1ff46148e4403ae9c0740e56a669dbdfe0e2dbc01a0a80f6d9b367"), looks := false }, kinds := [], alts := [], laidByText := true, laidKinds := [.data, .data, .data, .data, .pinned], laidTests := true, laidLooks := .later }
def SlotsFindsCardSaid : Prop := Claim7.holds Tryz.pinned (.plain (OpenSpec.ofChange slotsFindsSpec)) slotsFindsCard

/-- THE TIED CARD OF 'manifoldlaw30.SlotsEquals'. -/
def slotsEqualsCard : Claim7 := { stood := { row := slotsEqualsRow, standIns := [], harness := (true, "ee3ba1121e1ff46148e4403ae9c0740e56a669dbdfe0e2dbc01a0a80f6d9b367"), looks := false }, kinds := [], alts := [], laidByText := true, laidKinds := [.data, .data, .data, .data, .pinned], laidTests := true, laidLooks := .later }
def SlotsEqualsCardSaid : Prop := Claim7.holds Tryz.pinned (.plain (OpenSpec.ofChange slotsEqualsSpec)) slotsEqualsCard

/-- THE TIED CARD OF 'manifoldlaw30.SlotsWaiting'. -/
def slotsWaitingCard : Claim7 := { stood := { row := slotsWaitingRow, standIns := [], harness := (true, "ee3ba1121e1ff46148e4403ae9c0740e56a669dbdfe0e2dbc01a0a80f6d9b367"), looks := false }, kinds := [], alts := [], laidByText := true, laidKinds := [.data, .data, .data, .data, .pinned], laidTests := true, laidLooks := .later }
def SlotsWaitingCardSaid : Prop := Claim7.holds Tryz.pinned (.plain (OpenSpec.ofChange slotsWaitingSpec)) slotsWaitingCard

/-- THE TIED CARD OF 'manifoldlaw29.MessageSorts'. -/
def messageSortsCard : Claim7 := { stood := { row := messageSortsRow, standIns := [], harness := (true, "ee3ba1121e1ff46148e4403ae9c0740e56a669dbdfe0e2dbc01a0a80f6d9b367"), looks := false }, kinds := [], alts := [], laidByText := true, laidKinds := [.data, .data, .data, .data, .pinned], laidTests := true, laidLooks := .later }
def MessageSortsCardSaid : Prop := Claim7.holds Tryz.pinned (.plain (OpenSpec.ofChange messageSortsSpec)) messageSortsCard

/-- THE TIED CARD OF 'manifoldlaw30.SlotsPuts'. -/
def slotsPutsCard : Claim7 := { stood := { row := slotsPutsRow, standIns := [], harness := (true, "ee3ba1121e1ff46148e4403ae9c0740e56a669dbdfe0e2dbc01a0a80f6d9b367"), looks := false }, kinds := [], alts := [], laidByText := true, laidKinds := [.data, .data, .data, .data, .pinned], laidTests := true, laidLooks := .later }
def SlotsPutsCardSaid : Prop := Claim7.holds Tryz.pinned (.plain (OpenSpec.ofChange slotsPutsSpec)) slotsPutsCard

/-- THE TIED CARD OF 'manifoldlaw30.SlotsOrders'. -/
def slotsOrdersCard : Claim7 := { stood := { row := slotsOrdersRow, standIns := [], harness := (true, "ee3ba1121e1ff46148e4403ae9c0740e56a669dbdfe0e2dbc01a0a80f6d9b367"), looks := false }, kinds := [], alts := [], laidByText := true, laidKinds := [.data, .data, .data, .data, .pinned], laidTests := true, laidLooks := .later }
def SlotsOrdersCardSaid : Prop := Claim7.holds Tryz.pinned (.plain (OpenSpec.ofChange slotsOrdersSpec)) slotsOrdersCard

/-- THE TIED CARD OF 'manifoldlaw30.SlotsLimits'. -/
def slotsLimitsCard : Claim7 := { stood := { row := slotsLimitsRow, standIns := [], harness := (true, "ee3ba1121e1ff46148e4403ae9c0740e56a669dbdfe0e2dbc01a0a80f6d9b367"), looks := false }, kinds := [], alts := [], laidByText := true, laidKinds := [.data, .data, .data, .data, .pinned], laidTests := true, laidLooks := .later }
def SlotsLimitsCardSaid : Prop := Claim7.holds Tryz.pinned (.plain (OpenSpec.ofChange slotsLimitsSpec)) slotsLimitsCard

/-- THE TIED CARD OF 'manifoldlaw30.SlotsRemoves'. -/
def slotsRemovesCard : Claim7 := { stood := { row := slotsRemovesRow, standIns := [], harness := (true, "ee3ba1121e1ff46148e4403ae9c0740e56a669dbdfe0e2dbc01a0a80f6d9b367"), looks := false }, kinds := [], alts := [], laidByText := true, laidKinds := [.data, .data, .data, .data, .pinned], laidTests := true, laidLooks := .later }
def SlotsRemovesCardSaid : Prop := Claim7.holds Tryz.pinned (.plain (OpenSpec.ofChange slotsRemovesSpec)) slotsRemovesCard

/-- THE TIED CARD OF 'manifoldlaw30.SlotsTimes'. -/
def slotsTimesCard : Claim7 := { stood := { row := slotsTimesRow, standIns := [], harness := (true, "ee3ba1121e1ff46148e4403ae9c0740e56a669dbdfe0e2dbc01a0a80f6d9b367"), looks := false }, kinds := [], alts := [], laidByText := true, laidKinds := [.data, .data, .data, .data, .pinned], laidTests := true, laidLooks := .later }
def SlotsTimesCardSaid : Prop := Claim7.holds Tryz.pinned (.plain (OpenSpec.ofChange slotsTimesSpec)) slotsTimesCard

/-- THE SECOND FORM's CARD OF 'manifoldlaw29.MessageParts'. -/
def messagePartsUptoCard : Claim7 := { stood := { row := messagePartsUptoRow, standIns := [], harness := (true, "ee3ba1121e1ff46148e4403ae9c0740e56a669dbdfe0e2dbc01a0a80f6d9b367"), looks := false }, kinds := [], alts := [], laidByText := true, laidKinds := [.data, .data, .data, .data, .pinned], laidTests := true, laidLooks := .later }
def MessagePartsUptoCardSaid : Prop := Claim7.holds Tryz.pinned (.plain (OpenSpec.upto messagePartsSpec)) messagePartsUptoCard

/-- THE SECOND FORM's CARD OF 'manifoldlaw29.MessageFates'. -/
def messageFatesUptoCard : Claim7 := { stood := { row := messageFatesUptoRow, standIns := [], harness := (true, "ee3ba1121e1ff46148e4403ae9c0740e56a669dbdfe0e2dbc01a0a80f6d9b367"), looks := false }, kinds := [], alts := [], laidByText := true, laidKinds := [.data, .data, .data, .data, .pinned], laidTests := true, laidLooks := .later }
def MessageFatesUptoCardSaid : Prop := Claim7.holds Tryz.pinned (.plain (OpenSpec.upto messageFatesSpec)) messageFatesUptoCard

/-- THE SECOND FORM's CARD OF 'manifoldlaw30.SlotsChecks'. -/
def slotsChecksUptoCard : Claim7 := { stood := { row := slotsChecksUptoRow, standIns := [], harness := (true, "ee3ba1121e1ff46148e4403ae9c0740e56a669dbdfe0e2dbc01a0a80f6d9b367"), looks := false }, kinds := [], alts := [], laidByText := true, laidKinds := [.data, .data, .data, .data, .pinned], laidTests := true, laidLooks := .later }
def SlotsChecksUptoCardSaid : Prop := Claim7.holds Tryz.pinned (.plain (OpenSpec.upto slotsChecksSpec)) slotsChecksUptoCard

/-- THE SECOND FORM's CARD OF 'manifoldlaw30.SlotsFinds'. -/
def slotsFindsUptoCard : Claim7 := { stood := { row := slotsFindsUptoRow, standIns := [], harness := (true, "ee3ba1121e1ff46148e4403ae9c0740e56a669dbdfe0e2dbc01a0a80f6d9b367"), looks := false }, kinds := [], alts := [], laidByText := true, laidKinds := [.data, .data, .data, .data, .pinned], laidTests := true, laidLooks := .later }
def SlotsFindsUptoCardSaid : Prop := Claim7.holds Tryz.pinned (.plain (OpenSpec.upto slotsFindsSpec)) slotsFindsUptoCard

/-- THE SECOND FORM's CARD OF 'manifoldlaw30.SlotsEquals'. -/
def slotsEqualsUptoCard : Claim7 := { stood := { row := slotsEqualsUptoRow, standIns := [], harness := (true, "ee3ba1121e1ff46148e4403ae9c0740e56a669dbdfe0e2dbc01a0a80f6d9b367"), looks := false }, kinds := [], alts := [], laidByText := true, laidKinds := [.data, .data, .data, .data, .pinned], laidTests := true, laidLooks := .later }
def SlotsEqualsUptoCardSaid : Prop := Claim7.holds Tryz.pinned (.plain (OpenSpec.upto slotsEqualsSpec)) slotsEqualsUptoCard

/-- THE SECOND FORM's CARD OF 'manifoldlaw30.SlotsWaiting'. -/
def slotsWaitingUptoCard : Claim7 := { stood := { row := slotsWaitingUptoRow, standIns := [], harness := (true, "ee3ba1121e1ff46148e4403ae9c0740e56a669dbdfe0e2dbc01a0a80f6d9b367"), looks := false }, kinds := [], alts := [], laidByText := true, laidKinds := [.data, .data, .data, .data, .pinned], laidTests := true, laidLooks := .later }
def SlotsWaitingUptoCardSaid : Prop := Claim7.holds Tryz.pinned (.plain (OpenSpec.upto slotsWaitingSpec)) slotsWaitingUptoCard

/-- THE SECOND FORM's CARD OF 'manifoldlaw29.MessageSorts'. -/
def messageSortsUptoCard : Claim7 := { stood := { row := messageSortsUptoRow, standIns := [], harness := (true, "ee3ba1121e1ff46148e4403ae9c0740e56a669dbdfe0e2dbc01a0a80f6d9b367"), looks := false }, kinds := [], alts := [], laidByText := true, laidKinds := [.data, .data, .data, .data, .pinned], laidTests := true, laidLooks := .later }
def MessageSortsUptoCardSaid : Prop := Claim7.holds Tryz.pinned (.plain (OpenSpec.upto messageSortsSpec)) messageSortsUptoCard

/-- THE SECOND FORM's CARD OF 'manifoldlaw30.SlotsPuts'. -/
def slotsPutsUptoCard : Claim7 := { stood := { row := slotsPutsUptoRow, standIns := [], harness := (true, "ee3ba1121e1ff46148e4403ae9c0740e56a669dbdfe0e2dbc01a0a80f6d9b367"), looks := false }, kinds := [], alts := [], laidByText := true, laidKinds := [.data, .data, .data, .data, .pinned], laidTests := true, laidLooks := .later }
def SlotsPutsUptoCardSaid : Prop := Claim7.holds Tryz.pinned (.plain (OpenSpec.upto slotsPutsSpec)) slotsPutsUptoCard

/-- THE SECOND FORM's CARD OF 'manifoldlaw30.SlotsOrders'. -/
def slotsOrdersUptoCard : Claim7 := { stood := { row := slotsOrdersUptoRow, standIns := [], harness := (true, "ee3ba1121e1ff46148e4403ae9c0740e56a669dbdfe0e2dbc01a0a80f6d9b367"), looks := false }, kinds := [], alts := [], laidByText := true, laidKinds := [.data, .data, .data, .data, .pinned], laidTests := true, laidLooks := .later }
def SlotsOrdersUptoCardSaid : Prop := Claim7.holds Tryz.pinned (.plain (OpenSpec.upto slotsOrdersSpec)) slotsOrdersUptoCard

/-- THE SECOND FORM's CARD OF 'manifoldlaw30.SlotsLimits'. -/
def slotsLimitsUptoCard : Claim7 := { stood := { row := slotsLimitsUptoRow, standIns := [], harness := (true, "ee3ba1121e1ff46148e4403ae9c0740e56a669dbdfe0e2dbc01a0a80f6d9b367"), looks := false }, kinds := [], alts := [], laidByText := true, laidKinds := [.data, .data, .data, .data, .pinned], laidTests := true, laidLooks := .later }
def SlotsLimitsUptoCardSaid : Prop := Claim7.holds Tryz.pinned (.plain (OpenSpec.upto slotsLimitsSpec)) slotsLimitsUptoCard

/-- THE SECOND FORM's CARD OF 'manifoldlaw30.SlotsRemoves'. -/
def slotsRemovesUptoCard : Claim7 := { stood := { row := slotsRemovesUptoRow, standIns := [], harness := (true, "ee3ba1121e1ff46148e4403ae9c0740e56a669dbdfe0e2dbc01a0a80f6d9b367"), looks := false }, kinds := [], alts := [], laidByText := true, laidKinds := [.data, .data, .data, .data, .pinned], laidTests := true, laidLooks := .later }
def SlotsRemovesUptoCardSaid : Prop := Claim7.holds Tryz.pinned (.plain (OpenSpec.upto slotsRemovesSpec)) slotsRemovesUptoCard

/-- THE SECOND FORM's CARD OF 'manifoldlaw30.SlotsTimes'. -/
def slotsTimesUptoCard : Claim7 := { stood := { row := slotsTimesUptoRow, standIns := [], harness := (true, "ee3ba1121e1ff46148e4403ae9c0740e56a669dbdfe0e2dbc01a0a80f6d9b367"), looks := false }, kinds := [], alts := [], laidByText := true, laidKinds := [.data, .data, .data, .data, .pinned], laidTests := true, laidLooks := .later }
def SlotsTimesUptoCardSaid : Prop := Claim7.holds Tryz.pinned (.plain (OpenSpec.upto slotsTimesSpec)) slotsTimesUptoCard
end Rows
end Go.Proofs.YthjlgpmajeafpaaGreatDoor
