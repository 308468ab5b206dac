/-
  DERIVED. GIVEN WITH THE SEED: THE CARDS: each row of YtldfencaoaikgaaGreatDoorRows.lean that lists a variable, with what it lists TIED to the program's text (the seventh form; the later family's looks); each row that meets fmt, with fmt's text TOLD by the authors' own Lean function (tested against real Go, not proved from fmt's source: count such statements apart). THE CARD IS WHAT COUNTS. Prove the row's statement (the work); the ties are given (YtldfencaoaikgaaGreatDoorTie.lean); close each card by the builder's one call (the guide's Derived/Test/ToyasCard.lean, 'card_holds'). Laid BY PROGRAM, IN A SANDBOX (cutbox-door.mjs). By AI agents, Wed Nov 11 2026. No macro, syntax, notation, axiom, sorry.
-/
import Derived.Test.YtldfencaoaikgaaGreatDoorRows
import GoSem.ClaimSeven
namespace Go.Proofs.YtldfencaoaikgaaGreatDoor
namespace Rows

/-- THE TIED CARD OF 'viatorlaw20.NetworkChecks'. -/
def networkChecksCard : Claim7 := { stood := { row := networkChecksRow, standIns := [], harness := (true, "ec80002bd1fa915b43357eb9ea7a3c3d28dbe711a23bde2ce8a261a10fdecd8e"), looks := false }, kinds := [], alts := [], laidByText := true, laidKinds := [.data, .pinned], laidTests := true, laidLooks := .later }
def NetworkChecksCardSaid : Prop := Claim7.holds Tryz.pinned (.plain (OpenSpec.ofChange networkChecksSpec)) networkChecksCard

/-- THE TIED CARD OF 'viatorlaw20.NetworkPoints'. -/
def networkPointsCard : Claim7 := { stood := { row := networkPointsRow, standIns := [], harness := (true, "ec80002bd1fa915b43357eb9ea7a3c3d28dbe711a23bde2ce8a261a10fdecd8e"), looks := false }, kinds := [], alts := [], laidByText := true, laidKinds := [.data, .pinned], laidTests := true, laidLooks := .later }
def NetworkPointsCardSaid : Prop := Claim7.holds Tryz.pinned (.plain (OpenSpec.ofChange networkPointsSpec)) networkPointsCard

/-- THE TIED CARD OF 'viatorlaw20.NetworkReaches'. -/
def networkReachesCard : Claim7 := { stood := { row := networkReachesRow, standIns := [], harness := (true, "ec80002bd1fa915b43357eb9ea7a3c3d28dbe711a23bde2ce8a261a10fdecd8e"), looks := false }, kinds := [], alts := [], laidByText := true, laidKinds := [.data, .pinned], laidTests := true, laidLooks := .later }
def NetworkReachesCardSaid : Prop := Claim7.holds Tryz.pinned (.plain (OpenSpec.ofChange networkReachesSpec)) networkReachesCard

/-- THE TIED CARD OF 'viatorlaw20.NetworkGroups'. -/
def networkGroupsCard : Claim7 := { stood := { row := networkGroupsRow, standIns := [], harness := (true, "ec80002bd1fa915b43357eb9ea7a3c3d28dbe711a23bde2ce8a261a10fdecd8e"), looks := false }, kinds := [], alts := [], laidByText := true, laidKinds := [.data, .pinned], laidTests := true, laidLooks := .later }
def NetworkGroupsCardSaid : Prop := Claim7.holds Tryz.pinned (.plain (OpenSpec.ofChange networkGroupsSpec)) networkGroupsCard

/-- THE TIED CARD OF 'viatorlaw20.NetworkFinds'. -/
def networkFindsCard : Claim7 := { stood := { row := networkFindsRow, standIns := [], harness := (true, "ec80002bd1fa915b43357eb9ea7a3c3d28dbe711a23bde2ce8a261a10fdecd8e"), looks := false }, kinds := [], alts := [], laidByText := true, laidKinds := [.data, .pinned], laidTests := true, laidLooks := .later }
def NetworkFindsCardSaid : Prop := Claim7.holds Tryz.pinned (.plain (OpenSpec.ofChange networkFindsSpec)) networkFindsCard

/-- THE TIED CARD OF 'viatorlaw20.NetworkExits'. -/
def networkExitsCard : Claim7 := { stood := { row := networkExitsRow, standIns := [], harness := (true, "ec80002bd1fa915b43357eb9ea7a3c3d28dbe711a23bde2ce8a261a10fdecd8e"), looks := false }, kinds := [], alts := [], laidByText := true, laidKinds := [.data, .pinned], laidTests := true, laidLooks := .later }
def NetworkExitsCardSaid : Prop := Claim7.holds Tryz.pinned (.plain (OpenSpec.ofChange networkExitsSpec)) networkExitsCard

/-- THE TIED CARD OF 'viatorlaw20.NetworkReverses'. -/
def networkReversesCard : Claim7 := { stood := { row := networkReversesRow, standIns := [], harness := (true, "ec80002bd1fa915b43357eb9ea7a3c3d28dbe711a23bde2ce8a261a10fdecd8e"), looks := false }, kinds := [], alts := [], laidByText := true, laidKinds := [.data, .pinned], laidTests := true, laidLooks := .later }
def NetworkReversesCardSaid : Prop := Claim7.holds Tryz.pinned (.plain (OpenSpec.ofChange networkReversesSpec)) networkReversesCard

/-- THE TIED CARD OF 'viatorlaw20.NetworkNodes'. -/
def networkNodesCard : Claim7 := { stood := { row := networkNodesRow, standIns := [], harness := (true, "ec80002bd1fa915b43357eb9ea7a3c3d28dbe711a23bde2ce8a261a10fdecd8e"), looks := false }, kinds := [], alts := [], laidByText := true, laidKinds := [.data, .pinned], laidTests := true, laidLooks := .later }
def NetworkNodesCardSaid : Prop := Claim7.holds Tryz.pinned (.plain (OpenSpec.ofChange networkNodesSpec)) networkNodesCard

/-- THE TIED CARD OF 'viatorlaw20.NetworkSame'. -/
def networkSameCard : Claim7 := { stood := { row := networkSameRow, standIns := [], harness := (true, "ec80002bd1fa915b43357eb9ea7a3c3d28dbe711a23bde2ce8a261a10fdecd8e"), looks := false }, kinds := [], alts := [], laidByText := true, laidKinds := [.data, .pinned], laidTests := true, laidLooks := .later }
def NetworkSameCardSaid : Prop := Claim7.holds Tryz.pinned (.plain (OpenSpec.ofChange networkSameSpec)) networkSameCard

/-- THE TIED CARD OF 'viatorlaw20.NetworkAhead'. -/
def networkAheadCard : Claim7 := { stood := { row := networkAheadRow, standIns := [], harness := (true, "ec80002bd1fa915b43357eb9ea7a3c3d28dbe711a23bde2ce8a261a10fdecd8e"), looks := false }, kinds := [], alts := [], laidByText := true, laidKinds := [.data, .pinned], laidTests := true, laidLooks := .later }
def NetworkAheadCardSaid : Prop := Claim7.holds Tryz.pinned (.plain (OpenSpec.ofChange networkAheadSpec)) networkAheadCard

/-- THE SECOND FORM's CARD OF 'viatorlaw20.NetworkChecks'. -/
def networkChecksUptoCard : Claim7 := { stood := { row := networkChecksUptoRow, standIns := [], harness := (true, "ec80002bd1fa915b43357eb9ea7a3c3d28dbe711a23bde2ce8a261a10fdecd8e"), looks := false }, kinds := [], alts := [], laidByText := true, laidKinds := [.data, .pinned], laidTests := true, laidLooks := .later }
def NetworkChecksUptoCardSaid : Prop := Claim7.holds Tryz.pinned (.plain (OpenSpec.upto networkChecksSpec)) networkChecksUptoCard

/-- THE SECOND FORM's CARD OF 'viatorlaw20.NetworkPoints'. -/
def networkPointsUptoCard : Claim7 := { stood := { row := networkPointsUptoRow, standIns := [], harness := (true, "ec80002bd1fa915b43357eb9ea7a3c3d28dbe711a23bde2ce8a261a10fdecd8e"), looks := false }, kinds := [], alts := [], laidByText := true, laidKinds := [.data, .pinned], laidTests := true, laidLooks := .later }
def NetworkPointsUptoCardSaid : Prop := Claim7.holds Tryz.pinned (.plain (OpenSpec.upto networkPointsSpec)) networkPointsUptoCard

/-- THE SECOND FORM's CARD OF 'viatorlaw20.NetworkReaches'. -/
def networkReachesUptoCard : Claim7 := { stood := { row := networkReachesUptoRow, standIns := [], harness := (true, "ec80002bd1fa915b43357eb9ea7a3c3d28dbe711a23bde2ce8a261a10fdecd8e"), looks := false }, kinds := [], alts := [], laidByText := true, laidKinds := [.data, .pinned], laidTests := true, laidLooks := .later }
def NetworkReachesUptoCardSaid : Prop := Claim7.holds Tryz.pinned (.plain (OpenSpec.upto networkReachesSpec)) networkReachesUptoCard

/-- THE SECOND FORM's CARD OF 'viatorlaw20.NetworkGroups'. -/
def networkGroupsUptoCard : Claim7 := { stood := { row := networkGroupsUptoRow, standIns := [], harness := (true, "ec80002bd1fa915b43357eb9ea7a3c3d28dbe711a23bde2ce8a261a10fdecd8e"), looks := false }, kinds := [], alts := [], laidByText := true, laidKinds := [.data, .pinned], laidTests := true, laidLooks := .later }
def NetworkGroupsUptoCardSaid : Prop := Claim7.holds Tryz.pinned (.plain (OpenSpec.upto networkGroupsSpec)) networkGroupsUptoCard

/-- THE SECOND FORM's CARD OF 'viatorlaw20.NetworkFinds'. -/
def networkFindsUptoCard : Claim7 := { stood := { row := networkFindsUptoRow, standIns := [], harness := (true, "ec80002bd1fa915b43357eb9ea7a3c3d28dbe711a23bde2ce8a261a10fdecd8e"), looks := false }, kinds := [], alts := [], laidByText := true, laidKinds := [.data, .pinned], laidTests := true, laidLooks := .later }
def NetworkFindsUptoCardSaid : Prop := Claim7.holds Tryz.pinned (.plain (OpenSpec.upto networkFindsSpec)) networkFindsUptoCard

/-- THE SECOND FORM's CARD OF 'viatorlaw20.NetworkExits'. -/
def networkExitsUptoCard : Claim7 := { stood := { row := networkExitsUptoRow, standIns := [], harness := (true, "ec80002bd1fa915b43357eb9ea7a3c3d28dbe711a23bde2ce8a261a10fdecd8e"), looks := false }, kinds := [], alts := [], laidByText := true, laidKinds := [.data, .pinned], laidTests := true, laidLooks := .later }
def NetworkExitsUptoCardSaid : Prop := Claim7.holds Tryz.pinned (.plain (OpenSpec.upto networkExitsSpec)) networkExitsUptoCard

/-- THE SECOND FORM's CARD OF 'viatorlaw20.NetworkReverses'. -/
def networkReversesUptoCard : Claim7 := { stood := { row := networkReversesUptoRow, standIns := [], harness := (true, "ec80002bd1fa915b43357eb9ea7a3c3d28dbe711a23bde2ce8a261a10fdecd8e"), looks := false }, kinds := [], alts := [], laidByText := true, laidKinds := [.data, .pinned], laidTests := true, laidLooks := .later }
def NetworkReversesUptoCardSaid : Prop := Claim7.holds Tryz.pinned (.plain (OpenSpec.upto networkReversesSpec)) networkReversesUptoCard

/-- THE SECOND FORM's CARD OF 'viatorlaw20.NetworkNodes'. -/
def networkNodesUptoCard : Claim7 := { stood := { row := networkNodesUptoRow, standIns := [], harness := (true, "ec80002bd1fa915b43357eb9ea7a3c3d28dbe711a23bde2ce8a261a10fdecd8e"), looks := false }, kinds := [], alts := [], laidByText := true, laidKinds := [.data, .pinned], laidTests := true, laidLooks := .later }
def NetworkNodesUptoCardSaid : Prop := Claim7.holds Tryz.pinned (.plain (OpenSpec.upto networkNodesSpec)) networkNodesUptoCard

/-- THE SECOND FORM's CARD OF 'viatorlaw20.NetworkSame'. -/
def networkSameUptoCard : Claim7 := { stood := { row := networkSameUptoRow, standIns := [], harness := (true, "ec80002bd1fa915b43357eb9ea7a3c3d28dbe711a23bde2ce8a261a10fdecd8e"), looks := false }, kinds := [], alts := [], laidByText := true, laidKinds := [.data, .pinned], laidTests := true, laidLooks := .later }
def NetworkSameUptoCardSaid : Prop := Claim7.holds Tryz.pinned (.plain (OpenSpec.upto networkSameSpec)) networkSameUptoCard

/-- THE SECOND FORM's CARD OF 'viatorlaw20.NetworkAhead'. -/
def networkAheadUptoCard : Claim7 := { stood := { row := networkAheadUptoRow, standIns := [], harness := (true, "ec80002bd1fa915b43357eb9ea7a3c3d28dbe711a23bde2ce8a261a10fdecd8e"), looks := false }, kinds := [], alts := [], laidByText := true, laidKinds := [.data, .pinned], laidTests := true, laidLooks := .later }
def NetworkAheadUptoCardSaid : Prop := Claim7.holds Tryz.pinned (.plain (OpenSpec.upto networkAheadSpec)) networkAheadUptoCard
end Rows
end Go.Proofs.YtldfencaoaikgaaGreatDoor
