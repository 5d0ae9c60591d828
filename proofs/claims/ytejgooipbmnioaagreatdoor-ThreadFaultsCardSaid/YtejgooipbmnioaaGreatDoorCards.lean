/-
  DERIVED. GIVEN WITH THE SEED: THE CARDS: each row of YtejgooipbmnioaaGreatDoorRows.lean that lists a variable, with what it lists TIED to the program's text (the seventh form; the later family's looks); each row that meets fmt, with fmt's text TOLD by the authors' own Lean function (tested against real Go, not proved from fmt's source: count such statements apart). THE CARD IS WHAT COUNTS. Prove the row's statement (the work); the ties are given (YtejgooipbmnioaaGreatDoorTie.lean); close each card by the builder's one call (the guide's Derived/Test/ToyasCard.lean, 'card_holds'). Laid BY PROGRAM, IN A SANDBOX (cutbox-door.mjs). By AI agents, Wed Nov 11 2026. No macro, syntax, notation, axiom, sorry.
-/
import Derived.Test.YtejgooipbmnioaaGreatDoorRows
import GoSem.ClaimSeven
namespace Go.Proofs.YtejgooipbmnioaaGreatDoor
namespace Rows

/-- THE TIED CARD OF 'strongtxlaw20.ThreadRolls'. -/
def threadRollsCard : Claim7 := { stood := { row := threadRollsRow, standIns := [], harness := (true, "acedfffd9672595458b401891f5d4b4bd84005179f448509b67e93fc41265534"), looks := false }, kinds := [], alts := [], laidByText := true, laidKinds := [.data], laidTests := true, laidLooks := .later }
def ThreadRollsCardSaid : Prop := Claim7.holds Tryz.pinned (.plain (OpenSpec.ofChange threadRollsSpec)) threadRollsCard

/-- THE TIED CARD OF 'strongtxlaw20.ThreadFaults'. -/
def threadFaultsCard : Claim7 := { stood := { row := threadFaultsRow, standIns := [], harness := (true, "acedfffd9672595458b401891f5d4b4bd84005179f448509b67e93fc41265534"), looks := false }, kinds := [], alts := [], laidByText := true, laidKinds := [.data], laidTests := true, laidLooks := .later }
def ThreadFaultsCardSaid : Prop := Claim7.holds Tryz.pinned (.plain (OpenSpec.ofChange threadFaultsSpec)) threadFaultsCard

/-- THE TIED CARD OF 'strongtxlaw21.MachinePrefix'. -/
def machinePrefixCard : Claim7 := { stood := { row := machinePrefixRow, standIns := [], harness := (true, "acedfffd9672595458b401891f5d4b4bd84005179f448509b67e93fc41265534"), looks := false }, kinds := [], alts := [], laidByText := true, laidKinds := [.data], laidTests := true, laidLooks := .later }
def MachinePrefixCardSaid : Prop := Claim7.holds Tryz.pinned (.plain (OpenSpec.ofChange machinePrefixSpec)) machinePrefixCard

/-- THE TIED CARD OF 'strongtxlaw21.MachineCells'. -/
def machineCellsCard : Claim7 := { stood := { row := machineCellsRow, standIns := [], harness := (true, "acedfffd9672595458b401891f5d4b4bd84005179f448509b67e93fc41265534"), looks := false }, kinds := [], alts := [], laidByText := true, laidKinds := [.data], laidTests := true, laidLooks := .later }
def MachineCellsCardSaid : Prop := Claim7.holds Tryz.pinned (.plain (OpenSpec.ofChange machineCellsSpec)) machineCellsCard

/-- THE TIED CARD OF 'strongtxlaw21.MachineTurns'. -/
def machineTurnsCard : Claim7 := { stood := { row := machineTurnsRow, standIns := [], harness := (true, "acedfffd9672595458b401891f5d4b4bd84005179f448509b67e93fc41265534"), looks := false }, kinds := [], alts := [], laidByText := true, laidKinds := [.data], laidTests := true, laidLooks := .later }
def MachineTurnsCardSaid : Prop := Claim7.holds Tryz.pinned (.plain (OpenSpec.ofChange machineTurnsSpec)) machineTurnsCard

/-- THE TIED CARD OF 'strongtxlaw31.FairCommits'. -/
def fairCommitsCard : Claim7 := { stood := { row := fairCommitsRow, standIns := [], harness := (true, "acedfffd9672595458b401891f5d4b4bd84005179f448509b67e93fc41265534"), looks := false }, kinds := [], alts := [], laidByText := true, laidKinds := [.data], laidTests := true, laidLooks := .later }
def FairCommitsCardSaid : Prop := Claim7.holds Tryz.pinned (.plain (OpenSpec.ofChange fairCommitsSpec)) fairCommitsCard

/-- THE TIED CARD OF 'strongtxlaw29.OpacitySnapshots'. -/
def opacitySnapshotsCard : Claim7 := { stood := { row := opacitySnapshotsRow, standIns := [], harness := (true, "acedfffd9672595458b401891f5d4b4bd84005179f448509b67e93fc41265534"), looks := false }, kinds := [], alts := [], laidByText := true, laidKinds := [.data], laidTests := true, laidLooks := .later }
def OpacitySnapshotsCardSaid : Prop := Claim7.holds Tryz.pinned (.plain (OpenSpec.ofChange opacitySnapshotsSpec)) opacitySnapshotsCard

/-- THE TIED CARD OF 'strongtxlaw30.PrivateStores'. -/
def privateStoresCard : Claim7 := { stood := { row := privateStoresRow, standIns := [], harness := (true, "acedfffd9672595458b401891f5d4b4bd84005179f448509b67e93fc41265534"), looks := false }, kinds := [], alts := [], laidByText := true, laidKinds := [.data], laidTests := true, laidLooks := .later }
def PrivateStoresCardSaid : Prop := Claim7.holds Tryz.pinned (.plain (OpenSpec.ofChange privateStoresSpec)) privateStoresCard

/-- THE TIED CARD OF 'strongtxlaw30.PrivateBlocks'. -/
def privateBlocksCard : Claim7 := { stood := { row := privateBlocksRow, standIns := [], harness := (true, "acedfffd9672595458b401891f5d4b4bd84005179f448509b67e93fc41265534"), looks := false }, kinds := [], alts := [], laidByText := true, laidKinds := [.data], laidTests := true, laidLooks := .later }
def PrivateBlocksCardSaid : Prop := Claim7.holds Tryz.pinned (.plain (OpenSpec.ofChange privateBlocksSpec)) privateBlocksCard

/-- THE SECOND FORM's CARD OF 'strongtxlaw20.ThreadRolls'. -/
def threadRollsUptoCard : Claim7 := { stood := { row := threadRollsUptoRow, standIns := [], harness := (true, "acedfffd9672595458b401891f5d4b4bd84005179f448509b67e93fc41265534"), looks := false }, kinds := [], alts := [], laidByText := true, laidKinds := [.data], laidTests := true, laidLooks := .later }
def ThreadRollsUptoCardSaid : Prop := Claim7.holds Tryz.pinned (.plain (OpenSpec.upto threadRollsSpec)) threadRollsUptoCard

/-- THE SECOND FORM's CARD OF 'strongtxlaw20.ThreadFaults'. -/
def threadFaultsUptoCard : Claim7 := { stood := { row := threadFaultsUptoRow, standIns := [], harness := (true, "acedfffd9672595458b401891f5d4b4bd84005179f448509b67e93fc41265534"), looks := false }, kinds := [], alts := [], laidByText := true, laidKinds := [.data], laidTests := true, laidLooks := .later }
def ThreadFaultsUptoCardSaid : Prop := Claim7.holds Tryz.pinned (.plain (OpenSpec.upto threadFaultsSpec)) threadFaultsUptoCard

/-- THE SECOND FORM's CARD OF 'strongtxlaw21.MachinePrefix'. -/
def machinePrefixUptoCard : Claim7 := { stood := { row := machinePrefixUptoRow, standIns := [], harness := (true, "acedfffd9672595458b401891f5d4b4bd84005179f448509b67e93fc41265534"), looks := false }, kinds := [], alts := [], laidByText := true, laidKinds := [.data], laidTests := true, laidLooks := .later }
def MachinePrefixUptoCardSaid : Prop := Claim7.holds Tryz.pinned (.plain (OpenSpec.upto machinePrefixSpec)) machinePrefixUptoCard

/-- THE SECOND FORM's CARD OF 'strongtxlaw21.MachineCells'. -/
def machineCellsUptoCard : Claim7 := { stood := { row := machineCellsUptoRow, standIns := [], harness := (true, "acedfffd9672595458b401891f5d4b4bd84005179f448509b67e93fc41265534"), looks := false }, kinds := [], alts := [], laidByText := true, laidKinds := [.data], laidTests := true, laidLooks := .later }
def MachineCellsUptoCardSaid : Prop := Claim7.holds Tryz.pinned (.plain (OpenSpec.upto machineCellsSpec)) machineCellsUptoCard

/-- THE SECOND FORM's CARD OF 'strongtxlaw21.MachineTurns'. -/
def machineTurnsUptoCard : Claim7 := { stood := { row := machineTurnsUptoRow, standIns := [], harness := (true, "acedfffd9672595458b401891f5d4b4bd84005179f448509b67e93fc41265534"), looks := false }, kinds := [], alts := [], laidByText := true, laidKinds := [.data], laidTests := true, laidLooks := .later }
def MachineTurnsUptoCardSaid : Prop := Claim7.holds Tryz.pinned (.plain (OpenSpec.upto machineTurnsSpec)) machineTurnsUptoCard

/-- THE SECOND FORM's CARD OF 'strongtxlaw31.FairCommits'. -/
def fairCommitsUptoCard : Claim7 := { stood := { row := fairCommitsUptoRow, standIns := [], harness := (true, "acedfffd9672595458b401891f5d4b4bd84005179f448509b67e93fc41265534"), looks := false }, kinds := [], alts := [], laidByText := true, laidKinds := [.data], laidTests := true, laidLooks := .later }
def FairCommitsUptoCardSaid : Prop := Claim7.holds Tryz.pinned (.plain (OpenSpec.upto fairCommitsSpec)) fairCommitsUptoCard

/-- THE SECOND FORM's CARD OF 'strongtxlaw29.OpacitySnapshots'. -/
def opacitySnapshotsUptoCard : Claim7 := { stood := { row := opacitySnapshotsUptoRow, standIns := [], harness := (true, "acedfffd9672595458b401891f5d4b4bd84005179f448509b67e93fc41265534"), looks := false }, kinds := [], alts := [], laidByText := true, laidKinds := [.data], laidTests := true, laidLooks := .later }
def OpacitySnapshotsUptoCardSaid : Prop := Claim7.holds Tryz.pinned (.plain (OpenSpec.upto opacitySnapshotsSpec)) opacitySnapshotsUptoCard

/-- THE SECOND FORM's CARD OF 'strongtxlaw30.PrivateStores'. -/
def privateStoresUptoCard : Claim7 := { stood := { row := privateStoresUptoRow, standIns := [], harness := (true, "acedfffd9672595458b401891f5d4b4bd84005179f448509b67e93fc41265534"), looks := false }, kinds := [], alts := [], laidByText := true, laidKinds := [.data], laidTests := true, laidLooks := .later }
def PrivateStoresUptoCardSaid : Prop := Claim7.holds Tryz.pinned (.plain (OpenSpec.upto privateStoresSpec)) privateStoresUptoCard

/-- THE SECOND FORM's CARD OF 'strongtxlaw30.PrivateBlocks'. -/
def privateBlocksUptoCard : Claim7 := { stood := { row := privateBlocksUptoRow, standIns := [], harness := (true, "acedfffd9672595458b401891f5d4b4bd84005179f448509b67e93fc41265534"), looks := false }, kinds := [], alts := [], laidByText := true, laidKinds := [.data], laidTests := true, laidLooks := .later }
def PrivateBlocksUptoCardSaid : Prop := Claim7.holds Tryz.pinned (.plain (OpenSpec.upto privateBlocksSpec)) privateBlocksUptoCard
end Rows
end Go.Proofs.YtejgooipbmnioaaGreatDoor
