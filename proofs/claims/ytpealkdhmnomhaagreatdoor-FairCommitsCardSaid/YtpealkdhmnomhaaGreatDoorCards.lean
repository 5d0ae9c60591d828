/-
  DERIVED. GIVEN WITH THE SEED: THE CARDS: each row of YtpealkdhmnomhaaGreatDoorRows.lean that lists a variable, with what it lists TIED to the program's text (the seventh form; the later family's looks); each row that meets fmt, with fmt's text TOLD by the authors' own Lean function (tested against real Go, not proved from fmt's source: count such statements apart). THE CARD IS WHAT COUNTS. Prove the row's statement (the work); the ties are given (YtpealkdhmnomhaaGreatDoorTie.lean); close each card by the builder's one call (the guide's Derived/Test/ToyasCard.lean, 'card_holds'). Laid BY PROGRAM, IN A SANDBOX (cutbox-door.mjs). By AI agents, Wed Nov 11 2026. No macro, syntax, notation, axiom, sorry.
-/
import Derived.Test.YtpealkdhmnomhaaGreatDoorRows
import GoSem.ClaimSeven
namespace Go.Proofs.YtpealkdhmnomhaaGreatDoor
namespace Rows

/-- THE TIED CARD OF 'strongtxlaw21.MachineCells'. -/
def machineCellsCard : Claim7 := { stood := { row := machineCellsRow, standIns := [], harness := (true, "a8df04b82d0a03328dec74cd9ebb3a8d831702dc3149cb8dfdbe64f11c04b7c0"), looks := false }, kinds := [], alts := [], laidByText := true, laidKinds := [.data], laidTests := true, laidLooks := .later }
def MachineCellsCardSaid : Prop := Claim7.holds Tryz.pinned (.plain (OpenSpec.ofChange machineCellsSpec)) machineCellsCard

/-- THE TIED CARD OF 'strongtxlaw31.FairCommits'. -/
def fairCommitsCard : Claim7 := { stood := { row := fairCommitsRow, standIns := [], harness := (true, "a8df04b82d0a03328dec74cd9ebb3a8d831702dc3149cb8dfdbe64f11c04b7c0"), looks := false }, kinds := [], alts := [], laidByText := true, laidKinds := [.data], laidTests := true, laidLooks := .later }
def FairCommitsCardSaid : Prop := Claim7.holds Tryz.pinned (.plain (OpenSpec.ofChange fairCommitsSpec)) fairCommitsCard

/-- THE TIED CARD OF 'strongtxlaw29.OpacitySnapshots'. -/
def opacitySnapshotsCard : Claim7 := { stood := { row := opacitySnapshotsRow, standIns := [], harness := (true, "a8df04b82d0a03328dec74cd9ebb3a8d831702dc3149cb8dfdbe64f11c04b7c0"), looks := false }, kinds := [], alts := [], laidByText := true, laidKinds := [.data], laidTests := true, laidLooks := .later }
def OpacitySnapshotsCardSaid : Prop := Claim7.holds Tryz.pinned (.plain (OpenSpec.ofChange opacitySnapshotsSpec)) opacitySnapshotsCard

/-- THE TIED CARD OF 'strongtxlaw30.PrivateFences'. -/
def privateFencesCard : Claim7 := { stood := { row := privateFencesRow, standIns := [], harness := (true, "a8df04b82d0a03328dec74cd9ebb3a8d831702dc3149cb8dfdbe64f11c04b7c0"), looks := false }, kinds := [], alts := [], laidByText := true, laidKinds := [.data], laidTests := true, laidLooks := .later }
def PrivateFencesCardSaid : Prop := Claim7.holds Tryz.pinned (.plain (OpenSpec.ofChange privateFencesSpec)) privateFencesCard

/-- THE TIED CARD OF 'strongtxlaw30.PrivateStores'. -/
def privateStoresCard : Claim7 := { stood := { row := privateStoresRow, standIns := [], harness := (true, "a8df04b82d0a03328dec74cd9ebb3a8d831702dc3149cb8dfdbe64f11c04b7c0"), looks := false }, kinds := [], alts := [], laidByText := true, laidKinds := [.data], laidTests := true, laidLooks := .later }
def PrivateStoresCardSaid : Prop := Claim7.holds Tryz.pinned (.plain (OpenSpec.ofChange privateStoresSpec)) privateStoresCard

/-- THE SECOND FORM's CARD OF 'strongtxlaw21.MachineCells'. -/
def machineCellsUptoCard : Claim7 := { stood := { row := machineCellsUptoRow, standIns := [], harness := (true, "a8df04b82d0a03328dec74cd9ebb3a8d831702dc3149cb8dfdbe64f11c04b7c0"), looks := false }, kinds := [], alts := [], laidByText := true, laidKinds := [.data], laidTests := true, laidLooks := .later }
def MachineCellsUptoCardSaid : Prop := Claim7.holds Tryz.pinned (.plain (OpenSpec.upto machineCellsSpec)) machineCellsUptoCard

/-- THE SECOND FORM's CARD OF 'strongtxlaw31.FairCommits'. -/
def fairCommitsUptoCard : Claim7 := { stood := { row := fairCommitsUptoRow, standIns := [], harness := (true, "a8df04b82d0a03328dec74cd9ebb3a8d831702dc3149cb8dfdbe64f11c04b7c0"), looks := false }, kinds := [], alts := [], laidByText := true, laidKinds := [.data], laidTests := true, laidLooks := .later }
def FairCommitsUptoCardSaid : Prop := Claim7.holds Tryz.pinned (.plain (OpenSpec.upto fairCommitsSpec)) fairCommitsUptoCard

/-- THE SECOND FORM's CARD OF 'strongtxlaw29.OpacitySnapshots'. -/
def opacitySnapshotsUptoCard : Claim7 := { stood := { row := opacitySnapshotsUptoRow, standIns := [], harness := (true, "a8df04b82d0a03328dec74cd9ebb3a8d831702dc3149cb8dfdbe64f11c04b7c0"), looks := false }, kinds := [], alts := [], laidByText := true, laidKinds := [.data], laidTests := true, laidLooks := .later }
def OpacitySnapshotsUptoCardSaid : Prop := Claim7.holds Tryz.pinned (.plain (OpenSpec.upto opacitySnapshotsSpec)) opacitySnapshotsUptoCard

/-- THE SECOND FORM's CARD OF 'strongtxlaw30.PrivateFences'. -/
def privateFencesUptoCard : Claim7 := { stood := { row := privateFencesUptoRow, standIns := [], harness := (true, "a8df04b82d0a03328dec74cd9ebb3a8d831702dc3149cb8dfdbe64f11c04b7c0"), looks := false }, kinds := [], alts := [], laidByText := true, laidKinds := [.data], laidTests := true, laidLooks := .later }
def PrivateFencesUptoCardSaid : Prop := Claim7.holds Tryz.pinned (.plain (OpenSpec.upto privateFencesSpec)) privateFencesUptoCard

/-- THE SECOND FORM's CARD OF 'strongtxlaw30.PrivateStores'. -/
def privateStoresUptoCard : Claim7 := { stood := { row := privateStoresUptoRow, standIns := [], harness := (true, "a8df04b82d0a03328dec74cd9ebb3a8d831702dc3149cb8dfdbe64f11c04b7c0"), looks := false }, kinds := [], alts := [], laidByText := true, laidKinds := [.data], laidTests := true, laidLooks := .later }
def PrivateStoresUptoCardSaid : Prop := Claim7.holds Tryz.pinned (.plain (OpenSpec.upto privateStoresSpec)) privateStoresUptoCard
end Rows
end Go.Proofs.YtpealkdhmnomhaaGreatDoor
