/-
  DERIVED. GIVEN WITH THE SEED: THE CARDS: each row of YtnnbecihffpedaaGreatDoorRows.lean that lists a variable, with what it lists TIED to the program's text (the seventh form; the later family's looks); each row that meets fmt, with fmt's text TOLD by the authors' own Lean function (tested against real Go, not proved from fmt's source: count such statements apart). THE CARD IS WHAT COUNTS. Prove the row's statement (the work); the ties are given (YtnnbecihffpedaaGreatDoorTie.lean); close each card by the builder's one call (the guide's Derived/Test/ToyasCard.lean, 'card_holds'). Laid BY PROGRAM, IN A SANDBOX (cutbox-door.mjs). By AI agents, Wed Nov 11 2026. No macro, syntax, notation, axiom, sorry.
-/
import Derived.Test.YtnnbecihffpedaaGreatDoorRows
import GoSem.ClaimSeven
namespace Go.Proofs.YtnnbecihffpedaaGreatDoor
namespace Rows

/-- THE TIED CARD OF 'strongtxlaw20.ThreadRolls'. -/
def threadRollsCard : Claim7 := { stood := { row := threadRollsRow, standIns := [], harness := (true, "4c00115422e1e21ebacd601853d83828955ce7944575932d5840ab11cf4dc21a"), looks := false }, kinds := [], alts := [], laidByText := true, laidKinds := [.data], laidTests := true, laidLooks := .later }
def ThreadRollsCardSaid : Prop := Claim7.holds Tryz.pinned (.plain (OpenSpec.ofChange threadRollsSpec)) threadRollsCard

/-- THE TIED CARD OF 'strongtxlaw29.OpacitySnapshots'. -/
def opacitySnapshotsCard : Claim7 := { stood := { row := opacitySnapshotsRow, standIns := [], harness := (true, "4c00115422e1e21ebacd601853d83828955ce7944575932d5840ab11cf4dc21a"), looks := false }, kinds := [], alts := [], laidByText := true, laidKinds := [.data], laidTests := true, laidLooks := .later }
def OpacitySnapshotsCardSaid : Prop := Claim7.holds Tryz.pinned (.plain (OpenSpec.ofChange opacitySnapshotsSpec)) opacitySnapshotsCard

/-- THE TIED CARD OF 'strongtxlaw30.PrivateStores'. -/
def privateStoresCard : Claim7 := { stood := { row := privateStoresRow, standIns := [], harness := (true, "4c00115422e1e21ebacd601853d83828955ce7944575932d5840ab11cf4dc21a"), looks := false }, kinds := [], alts := [], laidByText := true, laidKinds := [.data], laidTests := true, laidLooks := .later }
def PrivateStoresCardSaid : Prop := Claim7.holds Tryz.pinned (.plain (OpenSpec.ofChange privateStoresSpec)) privateStoresCard

/-- THE SECOND FORM's CARD OF 'strongtxlaw20.ThreadRolls'. -/
def threadRollsUptoCard : Claim7 := { stood := { row := threadRollsUptoRow, standIns := [], harness := (true, "4c00115422e1e21ebacd601853d83828955ce7944575932d5840ab11cf4dc21a"), looks := false }, kinds := [], alts := [], laidByText := true, laidKinds := [.data], laidTests := true, laidLooks := .later }
def ThreadRollsUptoCardSaid : Prop := Claim7.holds Tryz.pinned (.plain (OpenSpec.upto threadRollsSpec)) threadRollsUptoCard

/-- THE SECOND FORM's CARD OF 'strongtxlaw29.OpacitySnapshots'. -/
def opacitySnapshotsUptoCard : Claim7 := { stood := { row := opacitySnapshotsUptoRow, standIns := [], harness := (true, "4c00115422e1e21ebacd601853d83828955ce7944575932d5840ab11cf4dc21a"), looks := false }, kinds := [], alts := [], laidByText := true, laidKinds := [.data], laidTests := true, laidLooks := .later }
def OpacitySnapshotsUptoCardSaid : Prop := Claim7.holds Tryz.pinned (.plain (OpenSpec.upto opacitySnapshotsSpec)) opacitySnapshotsUptoCard

/-- THE SECOND FORM's CARD OF 'strongtxlaw30.PrivateStores'. -/
def privateStoresUptoCard : Claim7 := { stood := { row := privateStoresUptoRow, standIns := [], harness := (true, "4c00115422e1e21ebacd601853d83828955ce7944575932d5840ab11cf4dc21a"), looks := false }, kinds := [], alts := [], laidByText := true, laidKinds := [.data], laidTests := true, laidLooks := .later }
def PrivateStoresUptoCardSaid : Prop := Claim7.holds Tryz.pinned (.plain (OpenSpec.upto privateStoresSpec)) privateStoresUptoCard
end Rows
end Go.Proofs.YtnnbecihffpedaaGreatDoor
