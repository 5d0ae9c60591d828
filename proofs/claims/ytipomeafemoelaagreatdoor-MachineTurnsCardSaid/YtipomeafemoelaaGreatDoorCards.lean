/-
  DERIVED. GIVEN WITH THE SEED: THE CARDS: each row of YtipomeafemoelaaGreatDoorRows.lean that lists a variable, with what it lists TIED to the program's text (the seventh form; the later family's looks); each row that meets fmt, with fmt's text TOLD by the authors' own Lean function (tested against real Go, not proved from fmt's source: count such statements apart). THE CARD IS WHAT COUNTS. Prove the row's statement (the work); the ties are given (YtipomeafemoelaaGreatDoorTie.lean); close each card by the builder's one call (the guide's Derived/Test/ToyasCard.lean, 'card_holds'). Laid BY PROGRAM, IN A SANDBOX (cutbox-door.mjs). By AI agents, Wed Nov 11 2026. No macro, syntax, notation, axiom, sorry.
-/
import Derived.Test.YtipomeafemoelaaGreatDoorRows
import GoSem.ClaimSeven
namespace Go.Proofs.YtipomeafemoelaaGreatDoor
namespace Rows

/-- THE TIED CARD OF 'strongtxlaw21.MachinePrefix'. -/
def machinePrefixCard : Claim7 := { stood := { row := machinePrefixRow, standIns := [], harness := (true, "bf8a0449545af44f02d0c2749b754dc54c50f93f86b0f9aeafcf60036c463426"), looks := false }, kinds := [], alts := [], laidByText := true, laidKinds := [.data], laidTests := true, laidLooks := .later }
def MachinePrefixCardSaid : Prop := Claim7.holds Tryz.pinned (.plain (OpenSpec.ofChange machinePrefixSpec)) machinePrefixCard

/-- THE TIED CARD OF 'strongtxlaw21.MachineCells'. -/
def machineCellsCard : Claim7 := { stood := { row := machineCellsRow, standIns := [], harness := (true, "bf8a0449545af44f02d0c2749b754dc54c50f93f86b0f9aeafcf60036c463426"), looks := false }, kinds := [], alts := [], laidByText := true, laidKinds := [.data], laidTests := true, laidLooks := .later }
def MachineCellsCardSaid : Prop := Claim7.holds Tryz.pinned (.plain (OpenSpec.ofChange machineCellsSpec)) machineCellsCard

/-- THE TIED CARD OF 'strongtxlaw21.MachineTurns'. -/
def machineTurnsCard : Claim7 := { stood := { row := machineTurnsRow, standIns := [], harness := (true, "bf8a0449545af44f02d0c2749b754dc54c50f93f86b0f9aeafcf60036c463426"), looks := false }, kinds := [], alts := [], laidByText := true, laidKinds := [.data], laidTests := true, laidLooks := .later }
def MachineTurnsCardSaid : Prop := Claim7.holds Tryz.pinned (.plain (OpenSpec.ofChange machineTurnsSpec)) machineTurnsCard

/-- THE SECOND FORM's CARD OF 'strongtxlaw21.MachinePrefix'. -/
def machinePrefixUptoCard : Claim7 := { stood := { row := machinePrefixUptoRow, standIns := [], harness := (true, "bf8a0449545af44f02d0c2749b754dc54c50f93f86b0f9aeafcf60036c463426"), looks := false }, kinds := [], alts := [], laidByText := true, laidKinds := [.data], laidTests := true, laidLooks := .later }
def MachinePrefixUptoCardSaid : Prop := Claim7.holds Tryz.pinned (.plain (OpenSpec.upto machinePrefixSpec)) machinePrefixUptoCard

/-- THE SECOND FORM's CARD OF 'strongtxlaw21.MachineCells'. -/
def machineCellsUptoCard : Claim7 := { stood := { row := machineCellsUptoRow, standIns := [], harness := (true, "bf8a0449545af44f02d0c2749b754dc54c50f93f86b0f9aeafcf60036c463426"), looks := false }, kinds := [], alts := [], laidByText := true, laidKinds := [.data], laidTests := true, laidLooks := .later }
def MachineCellsUptoCardSaid : Prop := Claim7.holds Tryz.pinned (.plain (OpenSpec.upto machineCellsSpec)) machineCellsUptoCard

/-- THE SECOND FORM's CARD OF 'strongtxlaw21.MachineTurns'. -/
def machineTurnsUptoCard : Claim7 := { stood := { row := machineTurnsUptoRow, standIns := [], harness := (true, "bf8a0449545af44f02d0c2749b754dc54c50f93f86b0f9aeafcf60036c463426"), looks := false }, kinds := [], alts := [], laidByText := true, laidKinds := [.data], laidTests := true, laidLooks := .later }
def MachineTurnsUptoCardSaid : Prop := Claim7.holds Tryz.pinned (.plain (OpenSpec.upto machineTurnsSpec)) machineTurnsUptoCard
end Rows
end Go.Proofs.YtipomeafemoelaaGreatDoor
