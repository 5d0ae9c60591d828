/-
  DERIVED. GIVEN WITH THE SEED: THE CARDS: each row of YtcffnkgjmneaeaaGreatDoorRows.lean that lists a variable, with what it lists TIED to the program's text (the seventh form; the later family's looks); each row that meets fmt, with fmt's text TOLD by the authors' own Lean function (tested against real Go, not proved from fmt's source: count such statements apart). THE CARD IS WHAT COUNTS. Prove the row's statement (the work); the ties are given (YtcffnkgjmneaeaaGreatDoorTie.lean); close each card by the builder's one call (the guide's Derived/Test/ToyasCard.lean, 'card_holds'). Laid BY PROGRAM, IN A SANDBOX (cutbox-door.mjs). By AI agents, Wed Nov 11 2026. No macro, syntax, notation, axiom, sorry.
-/
import Derived.Test.YtcffnkgjmneaeaaGreatDoorRows
import GoSem.ClaimSeven
namespace Go.Proofs.YtcffnkgjmneaeaaGreatDoor
namespace Rows

/-- THE TIED CARD OF 'strongtxlaw20.ThreadRefuses'. -/
def threadRefusesCard : Claim7 := { stood := { row := threadRefusesRow, standIns := [], harness := (true, "7816765dc83d47e366d022a2f044f27a7cbb2ca2a6e0373c07a453d85e3e06ac"), looks := false }, kinds := [], alts := [], laidByText := true, laidKinds := [.data], laidTests := true, laidLooks := .later }
def ThreadRefusesCardSaid : Prop := Claim7.holds Tryz.pinned (.plain (OpenSpec.ofChange threadRefusesSpec)) threadRefusesCard

/-- THE TIED CARD OF 'strongtxlaw27.SoloRefuses'. -/
def soloRefusesCard : Claim7 := { stood := { row := soloRefusesRow, standIns := [], harness := (true, "7816765dc83d47e366d022a2f044f27a7cbb2ca2a6e0373c07a453d85e3e06ac"), looks := false }, kinds := [], alts := [], laidByText := true, laidKinds := [.data], laidTests := true, laidLooks := .later }
def SoloRefusesCardSaid : Prop := Claim7.holds Tryz.pinned (.plain (OpenSpec.ofChange soloRefusesSpec)) soloRefusesCard

/-- THE TIED CARD OF 'strongtxlaw21.MachineRefuses'. -/
def machineRefusesCard : Claim7 := { stood := { row := machineRefusesRow, standIns := [], harness := (true, "7816765dc83d47e366d022a2f044f27a7cbb2ca2a6e0373c07a453d85e3e06ac"), looks := false }, kinds := [], alts := [], laidByText := true, laidKinds := [.data], laidTests := true, laidLooks := .later }
def MachineRefusesCardSaid : Prop := Claim7.holds Tryz.pinned (.plain (OpenSpec.ofChange machineRefusesSpec)) machineRefusesCard

/-- THE SECOND FORM's CARD OF 'strongtxlaw20.ThreadRefuses'. -/
def threadRefusesUptoCard : Claim7 := { stood := { row := threadRefusesUptoRow, standIns := [], harness := (true, "7816765dc83d47e366d022a2f044f27a7cbb2ca2a6e0373c07a453d85e3e06ac"), looks := false }, kinds := [], alts := [], laidByText := true, laidKinds := [.data], laidTests := true, laidLooks := .later }
def ThreadRefusesUptoCardSaid : Prop := Claim7.holds Tryz.pinned (.plain (OpenSpec.upto threadRefusesSpec)) threadRefusesUptoCard

/-- THE SECOND FORM's CARD OF 'strongtxlaw27.SoloRefuses'. -/
def soloRefusesUptoCard : Claim7 := { stood := { row := soloRefusesUptoRow, standIns := [], harness := (true, "7816765dc83d47e366d022a2f044f27a7cbb2ca2a6e0373c07a453d85e3e06ac"), looks := false }, kinds := [], alts := [], laidByText := true, laidKinds := [.data], laidTests := true, laidLooks := .later }
def SoloRefusesUptoCardSaid : Prop := Claim7.holds Tryz.pinned (.plain (OpenSpec.upto soloRefusesSpec)) soloRefusesUptoCard

/-- THE SECOND FORM's CARD OF 'strongtxlaw21.MachineRefuses'. -/
def machineRefusesUptoCard : Claim7 := { stood := { row := machineRefusesUptoRow, standIns := [], harness := (true, "7816765dc83d47e366d022a2f044f27a7cbb2ca2a6e0373c07a453d85e3e06ac"), looks := false }, kinds := [], alts := [], laidByText := true, laidKinds := [.data], laidTests := true, laidLooks := .later }
def MachineRefusesUptoCardSaid : Prop := Claim7.holds Tryz.pinned (.plain (OpenSpec.upto machineRefusesSpec)) machineRefusesUptoCard
end Rows
end Go.Proofs.YtcffnkgjmneaeaaGreatDoor
