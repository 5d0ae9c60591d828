/-
  DERIVED. GIVEN WITH THE SEED: THE CARDS: each row of YteedgpgpbklekaaGreatDoorRows.lean that lists a variable, with what it lists TIED to the program's text (the seventh form; the later family's looks); each row that meets fmt, with fmt's text TOLD by the authors' own Lean function (tested against real Go, not proved from fmt's source: count such statements apart). THE CARD IS WHAT COUNTS. Prove the row's statement (the work); the ties are given (YteedgpgpbklekaaGreatDoorTie.lean); close each card by the builder's one call (the guide's Derived/Test/ToyasCard.lean, 'card_holds'). Laid BY PROGRAM, IN A SANDBOX (cutbox-door.mjs). By AI agents, Wed Nov 11 2026. No macro, syntax, notation, axiom, sorry.
-/
import Derived.Test.YteedgpgpbklekaaGreatDoorRows
import GoSem.ClaimSeven
namespace Go.Proofs.YteedgpgpbklekaaGreatDoor
namespace Rows

/-- THE TIED CARD OF 'strongtxlaw28.WitnessRefuses'. -/
def witnessRefusesCard : Claim7 := { stood := { row := witnessRefusesRow, standIns := [], harness := (true, "b3a45ec003a75b52a922a3c8adef0146fbc23ca0b1f56ba5fd21a928e5e50154"), looks := true }, kinds := [], alts := [], laidByText := true, laidKinds := [.data], laidTests := true, laidLooks := .later }
def WitnessRefusesCardSaid : Prop := Claim7.holds Tryz.pinned (.plain (OpenSpec.ofChange witnessRefusesSpec)) witnessRefusesCard

/-- THE SECOND FORM's CARD OF 'strongtxlaw28.WitnessRefuses'. -/
def witnessRefusesUptoCard : Claim7 := { stood := { row := witnessRefusesUptoRow, standIns := [], harness := (true, "b3a45ec003a75b52a922a3c8adef0146fbc23ca0b1f56ba5fd21a928e5e50154"), looks := true }, kinds := [], alts := [], laidByText := true, laidKinds := [.data], laidTests := true, laidLooks := .later }
def WitnessRefusesUptoCardSaid : Prop := Claim7.holds Tryz.pinned (.plain (OpenSpec.upto witnessRefusesSpec)) witnessRefusesUptoCard
end Rows
end Go.Proofs.YteedgpgpbklekaaGreatDoor
