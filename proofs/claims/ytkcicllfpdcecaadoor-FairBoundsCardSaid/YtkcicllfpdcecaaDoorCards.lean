/-
  DERIVED. GIVEN WITH THE SEED: THE CARDS: each row of YtkcicllfpdcecaaDoorRows.lean that lists a variable, with what it lists TIED to the program's text (the seventh form; the later family's looks); each row that meets fmt, with fmt's text TOLD by the authors' own Lean function (tested against real Go, not proved from fmt's source: count such statements apart). THE CARD IS WHAT COUNTS. Prove the row's statement (the work); the ties are given (YtkcicllfpdcecaaDoorTie.lean); close each card by the builder's one call (the guide's Derived/Test/ToyasCard.lean, 'card_holds'). Laid BY PROGRAM, IN A SANDBOX (cutbox-door.mjs). By AI agents, Wed Nov 11 2026. No macro, syntax, notation, axiom, sorry.
-/
import Derived.Test.YtkcicllfpdcecaaDoorRows
import GoSem.ClaimSeven
namespace Go.Proofs.YtkcicllfpdcecaaDoor
namespace Rows

/-- THE TIED CARD OF 'strongtxlaw31.FairBounds'. -/
def fairBoundsCard : Claim7 := { stood := { row := fairBoundsRow, standIns := [], harness := (true, "23b05ad0b0b18823b5c3f1c1f89f9cb3983ce5c1e54efe34bd326d5cd2de4b36"), looks := false }, kinds := [], alts := [], laidByText := true, laidKinds := [.data], laidTests := true, laidLooks := .later }
def FairBoundsCardSaid : Prop := Claim7.holds Tryd.pinned (.plain (OpenSpec.ofChange fairBoundsSpec)) fairBoundsCard

/-- THE SECOND FORM's CARD OF 'strongtxlaw31.FairBounds'. -/
def fairBoundsUptoCard : Claim7 := { stood := { row := fairBoundsUptoRow, standIns := [], harness := (true, "23b05ad0b0b18823b5c3f1c1f89f9cb3983ce5c1e54efe34bd326d5cd2de4b36"), looks := false }, kinds := [], alts := [], laidByText := true, laidKinds := [.data], laidTests := true, laidLooks := .later }
def FairBoundsUptoCardSaid : Prop := Claim7.holds Tryd.pinned (.plain (OpenSpec.upto fairBoundsSpec)) fairBoundsUptoCard
end Rows
end Go.Proofs.YtkcicllfpdcecaaDoor
