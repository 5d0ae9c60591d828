/-
  DERIVED. GIVEN WITH THE SEED: THE CARDS: each row of YtbacpfealpblkaaDoorRows.lean that lists a variable, with what it lists TIED to the program's text (the seventh form; the later family's looks); each row that meets fmt, with fmt's text TOLD by the authors' own Lean function (tested against real Go, not proved from fmt's source: count such statements apart). THE CARD IS WHAT COUNTS. Prove the row's statement (the work); the ties are given (YtbacpfealpblkaaDoorTie.lean); close each card by the builder's one call (the guide's Derived/Test/ToyasCard.lean, 'card_holds'). Laid BY PROGRAM, IN A SANDBOX (cutbox-door.mjs). By AI agents, Wed Nov 11 2026. No macro, syntax, notation, axiom, sorry.
-/
import Derived.Test.YtbacpfealpblkaaDoorRows
import GoSem.ClaimSeven
namespace Go.Proofs.YtbacpfealpblkaaDoor
namespace Rows

/-- THE TIED CARD OF 'strongtxlaw32.ReportWrites'. -/
def reportWritesCard : Claim7 := { stood := { row := reportWritesRow, standIns := [], harness := (true, "557259a5bb467ff769065de5c48f007054b31798ebb8939c05d34af494cda1e1"), looks := true }, kinds := [], alts := [], laidByText := true, laidKinds := [.data, .data, .data, .data, .sentinel, .sentinel, .pinned], laidTests := true, laidLooks := .later }
def ReportWritesCardSaid : Prop := Claim7.holds Tryd.pinned (.plain (OpenSpec.ofChange reportWritesSpec)) reportWritesCard

/-- THE TIED CARD OF 'strongtxlaw32.ReportRound'. -/
def reportRoundCard : Claim7 := { stood := { row := reportRoundRow, standIns := [], harness := (true, "557259a5bb467ff769065de5c48f007054b31798ebb8939c05d34af494cda1e1"), looks := true }, kinds := [], alts := [], laidByText := true, laidKinds := [.data, .data, .data, .data, .sentinel, .sentinel, .pinned], laidTests := true, laidLooks := .later }
def ReportRoundCardSaid : Prop := Claim7.holds Tryd.pinned (.plain (OpenSpec.ofChange reportRoundSpec)) reportRoundCard

/-- THE TIED CARD OF 'strongtxlaw32.ReportAny'. -/
def reportAnyCard : Claim7 := { stood := { row := reportAnyRow, standIns := [], harness := (true, "557259a5bb467ff769065de5c48f007054b31798ebb8939c05d34af494cda1e1"), looks := true }, kinds := [], alts := [], laidByText := true, laidKinds := [.data, .data, .data, .data, .sentinel, .sentinel, .pinned], laidTests := true, laidLooks := .later }
def ReportAnyCardSaid : Prop := Claim7.holds Tryd.pinned (.plain (OpenSpec.ofChange reportAnySpec)) reportAnyCard

/-- THE TIED CARD OF 'strongtxlaw32.ReportSpoiled'. -/
def reportSpoiledCard : Claim7 := { stood := { row := reportSpoiledRow, standIns := [], harness := (true, "557259a5bb467ff769065de5c48f007054b31798ebb8939c05d34af494cda1e1"), looks := true }, kinds := [], alts := [], laidByText := true, laidKinds := [.data, .data, .data, .data, .sentinel, .sentinel, .pinned], laidTests := true, laidLooks := .later }
def ReportSpoiledCardSaid : Prop := Claim7.holds Tryd.pinned (.plain (OpenSpec.ofChange reportSpoiledSpec)) reportSpoiledCard

/-- THE TIED CARD OF 'strongtxlaw32.ReportLimits'. -/
def reportLimitsCard : Claim7 := { stood := { row := reportLimitsRow, standIns := [], harness := (true, "557259a5bb467ff769065de5c48f007054b31798ebb8939c05d34af494cda1e1"), looks := true }, kinds := [], alts := [], laidByText := true, laidKinds := [.data, .data, .data, .data, .sentinel, .sentinel, .pinned], laidTests := true, laidLooks := .later }
def ReportLimitsCardSaid : Prop := Claim7.holds Tryd.pinned (.plain (OpenSpec.ofChange reportLimitsSpec)) reportLimitsCard

/-- THE SECOND FORM's CARD OF 'strongtxlaw32.ReportWrites'. -/
def reportWritesUptoCard : Claim7 := { stood := { row := reportWritesUptoRow, standIns := [], harness := (true, "557259a5bb467ff769065de5c48f007054b31798ebb8939c05d34af494cda1e1"), looks := true }, kinds := [], alts := [], laidByText := true, laidKinds := [.data, .data, .data, .data, .sentinel, .sentinel, .pinned], laidTests := true, laidLooks := .later }
def ReportWritesUptoCardSaid : Prop := Claim7.holds Tryd.pinned (.plain (OpenSpec.upto reportWritesSpec)) reportWritesUptoCard

/-- THE SECOND FORM's CARD OF 'strongtxlaw32.ReportRound'. -/
def reportRoundUptoCard : Claim7 := { stood := { row := reportRoundUptoRow, standIns := [], harness := (true, "557259a5bb467ff769065de5c48f007054b31798ebb8939c05d34af494cda1e1"), looks := true }, kinds := [], alts := [], laidByText := true, laidKinds := [.data, .data, .data, .data, .sentinel, .sentinel, .pinned], laidTests := true, laidLooks := .later }
def ReportRoundUptoCardSaid : Prop := Claim7.holds Tryd.pinned (.plain (OpenSpec.upto reportRoundSpec)) reportRoundUptoCard

/-- THE SECOND FORM's CARD OF 'strongtxlaw32.ReportAny'. -/
def reportAnyUptoCard : Claim7 := { stood := { row := reportAnyUptoRow, standIns := [], harness := (true, "557259a5bb467ff769065de5c48f007054b31798ebb8939c05d34af494cda1e1"), looks := true }, kinds := [], alts := [], laidByText := true, laidKinds := [.data, .data, .data, .data, .sentinel, .sentinel, .pinned], laidTests := true, laidLooks := .later }
def ReportAnyUptoCardSaid : Prop := Claim7.holds Tryd.pinned (.plain (OpenSpec.upto reportAnySpec)) reportAnyUptoCard

/-- THE SECOND FORM's CARD OF 'strongtxlaw32.ReportSpoiled'. -/
def reportSpoiledUptoCard : Claim7 := { stood := { row := reportSpoiledUptoRow, standIns := [], harness := (true, "557259a5bb467ff769065de5c48f007054b31798ebb8939c05d34af494cda1e1"), looks := true }, kinds := [], alts := [], laidByText := true, laidKinds := [.data, .data, .data, .data, .sentinel, .sentinel, .pinned], laidTests := true, laidLooks := .later }
def ReportSpoiledUptoCardSaid : Prop := Claim7.holds Tryd.pinned (.plain (OpenSpec.upto reportSpoiledSpec)) reportSpoiledUptoCard

/-- THE SECOND FORM's CARD OF 'strongtxlaw32.ReportLimits'. -/
def reportLimitsUptoCard : Claim7 := { stood := { row := reportLimitsUptoRow, standIns := [], harness := (true, "557259a5bb467ff769065de5c48f007054b31798ebb8939c05d34af494cda1e1"), looks := true }, kinds := [], alts := [], laidByText := true, laidKinds := [.data, .data, .data, .data, .sentinel, .sentinel, .pinned], laidTests := true, laidLooks := .later }
def ReportLimitsUptoCardSaid : Prop := Claim7.holds Tryd.pinned (.plain (OpenSpec.upto reportLimitsSpec)) reportLimitsUptoCard
end Rows
end Go.Proofs.YtbacpfealpblkaaDoor
