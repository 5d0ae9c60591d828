/-
  Closed facts of the card of strongtxlaw21.MachineCells.
-/
import Derived.Test.YtpealkdhmnomhaaGreatDoorCards
import Derived.Test.YtpealkdhmnomhaaGreatDoorTie
import Derived.WalkKit
import Derived.ProofKit
namespace Go.Proofs.YtpealkdhmnomhaaGreatDoor.machineCells
open Go.ChangeShapes Go.WideShapes Go.ChangeAt Go.RowKit
set_option linter.unusedVariables false
set_option linter.unusedSimpArgs false
theorem o1 : Tryz.pinned.checked.prog.funcNamed Rows.machineCellsRow.func = some 3 := by kernel_rfl
theorem o3 : decide (Func.isInstance Tryz.pinned.checked.prog Tryz.f3 Rows.machineCellsRow.origin Rows.machineCellsRow.targs) = true := by kernel_rfl
theorem o4 : Func.isWrapper Tryz.pinned.checked.prog Tryz.f3 Rows.machineCellsRow.wrapper Rows.machineCellsRow.mainSum := by unfold Func.isWrapper; first | (rw [if_pos (by decide +kernel)]; kernel_rfl) | (rw [if_neg (by decide +kernel)]; exact ⟨rfl, rfl⟩)
theorem q1 : OpenClaim.wfByText (OpenSpec.ofChange Rows.machineCellsSpec) Rows.machineCellsRow = true := by kernel_rfl
theorem q2 : Tryz.pinned.checked.prog.mainIs = some ((true, "a8df04b82d0a03328dec74cd9ebb3a8d831702dc3149cb8dfdbe64f11c04b7c0").fst, (true, "a8df04b82d0a03328dec74cd9ebb3a8d831702dc3149cb8dfdbe64f11c04b7c0").snd.toList) := by kernel_rfl
theorem q3 : false = Rows.machineCellsRow.goesBy Tryz.pinned.checked.prog := by kernel_rfl
end Go.Proofs.YtpealkdhmnomhaaGreatDoor.machineCells
