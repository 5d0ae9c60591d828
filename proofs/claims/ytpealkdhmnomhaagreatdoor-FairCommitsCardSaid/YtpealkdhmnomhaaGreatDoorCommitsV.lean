/-
  Closed facts of the card of strongtxlaw31.FairCommits.
-/
import Derived.Test.YtpealkdhmnomhaaGreatDoorCards
import Derived.Test.YtpealkdhmnomhaaGreatDoorTie
import Derived.WalkKit
import Derived.ProofKit
namespace Go.Proofs.YtpealkdhmnomhaaGreatDoor.fairCommits
open Go.ChangeShapes Go.WideShapes Go.ChangeAt Go.RowKit
set_option linter.unusedVariables false
set_option linter.unusedSimpArgs false
theorem o1 : Tryz.pinned.checked.prog.funcNamed Rows.fairCommitsRow.func = some 4 := by kernel_rfl
theorem o3 : decide (Func.isInstance Tryz.pinned.checked.prog Tryz.f4 Rows.fairCommitsRow.origin Rows.fairCommitsRow.targs) = true := by kernel_rfl
theorem o4 : Func.isWrapper Tryz.pinned.checked.prog Tryz.f4 Rows.fairCommitsRow.wrapper Rows.fairCommitsRow.mainSum := by unfold Func.isWrapper; first | (rw [if_pos (by decide +kernel)]; kernel_rfl) | (rw [if_neg (by decide +kernel)]; exact ⟨rfl, rfl⟩)
theorem q1 : OpenClaim.wfByText (OpenSpec.ofChange Rows.fairCommitsSpec) Rows.fairCommitsRow = true := by kernel_rfl
theorem q2 : Tryz.pinned.checked.prog.mainIs = some ((true, "a8df04b82d0a03328dec74cd9ebb3a8d831702dc3149cb8dfdbe64f11c04b7c0").fst, (true, "a8df04b82d0a03328dec74cd9ebb3a8d831702dc3149cb8dfdbe64f11c04b7c0").snd.toList) := by kernel_rfl
theorem q3 : false = Rows.fairCommitsRow.goesBy Tryz.pinned.checked.prog := by kernel_rfl
end Go.Proofs.YtpealkdhmnomhaaGreatDoor.fairCommits
