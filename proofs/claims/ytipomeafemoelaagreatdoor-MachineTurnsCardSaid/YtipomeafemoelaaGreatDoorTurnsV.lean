/-
  Closed facts of the card of strongtxlaw21.MachineTurns.
-/
import Derived.Test.YtipomeafemoelaaGreatDoorCards
import Derived.Test.YtipomeafemoelaaGreatDoorTie
import Derived.WalkKit
import Derived.ProofKit
namespace Go.Proofs.YtipomeafemoelaaGreatDoor.machineTurns
open Go.ChangeShapes Go.WideShapes Go.ChangeAt Go.RowKit
set_option linter.unusedVariables false
set_option linter.unusedSimpArgs false
theorem o1 : Tryz.pinned.checked.prog.funcNamed Rows.machineTurnsRow.func = some 5 := by kernel_rfl
theorem o3 : decide (Func.isInstance Tryz.pinned.checked.prog Tryz.f5 Rows.machineTurnsRow.origin Rows.machineTurnsRow.targs) = true := by kernel_rfl
theorem o4 : Func.isWrapper Tryz.pinned.checked.prog Tryz.f5 Rows.machineTurnsRow.wrapper Rows.machineTurnsRow.mainSum := by unfold Func.isWrapper; first | (rw [if_pos (by decide +kernel)]; kernel_rfl) | (rw [if_neg (by decide +kernel)]; exact ⟨rfl, rfl⟩)
theorem q1 : OpenClaim.wfByText (OpenSpec.ofChange Rows.machineTurnsSpec) Rows.machineTurnsRow = true := by kernel_rfl
theorem q2 : Tryz.pinned.checked.prog.mainIs = some ((true, "bf8a0449545af44f02d0c2749b754dc54c50f93f86b0f9aeafcf60036c463426").fst, (true, "bf8a0449545af44f02d0c2749b754dc54c50f93f86b0f9aeafcf60036c463426").snd.toList) := by kernel_rfl
theorem q3 : false = Rows.machineTurnsRow.goesBy Tryz.pinned.checked.prog := by kernel_rfl
end Go.Proofs.YtipomeafemoelaaGreatDoor.machineTurns
