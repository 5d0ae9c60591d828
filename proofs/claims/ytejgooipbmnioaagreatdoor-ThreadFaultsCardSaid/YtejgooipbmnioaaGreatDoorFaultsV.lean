/-
  closed facts of the card ThreadFaults
-/
import Derived.Test.YtejgooipbmnioaaGreatDoorCards
import Derived.Test.YtejgooipbmnioaaGreatDoorTie
import Derived.WalkKit
import Derived.ProofKit
namespace Go.Proofs.YtejgooipbmnioaaGreatDoor.threadFaults
open Go.ChangeShapes Go.WideShapes Go.ChangeAt Go.RowKit
set_option linter.unusedVariables false
set_option linter.unusedSimpArgs false
theorem o1 : Tryz.pinned.checked.prog.funcNamed Rows.threadFaultsRow.func = some 4 := by kernel_rfl
theorem o3 : decide (Func.isInstance Tryz.pinned.checked.prog Tryz.f4 Rows.threadFaultsRow.origin Rows.threadFaultsRow.targs) = true := by kernel_rfl
theorem o4 : Func.isWrapper Tryz.pinned.checked.prog Tryz.f4 Rows.threadFaultsRow.wrapper Rows.threadFaultsRow.mainSum := by unfold Func.isWrapper; first | (rw [if_pos (by decide +kernel)]; kernel_rfl) | (rw [if_neg (by decide +kernel)]; exact ⟨rfl, rfl⟩)
theorem q1 : OpenClaim.wfByText (OpenSpec.ofChange Rows.threadFaultsSpec) Rows.threadFaultsRow = true := by kernel_rfl
theorem q2 : Tryz.pinned.checked.prog.mainIs = some ((true, "acedfffd9672595458b401891f5d4b4bd84005179f448509b67e93fc41265534").fst, (true, "acedfffd9672595458b401891f5d4b4bd84005179f448509b67e93fc41265534").snd.toList) := by kernel_rfl
theorem q3 : false = Rows.threadFaultsRow.goesBy Tryz.pinned.checked.prog := by kernel_rfl
end Go.Proofs.YtejgooipbmnioaaGreatDoor.threadFaults
