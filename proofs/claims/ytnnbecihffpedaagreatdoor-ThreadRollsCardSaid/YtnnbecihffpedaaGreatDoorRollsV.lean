/-
  Closed facts of the card of strongtxlaw20.ThreadRolls.
-/
import Derived.Test.YtnnbecihffpedaaGreatDoorCards
import Derived.Test.YtnnbecihffpedaaGreatDoorTie
import Derived.WalkKit
import Derived.ProofKit
namespace Go.Proofs.YtnnbecihffpedaaGreatDoor.threadRolls
open Go.ChangeShapes Go.WideShapes Go.ChangeAt Go.RowKit
set_option linter.unusedVariables false
set_option linter.unusedSimpArgs false
theorem o1 : Tryz.pinned.checked.prog.funcNamed Rows.threadRollsRow.func = some 3 := by kernel_rfl
theorem o3 : decide (Func.isInstance Tryz.pinned.checked.prog Tryz.f3 Rows.threadRollsRow.origin Rows.threadRollsRow.targs) = true := by kernel_rfl
theorem o4 : Func.isWrapper Tryz.pinned.checked.prog Tryz.f3 Rows.threadRollsRow.wrapper Rows.threadRollsRow.mainSum := by unfold Func.isWrapper; first | (rw [if_pos (by decide +kernel)]; kernel_rfl) | (rw [if_neg (by decide +kernel)]; exact ⟨rfl, rfl⟩)
theorem q1 : OpenClaim.wfByText (OpenSpec.ofChange Rows.threadRollsSpec) Rows.threadRollsRow = true := by kernel_rfl
theorem q2 : Tryz.pinned.checked.prog.mainIs = some ((true, "4c00115422e1e21ebacd601853d83828955ce7944575932d5840ab11cf4dc21a").fst, (true, "4c00115422e1e21ebacd601853d83828955ce7944575932d5840ab11cf4dc21a").snd.toList) := by kernel_rfl
theorem q3 : false = Rows.threadRollsRow.goesBy Tryz.pinned.checked.prog := by kernel_rfl
end Go.Proofs.YtnnbecihffpedaaGreatDoor.threadRolls
