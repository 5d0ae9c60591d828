/-
  Closed facts of the card of strongtxlaw30.PrivateStores.
-/
import Derived.Test.YtnnbecihffpedaaGreatDoorCards
import Derived.Test.YtnnbecihffpedaaGreatDoorTie
import Derived.WalkKit
import Derived.ProofKit
namespace Go.Proofs.YtnnbecihffpedaaGreatDoor.privateStores
open Go.ChangeShapes Go.WideShapes Go.ChangeAt Go.RowKit
set_option linter.unusedVariables false
set_option linter.unusedSimpArgs false
theorem o1 : Tryz.pinned.checked.prog.funcNamed Rows.privateStoresRow.func = some 5 := by kernel_rfl
theorem o3 : decide (Func.isInstance Tryz.pinned.checked.prog Tryz.f5 Rows.privateStoresRow.origin Rows.privateStoresRow.targs) = true := by kernel_rfl
theorem o4 : Func.isWrapper Tryz.pinned.checked.prog Tryz.f5 Rows.privateStoresRow.wrapper Rows.privateStoresRow.mainSum := by unfold Func.isWrapper; first | (rw [if_pos (by decide +kernel)]; kernel_rfl) | (rw [if_neg (by decide +kernel)]; exact ⟨rfl, rfl⟩)
theorem q1 : OpenClaim.wfByText (OpenSpec.ofChange Rows.privateStoresSpec) Rows.privateStoresRow = true := by kernel_rfl
theorem q2 : Tryz.pinned.checked.prog.mainIs = some ((true, "4c00115422e1e21ebacd601853d83828955ce7944575932d5840ab11cf4dc21a").fst, (true, "4c00115422e1e21ebacd601853d83828955ce7944575932d5840ab11cf4dc21a").snd.toList) := by kernel_rfl
theorem q3 : false = Rows.privateStoresRow.goesBy Tryz.pinned.checked.prog := by kernel_rfl
end Go.Proofs.YtnnbecihffpedaaGreatDoor.privateStores
