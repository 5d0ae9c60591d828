/-
  Closed facts of the card of strongtxlaw30.PrivateStores.
-/
import Derived.Test.YtnnbecihffpedaaGreatDoorCards
import Derived.Test.YtnnbecihffpedaaGreatDoorTie
import Derived.WalkKit
import Derived.ProofKit
namespace Go.Proofs.YtnnbecihffpedaaGreatDoor.privateStores
open Go.ChangeShapes Go.WideShapes Go.ChangeAt Go.RowKit
set_option linter.unusedVariables false
set_option linter.unusedSimpArgs false
theorem band {a b : Bool} (x : a = true) (y : b = true) : (a && b) = true := by rw [x, y]; rfl
set_option maxRecDepth 100000 in
set_option maxHeartbeats 4000000 in
theorem o2 : joinedFacts Tryz.pinned.checked.prog 5 Tryz.f5 (OpenSpec.ofChange Rows.privateStoresSpec).bare Rows.privateStoresRow = true := by
  unfold joinedFacts
  refine band (band (band (band (band (band (band (band (band (band (band (band (band (band (band (band (band (band (band (band (band (band (band (band (band (band (band (band (band (band (band ?_ ?_) ?_) ?_) ?_) ?_) ?_) ?_) ?_) ?_) ?_) ?_) ?_) ?_) ?_) ?_) ?_) ?_) ?_) ?_) ?_) ?_) ?_) ?_) ?_) ?_) ?_) ?_) ?_) ?_) ?_) ?_
  all_goals as_aux_lemma => kernel_rfl
end Go.Proofs.YtnnbecihffpedaaGreatDoor.privateStores
