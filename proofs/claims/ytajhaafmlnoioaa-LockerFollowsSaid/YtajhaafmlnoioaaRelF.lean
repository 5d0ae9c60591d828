/-
  The two machines that release answer alike.
-/
import Derived.Test.YtajhaafmlnoioaaRelE
namespace Go.Stx
open Go Go.Proofs
attribute [local irreducible] AWP LWalk ACall ARounds lops nops

theorem rel_stores (idx ws : List Int) (k : Nat) (M : Nat → List Int) (hk : k ≤ idx.length) :
    relStep ⟨idx.drop k, ws.drop k⟩ M = ((storesStep 2 idx ws k M).1, ⟨idx.drop (storesStep 2 idx ws k M).2.1, ws.drop (storesStep 2 idx ws k M).2.1⟩, (storesStep 2 idx ws k M).2.2) := by
  unfold relStep storesStep
  by_cases h : k = idx.length
  · rw [if_pos (by simp [RelS.done]; omega), if_pos h]
  · rw [if_neg (by simp [RelS.done]; omega), if_neg h]
    simp [List.getD_eq_getElem?_getD, List.getElem?_drop, List.tail_drop]

end Go.Stx
