/-
  The program's Longest, as a call.
-/
import Derived.Test.YtkcicllfpdcecaaDoorFbRj
namespace Go.Stx
open Go Go.Proofs
attribute [local irreducible] AWP LWalk ACall ARounds lops nops
variable [Gl]
theorem longest_call (hF : FOK) (v : Value) (p : List InsV) (A : AW) (h : IsIns A v p) :
    ACall Tryd.prog 28 [v] A (fun u A' => u = .int .i64 (longF p) ∧ A = A') := (longest_pure hF v p A h).call ⟨rfl, rfl⟩
end Go.Stx
