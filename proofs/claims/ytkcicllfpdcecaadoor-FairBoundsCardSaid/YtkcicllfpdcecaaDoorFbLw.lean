/-
  The statement FairBounds.
-/
import Derived.Test.YtkcicllfpdcecaaDoorFbZb
import Derived.Test.YtkcicllfpdcecaaDoorFbV
import Derived.Test.YtkcicllfpdcecaaDoorFbIn
import Derived.Test.YtkcicllfpdcecaaDoorEval
namespace Go.Stx
open Go Go.Proofs
attribute [local irreducible] AWP LWalk ACall ARounds lops nops
set_option linter.unusedVariables false
set_option linter.unusedSimpArgs false
set_option linter.unusedSectionVars false
set_option maxRecDepth 20000
variable [Gl]

theorem awake31_ok : evVal Tryd.prog [(5, []),   (11, []),   (12, [(6, [(0, 0), (1, 0), (2, 0), (3, 0), (4, 0), (5, 0), (6, 0), (7, 0), (8, 0)])]),   (13, []),   (14, [(4, [(0, 0), (1, 0), (2, 0), (3, 0), (4, 0), (5, 0), (6, 0), (7, 0)])]),   (16, [])]  noCalls 4 5 [] = some (.bool true) := by kernel_rfl
theorem awake31_call (hn : Gl.N = 4) (A : AW) : ACall Tryd.prog 5 [] A (fun u A' => u = .bool true ∧ A = A') :=
  evVal_call noCalls_ok (by kernel_rfl) Tryd.mx hn awake31_ok (by simp) rfl A
end Go.Stx
