/-
  A script's fields, related.
-/
import Derived.Test.YtcffnkgjmneaeaaGreatDoorFbIq
import Derived.Test.YtcffnkgjmneaeaaGreatDoorFbR
namespace Go.Stx
open Go Go.Proofs
attribute [local irreducible] AWP LWalk ACall ARounds lops nops
open Go.RowKit
set_option linter.unusedVariables false
set_option linter.unusedSimpArgs false
set_option linter.unusedSectionVars false
set_option maxRecDepth 20000
variable [Gl]

theorem cfg_vrel {m : Mp} {c : CfgS} {v1 v2 v3 u1 u2 u3 : Value} (h1 : VRel m v1 u1) (h2 : VRel m v2 u2) (h3 : VRel m v3 u3) : VRel m (scV c v1 v2 v3) (.agg (scCells c u1 u2 u3).toArray) := by
  have hl : LRel m (scCells c v1 v2 v3) (scCells c u1 u2 u3) :=
    .cons (.int _ _) (.cons (.int _ _) (.cons (.int _ _) (.cons (.int _ _) (.cons (.int _ _) (.cons (.int _ _) (.cons (.int _ _) (.cons (.int _ _) (.cons (.int _ _) (.cons (.int _ _) (.cons (.int _ _) (.cons (.int _ _) (.cons (.bool _) (.cons h1 (.cons h2 (.cons h3 .nil)))))))))))))))
  refine .agg (by simp [scCells, CfgS.cells]) fun i v v' q1 q2 => hl.2 i v v' ?_ ?_
  · simpa using q1
  · simpa using q2

end Go.Stx
