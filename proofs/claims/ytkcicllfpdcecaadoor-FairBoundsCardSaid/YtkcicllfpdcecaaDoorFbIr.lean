/-
  FairBounds, called in the model's own world.
-/
import Derived.Test.YtkcicllfpdcecaaDoorFbIq
namespace Go.Stx
open Go Go.Proofs
attribute [local irreducible] AWP LWalk ACall ARounds lops nops
open Go.RowKit
set_option linter.unusedVariables false
set_option linter.unusedSimpArgs false
set_option linter.unusedSectionVars false
set_option maxRecDepth 20000
variable [Gl]

theorem cfg_vrel {m : Mp} {c : CfgS} {v1 v2 v3 u1 u2 u3 : Value} (h1 : VRel m v1 u1) (h2 : VRel m v2 u2) (h3 : VRel m v3 u3) : VRel m (scV c v1 v2 v3) (.agg (scCells c u1 u2 u3).toArray) := by
  have hl : LRel m (scCells c v1 v2 v3) (scCells c u1 u2 u3) :=
    .cons (.int _ _) (.cons (.int _ _) (.cons (.int _ _) (.cons (.int _ _) (.cons (.int _ _) (.cons (.int _ _) (.cons (.int _ _) (.cons (.int _ _) (.cons (.int _ _) (.cons (.int _ _) (.cons (.int _ _) (.cons (.int _ _) (.cons (.bool _) (.cons h1 (.cons h2 (.cons h3 .nil)))))))))))))))
  refine .agg (by simp [scCells, CfgS.cells]) fun i v v' q1 q2 => hl.2 i v v' ?_ ?_
  · simpa using q1
  · simpa using q2

theorem fb_world (hF : FOK) (W : World) (hl0 : ∀ b x, Gl.B b = some x → W.heap[b]? = some x) (b0 b1 b2 b3 b4 : Int) (a1 : Option Addr) (len1 cap1 : Nat) (w1 : RowsIn W a1 len1 cap1) (a2 : Int) (cs : List Value) (w3 : ScrIn W cs) (b : Bool) :
    Calls Tryd.prog 3 #[.agg #[.int .i64 b0, .int .i64 b1, .int .i64 b2, .int .i64 b3, .int .i64 b4], .slice a1 len1 cap1, .int .i64 a2, .agg cs.toArray, .bool b] W fun e w' => e = .returned (.bool true) ∧ Below W.heap.size W w' := by
  have s0 := Sim.empty W hl0
  have n0 := AW.NoOwn.empty
  obtain ⟨m1, A1, v1, ls, le1, g1, s1, n1, r1, h1, hb1, _⟩ := intro_rows2 s0 n0 w1
  obtain ⟨c, a3, l3, c3, z3, a4, l4, c4, a5, l5, c5, z5, rfl, i3, i4, i5⟩ := w3
  obtain ⟨m2, A2, v2, le2, g2, s2, n2, r2, h2, _⟩ := intro_ints s1 n1 (k := .u64) i3
  obtain ⟨m3, A3, v3, ps, le3, g3, s3, n3, r3, h3⟩ := intro_progs s2 n2 i4
  obtain ⟨m4, A4, v4, le4, g4, s4, n4, r4, h4, _⟩ := intro_ints s3 n3 (k := .i64) i5
  have k1 := h1.keeps (Keeps.of_le (g2.trans (g3.trans g4)) s1.low)
  have k3 := h3.le g4 s3.low
  obtain ⟨oi, ci, hvi, _⟩ := h2.form
  obtain ⟨ok, ck, hvk, _⟩ := h4.form
  generalize (z3.take l3).length = ni at hvi
  generalize (z5.take l5).length = nk at hvk
  subst hvi hvk
  refine calls_of_acall (fairBounds_call hF b0 b1 b2 b3 b4 v1 ls a2 c v3 ni ci oi ok nk ck ps b A4 k1 hb1 k3) (fun v A' h => h) s4 n4 ?_
  exact .cons (intro_arr5 _ _ _ _ _) (.cons (((r1.mono le2).mono le3).mono le4) (.cons (.int _ _) (.cons (cfg_vrel ((r2.mono le3).mono le4) (r3.mono le4) r4) (.cons (.bool _) .nil))))
end Go.Stx
