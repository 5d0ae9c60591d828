/-
  ThreadRefuses, called in the model's own world.
-/
import Derived.Test.YtcffnkgjmneaeaaGreatDoorThB
import Derived.Test.YtcffnkgjmneaeaaGreatDoorEw20
import Derived.Test.YtcffnkgjmneaeaaGreatDoorFbIq
namespace Go.Stx
open Go Go.Proofs
attribute [local irreducible] AWP LWalk ACall ARounds lops nops
open Go.RowKit
set_option linter.unusedVariables false
set_option linter.unusedSimpArgs false
set_option linter.unusedSectionVars false
set_option maxRecDepth 20000

theorem open_cfg13 {H : Type} {enc : TypeId × Value → H} {w : World} {base : Nat} {held : Bool} {fuel : Nat} {cs : List Value} {x : DataW H × List MemPlace} (hl : cs.length = 13) (h : DataW.trod enc Tryz.prog w base (fun _ => true) held fuel 24 cs = some x) : ∃ c : CfgS, cs = CfgS.cells c := by
  obtain ⟨c, hc⟩ := open_cfg h
  refine ⟨c, List.ext_getElem? fun j => ?_⟩
  by_cases hj : j < 13
  · exact hc j hj
  · rw [List.getElem?_eq_none (by omega), List.getElem?_eq_none (by simp [CfgS.cells]; omega)]

variable [Gl]
theorem cfgv_vrel {m : Mp} (c : CfgS) : VRel m c.v (.agg c.cells.toArray) := by
  have hl : LRel m c.cells c.cells :=
    .cons (.int _ _) (.cons (.int _ _) (.cons (.int _ _) (.cons (.int _ _) (.cons (.int _ _) (.cons (.int _ _) (.cons (.int _ _) (.cons (.int _ _) (.cons (.int _ _) (.cons (.int _ _) (.cons (.int _ _) (.cons (.int _ _) (.cons (.bool _) .nil))))))))))))
  refine .agg (by simp [CfgS.cells]) fun i v v' q1 q2 => hl.2 i v v' ?_ ?_
  · simpa using q1
  · simpa using q2

theorem th_world (hF : FOK) (W : World) (hl0 : ∀ b x, Gl.B b = some x → W.heap[b]? = some x) (c : CfgS) (a1 a2 : Int) (a3 : Option Addr) (len3 cap3 : Nat) (w3 : InsIn W a3 len3 cap3) (b0 b1 b2 b3 b4 a5 : Int) :
    Calls Tryz.prog 3 #[.agg c.cells.toArray, .int .i64 a1, .int .i64 a2, .slice a3 len3 cap3, .agg #[.int .i64 b0, .int .i64 b1, .int .i64 b2, .int .i64 b3, .int .i64 b4], .int .i64 a5] W fun e w' => e = .returned (.bool true) ∧ Below W.heap.size W w' := by
  have s0 := Sim.empty W hl0
  have n0 := AW.NoOwn.empty
  obtain ⟨m3, A3, v3, p, le3, g3, s3, n3, r3, h3⟩ := intro_ins s0 n0 w3
  refine calls_of_acall (threadRefuses_law hF (fun B => awake20_call hF B) c a1 a2 v3 p b0 b1 b2 b3 b4 a5 A3 h3) (fun v A' h => h) s3 n3 ?_
  exact .cons (cfgv_vrel c) (.cons (.int _ _) (.cons (.int _ _) (.cons r3 (.cons (intro_arr5 _ _ _ _ _) (.cons (.int _ _) .nil)))))
end Go.Stx
