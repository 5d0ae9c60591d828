/-
  SoloRefuses, called in the model's own world.
-/
import Derived.Test.YtcffnkgjmneaeaaGreatDoorSoA
import Derived.Test.YtcffnkgjmneaeaaGreatDoorCvr
import Derived.Test.YtcffnkgjmneaeaaGreatDoorEw27
namespace Go.Stx
open Go Go.Proofs
attribute [local irreducible] AWP LWalk ACall ARounds lops nops
open Go.RowKit
set_option linter.unusedVariables false
set_option linter.unusedSimpArgs false
set_option linter.unusedSectionVars false
set_option maxRecDepth 20000
variable [Gl]

theorem so_world (hF : FOK) (W : World) (hl0 : ∀ b x, Gl.B b = some x → W.heap[b]? = some x) (cs : List Value) (w0 : ScrIn W cs) :
    Calls Tryz.prog 4 #[.agg cs.toArray] W fun e w' => e = .returned (.bool true) ∧ Below W.heap.size W w' := by
  have s0 := Sim.empty W hl0
  have n0 := AW.NoOwn.empty
  obtain ⟨c, e3, l3, c3, y3, e4, l4, c4, e5, l5, c5, y5, rfl, i3, i4, i5⟩ := w0
  obtain ⟨m2, A2, v2, le2, g2, s2, n2, r2, h2, _⟩ := intro_ints s0 n0 (k := .u64) i3
  obtain ⟨m3, A3, v3, ps, le3, g3, s3, n3, r3, h3⟩ := intro_progs s2 n2 i4
  obtain ⟨m4, A4, v4, le4, g4, s4, n4, r4, h4, _⟩ := intro_ints s3 n3 (k := .i64) i5
  have k2 := h2.le (g3.trans g4) s2.low
  have k3 := h3.le g4 s3.low
  obtain ⟨ok, ck, hv4, _⟩ := h4.form
  generalize (y5.take l5).length = nk at hv4
  subst hv4
  refine calls_of_acall (soloRefuses_law hF (fun B => awake27_call hF B) c v2 v3 (y3.take l3) ps ok nk ck A4 k2 k3) (fun v A' h => h) s4 n4 ?_
  exact .cons (cfg_vrel ((r2.mono le3).mono le4) (r3.mono le4) r4) .nil
end Go.Stx
