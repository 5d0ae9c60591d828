/-
  MachineRefuses, called in the model's own world.
-/
import Derived.Test.YtcffnkgjmneaeaaGreatDoorMrC
import Derived.Test.YtcffnkgjmneaeaaGreatDoorCvr
import Derived.Test.YtcffnkgjmneaeaaGreatDoorFbIn
import Derived.Test.YtcffnkgjmneaeaaGreatDoorEw21
namespace Go.Stx
open Go Go.Proofs
attribute [local irreducible] AWP LWalk ACall ARounds lops nops
open Go.RowKit
set_option linter.unusedVariables false
set_option linter.unusedSimpArgs false
set_option linter.unusedSectionVars false
set_option maxRecDepth 20000
variable [Gl]

theorem mr_world (hF : FOK) (W : World) (hl0 : ∀ b x, Gl.B b = some x → W.heap[b]? = some x) (cs : List Value) (w0 : ScrIn W cs) (b0 b1 b2 b3 b4 : Int) (a2 : Option Addr) (len2 cap2 : Nat) (w2 : RowsIn W a2 len2 cap2)
    (a3 : Option Addr) (len3 cap3 : Nat) (z3 : List Int) (w3 : IntsIn .i64 W a3 len3 cap3 z3) (hz3 : len3 ≤ 17592186044415) (a4 a5 : Int) :
    Calls Tryz.prog 5 #[.agg cs.toArray, .agg #[.int .i64 b0, .int .i64 b1, .int .i64 b2, .int .i64 b3, .int .i64 b4], .slice a2 len2 cap2, .slice a3 len3 cap3, .int .i64 a4, .int .i64 a5] W fun e w' => e = .returned (.bool true) ∧ Below W.heap.size W w' := by
  have s0 := Sim.empty W hl0
  have n0 := AW.NoOwn.empty
  obtain ⟨m1, A1, v1, ls, le1, g1, s1, n1, r1, h1, hb1, _⟩ := intro_rows2 s0 n0 w2
  obtain ⟨c, e3, l3, c3, y3, e4, l4, c4, e5, l5, c5, y5, rfl, i3, i4, i5⟩ := w0
  obtain ⟨m2, A2, v2, le2, g2, s2, n2, r2, h2, _⟩ := intro_ints s1 n1 (k := .u64) i3
  obtain ⟨m3, A3, v3, ps, le3, g3, s3, n3, r3, h3⟩ := intro_progs s2 n2 i4
  obtain ⟨m4, A4, v4, le4, g4, s4, n4, r4, h4, _⟩ := intro_ints s3 n3 (k := .i64) i5
  obtain ⟨m5, A5, v5, le5, g5, s5, n5, r5, h5, _⟩ := intro_ints s4 n4 (k := .i64) w3
  have k1 := h1.keeps (Keeps.of_le (g2.trans (g3.trans (g4.trans g5))) s1.low)
  have k2 := h2.le (g3.trans (g4.trans g5)) s2.low
  have k3 := h3.le (g4.trans g5) s3.low
  have k4 := h4.le g5 s4.low
  have hlen : (z3.take len3).length ≤ 17592186044415 := by rw [List.length_take]; omega
  refine calls_of_acall (machineRefuses_call hF (fun B => awake21_call hF B) c v2 v3 v4 (y3.take l3) ps (y5.take l5) b0 b1 b2 b3 b4 v1 v5 ls (z3.take len3) a4 a5 A5 k2 k3 k4 k1 h5 hb1 hlen) (fun v A' h => h) s5 n5 ?_
  exact .cons (cfg_vrel (((r2.mono le3).mono le4).mono le5) ((r3.mono le4).mono le5) (r4.mono le5)) (.cons (intro_arr5 _ _ _ _ _) (.cons ((((r1.mono le2).mono le3).mono le4).mono le5) (.cons r5 (.cons (.int _ _) (.cons (.int _ _) .nil)))))
end Go.Stx
