/-
 FairCommits, called in the model's own world.
-/
import Derived.Test.YtpealkdhmnomhaaGreatDoorG36
import Derived.Test.YtpealkdhmnomhaaGreatDoorG37
set_option linter.unusedVariables false
set_option linter.unusedSimpArgs false
set_option linter.unusedSectionVars false
set_option maxRecDepth 20000
set_option maxHeartbeats 4000000
namespace Go.Stx
open Go Go.Proofs
attribute [local irreducible] cM aV aB aL cU dh
section
open Go.RowKit
variable [Gl]
theorem LP (B:AW):aB Tryz.prog 17 [] B (λv A'=>v=.bool true/\B=A'):=
 (R4 (R:=λv=>v=.bool true) ((QJ AW.mr).mono λv A' h=>h.1) (λv h=>by rw [h];rfl) B).mono λv A' h=>⟨h.1,h.2.symm⟩
theorem fc_world (hF:FOK) (W:World) (EV:∀b x,Gl.B b=some x->W.heap[b]? = some x) (b0 b1 b2 b3 b4:Int) (a1:Option Addr) (len1 cap1:Nat) (w1:RowsZ W a1 len1 cap1) (a2:Option Addr) (len2 cap2:Nat) (z2:List Int) (w2:IntsIn .i64 W a2 len2 cap2 z2) (rA:len2<=17592186044415) :
 Calls Tryz.prog 4 #[.agg #[.int .i64 b0,.int .i64 b1,.int .i64 b2,.int .i64 b3,.int .i64 b4],.slice a1 len1 cap1,.slice a2 len2 cap2] W λe w'=>e=.returned (.bool true)/\Below W.heap.size W w':=by
 have s0:=k7.mr W EV;have n0:=AW.vY.mr;obtain⟨m1,A1,v1,ls,le1,g1,s1,n1,r1,h1,H3,lF⟩:=Ek s0 n0 w1;obtain⟨m2,A2,v2,le2,g2,s2,n2,r2,h2,_⟩:=Bi s1 n1 (k:=.i64) w2;refine yS (DJ hF LP b0 b1 b2 b3 b4 v1 v2 ls (z2.take len2) A2 (h1.keeps (gW.nd g2 s1.zQ)) h2 H3 (by rw [List.length_take];omega)) (λv A' h=>h) s2 n2 ?_;exact .cons (GI _ _ _ _ _) (.cons (r1.mono le2) (.cons r2 .nil))
end
end Go.Stx
