/-
 What the statements ask of a pair of attempts.
-/
import Derived.Test.YtncmjklabcoeaaaGreatD42
set_option linter.unusedVariables false
set_option linter.unusedSimpArgs false
set_option maxRecDepth 20000
set_option maxHeartbeats 4000000
namespace Go.Stx
open Go Go.Proofs
attribute [local irreducible] fj cm aH bB dK ei
def xa (c:bG) (n:Int):Int:=if eO n 11=10 then eO (IntKind.i64.wrap (n.tdiv 11)) 30 else eO (IntKind.i64.wrap (n.tdiv 11)) c.aF
structure nc where
 ag:Int
 eV:Int
 cA:Int
 v:Int
def nc.val (q:nc):Value:=.agg #[.int .i64 q.ag,.int .i64 q.eV,.int .i64 q.cA,.int .u64 q.v]
def nc.cells (q:nc):List Value:=[.int .i64 q.ag,.int .i64 q.eV,.int .i64 q.cA,.int .u64 q.v]
def xB (c:bG) (q:nc) (s:aD):Int×aD:=
 if eO q.eV 16<5 then Bn s (xa c q.cA)
 else if eO q.eV 16<9 then CF s (xa c q.cA) q.v
 else if eO q.eV 16=9∨eO q.eV 16=10 then An s (eO q.cA 3)
 else if eO q.eV 16=11 then AB s (xa c q.cA)
 else if eO q.eV 16=12 then AB s (IntKind.u64.wrap (eL c (eO q.cA 4)))
 else if eO q.eV 16=13 then xN s 2
 else xN s 1
end Go.Stx
