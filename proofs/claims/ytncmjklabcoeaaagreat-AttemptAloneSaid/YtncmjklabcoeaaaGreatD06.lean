/-
 The reference's Sorted: what it returns.
-/
import Derived.Test.YtncmjklabcoeaaaGreatD01
set_option linter.unusedVariables false
set_option linter.unusedSimpArgs false
set_option maxRecDepth 20000
set_option maxHeartbeats 4000000
namespace Go.Stx
open Go Go.Proofs
attribute [local irreducible] fj cm aH bB dK ei
open T0
def mG (fy:List Int) (x:Int):List Int:=
 match fy with
 | []=>[x]
 | y::r=>if y<x then y::mG r x else if y=x then y::r else x::y::r
def ig (l:List Int):List Int:=l.foldl mG []
end Go.Stx
