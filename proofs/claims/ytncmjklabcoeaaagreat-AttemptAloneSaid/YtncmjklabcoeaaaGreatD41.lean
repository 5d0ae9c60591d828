/-
 The reference's attempt: steps.
-/
import Derived.Test.YtncmjklabcoeaaaGreatD27
import Derived.Test.YtncmjklabcoeaaaGreatD28
import Derived.Test.YtncmjklabcoeaaaGreatD38
set_option linter.unusedVariables false
set_option linter.unusedSimpArgs false
set_option maxRecDepth 20000
set_option maxHeartbeats 4000000
namespace Go.Stx
open Go Go.Proofs
attribute [local irreducible] fj cm aH bB dK ei
theorem ep.fI {s:aD} (hC:ep s) (hr:s.ah.length+1<2^20) (r:dY):ep (if r.cA<s.cf.aF∧¬r.cA∈s.ah then { s with ah:=s.ah++[r.cA],set:=(cr s.cf.ah.toNat s.set r.dl).2 } else { s with set:=(cr s.cf.ah.toNat s.set r.dl).2 }):=by
 split
 · refine⟨hC.cf,hC.G2,hC.aM,hC.dA,hC.cc,hC.I6,hC.GU,hC.kN,hC.push,tD _ hC.set,?_,hC.EQ⟩
   show (s.ah++[r.cA]).length<2^20
   simp only [List.length_append,List.length_cons,List.length_nil]
   omega
 · exact⟨hC.cf,hC.G2,hC.aM,hC.dA,hC.cc,hC.I6,hC.GU,hC.kN,hC.push,tD _ hC.set,hC.EG,hC.EQ⟩
end Go.Stx
