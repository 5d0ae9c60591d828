/-
 The reference's cells, under any configuration.
-/
import Derived.Test.YtncmjklabcoeaaaGreatC07
import Derived.Test.YtncmjklabcoeaaaGreatC05
set_option linter.unusedVariables false
set_option linter.unusedSimpArgs false
set_option maxRecDepth 20000
set_option maxHeartbeats 4000000
namespace Go.Stx
open Go Go.Proofs
attribute [local irreducible] fj cm aH bB dK ei
open T0
def eX (cf:bG) (mb:Nat) (M:Nat→List Int):HP:=
 rt fun v:Value×Value×Value×Value×Value=>
  pt mb (.cells (cf.cells++[v.1,v.2.1,.int .u64 ((M 2).getD 0 0),.int .u64 ((M 3).getD 0 0),.int .u64 ((M 4).getD 0 0),v.2.2.1,v.2.2.2.1,v.2.2.2.2]) true 1) *
   (ar .u64 v.1 (M 0)*(ar .u64 v.2.1 (M 1)*(ar .u64 v.2.2.1 (M 5)*(ar .u64 v.2.2.2.1 (M 6)*ar .u64 v.2.2.2.2 (M 7)))))
theorem eX.open {A:AW} {cf:bG} {mb:Nat} {M:Nat→List Int} {F:HP} (h:bK A (eX cf mb M*F)) :
 ∃v0 v1 v5 v6 v7,bK A (pt mb (.cells (cf.cells++[v0,v1,.int .u64 ((M 2).getD 0 0),.int .u64 ((M 3).getD 0 0),.int .u64 ((M 4).getD 0 0),v5,v6,v7]) true 1) *
  (ar .u64 v0 (M 0)*(ar .u64 v1 (M 1)*(ar .u64 v5 (M 5)*(ar .u64 v6 (M 6)*(ar .u64 v7 (M 7)*F)))))):=by
 unfold eX at h
 rw [bK.ex] at h
 obtain⟨⟨v0,v1,v5,v6,v7⟩,h⟩:=h
 exact⟨v0,v1,v5,v6,v7,h.dp (by dsimp only;ac_rfl)⟩
theorem eX.eh {A:AW} {cf:bG} {mb:Nat} {M:Nat→List Int} {F:HP} {v0 v1 v5 v6 v7:Value} (h:bK A (pt mb (.cells (cf.cells++[v0,v1,.int .u64 ((M 2).getD 0 0),.int .u64 ((M 3).getD 0 0),.int .u64 ((M 4).getD 0 0),v5,v6,v7]) true 1) *
 (ar .u64 v0 (M 0)*(ar .u64 v1 (M 1)*(ar .u64 v5 (M 5)*(ar .u64 v6 (M 6)*(ar .u64 v7 (M 7)*F))))))):bK A (eX cf mb M*F):=by
 unfold eX
 rw [bK.ex]
 exact⟨(v0,v1,v5,v6,v7),h.dp (by dsimp only;ac_rfl)⟩
def fw (cf:bG) (mb:Nat) (M:Mm):It:=.h (eX cf mb M)
end Go.Stx
