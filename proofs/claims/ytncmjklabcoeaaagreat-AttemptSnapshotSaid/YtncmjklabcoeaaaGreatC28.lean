/-
 The reference's machine that pushes blocks one after another.
-/
import Derived.Test.YtncmjklabcoeaaaGreatC21
import Derived.Test.YtncmjklabcoeaaaGreatC26
import Derived.Test.YtncmjklabcoeaaaGreatC19
set_option linter.unusedVariables false
set_option linter.unusedSimpArgs false
set_option maxRecDepth 20000
set_option maxHeartbeats 4000000
namespace Go.Stx
open Go Go.Proofs
attribute [local irreducible] fj cm aH bB dK ei
section
open T28 T16
def nA {ι:Type} (P:Program) (f:FuncId) (args:List Value) (pd:List It) (φ:ι→Value→Prop) (post:ι→List It):Prop:=
 ∀(A:AW) (F:HP),A.Wf→an A (pd++[.h F])→aH P f args A fun v A'=>∃x,φ x v∧an A' (post x++[.h F])
theorem nA.el {ι:Type} {P:Program} {f:FuncId} {args:List Value} {pd:List It} {φ:ι→Value→Prop} {post:ι→List It} (h:nA P f args pd φ post) {A:AW} {L K:List It} {k:Value→AW→Prop} (hw:A.Wf) (hS:an A L) (e:aX L pd K)
 (hk:∀x v A',φ x v→an A' (post x++K)→A'.Wf→A.next≤A'.next→k v A'):aH P f args A k:=by
 have oG:an A (pd++[.h (bn K)]):=by
  unfold an at *
  rw [e.bn] at hS
  rw [fN]
  show bK A (bn pd*(bn K*fa))
  rw [dx]
  exact hS
 refine bD (h A (bn K) hw oG) ?_
 rintro v A' ⟨x,h1,h2⟩ gY hn
 refine hk x v A' h1 ?_ gY hn
 unfold an at *
 rw [fN] at h2 ⊢
 have h3:bK A' (bn (post x)*(bn K*fa)):=h2
 rwa [dx] at h3
end
end Go.Stx
