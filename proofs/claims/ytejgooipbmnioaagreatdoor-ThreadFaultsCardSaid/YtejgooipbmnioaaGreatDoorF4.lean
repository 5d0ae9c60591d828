/-
 A machine that runs code over the abstract memory, inside the kernel: for calls without arguments that are open (the sanity checks).
-/
import Derived.Test.YtejgooipbmnioaaGreatDoorF1
namespace Go.Stx
open Go
variable [Gl]
set_option linter.unusedSectionVars false
set_option linter.unusedVariables false
set_option linter.unusedSimpArgs false
noncomputable section
inductive Tr (α:Type) where
 | nil
 | Ym (l:Tr α) (v:Option α) (r:Tr α)
structure EM where
 next:Nat
 t:Tr dK
theorem aC.Ha {P:Program} {f:FuncId} {R:Value→Prop} (h:aC P f [] AW.jS fun v _=>R v) (hR:∀v,R v→eJ v=true) (A:AW):aC P f [] A fun v A'=>R v∧A'=A:=by
 refine⟨h.1,fun m w fE hs hl=>?_⟩
 have GP:gu Mp.jS [] fE.toList:=by rw [hl.oh];exact .nil
 refine(h.2 Mp.jS w fE (jv.jS w hs.laid) GP).mono ?_
 rintro e w' ⟨v,v',m',A',rfl,ev,hv,hr⟩
 have e1:=hv.mF (hR v hr)
 subst e1
 refine⟨v',v',m,A,rfl,NY.Xx hs ⟨fun b hb=>ev.qq b hb ?_,ev.os,ev.tape,ev.output,ev.size⟩,.li (hR v' hr) m,hr,rfl⟩
 rintro ⟨i,o,p,hi,_⟩
 cases hi
end
end Go.Stx
