/-
 A machine that runs code over the abstract memory, inside the kernel: for calls without arguments that are open (the sanity checks).
-/
import Derived.Test.YtnnbecihffpedaaGreatDoorF1
set_option linter.unusedVariables false
set_option linter.unusedSimpArgs false
set_option linter.unusedSectionVars false
namespace Go.Stx
open Go
variable [Gl]
noncomputable section
inductive Tr (α:Type) where
 | nil
 | node (l:Tr α) (v:Option α) (r:Tr α)
structure EM where
 next:Nat
 t:Tr dG
theorem az.KI {P:Program} {f:FuncId} {R:Value->Prop} (h:az P f [] AW.lh λv _=>R v) (hR:∀v,R v->eQ v=true) (A:AW):az P f [] A λv A'=>R v/\A'=A:=by
 refine⟨h.1,λm w fL hs hl=>?_⟩;have Kg:gQ Mp.lh [] fL.toList:=by rw [hl.nL];exact .nil
 refine(h.2 Mp.lh w fL (jp.lh w hs.laid) Kg).mono ?_;rintro e w' ⟨v,v',m',A',rfl,ev,hv,hr⟩;have e1:=hv.lQ (hR v hr);subst e1;refine⟨v',v',m,A,rfl,D5.evo hs ⟨λb hb=>ev.rO b hb ?_,ev.os,ev.tape,ev.output,ev.size⟩,.jz (hR v' hr) m,hr,rfl⟩;rintro ⟨i,o,p,hi,_⟩;cases hi
end
end Go.Stx
