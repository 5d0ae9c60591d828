/-
 PrivateStores and MachineCells, without the program.
-/
import Derived.Test.YtpealkdhmnomhaaGreatDoorG33
import Derived.Test.YtpealkdhmnomhaaGreatDoorG32
import Derived.Test.YtpealkdhmnomhaaGreatDoorG07
set_option linter.unusedVariables false
set_option linter.unusedSimpArgs false
set_option linter.unusedSectionVars false
set_option maxRecDepth 20000
set_option maxHeartbeats 4000000
open Go.Proofs.Tryz renaming prog->qV
open Go.Stx.AW renaming le->Zk
open Nat renaming le_refl->qZ
open Option.some renaming inj->kau
open Bool renaming true->qg
open Go renaming Value->qd
open Go.IntKind renaming i64->qa,u64->qj
open Go.Stx.eh renaming cells->qi
open Go.Value renaming int->qb,slice->qf
open Option renaming some->qc
namespace Go.Stx
open Go Go.Proofs
attribute [local irreducible] cM aV aB aL cU dh TW bI
section
variable [Gl]
variable [AF]
structure PsS where
 MI:List Int
 ym:Int
structure PsRel (nt:Nat) (m:rW) (σ:PsS):Prop where
 tl:σ.MI.length=nt
 tk:∀(i:Nat) (t:aU) (s:aI) (n:Int),m.fN[i]? = some t->t.fR=some s->mN s=some n->σ.MI.getD i 0=n
 ym:σ.ym<=xO m.M
theorem Pz {c:aY} {zs:List Int} {ps:List (List bq)} {i:Nat} {t:aU} (h:(ng c zs ps).fN[i]? = qc t):t.fR=none:=by
 have h:(ps.mapIdx λi p=>pD c i ps.length p)[i]? = qc t:=h;rw [List.getElem?_mapIdx] at h;cases e:ps[i]? with
 | none=>rw [e] at h;cases h
 | some p=>rw [e] at h;have h:=kau h;rw [<-h];rfl
end
section
variable [Gl]
theorem Jm {A:AW} {v:qd} {l:List dm} (h:fL A 9 v l.length (Kr l)):∃(o:Option Addr) (c:Nat) (p:Addr) (bS:List qd) (own:Bool),v=qf o l.length c/\(0<l.length->o=qc p/\A.bk p.block=qc (qi bS own 9))/\∀i (hi:i<l.length),p.off+i*9+9<=bS.length/\(bS.drop (p.off+i*9)).take 9=(l[i]).cells:=by
 cases l with
 | nil=>
   obtain⟨o,c,e,_⟩:=h.bR;exact⟨o,c,⟨0,0,none⟩,[],false,e,λh=>absurd h Yf,λi hi=>by cases hi⟩
 | cons x l=>
   obtain⟨p,c,bS,own,e1,e2,_,_⟩:=F8 (f:=dm.cells) (λ_=>rfl) h (i:=0) Yb;refine⟨qc p,c,p,bS,own,e1,λ_=>⟨rfl,e2⟩,λi hi=>?_⟩;obtain⟨p',c',U9,own',q1,q2,q3,q4⟩:=F8 (f:=dm.cells) (λ_=>rfl) h hi;rw [e1] at q1;injection q1 with q1 _ _;have q1:=kau q1;subst q1;rw [e2] at q2;have q2:=kau q2;injection q2 with q2 _ _;subst q2;exact⟨q3,q4⟩
end
end Go.Stx
