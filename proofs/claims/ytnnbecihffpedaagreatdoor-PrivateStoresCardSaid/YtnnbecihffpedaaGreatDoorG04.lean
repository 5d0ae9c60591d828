import Derived.Test.YtnnbecihffpedaaGreatDoorG03
import Derived.Lib.LaidU8
import Derived.Shelf.Vars
import Derived.LaidMore
import Derived.Test.YtnnbecihffpedaaGreatDoorRows
import Derived.Deep.Slices
import Derived.Deep.Matrix
import Derived.SizedLaws
import Derived.Lib.SmallJoins
set_option linter.all false
set_option maxRecDepth 20000
set_option maxHeartbeats 4000000
open List renaming length->U
open Array renaming getElem?_eq_some_iff->Zj,getElem?_toList->kbA
open Bool renaming and_eq_true->Zg
open Go.DataW renaming trod->kb9,weights->kb2
open Go.Deep renaming intRow->kco
open Go.IntKind renaming i64->Zb
open Go.Proofs.Tryz renaming prog->qZ
open Go.Proofs.YtnnbecihffpedaaGreatDoor.Rows renaming laid_strongtx_isa_forms->kca
open Go.Stx.AW.le renaming alloc->q8,refl->Zu
open Go.World renaming cell?->kaV
open List renaming all_eq_true->Zs,ext_getElem?->kaO,getElem?_eq_getElem->Zf,getElem?_eq_none->ZL,getElem?_eq_some_iff->Zy,length_take->kaf,mem_append->ZG,mem_cons->Zz,mem_range->Zr
open Nat renaming le_refl->Za,zero_le->Zv
open Option renaming map_some->kaR
open Option.some renaming inj->ZC,injEq->Zd
open Bool renaming false->qn,true->qj
open Go renaming Program->qp,TypeId->qy,Value->qi,World->qz
open Go.IntKind renaming i64->qg
open Go.Value renaming bool->qt
open Option renaming none->qk,some->qf
open Or renaming inl->qw,inr->qB
namespace Go.Stx
open Go Go.Proofs
attribute [local irreducible] TW bK df aW aE aL cY dm
section
abbrev eP:List (Nat×Nat):=[(0,0),(1,0),(2,0),(3,0),(4,0),(5,0),(6,0),(7,0),(8,0),(9,2),(10,0)]
namespace TGFbJ
def oK [Gl]{A:AW}{L:List It}{T:Prop}(hS:aj A L)(hw:A.Wf)(h':(ba A L/\bB A L/\cd L)=T:=by first|(dsimp only[aa,ah,ba,bB,cd,fw];done)|exact rfl):T:=h'▸hS.fm hw
end TGFbJ
open TGFbJ
section
variable (G1 G2:Gl) (hG:∀g,G1.ok g=qj->G2.ok g=qj)
include hG
def FX {n:Nat}{o:Operand}(h:@Cm G1 n o=qj):@Cm G2 n o=qj:=by
 cases o with
 |global g=>exact hG g h
 |_=>exact h
def Pt {n:Nat}{o:Oper}(h:@ma G1 n o=qj):@ma G2 n o=qj:=by unfold ma at h ⊢;rw[Zg]at h ⊢;refine⟨?_,h.2⟩;have h1:=h.1;rw[Array.all_eq_true]at h1 ⊢;exact λi hi=>FX G1 G2 hG (h1 i hi)
def mK {n:Nat}:∀{c:Code},@mg G1 n c=qj->@mg G2 n c=qj
 | .region _ bf _,h=>by unfold mg at h ⊢;rw[Array.all_eq_true]at h ⊢;exact λi hi=>Pt G1 G2 hG (h i hi)
 | .seq a b,h=>by unfold mg at h ⊢;rw[Zg]at h ⊢;exact⟨mK h.1,mK h.2⟩
 | .cond c a b,h=>by unfold mg at h ⊢;rw[Zg,Zg]at h ⊢;exact⟨⟨FX G1 G2 hG h.1.1,mK h.1.2⟩,mK h.2⟩
 | .block _ b,h=>by unfold mg at h ⊢;exact mK h
 | .loop b,h=>by unfold mg at h ⊢;exact mK h
 | .skip,h=>rfl
 | .exit _,h=>rfl
 | .ret,h=>rfl
end
@[reducible] def GlF:Gl:={ B:=λ_=>qk,ok:=λg=>g == 0,N:=1,lt:=λg h=>by have:=eq_of_beq h;omega }
variable [Gl]
def Tk (ki:Gl.ok 0=qj){fn:Func}{n:Nat}(h:@NJ GlF fn n=qj):NJ fn n=qj:=by
 have hG:∀g,GlF.ok g=qj->Gl.ok g=qj:=λg hg=>by have:g=0:=eq_of_beq hg;subst this;exact ki
 unfold NJ at h ⊢;simp only[Zg]at h ⊢;obtain⟨⟨⟨h1,h2⟩,h3⟩,h4⟩:=h;refine⟨⟨⟨h1,h2⟩,?_⟩,?_⟩;rw[Zs]at h3 ⊢;exact λr hr=>h3 r hr;cases hb:fn.body with
 |none=>rw[hb]at h4;exact h4
 |some c=>rw[hb]at h4;exact mK GlF _ hG h4
def ee (a:Fr)(g:Nat):gZ a (.global g)=.pointer (qf ⟨g,0,qk⟩):=rfl
def KX (hF:FOK)(x:bp)(A:AW):AA qZ 99 [.agg (aA x).toArray] A (.int qg (cQ x)):=by
 refine AA.of_call rfl ?_;obtain⟨e,fr,hB⟩:=hF.forms;refine aE.lI (cs:=il) hF.ok hB (λk v h=>?_) ?_;refine⟨by simpa using h,?_⟩;have h1:il.all fJ=qj:=Yf
 exact Zs.1 h1 v (List.mem_of_getElem? h);generalize A.ro=A0;have bP:(A0.set 0 (qf (.cells il qn 1))).bO 0=qf il:=by simp[AW.ab]
 have kH:(A0.set 0 (qf (.cells il qn 1))).bk 0=qf (.cells il qn 1):=Yb
 generalize A0.set 0 (qf (.cells il qn 1))=A at bP kH;refine Gy Tryz.func99 rfl (Tk hF.ok Yf) λhw=>?_;have hz:¬0=A.next:=λe=>by have:=hw.lt kH;omega
 have sE:¬A.next=0:=λe=>hz e.symm;obtain⟨op,a,b,c,cg⟩:=x;by_cases h1:op<0
 . have he:cQ ⟨op,a,b,c,cg⟩=10:=(by unfold cQ;rw[az (qw h1)]);rw[he];refine W (J1 (od eP)) (J3 h1 @AW.ab @aA.eq_1) ?_<;>intros
   all_goals simp[aT,aX,bA,aR,aS]
 by_cases h2:18<=op
 . have he:cQ ⟨op,a,b,c,cg⟩=10:=(by unfold cQ;rw[az (qB h2)]);rw[he];refine W (J1 (od eP)) (J4 h1 h2 @AW.ab @aA.eq_1) ?_<;>intros
   all_goals simp[aT,aX,bA,aR,aS]
 obtain⟨k,rfl⟩:∃k:Nat,op=k:=⟨op.toNat,by omega⟩;have hk:k<18:=Ya
 have j6:¬((18:Int)<=k):=Ya
 obtain⟨l1,l2,l3⟩:=caps hk;have hcell:=WL hk;have cy:U il=36:=Yf
 have c1:∀A,aE qZ 163 [.string (bs (lJ k)),.string ((⟨#[65,66,67]⟩:ByteArray).extract 0 1)] A (λu A'=>u=qt (nI k)/\A=A'):=λA=>by rw[<-l1];exact(wh (lJ k) 65 A).call ⟨rfl,rfl⟩
 have c2:∀A,aE qZ 163 [.string (bs (lJ k)),.string ((⟨#[65,66,67]⟩:ByteArray).extract 1 2)] A (λu A'=>u=qt (lF k)/\A=A'):=λA=>by rw[<-l2];exact(wh (lJ k) 66 A).call ⟨rfl,rfl⟩
 have c3:∀A,aE qZ 163 [.string (bs (lJ k)),.string ((⟨#[65,66,67]⟩:ByteArray).extract 2 3)] A (λu A'=>u=qt (nH k)/\A=A'):=λA=>by rw[<-l3];exact(wh (lJ k) 67 A).call ⟨rfl,rfl⟩
 have he:cQ ⟨k,a,b,c,cg⟩=if (iB a (nI k) && iB b (lF k) && iB c (nH k)) && fV k cg then 0 else 11:=by unfold cQ;rw[ar Yg]
 rw[he];have cN:=PB ⟨(k:Int),a,b,c,cg⟩;simp only[aA]at cN;generalize fV (k:Int) cg=no at cN ⊢;generalize nI k=ua at c1 ⊢;generalize lF k=ub at c2 ⊢;generalize nH k=uc at c3 ⊢;generalize Rz:iB a ua=ra;generalize IM:iB b ub=rb;generalize vB:iB c uc=rc;have key:∀(r:Int)(u:Bool),iB r u=(if u then decide (0<=r) && decide (r<8) else decide (r=0)):=λ_ _=>rfl;rw[key]at Rz IM vB;revert hw;refine W (J1 (od eP)) (J4 h1 j6 @AW.ab @aA.eq_1) ?_<;>(unhygienic intros);refine i7 4 ?_;cases ua with
 |false=>
   by_cases ya0:a=0
   . have ya1:ra=qj:=(by rw[<-Rz];simp[ya0]);subst ya1;subst ya0;cases ub with
     |false=>
       by_cases yb0:b=0
       . have Mt:rb=qj:=YY;subst Mt;subst yb0;cases uc with
         |false=>
           by_cases yc0:c=0
           . have xq:rc=qj:=Yy;subst xq;subst yc0;cases no with
             |false=>
               refine W (J5 (od eP) @c1 @c2 @c3 @cN) (Ls h1 j6 kH hcell cy hz sE hk @AW.ab @aA.eq_1 @ee) ?_<;>intros
               all_goals simp[aT,aX,bA,aR,aS]
             |true=>
               refine W (J5 (od eP) @c1 @c2 @c3 @cN) (Ls h1 j6 kH hcell cy hz sE hk @AW.ab @aA.eq_1 @ee) ?_<;>intros
               all_goals simp[aX,bA,aR,aS]
           have xq:rc=qn:=Yy;subst xq;refine W (J5 (od eP) @c1 @c2 @c3 @cN) (Ay h1 j6 kH hcell cy hz sE hk yc0 @AW.ab @aA.eq_1 @ee) ?_<;>intros
           all_goals simp[b6,aT,aX,bA,aR,aS]
         |true=>
           by_cases yc0:c<0
           . have xq:rc=qn:=Yo;subst xq;refine W (J5 (od eP) @c1 @c2 @c3 @cN) (Ay h1 j6 kH hcell cy hz sE hk yc0 @AW.ab @aA.eq_1 @ee) ?_<;>intros
             all_goals simp[b6,aT,aX,bA,aR,aS]
           by_cases yc2:8<=c
           . have xq:rc=qn:=Yo;subst xq;refine W (J5 (od eP) @c1 @c2 @c3 @cN) (oP h1 j6 kH hcell cy hz sE hk yc0 yc2 @AW.ab @aA.eq_1 @ee) ?_<;>intros
             all_goals simp[b6,aT,aX,bA,aR,aS]
           have xq:rc=qj:=Yo;subst xq;cases no with
           |false=>
             refine W (J5 (od eP) @c1 @c2 @c3 @cN) (oP h1 j6 kH hcell cy hz sE hk yc0 yc2 @AW.ab @aA.eq_1 @ee) ?_<;>intros
             all_goals simp[aT,aX,bA,aR,aS]
           |true=>
             refine W (J5 (od eP) @c1 @c2 @c3 @cN) (oP h1 j6 kH hcell cy hz sE hk yc0 yc2 @AW.ab @aA.eq_1 @ee) ?_<;>intros
             all_goals simp[aX,bA,aR,aS]
       have Mt:rb=qn:=YY;subst Mt;refine W (J5 (od eP) @c1 @c2 @c3 @cN) (Ay h1 j6 kH hcell cy hz sE hk yb0 @AW.ab @aA.eq_1 @ee) ?_<;>intros
       all_goals simp[b6,aT,aX,bA,aR,aS]
     |true=>
       by_cases yb0:b<0
       . have Mt:rb=qn:=YL;subst Mt;refine W (J5 (od eP) @c1 @c2 @c3 @cN) (Ay h1 j6 kH hcell cy hz sE hk yb0 @AW.ab @aA.eq_1 @ee) ?_<;>intros
         all_goals simp[b6,aT,aX,bA,aR,aS]
       by_cases yb2:8<=b
       . have Mt:rb=qn:=YL;subst Mt;refine W (J5 (od eP) @c1 @c2 @c3 @cN) (oP h1 j6 kH hcell cy hz sE hk yb0 yb2 @AW.ab @aA.eq_1 @ee) ?_<;>intros
         all_goals simp[b6,aT,aX,bA,aR,aS]
       have Mt:rb=qj:=YL;subst Mt;cases uc with
       |false=>
         by_cases yc0:c=0
         . have xq:rc=qj:=Yy;subst xq;subst yc0;cases no with
           |false=>
             refine W (J5 (od eP) @c1 @c2 @c3 @cN) (oP h1 j6 kH hcell cy hz sE hk yb0 yb2 @AW.ab @aA.eq_1 @ee) ?_<;>intros
             all_goals simp[aT,aX,bA,aR,aS]
           |true=>
             refine W (J5 (od eP) @c1 @c2 @c3 @cN) (oP h1 j6 kH hcell cy hz sE hk yb0 yb2 @AW.ab @aA.eq_1 @ee) ?_<;>intros
             all_goals simp[aX,bA,aR,aS]
         have xq:rc=qn:=Yy;subst xq;refine W (J5 (od eP) @c1 @c2 @c3 @cN) (y9 h1 j6 kH hcell cy hz sE hk yb0 yb2 yc0 @AW.ab @aA.eq_1 @ee) ?_<;>intros
         all_goals simp[b6,aT,aX,bA,aR,aS]
       |true=>
         by_cases yc0:c<0
         . have xq:rc=qn:=Yo;subst xq;refine W (J5 (od eP) @c1 @c2 @c3 @cN) (y9 h1 j6 kH hcell cy hz sE hk yb0 yb2 yc0 @AW.ab @aA.eq_1 @ee) ?_<;>intros
           all_goals simp[b6,aT,aX,bA,aR,aS]
         by_cases yc2:8<=c
         . have xq:rc=qn:=Yo;subst xq;refine W (J5 (od eP) @c1 @c2 @c3 @cN) (J15 h1 j6 kH hcell cy hz sE hk yb0 yb2 yc0 yc2 @AW.ab @aA.eq_1 @ee) ?_<;>intros
           all_goals simp[b6,aT,aX,bA,aR,aS]
         have xq:rc=qj:=Yo;subst xq;cases no with
         |false=>
           refine W (J5 (od eP) @c1 @c2 @c3 @cN) (J15 h1 j6 kH hcell cy hz sE hk yb0 yb2 yc0 yc2 @AW.ab @aA.eq_1 @ee) ?_<;>intros
           all_goals simp[aT,aX,bA,aR,aS]
         |true=>
           refine W (J5 (od eP) @c1 @c2 @c3 @cN) (J15 h1 j6 kH hcell cy hz sE hk yb0 yb2 yc0 yc2 @AW.ab @aA.eq_1 @ee) ?_<;>intros
           all_goals simp[aX,bA,aR,aS]
   have ya1:ra=qn:=(by rw[<-Rz];simp[ya0]);subst ya1;refine W (J5 (od eP) @c1 @c2 @c3 @cN) (Ay h1 j6 kH hcell cy hz sE hk ya0 @AW.ab @aA.eq_1 @ee) ?_<;>intros
   all_goals simp[b6,aT,aX,bA,aR,aS]
 |true=>
   by_cases ya0:a<0
   . have ya1:ra=qn:=Xc;subst ya1;refine W (J5 (od eP) @c1 @c2 @c3 @cN) (Ay h1 j6 kH hcell cy hz sE hk ya0 @AW.ab @aA.eq_1 @ee) ?_<;>intros
     all_goals simp[b6,aT,aX,bA,aR,aS]
   by_cases ya2:8<=a
   . have ya1:ra=qn:=Xc;subst ya1;refine W (J5 (od eP) @c1 @c2 @c3 @cN) (oP h1 j6 kH hcell cy hz sE hk ya0 ya2 @AW.ab @aA.eq_1 @ee) ?_<;>intros
     all_goals simp[b6,aT,aX,bA,aR,aS]
   have ya1:ra=qj:=Xc;subst ya1;cases ub with
   |false=>
     by_cases yb0:b=0
     . have Mt:rb=qj:=YY;subst Mt;subst yb0;cases uc with
       |false=>
         by_cases yc0:c=0
         . have xq:rc=qj:=Yy;subst xq;subst yc0;cases no with
           |false=>
             refine W (J5 (od eP) @c1 @c2 @c3 @cN) (oP h1 j6 kH hcell cy hz sE hk ya0 ya2 @AW.ab @aA.eq_1 @ee) ?_<;>intros
             all_goals simp[aT,aX,bA,aR,aS]
           |true=>
             refine W (J5 (od eP) @c1 @c2 @c3 @cN) (oP h1 j6 kH hcell cy hz sE hk ya0 ya2 @AW.ab @aA.eq_1 @ee) ?_<;>intros
             all_goals simp[aX,bA,aR,aS]
         have xq:rc=qn:=Yy;subst xq;refine W (J5 (od eP) @c1 @c2 @c3 @cN) (y9 h1 j6 kH hcell cy hz sE hk ya0 ya2 yc0 @AW.ab @aA.eq_1 @ee) ?_<;>intros
         all_goals simp[b6,aT,aX,bA,aR,aS]
       |true=>
         by_cases yc0:c<0
         . have xq:rc=qn:=Yo;subst xq;refine W (J5 (od eP) @c1 @c2 @c3 @cN) (y9 h1 j6 kH hcell cy hz sE hk ya0 ya2 yc0 @AW.ab @aA.eq_1 @ee) ?_<;>intros
           all_goals simp[b6,aT,aX,bA,aR,aS]
         by_cases yc2:8<=c
         . have xq:rc=qn:=Yo;subst xq;refine W (J5 (od eP) @c1 @c2 @c3 @cN) (J15 h1 j6 kH hcell cy hz sE hk ya0 ya2 yc0 yc2 @AW.ab @aA.eq_1 @ee) ?_<;>intros
           all_goals simp[b6,aT,aX,bA,aR,aS]
         have xq:rc=qj:=Yo;subst xq;cases no with
         |false=>
           refine W (J5 (od eP) @c1 @c2 @c3 @cN) (J15 h1 j6 kH hcell cy hz sE hk ya0 ya2 yc0 yc2 @AW.ab @aA.eq_1 @ee) ?_<;>intros
           all_goals simp[aT,aX,bA,aR,aS]
         |true=>
           refine W (J5 (od eP) @c1 @c2 @c3 @cN) (J15 h1 j6 kH hcell cy hz sE hk ya0 ya2 yc0 yc2 @AW.ab @aA.eq_1 @ee) ?_<;>intros
           all_goals simp[aX,bA,aR,aS]
     have Mt:rb=qn:=YY;subst Mt;refine W (J5 (od eP) @c1 @c2 @c3 @cN) (y9 h1 j6 kH hcell cy hz sE hk ya0 ya2 yb0 @AW.ab @aA.eq_1 @ee) ?_<;>intros
     all_goals simp[b6,aT,aX,bA,aR,aS]
   |true=>
     by_cases yb0:b<0
     . have Mt:rb=qn:=YL;subst Mt;refine W (J5 (od eP) @c1 @c2 @c3 @cN) (y9 h1 j6 kH hcell cy hz sE hk ya0 ya2 yb0 @AW.ab @aA.eq_1 @ee) ?_<;>intros
       all_goals simp[b6,aT,aX,bA,aR,aS]
     by_cases yb2:8<=b
     . have Mt:rb=qn:=YL;subst Mt;refine W (J5 (od eP) @c1 @c2 @c3 @cN) (J15 h1 j6 kH hcell cy hz sE hk ya0 ya2 yb0 yb2 @AW.ab @aA.eq_1 @ee) ?_<;>intros
       all_goals simp[b6,aT,aX,bA,aR,aS]
     have Mt:rb=qj:=YL;subst Mt;cases uc with
     |false=>
       by_cases yc0:c=0
       . have xq:rc=qj:=Yy;subst xq;subst yc0;cases no with
         |false=>
           refine W (J5 (od eP) @c1 @c2 @c3 @cN) (J15 h1 j6 kH hcell cy hz sE hk ya0 ya2 yb0 yb2 @AW.ab @aA.eq_1 @ee) ?_<;>intros
           all_goals simp[aT,aX,bA,aR,aS]
         |true=>
           refine W (J5 (od eP) @c1 @c2 @c3 @cN) (J15 h1 j6 kH hcell cy hz sE hk ya0 ya2 yb0 yb2 @AW.ab @aA.eq_1 @ee) ?_<;>intros
           all_goals simp[aX,bA,aR,aS]
       have xq:rc=qn:=Yy;subst xq;refine W (J5 (od eP) @c1 @c2 @c3 @cN) (Rr h1 j6 kH hcell cy hz sE hk ya0 ya2 yb0 yb2 yc0 @AW.ab @aA.eq_1 @ee) ?_<;>intros
       all_goals simp[b6,aT,aX,bA,aR,aS]
     |true=>
       by_cases yc0:c<0
       . have xq:rc=qn:=Yo;subst xq;refine W (J5 (od eP) @c1 @c2 @c3 @cN) (Rr h1 j6 kH hcell cy hz sE hk ya0 ya2 yb0 yb2 yc0 @AW.ab @aA.eq_1 @ee) ?_<;>intros
         all_goals simp[b6,aT,aX,bA,aR,aS]
       by_cases yc2:8<=c
       . have xq:rc=qn:=Yo;subst xq;refine W (J5 (od eP) @c1 @c2 @c3 @cN) (J17 h1 j6 kH hcell cy hz sE hk ya0 ya2 yb0 yb2 yc0 yc2 @AW.ab @aA.eq_1 @ee) ?_<;>intros
         all_goals simp[b6,aT,aX,bA,aR,aS]
       have xq:rc=qj:=Yo;subst xq;cases no with
       |false=>
         refine W (J5 (od eP) @c1 @c2 @c3 @cN) (J17 h1 j6 kH hcell cy hz sE hk ya0 ya2 yb0 yb2 yc0 yc2 @AW.ab @aA.eq_1 @ee) ?_<;>intros
         all_goals simp[aT,aX,bA,aR,aS]
       |true=>
         refine W (J5 (od eP) @c1 @c2 @c3 @cN) (J17 h1 j6 kH hcell cy hz sE hk ya0 ya2 yb0 yb2 yc0 yc2 @AW.ab @aA.eq_1 @ee) ?_<;>intros
         all_goals simp[aX,bA,aR,aS]
end
section
namespace TGFbK
def oK [Gl]{A:AW}{L:List It}{T:Prop}(hS:aj A L)(hw:A.Wf)(h':(ba A L/\bB A L/\cd L)=T:=by first|(dsimp only[aa,ah,ba,bB,cd,fw];done)|exact rfl):T:=h'▸hS.fm hw
end TGFbK
open TGFbK
variable [Gl]
def vT (hF:FOK)(x:bp)(A:AW):aE qZ 99 [.agg (aA x).toArray] A (λu A'=>u=.int qg (cQ x)/\A=A'):=(KX hF x A).call ⟨rfl,rfl⟩
def KW (hF:FOK)(x:bp)(A:AW):aE qZ 100 [.agg (aA x).toArray] A (λu A'=>u=.int qg (bE x)/\A=A'):=by
 refine aE.wy (V:=.int qg (bE x)) Yb (λhw=>?_) Yf;refine aO Tryz.func100 λ_=>?_;obtain⟨op,a,b,c,cg⟩:=x;have mz:=λA=>vT hF ⟨op,a,b,c,cg⟩ A;simp only[aA]at mz;by_cases h0:cQ ⟨op,a,b,c,cg⟩=0
 . rw[h0]at mz;by_cases o8:op=8
   . subst o8;have he:bE ⟨8,a,b,c,cg⟩=1:=Yi;rw[he];refine W (J1 @mz) (J2 @AW.ab @aA.eq_1) ?_<;>intros
     all_goals (simp[aT,aX,bA,aR,aS]<;>exact q8 A _)
   by_cases o9:op=9
   . subst o9;have he:bE ⟨9,a,b,c,cg⟩=1:=Yi;rw[he];refine W (J1 @mz) (J3 o8 @AW.ab @aA.eq_1) ?_<;>intros
     all_goals (simp[aT,aX,bA,aR,aS]<;>exact q8 A _)
   by_cases pn:op=10
   . subst pn;have he:bE ⟨10,a,b,c,cg⟩=1:=Yi;rw[he];refine W (J1 @mz) (J4 o8 o9 @AW.ab @aA.eq_1) ?_<;>intros
     all_goals (simp[aT,aX,bA,aR,aS]<;>exact q8 A _)
   by_cases o11:op=11
   . subst o11;have he:bE ⟨11,a,b,c,cg⟩=1:=Yi;rw[he];refine W (J1 @mz) (J5 o8 o9 pn @AW.ab @aA.eq_1) ?_<;>intros
     all_goals (simp[aT,aX,bA,aR,aS]<;>exact q8 A _)
   by_cases o14:op=14
   . subst o14;have he:bE ⟨14,a,b,c,cg⟩=1:=Yi;rw[he];refine W (J1 @mz) (J6 o8 o9 pn o11 @AW.ab @aA.eq_1) ?_<;>intros
     all_goals (simp[aT,aX,bA,aR,aS]<;>exact q8 A _)
   by_cases o15:op=15
   . subst o15;have he:bE ⟨15,a,b,c,cg⟩=1:=Yi;rw[he];refine W (J1 @mz) (J7 o8 o9 pn o11 o14 @AW.ab @aA.eq_1) ?_<;>intros
     all_goals (simp[aT,aX,bA,aR,aS]<;>exact q8 A _)
   by_cases o7:op=7
   . subst o7;have he:bE ⟨7,a,b,c,cg⟩=2:=Yi;rw[he];refine W (J1 @mz) (J8 o8 o9 pn o11 o14 o15 @AW.ab @aA.eq_1) ?_<;>intros
     all_goals (simp[aT,aX,bA,aR,aS]<;>exact q8 A _)
   by_cases o12:op=12
   . subst o12;have he:bE ⟨12,a,b,c,cg⟩=2:=Yi;rw[he];refine W (J1 @mz) (J9 o8 o9 pn o11 o14 o15 o7 @AW.ab @aA.eq_1) ?_<;>intros
     all_goals (simp[aT,aX,bA,aR,aS]<;>exact q8 A _)
   by_cases o13:op=13
   . subst o13;have he:bE ⟨13,a,b,c,cg⟩=2:=Yi;rw[he];refine W (J1 @mz) (Hr o8 o9 pn o11 o14 o15 o7 o12 @AW.ab @aA.eq_1) ?_<;>intros
     all_goals (simp[aT,aX,bA,aR,aS]<;>exact q8 A _)
   by_cases o16:op=16
   . subst o16;have he:bE ⟨16,a,b,c,cg⟩=2:=Yi;rw[he];refine W (J1 @mz) (Ls o8 o9 pn o11 o14 o15 o7 o12 o13 @AW.ab @aA.eq_1) ?_<;>intros
     all_goals (simp[aT,aX,bA,aR,aS]<;>exact q8 A _)
   by_cases o17:op=17
   . subst o17;have he:bE ⟨17,a,b,c,cg⟩=2:=Yi;rw[he];refine W (J1 @mz) (Ay o8 o9 pn o11 o14 o15 o7 o12 o13 o16 @AW.ab @aA.eq_1) ?_<;>intros
     all_goals (simp[aT,aX,bA,aR,aS]<;>exact q8 A _)
   have he:bE ⟨op,a,b,c,cg⟩=0:=(by unfold bE;rw[az h0];dsimp only;rw[ar Ya,ar Ya]);rw[he];refine W (J1 @mz) (oP o8 o9 pn o11 o14 o15 o7 o12 o13 o16 o17 @AW.ab @aA.eq_1) ?_<;>intros
   all_goals (simp[aX,bA,aR,aS]<;>exact q8 A _)
 have he:bE ⟨op,a,b,c,cg⟩=0:=by unfold bE;rw[ar h0]
 rw[he];refine W (J1 @mz) (J3 h0 @AW.ab @aA.eq_1) ?_<;>intros
 all_goals (simp[aX,bA,aR,aS]<;>exact q8 A _)
def KV (hF:FOK)(x:bp)(A:AW):aE qZ 165 [.agg (aA x).toArray] A (λu A'=>u=.tuple #[.int qg ((eS x).getD 0),qt (eS x).isSome]/\A=A'):=by
 refine aE.wy (V:=.tuple #[.int qg ((eS x).getD 0),qt (eS x).isSome]) (dK.tuple Yb) (λhw=>?_) Yf;refine aO Tryz.func165 λ_=>?_;obtain⟨op,a,b,c,cg⟩:=x;have mz:=λA=>vT hF ⟨op,a,b,c,cg⟩ A;simp only[aA]at mz;by_cases h0:cQ ⟨op,a,b,c,cg⟩=0
 . rw[h0]at mz;by_cases o4:op=4
   . subst o4;have he:eS ⟨4,a,b,c,cg⟩=qf cg:=YW;rw[he];refine W (J1 @mz) (J2 @AW.ab @aA.eq_1) ?_<;>intros
     all_goals (simp[aT,aX,bA,aR,aS]<;>exact q8 A _)
   by_cases o5:op=5
   . subst o5;have he:eS ⟨5,a,b,c,cg⟩=qf cg:=YW;rw[he];refine W (J1 @mz) (J3 o4 @AW.ab @aA.eq_1) ?_<;>intros
     all_goals (simp[aT,aX,bA,aR,aS]<;>exact q8 A _)
   by_cases o6:op=6
   . subst o6;have he:eS ⟨6,a,b,c,cg⟩=qf cg:=YW;rw[he];refine W (J1 @mz) (J4 o4 o5 @AW.ab @aA.eq_1) ?_<;>intros
     all_goals (simp[aT,aX,bA,aR,aS]<;>exact q8 A _)
   have he:eS ⟨op,a,b,c,cg⟩=qk:=Xu;rw[he];refine W (J1 @mz) (J5 o4 o5 o6 @AW.ab @aA.eq_1) ?_<;>intros
   all_goals (simp[aX,bA,aR,aS]<;>exact q8 A _)
 have he:eS ⟨op,a,b,c,cg⟩=qk:=by unfold eS;rw[ar (λh=>h0 h.1)]
 rw[he];refine W (J1 @mz) (J3 h0 @AW.ab @aA.eq_1) ?_<;>intros
 all_goals (simp[aX,bA,aR,aS]<;>exact q8 A _)
def tgtE (p:List bp)(k:Nat)(b:Option Nat)(x:bp):Int:=match eS x with
 |some n=>if fz p k b n=qj then 0 else 42
 |none=>0
def O5 (hF:FOK)(v:qi)(p:List bp)(k:Nat)(b:Option Nat)(A:AW)(h:lE A v p)(hl:U p<=64)(hk:k<U p)(hb:∀d,b=qf d->d<U p):
 aE qZ 101 [v,.int qg k,.int qg (gm b)] A (λu A'=>u=.int qg (tgtE p k b p[k])/\A=A'):=by
 refine aO Tryz.func101 λhw=>?_;obtain⟨o,c,rfl,_⟩:=h.cL;obtain⟨q,bO,pS,bP,gb,hcell⟩:=h.at hk;subst pS;have ij:Zb.wrap ((k:Int)+1)=((k+1:Nat):Int):=an Ya Ya;generalize p[k]=x at hcell;have eb:=zG hcell;have cS:=λB=>KV hF x B;have S7:=@IG x;have hsk:=@xv x;unfold tgtE;obtain⟨op,a,b',c',cg⟩:=x;simp only at hsk S7 eb;simp only[aA]at hcell cS;generalize eS ⟨op,a,b',c',cg⟩=sk at cS hsk;cases sk with
 |none=>
   repeat' (first|(refine lz λR hR=>?_;simp[bP,hcell,gb,hk];try simp(disch:=omega)only[az,ar,an,ax])|(refine hR _ _ ?_;clear hR R)|(refine hK _ _ ?_;clear hK K)|refine nx ?_|refine wn λK hK=>?_|simp only[wS]|(refine bT (cS _) ?_;rintro _ _⟨rfl,rfl⟩_ _)|(show df _ _ _ _ _ _;refine nx ?_)|(refine wc rfl (λhc=>?_) (λhc=>?_)<;>(try simp at hc)))
   all_goals simp[aT,aX,bA,aR,aS]
 |some n=>
   obtain⟨rfl,g1,g2⟩:=hsk rfl;obtain⟨g3,g4⟩:=S7 g1 g2;obtain⟨m,hm⟩:∃m:Nat,n=m:=⟨n.toNat,by omega⟩;subst hm;have II:Zb.wrap (((k+1:Nat):Int)+m)=((k+1+m:Nat):Int):=an Ya Ya;have Bm:Zb.wrap ((k:Int)+1+m)=((k+1+m:Nat):Int):=an Ya Ya;have hT:fz p k b (m:Int)=if U p<k+1+m then qn else match (generalizing:=false) b with
    |some b=>decide (k+1+m<=dH p b)
    |none=>!gY p k (k+1+m):=by unfold fz;simp only[Int.toNat_natCast];cases b<;>rfl
   simp only[hT];generalize ht:k+1+m=t at II Bm hT;by_cases q1:U p<t
   . rw[az q1,ar Yb];refine W (J1 @cS) (J9 bP eb hcell gb hk ij II Bm q1) ?_<;>intros
     all_goals simp[aT,aX,bA,aR,aS]
   rw[ar q1];cases b with
   |some d=>
     have hd:=hb d rfl;have uv:¬((d:Int)<0):=Ya;have CE:(0:Int)<=d:=Ya;have cE:=Ab _ p d A h Ya hd;simp only[gm];by_cases q2:t<=dH p d
     . have q3:¬dH p d<t:=Ya;rw[az (by simp[q2])];refine W (J2 @cS @cE) (oP bP eb hcell gb hk ij II Bm q1 q2 q3 uv CE) ?_<;>intros
       all_goals simp[aX,bA,aR,aS]
     have q3:dH p d<t:=Ya;rw[ar (by simp[q3])];refine W (J2 @cS @cE) (oP bP eb hcell gb hk ij II Bm q1 q2 q3 uv CE) ?_<;>intros
     all_goals simp[aT,aX,bA,aR,aS]
   |none=>
     have cI:=Wg _ p k t A h Ya hk Ya;simp only[gm];generalize gY p k t=it at cI;cases it with
     |true=>
       rw[ar Yb];refine W (J2 @cS @cI) (J9 bP eb hcell gb hk ij II Bm q1) ?_<;>intros
       all_goals simp[aT,aX,bA,aR,aS]
     |false=>
       rw[az Yb];refine W (J2 @cS @cI) (J9 bP eb hcell gb hk ij II Bm q1) ?_<;>intros
       all_goals simp[aX,bA,aR,aS]
set_option maxHeartbeats 8000000 in
def one_call (hF:FOK)(v:qi)(p:List bp)(k:Nat)(b:Option Nat)(A:AW)(h:lE A v p)(hl:U p<=64)(hk:k<U p)(hb:∀d,b=qf d->d<U p):
 aE qZ 59 [v,.int qg k,.int qg (gm b)] A (λu A'=>u=.int qg (vQ (fz p) k b p[k])/\A=A'):=by
 refine aO Tryz.func59 λhw=>?_;have cT:=O5 hF v p k b A h hl hk hb;obtain⟨o,c,rfl,_⟩:=h.cL;obtain⟨q,bO,pS,bP,gb,hcell⟩:=h.at hk;subst pS;generalize p[k]=x at hcell cT;have eb:=zG hcell;have cI:=λB=>vT hF x B;have cP:=λB=>KW hF x B
 have hE:vQ (fz p) k b x=if cQ x=0 then
  if (x.op=7/\b.isSome=qj)\/(x.op=8/\b.isSome=qn) then 40
  else if (bE x=1/\b.isSome=qn)\/(bE x=2/\b.isSome=qj) then 41
  else tgtE p k b x else cQ x:=by unfold vQ tgtE;rfl
 rw[hE];clear hE;generalize tgtE p k b x=te at cT;obtain⟨op,a,b',c',cg⟩:=x;simp only at eb;simp only[aA]at hcell cI cP;generalize bE ⟨op,a,b',c',cg⟩=pl at cP;generalize cQ ⟨op,a,b',c',cg⟩=e at cI;by_cases e0:e=0
 rotate_left
 . rw[ar e0]
   repeat' (first|(refine lz λR hR=>?_;simp[bP,hcell,gb,hk,e0];try simp(disch:=omega)only[az,ar,an,ax])|(refine hR _ _ ?_;clear hR R)|(refine hK _ _ ?_;clear hK K)|refine nx ?_|refine wn λK hK=>?_|simp only[wS]|(refine bT (cI _) ?_;rintro _ _⟨rfl,rfl⟩_ _)|(show df _ _ _ _ _ _;refine nx ?_)|(refine wc rfl (λhc=>?_) (λhc=>?_)<;>(try simp at hc)))
   all_goals simp[aT,aX,bA,aR,aS]
 subst e0;rw[az rfl];cases b with
 |none=>
   simp only[gm]at cT ⊢;by_cases ob:op=8
   . subst ob;rw[az Yb];refine W (J3 @cI @cP @cT) (J5 bP eb hcell gb hk) ?_<;>intros
     all_goals simp[aT,aX,bA,aR,aS]
   rw[ar (by simp[ob])];by_cases oo:op=7
   . subst oo;by_cases pb:pl=1
     . subst pb;rw[az Yb];refine W (J3 @cI @cP @cT) (J6 bP eb hcell gb hk ob) ?_<;>intros
       all_goals simp[aT,aX,bA,aR,aS]
     rw[ar YH];by_cases po:pl=2
     . subst po;refine W (J3 @cI @cP @cT) (J6 bP eb hcell gb hk ob) ?_<;>intros
       all_goals simp[aX,bA,aR,aS]
     skip
     refine W (J3 @cI @cP @cT) (J8 bP eb hcell gb hk ob pb po) ?_<;>intros
     all_goals simp[aX,bA,aR,aS]
   skip
   by_cases pb:pl=1
   . subst pb;rw[az Yb];refine W (J3 @cI @cP @cT) (J7 bP eb hcell gb hk ob oo) ?_<;>intros
     all_goals simp[aT,aX,bA,aR,aS]
   rw[ar YH];by_cases po:pl=2
   . subst po;refine W (J3 @cI @cP @cT) (J7 bP eb hcell gb hk ob oo) ?_<;>intros
     all_goals simp[aX,bA,aR,aS]
   skip
   refine W (J3 @cI @cP @cT) (J9 bP eb hcell gb hk ob oo pb po) ?_<;>intros
   all_goals simp[aX,bA,aR,aS]
 |some d=>
   simp only[gm]at cT ⊢;have uv:¬((d:Int)<0):=Ya;have CE:(0:Int)<=d:=Ya;by_cases ob:op=7
   . subst ob;rw[az Yb];refine W (J3 @cI @cP @cT) (J7 bP eb hcell gb hk uv CE) ?_<;>intros
     all_goals simp[aT,aX,bA,aR,aS]
   rw[ar (by simp[ob])];by_cases oo:op=8
   . subst oo;by_cases pb:pl=2
     . subst pb;rw[az Yb];refine W (J3 @cI @cP @cT) (J8 bP eb hcell gb hk uv CE ob) ?_<;>intros
       all_goals simp[aT,aX,bA,aR,aS]
     rw[ar YH];by_cases po:pl=1
     . subst po;refine W (J3 @cI @cP @cT) (J8 bP eb hcell gb hk uv CE ob) ?_<;>intros
       all_goals simp[aX,bA,aR,aS]
     skip
     refine W (J3 @cI @cP @cT) (Hr bP eb hcell gb hk uv CE ob pb po) ?_<;>intros
     all_goals simp[aX,bA,aR,aS]
   skip
   by_cases pb:pl=2
   . subst pb;rw[az Yb];refine W (J3 @cI @cP @cT) (J9 bP eb hcell gb hk uv CE ob oo) ?_<;>intros
     all_goals simp[aT,aX,bA,aR,aS]
   rw[ar YH];by_cases po:pl=1
   . subst po;refine W (J3 @cI @cP @cT) (J9 bP eb hcell gb hk uv CE ob oo) ?_<;>intros
     all_goals simp[aX,bA,aR,aS]
   skip
   refine W (J3 @cI @cP @cT) (Ls bP eb hcell gb hk uv CE ob oo pb po) ?_<;>intros
   all_goals simp[aX,bA,aR,aS]
end
section
namespace TGFbL
def oK [Gl]{A:AW}{L:List It}{T:Prop}(hS:aj A L)(hw:A.Wf)(h':(ba A L/\bB A L/\cd L)=T:=by first|(dsimp only[aa,ah,ba,bB,cd,fw];done)|exact rfl):T:=h'▸hS.fm hw
end TGFbL
open TGFbL
variable [Gl]
set_option maxHeartbeats 8000000 in
def uf (hF:FOK)(v:qi)(p:List bp)(A:AW)(h:lE A v p):
 aE qZ 29 [v] A (λu A'=>u=sj (b7 p)/\A=A'):=by
 refine aE.wy (V:=sj (b7 p)) (dK.tuple Yb) (λhw=>?_) Yf;refine aO Tryz.func29 λ_=>?_;obtain⟨o,c,rfl,_⟩:=h.cL;by_cases hL:64<U p
 . have he:b7 p=(0,3):=(by unfold b7;rw[az hL]);rw[he];refine W db (J1 hL) ?_<;>intros
   all_goals (simp[aT,aX,bA,aR,aS,sj]<;>exact Zu A)
 have hl:U p<2^30:=Ya
 have he:b7 p=jI (fz p) (p.drop 0) 0 qk:=by unfold b7;rw[ar hL];rfl
 generalize htgt:fz p=LC at he;generalize b7 p=RR at he ⊢;revert hw;refine W db (J1 hL) ?_<;>(unhygienic intros)
 refine dO (λk fr A'=>A.le A'/\∃(i:Nat)(b:Option Nat),k=U p-i/\i<=U p/\(∀d,b=qf d->d<i)/\fr 0=.slice o (U p) c/\fr 11=.slice o (U p) c/\fr 12=.int qg (U p)/\fr 4=.int qg (gm b)/\fr 13=.int qg i/\
  RR=jI LC (p.drop i) i b) (U p) ?_ ?_
 exact⟨Zu A,0,qk,rfl,Zv _,by simp,rfl,rfl,rfl,rfl,rfl,he⟩;rintro k fr A'⟨IR,i,b,rfl,hi,Bs,h0,Kh,xm,h4,D0,he⟩;by_cases b9:i<U p
 . obtain⟨q,bO,pS,bP,gb,hcell⟩:=(h.le IR hw).at b9;subst pS;have ij:=C0 (i:=i);have fM:p.drop i=p[i]::p.drop (i+1):=List.drop_eq_getElem_cons b9;rw[fM]at he;have cO:=λo o'=>one_call hF _ p i b _ (h.le (IR.trans (AW.le.mu A' o o')) hw) Ya b9 (λd hd=>by have:=Bs d hd;omega);rw[htgt]at cO;generalize p[i]=x at he hcell cO;clear fM;have eb:=zG hcell;unfold jI at he;generalize hE:vQ LC i b x=E at he cO;generalize hN:Ik i b x=N at he;unfold Ik at hN;obtain⟨op,a,b',c',cg⟩:=x;simp only at hN eb;simp only[aA]at hcell;by_cases e0:E=0;subst e0;rw[az rfl]at he;by_cases o7:op=7;subst o7;rw[az rfl]at hN;subst hN;refine aU ?_;refine W (J1 @cO) (Ay h0 h4 Kh xm D0 bP eb hcell gb b9 ij bL) ?_<;>intros;refine⟨U p-(i+1),by omega,IR.trans (AW.le.mu A' _ _),i+1,qf i,rfl,by omega,?_,?_,?_,?_,?_,?_,he⟩<;>simp[h0,Kh,xm,gm];by_cases o8:op=8;subst o8;rw[ar Yd,az rfl]at hN
   subst hN;refine aU ?_;refine W (J1 @cO) (Ay h0 h4 Kh xm D0 bP eb hcell gb b9 ij bL) ?_<;>intros;refine⟨U p-(i+1),by omega,IR.trans (AW.le.mu A' _ _),i+1,qk,rfl,by omega,?_,?_,?_,?_,?_,?_,he⟩<;>simp[h0,Kh,xm,gm];rw[ar o7,ar o8]at hN;subst hN;refine aU ?_;refine W (J1 @cO) (y9 h0 h4 Kh xm D0 bP eb hcell gb b9 ij o7 o8 bL) ?_<;>intros;refine⟨U p-(i+1),by omega,IR.trans (AW.le.mu A' _ _),i+1,b,rfl,by omega,λd hd=>Nat.lt_succ_of_lt (Bs d hd),?_,?_,?_,?_,?_,he⟩<;>simp[h0,h4,Kh,xm,gm];rw[ar e0]at he;refine aU ?_;refine W (J1 @cO) (oP h0 h4 Kh xm D0 bP eb hcell gb b9 ij e0 bL) ?_<;>intros
   all_goals (simp[b6,aT,aX,bA,aR,aS,sj,he]<;>exact IR.trans (AW.le.mu A' _ _))
 have uR:i=U p:=Ya
 subst uR;rw[List.drop_length]at he;unfold jI at he;cases b with
 |none=>
   simp only[gm]at h4;refine aU ?_;refine W db (J6 h0 h4 Kh xm D0 b9) ?_<;>intros
   all_goals (simp[aX,bA,aR,aS,sj,he]<;>exact IR)
 |some d=>
   simp only[gm]at h4;have uv:¬((d:Int)<0):=Ya;have CE:(0:Int)<=d:=Ya;refine aU ?_;refine W db (J8 h0 h4 Kh xm D0 b9 uv CE) ?_<;>intros
   all_goals (simp[aT,aX,bA,aR,aS,sj,he]<;>exact IR)
def EZ (p:List bp):Bool:=decide ((b7 p).2=0)
def RK (hF:FOK)(v:qi)(p:List bp)(A:AW)(h:lE A v p):
 aE qZ 252 [v] A (λu A'=>u=qt (EZ p)/\A=A'):=by
 refine aO Tryz.func252 λhw=>?_;have cC:=uf hF v p A h;unfold EZ;unfold sj at cC;by_cases h0:(b7 p).2=0
 . refine W (J1 @cC) (J1 h0) ?_<;>intros
   all_goals simp[aX,bA,aR,aS,h0]
 refine W (J1 @cC) (J1 h0) ?_<;>intros
 all_goals simp[aX,bA,aR,aS,h0]
def Hl (p:List bp)(k:Nat):Int:=if EZ p=qj/\d9 p k=7 then dH p k else -1
def QW (hF:FOK)(v:qi)(p:List bp)(k:Nat)(A:AW)(h:lE A v p)(hk:k<U p):
 aE qZ 214 [v,.int qg k] A (λu A'=>u=.int qg (Hl p k)/\A=A'):=by
 refine aO Tryz.func214 λhw=>?_;have cV:=RK hF v p A h;unfold Hl;cases hv:EZ p with
 |false=>
   rw[hv]at cV;obtain⟨o,c,rfl,_⟩:=h.cL;refine W (J1 @cV) (J1 hk) ?_<;>intros
   all_goals simp[aT,aX,bA,aR,aS]
 |true=>
   rw[hv]at cV;have hl:U p<=64:=(gA (p:=p) (by simpa[EZ]using hv)).1;have cE:=Ab v p k A h Ya hk;obtain⟨o,c,rfl,_⟩:=h.cL;obtain⟨q,bO,pS,bP,gb,hcell⟩:=h.at hk;subst pS;have eb:=zG hcell;have ho:d9 p k=p[k].op:=m8 (Zf hk);rw[ho];by_cases h7:p[k].op=7
   . refine W (J2 @cV @cE) (J5 hk bP eb gb h7) ?_<;>intros
     all_goals simp[aX,bA,aR,aS,h7]
   refine W (J2 @cV @cE) (J5 hk bP eb gb h7) ?_<;>intros
   all_goals simp[aT,aX,bA,aR,aS,h7]
end
section
open Go.RowKit
def PO {α β:Type}{f:α->Option β}:∀(L:List α)(ys:List β),L.mapM f=qf ys->∀x∈L,∃y,f x=qf y
 |[],_,_,x,hx=>by simp at hx
 |a::L,ys,h,x,hx=>by rw[List.mapM_cons]at h;simp only[bind,Option.bind_eq_some_iff,pure,Zd]at h;obtain⟨y,hy,zs,hz,_⟩:=h;rcases Zz.1 hx with rfl|hx;exact⟨y,hy⟩;exact PO L zs hz x hx
def array5 {α:Type}{cs:Array α}(h:cs.size=5):∃c0 c1 c2 c3 c4,cs = #[c0,c1,c2,c3,c4]:=by
 obtain⟨l⟩:=cs
 match l,h with
 |[c0,c1,c2,c3,c4],_=>exact⟨c0,c1,c2,c3,c4,rfl⟩
def okWide_arr5 {P:qp}{W:qz}{k e:qy}(hu:P.underlying k=qf (.array 5 e))(size:P.cellsOf k=5){r:Reach}{b0:Nat}{v:qi}(h:Value.okWide P W r b0 k v):∃xs:Array qi,v=.agg xs/\xs.size=5:=by simp only[Value.okWide,hu]at h;obtain⟨cs,h1,h2,_⟩:=h;exact⟨cs,h1,by rw[h2,size]⟩
def open_arr5 {H:Type}{enc:qy×qi->H}{P:qp}{W:qz}{base:Nat}{sp:Nat->Bool}{held:Bool}{k e:qy}{q:IntKind}(hu:P.underlying k=qf (.array 5 e))(he:P.underlying e=qf (.int q))(aM:P.cellsOf e=1)(size:P.cellsOf k=5){xs:Array qi}(hn:xs.size=5){d:DataW H}{ps:List MemPlace}(hd:DataW.Trod enc P W base sp held k (.agg xs) d ps):∃a0 a1 a2 a3 a4,xs = #[.int q a0,.int q a1,.int q a2,.int q a3,.int q a4]:=by
 obtain⟨c0,c1,c2,c3,c4,rfl⟩:=array5 hn;obtain⟨fuel,hf⟩:=hd;cases fuel with
 |zero=>simp[kb9]at hf
 |succ m=>
   rw[DataW.trod_step]at hf;unfold DataW.trodStep at hf;simp only[hu,Value.cells]at hf;rw[az (by rw[size];rfl)]at hf;simp only[Option.map_eq_some_iff]at hf;obtain⟨ys,hy,_⟩:=hf;have hm:=PO _ ys hy;rw[aM]at hm;have g:∀i,i<5->∃a,([c0,c1,c2,c3,c4].drop (i*1)).take 1=[Value.int q a]:=λi hi=>by obtain⟨y,h1⟩:=hm i (Zr.2 hi);obtain⟨a,h2,_⟩:=DataW.trod_int he h1;exact⟨a,h2⟩
   obtain⟨a0,e0⟩:=g 0 Ya;obtain⟨a1,e1⟩:=g 1 Ya;obtain⟨a2,e2⟩:=g 2 Ya;obtain⟨a3,e3⟩:=g 3 Ya;obtain⟨a4,e4⟩:=g 4 Ya;simp at e0 e1 e2 e3 e4;subst e0 e1 e2 e3 e4;exact⟨a0,a1,a2,a3,a4,rfl⟩
def Tj:(kca:DataW Unit)=.agg (lf.map λx=>.agg [.lit (.string x.1),.lit (.string x.2)]):=by rfl
def I5 {W:qz}(h:Lib.VarReads qZ W "strongtx/isa.forms" kca):∃e fr,W.heap[0]?=qf (.cells il.toArray e fr):=by
 rw[Tj]at h;obtain⟨g,t,cs,fuel,p,hg,ht,hv,hd⟩:=h;have C3:qZ.globalNamed "strongtx/isa.forms" = qf 0:=Yf
 obtain rfl:=ZC (C3.symm.trans hg);have ht0:(qZ.globals[0]?).map (·.type)=qf 281:=Yf
 obtain rfl:=ZC (ht0.symm.trans ht);have hcs:∃e fr,W.heap[0]?=qf (.cells cs e fr):=by unfold World.var? at hv;rw[C3]at hv;simp only[Option.bind_some]at hv;split at hv;rename_i c e fr hh;injection hv with hv;subst hv;exact⟨e,fr,hh⟩;cases hv
 obtain⟨e,fr,hh⟩:=hcs;refine⟨e,fr,?_⟩;rw[hh];congr 2;obtain⟨xs,m,_,hx,hl,cy,hf⟩:=DataW.trod_array (P:=qZ) (n:=18) (e:=280) Tryz.underlying281 hd;have c89:qZ.cellsOf 280=2:=Yf
 have c9:qZ.cellsOf 9=1:=Yf
 have c90:qZ.cellsOf 281=36:=Yf
 rw[c89]at hf;injection hx with hx _;injection hx with hx;have key:∀i (hi:i<18),cs.toList[i*2]?=qf (.string (bs (lf.getD i ([],[])).1))/\cs.toList[i*2+1]?=qf (.string (bs (lf.getD i ([],[])).2)):=by
  intro i hi;obtain⟨y,hy⟩:∃y,xs[i]?=qf y:=⟨_,Zf (by rw[cy];exact hi)⟩;have h1:=(hf i hi).trans hy;obtain⟨zs,m2,_,hz,SZ,hlen2,IT⟩:=DataW.trod_struct Tryz.underlying280 h1;have rR:∀i,i<2->∃y,zs[i]?=qf y:=λi hi=>⟨_,Zf (by rw[hlen2];exact hi)⟩;obtain⟨z0,d0⟩:=rR 0 Ya;obtain⟨z1,d1⟩:=rR 1 Ya;have r0:kb9 (λ_=>()) qZ W 0 (λ_=>qj) qn m2 9 ((((cs.toList.drop (i*2)).take 2).drop 0).take (qZ.cellsOf 9))=qf z0:=(IT 0 _ rfl).trans d0;have r1:kb9 (λ_=>()) qZ W 0 (λ_=>qj) qn m2 9 ((((cs.toList.drop (i*2)).take 2).drop 1).take (qZ.cellsOf 9))=qf z1:=(IT 1 _ rfl).trans d1;rw[c9]at r0 r1;obtain⟨s0,q0,x0,_⟩:=DataW.trod_string Tryz.underlying9 r0;obtain⟨s1,q1,x1,_⟩:=DataW.trod_string Tryz.underlying9 r1;have g0:=congrArg (·[0]?) q0;have g1:=congrArg (·[0]?) q1;simp[List.getElem?_drop]at g0 g1
  have hyz:y.1=.agg [.lit (.string s0.data.toList),.lit (.string s1.data.toList)]:=by
   rw[hz];have:zs=[z0,z1]:=by apply kaO;intro j;have hl3:U zs=2:=hlen2;by_cases h0:j=0;subst h0;rw[d0];rfl;by_cases h1:j=1;subst h1;rw[d1];rfl;rw[ZL Ya,ZL Yg]
   rw[this,x0,x1];rfl
  have hxi:=congrArg (·[i]?) hx;simp only[List.getElem?_map,hy,kaR]at hxi;have hfi:lf[i]?=qf (lf.getD i ([],[])):=by rw[List.getD_eq_getElem?_getD,Zf (show i<U lf from hi)];rfl
  rw[hfi]at hxi;simp only[kaR,Zd]at hxi;have hxi':=hxi.trans hyz;generalize lf.getD i ([],[])=nm at hxi' ⊢;simp only[DataW.agg.injEq,List.cons.injEq,DataW.lit.injEq,Lit.string.injEq,and_true]at hxi';obtain⟨u0,u1⟩:=hxi';rw[u0,u1];exact⟨by rw[kbA];exact g0,by rw[kbA];exact g1⟩
 have jv:U cs.toList=36:=by rw[hl,c90]
 apply Array.ext';show cs.toList=il;apply kaO;intro j;by_cases hj:j<36;have hk:=key (j / 2) Ya;have hfc:∀i,i<18->il[i*2]?=qf (.string (bs (lf.getD i ([],[])).1))/\il[i*2+1]?=qf (.string (bs (lf.getD i ([],[])).2)):=by
  intro i hi;have:i=0\/i=1\/i=2\/i=3\/i=4\/i=5\/i=6\/i=7\/i=8\/i=9\/i=10\/i=11\/i=12\/i=13\/i=14\/i=15\/i=16\/i=17:=Ya
  rcases this with rfl|rfl|rfl|rfl|rfl|rfl|rfl|rfl|rfl|rfl|rfl|rfl|rfl|rfl|rfl|rfl|rfl|rfl<;>exact⟨rfl,rfl⟩
 have hf:=hfc (j / 2) Ya;by_cases hm:j % 2=0;have e:j=j / 2*2:=Ya
 rw[e,hk.1,hf.1];have e:j=j / 2*2+1:=Ya
 rw[e,hk.2,hf.2];rw[ZL Ya,ZL (by show U il<=j;have:U il=36:=rfl;omega)]
@[reducible] def glOf (W:qz):Gl:={ B:=λb=>if b<4 then W.heap[b]? else qk,ok:=λg=>g == 0,N:=4,lt:=λg h=>by have:=eq_of_beq h;omega }
def laid_self (W:qz):∀b x,(glOf W).B b=qf x->W.heap[b]?=qf x:=λb x h=>by have h':(if b<4 then W.heap[b]? else qk)=qf x:=h;split at h';exact h';cases h'
def fok_of {W:qz}(h:Lib.VarReads qZ W "strongtx/isa.forms" kca):@FOK (glOf W):=by obtain⟨e,fr,hh⟩:=I5 h;exact @FOK.mk (glOf W) rfl rfl ⟨e,fr,hh⟩
section
variable [Gl]
def ID {m:Mp}(a0 a1 a2 a3 a4:Int):bH m (.agg #[.int qg a0,.int qg a1,.int qg a2,.int qg a3,.int qg a4]) (.agg #[.int qg a0,.int qg a1,.int qg a2,.int qg a3,.int qg a4]):=by
 refine .agg rfl λi v v' h1 h2=>?_;rw[h1]at h2;injection h2 with h2;subst h2;have hi:=(Zj.1 h1).1;have:i=0\/i=1\/i=2\/i=3\/i=4:=by simp at hi;omega
 rcases this with rfl|rfl|rfl|rfl|rfl<;>simp at h1<;>subst h1<;>exact .int _ _
def IntsIn (k:IntKind)(w:qz)(a:Option Addr)(len fg:Nat)(zs:List Int):Prop:=
 (a=qk/\len=0/\fg=0/\zs=[])\/∃x,a=qf x/\len<=fg/\fg<=maxLen/\U zs=fg/\(∀i,i<U zs->w.cell? (x.add i)=qf (.int k (zs.getD i 0)))/\∀n∈zs,(Lit.int k n).wf=qj
def RowsZ (w:qz)(a:Option Addr)(len fg:Nat):Prop:=
 (a=qk/\len=0/\fg=0)\/∃x,a=qf x/\len<=fg/\fg<=maxLen/\∃(R:Nat->Option Addr)(L C:Nat->Nat)(Z:Nat->List Int),∀r,r<fg->w.cell? (x.add r)=qf (.slice (R r) (L r) (C r))/\L r<=17592186044415/\
  ((R r=qk/\L r=0/\C r=0/\Z r=[])\/∃y,R r=qf y/\L r<=C r/\C r<=maxLen/\U (Z r)=C r/\(∀i,i<U (Z r)->w.cell? (y.add i)=qf (.int qg ((Z r).getD i 0)))/\∀n∈Z r,(Lit.int qg n).wf=qj)
def F5 {m:Mp}{A:AW}{w:qz}(hs:jN m A w)(Bp:A.xg){a:Option Addr}{len fg:Nat}(h:RowsZ w a len fg):
 ∃m' A' v ls,Mp.le m m'/\A.le A'/\jN m' A' w/\A'.xg/\bH m' v (.slice a len fg)/\oD A' v ls/\U ls<=maxLen/\∀x∈ls,U x<=17592186044415:=by
 rcases h with ⟨rfl,rfl,rfl⟩|⟨x,rfl,Wv,L3,R,L,C,Z,hr⟩;exact⟨m,A,.slice qk 0 0,[],Mp.le_refl m,Zu A,hs,Bp,.mW,⟨[],qw ⟨⟨qk,rfl⟩,rfl,rfl⟩,λi hi=>by simp at hi⟩,Zv _,by simp⟩;by_cases hc0:fg=0;subst hc0;have:len=0:=Ya
 subst this;exact⟨m,A,.slice (qf ⟨0,0,qf 0⟩) 0 0,[],Mp.le_refl m,Zu A,hs,Bp,.slice (qB ⟨rfl,rfl,qw rfl⟩) (Za _) (Za _),⟨[],qw ⟨⟨_,rfl⟩,rfl,rfl⟩,λi hi=>by simp at hi⟩,Zv _,by simp⟩
 have gI:∀n,n<=fg->∃(m':Mp)(A':AW)(us:List qi)(ls:List (List Int)),Mp.le m m'/\A.le A'/\jN m' A' w/\A'.xg/\U us=n/\U ls=n/\(∀x∈ls,U x<=17592186044415)/\(∀i v,us[i]?=qf v->bH m' v (.slice (R i) (L i) (C i)))/\
  ∀i (hi:i<U ls),∃u,us[i]?=qf u/\b5 A' qg u ls[i]:=by
  intro n
  induction n with
  |zero=>intro _;exact⟨m,A,[],[],Mp.le_refl m,Zu A,hs,Bp,rfl,rfl,by simp,λi v h=>by simp at h,λi hi=>by simp at hi⟩
  |succ n ih=>
    intro hn;obtain⟨m1,A1,us,ls,h1,h2,h3,h4,h5,h6,hB,h7,h8⟩:=ih Ya;obtain⟨_,Qg,bP⟩:=hr n Ya;obtain⟨m2,A2,u,g1,g2,g3,g4,g5,g6,_⟩:=Cz h3 h4 (k:=qg) bP;have hk:=iI.oI g2 h3.tO;refine⟨m2,A2,us++[u],ls++[(Z n).take (L n)],Mp.le_trans h1 g1,h2.trans g2,g3,g4,by simp[h5],by simp[h6],λx hx=>?_,λi v hv=>?_,λi hi=>?_⟩;rcases ZG.1 hx with hx|hx;exact hB x hx;simp only[List.mem_singleton]at hx;subst hx;rw[kaf];omega;rw[List.getElem?_append]at hv;split at hv;exact(h7 i v hv).mono g1;rename_i hi;have:i=n:=by have:=(Zy.1 hv).1;simp at this;omega
    subst this;rw[h5]at hv;simp at hv;subst hv;exact g5;by_cases e:i<U ls;obtain⟨v,q1,q2⟩:=h8 i e;refine⟨v,by rw[List.getElem?_append_left Ya];exact q1,?_⟩;rw[List.getElem_append_left e];exact q2.keeps hk;have:i=n:=by simp at hi;omega
    subst this;refine⟨u,by rw[List.getElem?_append_right Ya,h5];simp,?_⟩;rw[List.getElem_append_right Ya]
    simpa using g6
 obtain⟨m1,A1,us,ls,h1,h2,h3,h4,h5,h6,hB,h7,h8⟩:=gI fg (Za _);have h0:=(hr 0 Ya).1;rw[show x.add 0=x by unfold Addr.add;simp]at h0;have zI:x.spot=qk:=by unfold kaV at h0;split at h0;split at h0;cases h0;rename_i zI;simpa using zI;cases h0
 have IY:∃ik e fr,w.heap[x.block]?=qf (.cells ik e fr):=by unfold kaV at h0;split at h0;rename_i c e fr hh;exact⟨c,e,fr,hh⟩;cases h0
 obtain⟨ik,e,fr,IY⟩:=IY;have NF:∀i,i<fg->ik[x.off+i]?=qf (.slice (R i) (L i) (C i)):=λi hi=>by
  have h1:=(hr i hi).1;rw[pI _ _ zI]at h1
  simpa[kaV,IY]using h1
 obtain⟨CD,SV⟩:=jN.U9 h3 h4 us ⟨x.block,x.off,1,ik.size⟩ IY rfl (λj v hv=>by have hj:=(Zy.1 hv).1;exact⟨_,NF j Ya,h7 j v hv⟩)
 have hlast:=(Zj.1 (NF (fg-1) Ya)).1;have hk:=iI.oI (q8 A1 (.cells us qn 1)) h3.tO;refine⟨_,_,.slice (qf ⟨A1.next,0,qk⟩) len len,ls.take len,Mp.le_trans h1 (h3.Iz _),h2.trans (q8 A1 _),CD,SV,?_,⟨us.take len,?_,λi hi=>?_⟩,by rw[kaf];omega,λx hx=>hB x (List.mem_of_mem_take hx)⟩;refine .slice (qw ⟨rfl,zI,⟨x.block,x.off,1,ik.size⟩,by simp[Mp.ext],rfl,rfl,?_⟩) (Za _) Wv;show x.off+fg*1<=ik.size;omega;refine qB ⟨⟨A1.next,0,qk⟩,len,us,qn,1,?_,?_,AW.cD _ _,rfl,?_,?_⟩;rw[kaf,Nat.min_eq_left Ya];simp;omega;simp;omega;rw[List.drop_zero,kaf,Nat.min_eq_left Ya,Nat.mul_one];rw[kaf]at hi;obtain⟨u,q1,q2⟩:=h8 i Ya;refine⟨u,by rw[List.getElem?_take_of_lt Ya];exact q1,?_⟩;rw[List.getElem_take];exact q2.keeps hk
end
section
open Go.ChangeShapes Go.WideShapes
def zf {H:Type}{P:qp}{e:qy}{x:DataW H}{n:Nat}(hn:n∈x.weights P e):∀{l:List (DataW H)},x∈l->n∈DataW.weightsAll P e l
 |[],h=>by cases h
 |y::l,h=>by rw[DataW.weightsAll,ZG];rcases Zz.1 h with rfl|h;exact qw hn;exact qB (zf hn h)
def VT {H:Type}{P:qp}{ts:List qy}{ds:List (DataW H)}(h:(DataW.weightsEach P ts ds).all (·<=reachBytes)=qj){j:Nat}{t e q:qy}{elems spare es sp:List (DataW H)}(ht:ts[j]?=qf t)(hd:ds[j]?=qf (.slice elems spare))(hu:P.underlying t=qf (.slice e))(he:P.underlying e=qf (.slice q))(hm:.slice es sp∈elems++spare):(U es+U sp)*P.bytesOf q<=reachBytes:=by
 have h1:(U es+U sp)*P.bytesOf q∈kb2 P e (.slice es sp:DataW H):=by simp[kb2,he]
 have h2:(U es+U sp)*P.bytesOf q∈kb2 P t (.slice elems spare:DataW H):=by simp only[kb2,hu,Zz,ZG];rcases ZG.1 hm with hm|hm;exact qB (qw (zf h1 hm));exact qB (qB (zf h1 hm))
 have:=Zs.1 h _ (DataW.weights_mem_each ht hd _ h2)
 exact X9
def open_rowsZ {H:Type}{enc:qy×qi->H}{P:qp}{w:qz}{t e q:qy}{fuel:Nat}{a:Option Addr}{len fg:Nat}{d:DataW H}{p:List MemPlace}(ht:P.underlying t=qf (.slice e))(he:P.underlying e=qf (.slice q))(hq:P.underlying q=qf (.int qg))(ce:P.cellsOf e=1)(cq:P.cellsOf q=1)(hb:P.bytesOf q=8)(hf:kb9 enc P w 0 (λ_=>qj) qj fuel t [.slice a len fg]=qf (d,p)){ts:List qy}{ds:List (DataW H)}(hz:(DataW.weightsEach P ts ds).all (·<=reachBytes)=qj){j:Nat}(hj:ts[j]?=qf t)(hd:ds[j]?=qf d):RowsZ w a len fg:=by
 rcases Go.Deep.open_int_rows ht he hq ce cq hf with ⟨hcs,_⟩|⟨x,l,c,R,L,C,Z,hcs,_,hl,hm,hx,hr⟩;simp at hcs;obtain⟨rfl,rfl,rfl⟩:=hcs;exact qw ⟨rfl,rfl,rfl⟩;simp at hcs;obtain⟨rfl,rfl,rfl⟩:=hcs;injection hx with hx _;subst hx;refine qB ⟨_,rfl,hl,hm,R,L,C,Z,λr vB=>?_⟩;obtain⟨g1,g2,g3,g4,g5,g6,g7⟩:=hr r vB;have nA:kco (H:=H) qg (R r) (L r) (Z r)∈((List.range len).map λr=>kco qg (R r) (L r) (Z r))++((List.range (fg-len)).map λj=>kco qg (R (len+j)) (L (len+j)) (Z (len+j))):=by rw[ZG];by_cases h:r<len;exact qw (List.mem_map.2 ⟨r,Zr.2 h,rfl⟩);exact qB (List.mem_map.2 ⟨r-len,Zr.2 Ya,by rw[show len+(r-len)=r by omega]⟩)
 cases hR:R r with
 |none=>have hC:=g6 hR;exact⟨hR▸g1,by omega,qw ⟨rfl,by omega,hC,List.eq_nil_of_length_eq_zero Ya⟩⟩
 |some y=>refine⟨hR▸g1,?_,qB ⟨y,rfl,g2,g3,g4,λc hc=>(g7 y hR).2 c Ya,g5⟩⟩;rw[hR]at nA;have h1:=VT hz hj hd ht he nA;rw[hb]at h1;have h47:=reachBytes_lt;simp only[lits,List.length_map,kaf,List.length_drop]at h1;omega
end
end
end Go.Stx
