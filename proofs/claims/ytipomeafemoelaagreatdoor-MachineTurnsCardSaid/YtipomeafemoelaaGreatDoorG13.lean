/-
 The program's check of an instruction: Check.
-/
import Derived.Test.YtipomeafemoelaaGreatDoorG12
set_option linter.unusedVariables false
set_option linter.unusedSimpArgs false
set_option linter.unusedSectionVars false
set_option maxRecDepth 20000
set_option maxHeartbeats 4000000
open Bool renaming and_eq_true->qq
open Go.IntKind renaming i64->qg
open Go.Proofs.Tryz renaming func132->kbe,func133->kaN,func91->kau,mx->qj,prog->qa
open Go.Stx.AW.le renaming alloc->qb,refl->qi
open Int renaming toNat_natCast->Zp
open List renaming all_eq_true->qC,getElem?_eq_getElem->qk,length_append->qm
namespace Go.Stx
open Go Go.Proofs
attribute [local irreducible] TW bG c8 aY aD aO cK da
section
abbrev d9:List (Nat×Nat):=[(0,0),(1,0),(2,0),(3,0),(4,0),(5,0),(6,0),(7,0),(8,0),(9,2),(10,0)]
namespace TGFbJ
theorem mK [Gl] {A:AW} {L:List It} {T:Prop} (hS:ah A L) (hw:A.Wf) (h':(aV A L/\bq A L/\bQ L)=T:=by first|(dsimp only [aa,af,aV,bq,bQ,eQ];done)|exact rfl):T:=h'▸hS.eJ hw
end TGFbJ
open TGFbJ
section
variable (G1 G2:Gl) (hG:∀g,G1.ok g=true->G2.ok g=true)
include hG
theorem Cz {n:Nat} {o:Operand} (h:@yS G1 n o=true):@yS G2 n o=true:=by
 cases o with
 | global g=>exact hG g h
 | _=>exact h
theorem Kv {n:Nat} {o:Oper} (h:@mZ G1 n o=true):@mZ G2 n o=true:=by
 unfold mZ at h ⊢;rw [qq] at h ⊢;refine⟨?_,h.2⟩;have h1:=h.1;rw [Array.all_eq_true] at h1 ⊢;exact λi hi=>Cz G1 G2 hG (h1 i hi)
theorem lp {n:Nat}:∀{c:Code},@lq G1 n c=true->@lq G2 n c=true
 | .region _ bJ _,h=>by
   unfold lq at h ⊢;rw [Array.all_eq_true] at h ⊢;exact λi hi=>Kv G1 G2 hG (h i hi)
 | .seq a b,h=>by
   unfold lq at h ⊢;rw [qq] at h ⊢;exact⟨lp h.1,lp h.2⟩
 | .cond c a b,h=>by
   unfold lq at h ⊢;rw [qq,qq] at h ⊢;exact⟨⟨Cz G1 G2 hG h.1.1,lp h.1.2⟩,lp h.2⟩
 | .block _ b,h=>by
   unfold lq at h ⊢;exact lp h
 | .loop b,h=>by
   unfold lq at h ⊢;exact lp h
 | .skip,h=>rfl
 | .exit _,h=>rfl
 | .ret,h=>rfl
end
@[reducible] def GlF:Gl:={ B:=λ_=>none,ok:=λg=>g == 0,N:=1,lt:=λg h=>by have:=eq_of_beq h;omega }
variable [Gl]
theorem NP (mv:Gl.ok 0=true) {fn:Func} {n:Nat} (h:@LB GlF fn n=true):LB fn n=true:=by
 have hG:∀g,GlF.ok g=true->Gl.ok g=true:=λg hg=>by
  have:g=0:=eq_of_beq hg;subst this;exact mv
 unfold LB at h ⊢;simp only [qq] at h ⊢;obtain⟨⟨⟨h1,h2⟩,h3⟩,h4⟩:=h;refine⟨⟨⟨h1,h2⟩,?_⟩,?_⟩;rw [qC] at h3 ⊢;exact λr hr=>h3 r hr;cases hb:fn.body with
 | none=>rw [hb] at h4;exact h4
 | some c=>rw [hb] at h4;exact lp GlF _ hG h4
theorem dH (a:Fr) (g:Nat):iW a (.global g)=.pointer (some ⟨g,0,none⟩):=rfl
theorem GG (hF:FOK) (x:bm) (A:AW):xg qa 105 [.agg (az x).toArray] A (.int .i64 (cg x)):=by
 refine xg.Vf rfl ?_;obtain⟨e,fr,hB⟩:=hF.forms;refine aD.Yr (cs:=gx) hF.ok hB (λk v h=>?_) ?_;refine⟨by simpa using h,?_⟩;have h1:gx.all fD=true:=by kernel_rfl
 exact qC.1 h1 v (List.mem_of_getElem? h);generalize A.ro=A0;have bV:(A0.set 0 (some (.cells gx false 1))).b8 0=some gx:=by simp [AW.ab]
 have jF:(A0.set 0 (some (.cells gx false 1))).bp 0=some (.cells gx false 1):=by simp
 generalize A0.set 0 (some (.cells gx false 1))=A at bV jF;refine C3 Tryz.func105 rfl (NP hF.ok (by kernel_rfl)) λhw=>?_;have hz:¬0=A.next:=λe=>by have:=hw.lt jF;omega
 have pm:¬A.next=0:=λe=>hz e.symm;obtain⟨op,a,b,c,bR⟩:=x;by_cases h1:op<0
 . have he:cg ⟨op,a,b,c,bR⟩=10:=(by unfold cg;rw [aA (.inl h1)]);rw [he];refine W (J1 (od d9)) (J3 h1 @AW.ab @az.eq_1) ?_<;>intros
   all_goals simp [aR,aU,bu,aQ,aS]
 by_cases h2:18<=op
 . have he:cg ⟨op,a,b,c,bR⟩=10:=(by unfold cg;rw [aA (.inr h2)]);rw [he];refine W (J1 (od d9)) (J4 h1 h2 @AW.ab @az.eq_1) ?_<;>intros
   all_goals simp [aR,aU,bu,aQ,aS]
 obtain⟨k,rfl⟩:∃k:Nat,op=k:=⟨op.toNat,by omega⟩;have hk:k<18:=by omega
 have jz:¬((18:Int)<=k):=by omega
 obtain⟨l1,l2,l3⟩:=caps hk;have hcell:=QI hk;have bX:gx.length=36:=by kernel_rfl
 have c1:∀A,aD qa 154 [.string (bs (kr k)),.string ((⟨#[65,66,67]⟩:ByteArray).extract 0 1)] A (λu A'=>u=.bool (lW k)/\A=A'):=λA=>by rw [<-l1];exact(tv (kr k) 65 A).call ⟨rfl,rfl⟩
 have c2:∀A,aD qa 154 [.string (bs (kr k)),.string ((⟨#[65,66,67]⟩:ByteArray).extract 1 2)] A (λu A'=>u=.bool (ki k)/\A=A'):=λA=>by rw [<-l2];exact(tv (kr k) 66 A).call ⟨rfl,rfl⟩
 have c3:∀A,aD qa 154 [.string (bs (kr k)),.string ((⟨#[65,66,67]⟩:ByteArray).extract 2 3)] A (λu A'=>u=.bool (lV k)/\A=A'):=λA=>by rw [<-l3];exact(tv (kr k) 67 A).call ⟨rfl,rfl⟩
 have he:cg ⟨k,a,b,c,bR⟩=if (gJ a (lW k) && gJ b (ki k) && gJ c (lV k)) && fj k bR then 0 else 11:=by unfold cg;rw [aw (by simp;omega)]
 rw [he];have cN:=KD ⟨(k:Int),a,b,c,bR⟩;simp only [az] at cN;generalize fj (k:Int) bR=no at cN ⊢;generalize lW k=ua at c1 ⊢;generalize ki k=ub at c2 ⊢;generalize lV k=uc at c3 ⊢;generalize Md:gJ a ua=ra;generalize GH:gJ b ub=rb;generalize xN:gJ c uc=rc;have key:∀(r:Int) (u:Bool),gJ r u=(if u then decide (0<=r) && decide (r<8) else decide (r=0)):=λ_ _=>rfl;rw [key] at Md GH xN;revert hw;(repeat first|clear hw|revert hc|revert R|revert K);refine W (J1 (od d9)) (J4 h1 jz @AW.ab @az.eq_1) ?_<;>(unhygienic intros);refine iO 4 ?_;cases ua with
 | false=>
   by_cases ya0:a=0
   . have UN:ra=true:=(by rw [<-Md];simp [ya0]);subst UN;subst ya0;cases ub with
     | false=>
       by_cases yb0:b=0
       . have HT:rb=true:=(by rw [<-GH];simp [yb0]);subst HT;subst yb0;cases uc with
         | false=>
           by_cases yc0:c=0
           . have ut:rc=true:=(by rw [<-xN];simp [yc0]);subst ut;subst yc0;cases no with
             | false=>
               refine W (J5 (od d9) @c1 @c2 @c3 @cN) (JD h1 jz jF hcell bX hz pm hk @AW.ab @az.eq_1 @dH) ?_<;>intros
               all_goals first|exact qi _|simp [cx,aR,aU,bu,aQ,aS]
             | true=>
               refine W (J5 (od d9) @c1 @c2 @c3 @cN) (JD h1 jz jF hcell bX hz pm hk @AW.ab @az.eq_1 @dH) ?_<;>intros
               all_goals first|exact qi _|simp [cx,aR,aU,bu,aQ,aS]
           have ut:rc=false:=(by rw [<-xN];simp [yc0]);subst ut;refine W (J5 (od d9) @c1 @c2 @c3 @cN) (xe h1 jz jF hcell bX hz pm hk yc0 @AW.ab @az.eq_1 @dH) ?_<;>intros
           all_goals first|exact qi _|simp [cx,aR,aU,bu,aQ,aS]
         | true=>
           by_cases yc0:c<0
           . have ut:rc=false:=(by rw [<-xN];simp;omega);subst ut;refine W (J5 (od d9) @c1 @c2 @c3 @cN) (xe h1 jz jF hcell bX hz pm hk yc0 @AW.ab @az.eq_1 @dH) ?_<;>intros
             all_goals first|exact qi _|simp [cx,aR,aU,bu,aQ,aS]
           by_cases yc2:8<=c
           . have ut:rc=false:=(by rw [<-xN];simp;omega);subst ut;refine W (J5 (od d9) @c1 @c2 @c3 @cN) (mB h1 jz jF hcell bX hz pm hk yc0 yc2 @AW.ab @az.eq_1 @dH) ?_<;>intros
             all_goals first|exact qi _|simp [cx,aR,aU,bu,aQ,aS]
           have ut:rc=true:=(by rw [<-xN];simp;omega);subst ut;cases no with
           | false=>
             refine W (J5 (od d9) @c1 @c2 @c3 @cN) (mB h1 jz jF hcell bX hz pm hk yc0 yc2 @AW.ab @az.eq_1 @dH) ?_<;>intros
             all_goals first|exact qi _|simp [cx,aR,aU,bu,aQ,aS]
           | true=>
             refine W (J5 (od d9) @c1 @c2 @c3 @cN) (mB h1 jz jF hcell bX hz pm hk yc0 yc2 @AW.ab @az.eq_1 @dH) ?_<;>intros
             all_goals first|exact qi _|simp [cx,aR,aU,bu,aQ,aS]
       have HT:rb=false:=(by rw [<-GH];simp [yb0]);subst HT;refine W (J5 (od d9) @c1 @c2 @c3 @cN) (xe h1 jz jF hcell bX hz pm hk yb0 @AW.ab @az.eq_1 @dH) ?_<;>intros
       all_goals first|exact qi _|simp [cx,aR,aU,bu,aQ,aS]
     | true=>
       by_cases yb0:b<0
       . have HT:rb=false:=(by rw [<-GH];simp;omega);subst HT;refine W (J5 (od d9) @c1 @c2 @c3 @cN) (xe h1 jz jF hcell bX hz pm hk yb0 @AW.ab @az.eq_1 @dH) ?_<;>intros
         all_goals first|exact qi _|simp [cx,aR,aU,bu,aQ,aS]
       by_cases yb2:8<=b
       . have HT:rb=false:=(by rw [<-GH];simp;omega);subst HT;refine W (J5 (od d9) @c1 @c2 @c3 @cN) (mB h1 jz jF hcell bX hz pm hk yb0 yb2 @AW.ab @az.eq_1 @dH) ?_<;>intros
         all_goals first|exact qi _|simp [cx,aR,aU,bu,aQ,aS]
       have HT:rb=true:=(by rw [<-GH];simp;omega);subst HT;cases uc with
       | false=>
         by_cases yc0:c=0
         . have ut:rc=true:=(by rw [<-xN];simp [yc0]);subst ut;subst yc0;cases no with
           | false=>
             refine W (J5 (od d9) @c1 @c2 @c3 @cN) (mB h1 jz jF hcell bX hz pm hk yb0 yb2 @AW.ab @az.eq_1 @dH) ?_<;>intros
             all_goals first|exact qi _|simp [cx,aR,aU,bu,aQ,aS]
           | true=>
             refine W (J5 (od d9) @c1 @c2 @c3 @cN) (mB h1 jz jF hcell bX hz pm hk yb0 yb2 @AW.ab @az.eq_1 @dH) ?_<;>intros
             all_goals first|exact qi _|simp [cx,aR,aU,bu,aQ,aS]
         have ut:rc=false:=(by rw [<-xN];simp [yc0]);subst ut;refine W (J5 (od d9) @c1 @c2 @c3 @cN) (xY h1 jz jF hcell bX hz pm hk yb0 yb2 yc0 @AW.ab @az.eq_1 @dH) ?_<;>intros
         all_goals first|exact qi _|simp [cx,aR,aU,bu,aQ,aS]
       | true=>
         by_cases yc0:c<0
         . have ut:rc=false:=(by rw [<-xN];simp;omega);subst ut;refine W (J5 (od d9) @c1 @c2 @c3 @cN) (xY h1 jz jF hcell bX hz pm hk yb0 yb2 yc0 @AW.ab @az.eq_1 @dH) ?_<;>intros
           all_goals first|exact qi _|simp [cx,aR,aU,bu,aQ,aS]
         by_cases yc2:8<=c
         . have ut:rc=false:=(by rw [<-xN];simp;omega);subst ut;refine W (J5 (od d9) @c1 @c2 @c3 @cN) (Rv h1 jz jF hcell bX hz pm hk yb0 yb2 yc0 yc2 @AW.ab @az.eq_1 @dH) ?_<;>intros
           all_goals first|exact qi _|simp [cx,aR,aU,bu,aQ,aS]
         have ut:rc=true:=(by rw [<-xN];simp;omega);subst ut;cases no with
         | false=>
           refine W (J5 (od d9) @c1 @c2 @c3 @cN) (Rv h1 jz jF hcell bX hz pm hk yb0 yb2 yc0 yc2 @AW.ab @az.eq_1 @dH) ?_<;>intros
           all_goals first|exact qi _|simp [cx,aR,aU,bu,aQ,aS]
         | true=>
           refine W (J5 (od d9) @c1 @c2 @c3 @cN) (Rv h1 jz jF hcell bX hz pm hk yb0 yb2 yc0 yc2 @AW.ab @az.eq_1 @dH) ?_<;>intros
           all_goals first|exact qi _|simp [cx,aR,aU,bu,aQ,aS]
   have UN:ra=false:=(by rw [<-Md];simp [ya0]);subst UN;refine W (J5 (od d9) @c1 @c2 @c3 @cN) (xe h1 jz jF hcell bX hz pm hk ya0 @AW.ab @az.eq_1 @dH) ?_<;>intros
   all_goals first|exact qi _|simp [cx,aR,aU,bu,aQ,aS]
 | true=>
   by_cases ya0:a<0
   . have UN:ra=false:=(by rw [<-Md];simp;omega);subst UN;refine W (J5 (od d9) @c1 @c2 @c3 @cN) (xe h1 jz jF hcell bX hz pm hk ya0 @AW.ab @az.eq_1 @dH) ?_<;>intros
     all_goals first|exact qi _|simp [cx,aR,aU,bu,aQ,aS]
   by_cases ya2:8<=a
   . have UN:ra=false:=(by rw [<-Md];simp;omega);subst UN;refine W (J5 (od d9) @c1 @c2 @c3 @cN) (mB h1 jz jF hcell bX hz pm hk ya0 ya2 @AW.ab @az.eq_1 @dH) ?_<;>intros
     all_goals first|exact qi _|simp [cx,aR,aU,bu,aQ,aS]
   have UN:ra=true:=(by rw [<-Md];simp;omega);subst UN;cases ub with
   | false=>
     by_cases yb0:b=0
     . have HT:rb=true:=(by rw [<-GH];simp [yb0]);subst HT;subst yb0;cases uc with
       | false=>
         by_cases yc0:c=0
         . have ut:rc=true:=(by rw [<-xN];simp [yc0]);subst ut;subst yc0;cases no with
           | false=>
             refine W (J5 (od d9) @c1 @c2 @c3 @cN) (mB h1 jz jF hcell bX hz pm hk ya0 ya2 @AW.ab @az.eq_1 @dH) ?_<;>intros
             all_goals first|exact qi _|simp [cx,aR,aU,bu,aQ,aS]
           | true=>
             refine W (J5 (od d9) @c1 @c2 @c3 @cN) (mB h1 jz jF hcell bX hz pm hk ya0 ya2 @AW.ab @az.eq_1 @dH) ?_<;>intros
             all_goals first|exact qi _|simp [cx,aR,aU,bu,aQ,aS]
         have ut:rc=false:=(by rw [<-xN];simp [yc0]);subst ut;refine W (J5 (od d9) @c1 @c2 @c3 @cN) (xY h1 jz jF hcell bX hz pm hk ya0 ya2 yc0 @AW.ab @az.eq_1 @dH) ?_<;>intros
         all_goals first|exact qi _|simp [cx,aR,aU,bu,aQ,aS]
       | true=>
         by_cases yc0:c<0
         . have ut:rc=false:=(by rw [<-xN];simp;omega);subst ut;refine W (J5 (od d9) @c1 @c2 @c3 @cN) (xY h1 jz jF hcell bX hz pm hk ya0 ya2 yc0 @AW.ab @az.eq_1 @dH) ?_<;>intros
           all_goals first|exact qi _|simp [cx,aR,aU,bu,aQ,aS]
         by_cases yc2:8<=c
         . have ut:rc=false:=(by rw [<-xN];simp;omega);subst ut;refine W (J5 (od d9) @c1 @c2 @c3 @cN) (Rv h1 jz jF hcell bX hz pm hk ya0 ya2 yc0 yc2 @AW.ab @az.eq_1 @dH) ?_<;>intros
           all_goals first|exact qi _|simp [cx,aR,aU,bu,aQ,aS]
         have ut:rc=true:=(by rw [<-xN];simp;omega);subst ut;cases no with
         | false=>
           refine W (J5 (od d9) @c1 @c2 @c3 @cN) (Rv h1 jz jF hcell bX hz pm hk ya0 ya2 yc0 yc2 @AW.ab @az.eq_1 @dH) ?_<;>intros
           all_goals first|exact qi _|simp [cx,aR,aU,bu,aQ,aS]
         | true=>
           refine W (J5 (od d9) @c1 @c2 @c3 @cN) (Rv h1 jz jF hcell bX hz pm hk ya0 ya2 yc0 yc2 @AW.ab @az.eq_1 @dH) ?_<;>intros
           all_goals first|exact qi _|simp [cx,aR,aU,bu,aQ,aS]
     have HT:rb=false:=(by rw [<-GH];simp [yb0]);subst HT;refine W (J5 (od d9) @c1 @c2 @c3 @cN) (xY h1 jz jF hcell bX hz pm hk ya0 ya2 yb0 @AW.ab @az.eq_1 @dH) ?_<;>intros
     all_goals first|exact qi _|simp [cx,aR,aU,bu,aQ,aS]
   | true=>
     by_cases yb0:b<0
     . have HT:rb=false:=(by rw [<-GH];simp;omega);subst HT;refine W (J5 (od d9) @c1 @c2 @c3 @cN) (xY h1 jz jF hcell bX hz pm hk ya0 ya2 yb0 @AW.ab @az.eq_1 @dH) ?_<;>intros
       all_goals first|exact qi _|simp [cx,aR,aU,bu,aQ,aS]
     by_cases yb2:8<=b
     . have HT:rb=false:=(by rw [<-GH];simp;omega);subst HT;refine W (J5 (od d9) @c1 @c2 @c3 @cN) (Rv h1 jz jF hcell bX hz pm hk ya0 ya2 yb0 yb2 @AW.ab @az.eq_1 @dH) ?_<;>intros
       all_goals first|exact qi _|simp [cx,aR,aU,bu,aQ,aS]
     have HT:rb=true:=(by rw [<-GH];simp;omega);subst HT;cases uc with
     | false=>
       by_cases yc0:c=0
       . have ut:rc=true:=(by rw [<-xN];simp [yc0]);subst ut;subst yc0;cases no with
         | false=>
           refine W (J5 (od d9) @c1 @c2 @c3 @cN) (Rv h1 jz jF hcell bX hz pm hk ya0 ya2 yb0 yb2 @AW.ab @az.eq_1 @dH) ?_<;>intros
           all_goals first|exact qi _|simp [cx,aR,aU,bu,aQ,aS]
         | true=>
           refine W (J5 (od d9) @c1 @c2 @c3 @cN) (Rv h1 jz jF hcell bX hz pm hk ya0 ya2 yb0 yb2 @AW.ab @az.eq_1 @dH) ?_<;>intros
           all_goals first|exact qi _|simp [cx,aR,aU,bu,aQ,aS]
       have ut:rc=false:=(by rw [<-xN];simp [yc0]);subst ut;refine W (J5 (od d9) @c1 @c2 @c3 @cN) (Mh h1 jz jF hcell bX hz pm hk ya0 ya2 yb0 yb2 yc0 @AW.ab @az.eq_1 @dH) ?_<;>intros
       all_goals first|exact qi _|simp [cx,aR,aU,bu,aQ,aS]
     | true=>
       by_cases yc0:c<0
       . have ut:rc=false:=(by rw [<-xN];simp;omega);subst ut;refine W (J5 (od d9) @c1 @c2 @c3 @cN) (Mh h1 jz jF hcell bX hz pm hk ya0 ya2 yb0 yb2 yc0 @AW.ab @az.eq_1 @dH) ?_<;>intros
         all_goals first|exact qi _|simp [cx,aR,aU,bu,aQ,aS]
       by_cases yc2:8<=c
       . have ut:rc=false:=(by rw [<-xN];simp;omega);subst ut;refine W (J5 (od d9) @c1 @c2 @c3 @cN) (WF h1 jz jF hcell bX hz pm hk ya0 ya2 yb0 yb2 yc0 yc2 @AW.ab @az.eq_1 @dH) ?_<;>intros
         all_goals first|exact qi _|simp [cx,aR,aU,bu,aQ,aS]
       have ut:rc=true:=(by rw [<-xN];simp;omega);subst ut;cases no with
       | false=>
         refine W (J5 (od d9) @c1 @c2 @c3 @cN) (WF h1 jz jF hcell bX hz pm hk ya0 ya2 yb0 yb2 yc0 yc2 @AW.ab @az.eq_1 @dH) ?_<;>intros
         all_goals first|exact qi _|simp [cx,aR,aU,bu,aQ,aS]
       | true=>
         refine W (J5 (od d9) @c1 @c2 @c3 @cN) (WF h1 jz jF hcell bX hz pm hk ya0 ya2 yb0 yb2 yc0 yc2 @AW.ab @az.eq_1 @dH) ?_<;>intros
         all_goals first|exact qi _|simp [cx,aR,aU,bu,aQ,aS]
end
section
namespace TGFbK
theorem mK [Gl] {A:AW} {L:List It} {T:Prop} (hS:ah A L) (hw:A.Wf) (h':(aV A L/\bq A L/\bQ L)=T:=by first|(dsimp only [aa,af,aV,bq,bQ,eQ];done)|exact rfl):T:=h'▸hS.eJ hw
end TGFbK
open TGFbK
variable [Gl]
theorem tf (hF:FOK) (x:bm) (A:AW):aD qa 105 [.agg (az x).toArray] A (λu A'=>u=.int .i64 (cg x)/\A=A'):=(GG hF x A).call ⟨rfl,rfl⟩
theorem GF (hF:FOK) (x:bm) (A:AW):aD qa 106 [.agg (az x).toArray] A (λu A'=>u=.int .i64 (bA x)/\A=A'):=by
 refine aD.tG (V:=.int .i64 (bA x)) (by simp) (λhw=>?_) (by kernel_rfl);refine aN Tryz.func106 λ_=>?_;obtain⟨op,a,b,c,bR⟩:=x;have lb:=λA=>tf hF ⟨op,a,b,c,bR⟩ A;simp only [az] at lb;by_cases h0:cg ⟨op,a,b,c,bR⟩=0
 . rw [h0] at lb;by_cases o8:op=8
   . subst o8;have he:bA ⟨8,a,b,c,bR⟩=1:=(by unfold bA;rw [aA h0];rfl);rw [he];refine W (J1 @lb) (J2 @AW.ab @az.eq_1) ?_<;>intros
     all_goals first|exact qb A _|(simp [aR,aU,bu,aQ,aS]<;>exact qb A _)
   by_cases o9:op=9
   . subst o9;have he:bA ⟨9,a,b,c,bR⟩=1:=(by unfold bA;rw [aA h0];rfl);rw [he];refine W (J1 @lb) (J3 o8 @AW.ab @az.eq_1) ?_<;>intros
     all_goals first|exact qb A _|(simp [aR,aU,bu,aQ,aS]<;>exact qb A _)
   by_cases nd:op=10
   . subst nd;have he:bA ⟨10,a,b,c,bR⟩=1:=(by unfold bA;rw [aA h0];rfl);rw [he];refine W (J1 @lb) (J4 o8 o9 @AW.ab @az.eq_1) ?_<;>intros
     all_goals first|exact qb A _|(simp [aR,aU,bu,aQ,aS]<;>exact qb A _)
   by_cases o11:op=11
   . subst o11;have he:bA ⟨11,a,b,c,bR⟩=1:=(by unfold bA;rw [aA h0];rfl);rw [he];refine W (J1 @lb) (J5 o8 o9 nd @AW.ab @az.eq_1) ?_<;>intros
     all_goals first|exact qb A _|(simp [aR,aU,bu,aQ,aS]<;>exact qb A _)
   by_cases o14:op=14
   . subst o14;have he:bA ⟨14,a,b,c,bR⟩=1:=(by unfold bA;rw [aA h0];rfl);rw [he];refine W (J1 @lb) (J6 o8 o9 nd o11 @AW.ab @az.eq_1) ?_<;>intros
     all_goals first|exact qb A _|(simp [aR,aU,bu,aQ,aS]<;>exact qb A _)
   by_cases o15:op=15
   . subst o15;have he:bA ⟨15,a,b,c,bR⟩=1:=(by unfold bA;rw [aA h0];rfl);rw [he];refine W (J1 @lb) (J7 o8 o9 nd o11 o14 @AW.ab @az.eq_1) ?_<;>intros
     all_goals first|exact qb A _|(simp [aR,aU,bu,aQ,aS]<;>exact qb A _)
   by_cases o7:op=7
   . subst o7;have he:bA ⟨7,a,b,c,bR⟩=2:=(by unfold bA;rw [aA h0];rfl);rw [he];refine W (J1 @lb) (J8 o8 o9 nd o11 o14 o15 @AW.ab @az.eq_1) ?_<;>intros
     all_goals first|exact qb A _|(simp [aR,aU,bu,aQ,aS]<;>exact qb A _)
   by_cases o12:op=12
   . subst o12;have he:bA ⟨12,a,b,c,bR⟩=2:=(by unfold bA;rw [aA h0];rfl);rw [he];refine W (J1 @lb) (J9 o8 o9 nd o11 o14 o15 o7 @AW.ab @az.eq_1) ?_<;>intros
     all_goals first|exact qb A _|(simp [aR,aU,bu,aQ,aS]<;>exact qb A _)
   by_cases o13:op=13
   . subst o13;have he:bA ⟨13,a,b,c,bR⟩=2:=(by unfold bA;rw [aA h0];rfl);rw [he];refine W (J1 @lb) (DM o8 o9 nd o11 o14 o15 o7 o12 @AW.ab @az.eq_1) ?_<;>intros
     all_goals first|exact qb A _|(simp [aR,aU,bu,aQ,aS]<;>exact qb A _)
   by_cases o16:op=16
   . subst o16;have he:bA ⟨16,a,b,c,bR⟩=2:=(by unfold bA;rw [aA h0];rfl);rw [he];refine W (J1 @lb) (JD o8 o9 nd o11 o14 o15 o7 o12 o13 @AW.ab @az.eq_1) ?_<;>intros
     all_goals first|exact qb A _|(simp [aR,aU,bu,aQ,aS]<;>exact qb A _)
   by_cases o17:op=17
   . subst o17;have he:bA ⟨17,a,b,c,bR⟩=2:=(by unfold bA;rw [aA h0];rfl);rw [he];refine W (J1 @lb) (xe o8 o9 nd o11 o14 o15 o7 o12 o13 o16 @AW.ab @az.eq_1) ?_<;>intros
     all_goals first|exact qb A _|(simp [aR,aU,bu,aQ,aS]<;>exact qb A _)
   have he:bA ⟨op,a,b,c,bR⟩=0:=(by unfold bA;rw [aA h0];dsimp only;rw [aw (by omega),aw (by omega)]);rw [he];refine W (J1 @lb) (mB o8 o9 nd o11 o14 o15 o7 o12 o13 o16 o17 @AW.ab @az.eq_1) ?_<;>intros
   all_goals first|exact qb A _|(simp [aR,aU,bu,aQ,aS]<;>exact qb A _)
 have he:bA ⟨op,a,b,c,bR⟩=0:=by unfold bA;rw [aw h0]
 rw [he];refine W (J1 @lb) (J3 h0 @AW.ab @az.eq_1) ?_<;>intros
 all_goals first|exact qb A _|(simp [aR,aU,bu,aQ,aS]<;>exact qb A _)
theorem GE (hF:FOK) (x:bm) (A:AW):aD qa 156 [.agg (az x).toArray] A (λu A'=>u=.tuple #[.int .i64 ((ee x).getD 0),.bool (ee x).isSome]/\A=A'):=by
 refine aD.tG (V:=.tuple #[.int .i64 ((ee x).getD 0),.bool (ee x).isSome]) (dh.tuple (by simp)) (λhw=>?_) (by kernel_rfl);refine aN Tryz.func156 λ_=>?_;obtain⟨op,a,b,c,bR⟩:=x;have lb:=λA=>tf hF ⟨op,a,b,c,bR⟩ A;simp only [az] at lb;by_cases h0:cg ⟨op,a,b,c,bR⟩=0
 . rw [h0] at lb;by_cases o4:op=4
   . subst o4;have he:ee ⟨4,a,b,c,bR⟩=some bR:=(by unfold ee;rw [aA ⟨h0,by dsimp only;omega⟩]);rw [he];refine W (J1 @lb) (J2 @AW.ab @az.eq_1) ?_<;>intros
     all_goals first|exact qb A _|(simp [aR,aU,bu,aQ,aS]<;>exact qb A _)
   by_cases o5:op=5
   . subst o5;have he:ee ⟨5,a,b,c,bR⟩=some bR:=(by unfold ee;rw [aA ⟨h0,by dsimp only;omega⟩]);rw [he];refine W (J1 @lb) (J3 o4 @AW.ab @az.eq_1) ?_<;>intros
     all_goals first|exact qb A _|(simp [aR,aU,bu,aQ,aS]<;>exact qb A _)
   by_cases o6:op=6
   . subst o6;have he:ee ⟨6,a,b,c,bR⟩=some bR:=(by unfold ee;rw [aA ⟨h0,by dsimp only;omega⟩]);rw [he];refine W (J1 @lb) (J4 o4 o5 @AW.ab @az.eq_1) ?_<;>intros
     all_goals first|exact qb A _|(simp [aR,aU,bu,aQ,aS]<;>exact qb A _)
   have he:ee ⟨op,a,b,c,bR⟩=none:=(by unfold ee;rw [aw (λh=>by have:=h.2;dsimp only at this;omega)]);rw [he];refine W (J1 @lb) (J5 o4 o5 o6 @AW.ab @az.eq_1) ?_<;>intros
   all_goals first|exact qb A _|(simp [aR,aU,bu,aQ,aS]<;>exact qb A _)
 have he:ee ⟨op,a,b,c,bR⟩=none:=by unfold ee;rw [aw (λh=>h0 h.1)]
 rw [he];refine W (J1 @lb) (J3 h0 @AW.ab @az.eq_1) ?_<;>intros
 all_goals first|exact qb A _|(simp [aR,aU,bu,aQ,aS]<;>exact qb A _)
def RP (p:List bm) (k:Nat) (b:Option Nat) (x:bm):Int:=match ee x with
 | some n=>if fG p k b n=true then 0 else 42
 | none=>0
theorem Kd (hF:FOK) (v:Value) (p:List bm) (k:Nat) (b:Option Nat) (A:AW) (h:ly A v p) (hl:p.length<=64) (hk:k<p.length) (hb:∀d,b=some d->d<p.length) :
 aD qa 107 [v,.int .i64 k,.int .i64 (fw b)] A (λu A'=>u=.int .i64 (RP p k b p[k])/\A=A'):=by
 refine aN Tryz.func107 λhw=>?_;obtain⟨o,c,rfl,_⟩:=h.cy;obtain⟨q,b8,xO,bV,fO,hcell⟩:=h.at hk;subst xO;have gS:qg.wrap ((k:Int)+1)=((k+1:Nat):Int):=ar (by omega) (by omega);generalize p[k]=x at hcell;have dG:=wB hcell;have cS:=λB=>GE hF x B;have ND:=@EJ x;have VB:=@uw x;unfold RP;obtain⟨op,a,b',c',bR⟩:=x;simp only at VB ND dG;simp only [az] at hcell cS;generalize ee ⟨op,a,b',c',bR⟩=sk at cS VB;cases sk with
 | none=>
   repeat' (first|(refine kY λR hR=>?_;simp [ar,ax,bV,dG,hcell,fO,hk,gS];try simp (disch:=omega) only [aA,aw,ar,ax])|(refine hR _ _ ?_;clear hR R)|(refine hK _ _ ?_;clear hK K)|refine nx ?_|refine wn λK hK=>?_|simp only [wS]|(refine bO (cS _) ?_;rintro _ _ ⟨rfl,rfl⟩ _ _)|(show c8 _ _ _ _ _ _;refine nx ?_)|(refine wc rfl (λhc=>?_) (λhc=>?_)<;>(try simp at hc)<;>(try omega))|(refine ib (λhc=>?_) (λhc=>?_)<;>(try omega)<;>(try simp (disch:=omega) only [aA,aw])))
   all_goals simp [aR,aU,bu,aQ,aS]
 | some n=>
   obtain⟨rfl,g1,g2⟩:=VB rfl;obtain⟨g3,g4⟩:=ND g1 g2;obtain⟨m,hm⟩:∃m:Nat,n=m:=⟨n.toNat,by omega⟩;subst hm;have EL:qg.wrap (((k+1:Nat):Int)+m)=((k+1+m:Nat):Int):=ar (by omega) (by omega);have xM:qg.wrap ((k:Int)+1+m)=((k+1+m:Nat):Int):=ar (by omega) (by omega);have hT:fG p k b (m:Int)=if p.length<k+1+m then false else match (generalizing:=false) b with
    | some b=>decide (k+1+m<=dq p b)
    | none=>!gX p k (k+1+m):=by unfold fG;simp only [Zp];cases b<;>rfl
   simp only [hT];generalize ht:k+1+m=t at EL xM hT;by_cases q1:p.length<t
   . rw [aA q1,aw (by simp)];refine W (J1 @cS) (J9 bV dG hcell fO hk gS EL xM q1) ?_<;>intros
     all_goals simp [aR,aU,bu,aQ,aS]
   rw [aw q1];cases b with
   | some d=>
     have hd:=hb d rfl;have vF:¬((d:Int)<0):=(by omega);have zg:(0:Int)<=d:=(by omega);have cE:=wP _ p d A h (by omega) hd;simp only [fw];by_cases q2:t<=dq p d
     . have q3:¬dq p d<t:=(by omega);rw [aA (by simp [q2])];refine W (J2 @cS @cE) (mB bV dG hcell fO hk gS EL xM q1 q2 q3 vF zg) ?_<;>intros
       all_goals simp [aR,aU,bu,aQ,aS]
     have q3:dq p d<t:=(by omega);rw [aw (by simp [q3])];refine W (J2 @cS @cE) (mB bV dG hcell fO hk gS EL xM q1 q2 q3 vF zg) ?_<;>intros
     all_goals simp [aR,aU,bu,aQ,aS]
   | none=>
     have cI:=Qm _ p k t A h (by omega) hk (by omega);simp only [fw];generalize gX p k t=it at cI;cases it with
     | true=>
       rw [aw (by simp)];refine W (J2 @cS @cI) (J9 bV dG hcell fO hk gS EL xM q1) ?_<;>intros
       all_goals simp [aR,aU,bu,aQ,aS]
     | false=>
       rw [aA (by simp)];refine W (J2 @cS @cI) (J9 bV dG hcell fO hk gS EL xM q1) ?_<;>intros
       all_goals simp [aR,aU,bu,aQ,aS]
set_option maxHeartbeats 8000000 in
theorem Sj (hF:FOK) (v:Value) (p:List bm) (k:Nat) (b:Option Nat) (A:AW) (h:ly A v p) (hl:p.length<=64) (hk:k<p.length) (hb:∀d,b=some d->d<p.length) :
 aD qa 75 [v,.int .i64 k,.int .i64 (fw b)] A (λu A'=>u=.int .i64 (uI (fG p) k b p[k])/\A=A'):=by
 refine aN Tryz.func75 λhw=>?_;have cT:=Kd hF v p k b A h hl hk hb;obtain⟨o,c,rfl,_⟩:=h.cy;obtain⟨q,b8,xO,bV,fO,hcell⟩:=h.at hk;subst xO;generalize p[k]=x at hcell cT;have dG:=wB hcell;have cI:=λB=>tf hF x B;have cP:=λB=>GF hF x B
 have hE:uI (fG p) k b x=if cg x=0 then
  if (x.op=7/\b.isSome=true)\/(x.op=8/\b.isSome=false) then 40
  else if (bA x=1/\b.isSome=false)\/(bA x=2/\b.isSome=true) then 41
  else RP p k b x else cg x:=by unfold uI RP;rfl
 rw [hE];clear hE;generalize RP p k b x=te at cT;obtain⟨op,a,b',c',bR⟩:=x;simp only at dG;simp only [az] at hcell cI cP;generalize bA ⟨op,a,b',c',bR⟩=pl at cP;generalize cg ⟨op,a,b',c',bR⟩=e at cI;by_cases e0:e=0
 rotate_left
 . rw [aw e0]
   repeat' (first|(refine kY λR hR=>?_;simp [ar,ax,bV,dG,hcell,fO,hk,e0];try simp (disch:=omega) only [aA,aw,ar,ax])|(refine hR _ _ ?_;clear hR R)|(refine hK _ _ ?_;clear hK K)|refine nx ?_|refine wn λK hK=>?_|simp only [wS]|(refine bO (cI _) ?_;rintro _ _ ⟨rfl,rfl⟩ _ _)|(show c8 _ _ _ _ _ _;refine nx ?_)|(refine wc rfl (λhc=>?_) (λhc=>?_)<;>(try simp at hc)<;>(try omega))|(refine ib (λhc=>?_) (λhc=>?_)<;>(try omega)<;>(try simp (disch:=omega) only [aA,aw])))
   all_goals simp [aR,aU,bu,aQ,aS]
 subst e0;rw [aA rfl];cases b with
 | none=>
   simp only [fw] at cT ⊢;by_cases ob:op=8
   . subst ob;rw [aA (by simp)];refine W (J3 @cI @cP @cT) (J5 bV dG hcell fO hk) ?_<;>intros
     all_goals simp [aR,aU,bu,aQ,aS]
   rw [aw (by simp [ob])];by_cases oo:op=7
   . subst oo;by_cases pb:pl=1
     . subst pb;rw [aA (by simp)];refine W (J3 @cI @cP @cT) (J6 bV dG hcell fO hk ob) ?_<;>intros
       all_goals simp [aR,aU,bu,aQ,aS]
     rw [aw (by simp [pb])];by_cases po:pl=2
     . subst po;refine W (J3 @cI @cP @cT) (J6 bV dG hcell fO hk ob) ?_<;>intros
       all_goals simp [aR,aU,bu,aQ,aS]
     skip
     refine W (J3 @cI @cP @cT) (J8 bV dG hcell fO hk ob pb po) ?_<;>intros
     all_goals simp [aR,aU,bu,aQ,aS]
   skip
   by_cases pb:pl=1
   . subst pb;rw [aA (by simp)];refine W (J3 @cI @cP @cT) (J7 bV dG hcell fO hk ob oo) ?_<;>intros
     all_goals simp [aR,aU,bu,aQ,aS]
   rw [aw (by simp [pb])];by_cases po:pl=2
   . subst po;refine W (J3 @cI @cP @cT) (J7 bV dG hcell fO hk ob oo) ?_<;>intros
     all_goals simp [aR,aU,bu,aQ,aS]
   skip
   refine W (J3 @cI @cP @cT) (J9 bV dG hcell fO hk ob oo pb po) ?_<;>intros
   all_goals simp [aR,aU,bu,aQ,aS]
 | some d=>
   simp only [fw] at cT ⊢;have vF:¬((d:Int)<0):=(by omega);have zg:(0:Int)<=d:=(by omega);by_cases ob:op=7
   . subst ob;rw [aA (by simp)];refine W (J3 @cI @cP @cT) (J7 bV dG hcell fO hk vF zg) ?_<;>intros
     all_goals simp [aR,aU,bu,aQ,aS]
   rw [aw (by simp [ob])];by_cases oo:op=8
   . subst oo;by_cases pb:pl=2
     . subst pb;rw [aA (by simp)];refine W (J3 @cI @cP @cT) (J8 bV dG hcell fO hk vF zg ob) ?_<;>intros
       all_goals simp [aR,aU,bu,aQ,aS]
     rw [aw (by simp [pb])];by_cases po:pl=1
     . subst po;refine W (J3 @cI @cP @cT) (J8 bV dG hcell fO hk vF zg ob) ?_<;>intros
       all_goals simp [aR,aU,bu,aQ,aS]
     skip
     refine W (J3 @cI @cP @cT) (DM bV dG hcell fO hk vF zg ob pb po) ?_<;>intros
     all_goals simp [aR,aU,bu,aQ,aS]
   skip
   by_cases pb:pl=2
   . subst pb;rw [aA (by simp)];refine W (J3 @cI @cP @cT) (J9 bV dG hcell fO hk vF zg ob oo) ?_<;>intros
     all_goals simp [aR,aU,bu,aQ,aS]
   rw [aw (by simp [pb])];by_cases po:pl=1
   . subst po;refine W (J3 @cI @cP @cT) (J9 bV dG hcell fO hk vF zg ob oo) ?_<;>intros
     all_goals simp [aR,aU,bu,aQ,aS]
   skip
   refine W (J3 @cI @cP @cT) (JD bV dG hcell fO hk vF zg ob oo pb po) ?_<;>intros
   all_goals simp [aR,aU,bu,aQ,aS]
end
section
namespace TGFbL
theorem mK [Gl] {A:AW} {L:List It} {T:Prop} (hS:ah A L) (hw:A.Wf) (h':(aV A L/\bq A L/\bQ L)=T:=by first|(dsimp only [aa,af,aV,bq,bQ,eQ];done)|exact rfl):T:=h'▸hS.eJ hw
end TGFbL
open TGFbL
variable [Gl]
set_option maxHeartbeats 8000000 in
theorem rG (hF:FOK) (v:Value) (p:List bm) (A:AW) (h:ly A v p) :
 aD qa 57 [v] A (λu A'=>u=oQ (cG p)/\A=A'):=by
 refine aD.tG (V:=oQ (cG p)) (dh.tuple (by simp)) (λhw=>?_) (by kernel_rfl);refine aN Tryz.func57 λ_=>?_;obtain⟨o,c,rfl,_⟩:=h.cy;by_cases hL:64<p.length
 . have he:cG p=(0,3):=(by unfold cG;rw [aA hL]);rw [he];refine W cF (J1 hL) ?_<;>intros
   all_goals first|exact qi A|(simp [aR,aU,bu,aQ,aS,oQ]<;>exact qi A)
 have hl:p.length<2^30:=by omega
 have he:cG p=i5 (fG p) (p.drop 0) 0 none:=by unfold cG;rw [aw hL];rfl
 generalize htgt:fG p=Hb at he;generalize cG p=RR at he ⊢;revert hw;(repeat first|clear hw|revert hc|revert R|revert K);refine W cF (J1 hL) ?_<;>(unhygienic intros)
 refine ef (λk fr A'=>A.le A'/\∃(i:Nat) (b:Option Nat),k=p.length-i/\i<=p.length/\(∀d,b=some d->d<i)/\fr 0=.slice o p.length c/\fr 11=.slice o p.length c/\fr 12=.int .i64 p.length/\fr 4=.int .i64 (fw b)/\fr 13=.int .i64 i/\
  RR=i5 Hb (p.drop i) i b) p.length ?_ ?_
 exact⟨qi A,0,none,rfl,Nat.zero_le _,by simp,rfl,rfl,rfl,rfl,rfl,he⟩;rintro k fr A' ⟨EU,i,b,rfl,hi,xS,h0,FX,HE,h4,E2,he⟩;by_cases cD:i<p.length
 . obtain⟨q,b8,xO,bV,fO,hcell⟩:=(h.le EU hw).at cD;subst xO;have gS:=By (i:=i);have fa:p.drop i=p[i]::p.drop (i+1):=List.drop_eq_getElem_cons cD;rw [fa] at he;have cO:=λo o'=>Sj hF _ p i b _ (h.le (EU.trans (AW.le.lP A' o o')) hw) (by omega) cD (λd hd=>by have:=xS d hd;omega);rw [htgt] at cO;generalize p[i]=x at he hcell cO;clear fa;have dG:=wB hcell;unfold i5 at he;generalize hE:uI Hb i b x=E at he cO;generalize hN:Eu i b x=N at he;unfold Eu at hN;obtain⟨op,a,b',c',bR⟩:=x;simp only at hN dG;simp only [az] at hcell;by_cases e0:E=0;subst e0;rw [aA rfl] at he;by_cases o7:op=7;subst o7;rw [aA rfl] at hN;subst hN;refine ba ?_;refine W (J1 @cO) (xe h0 h4 FX HE E2 bV dG hcell fO cD gS bE) ?_<;>intros;refine⟨p.length-(i+1),by omega,EU.trans (AW.le.lP A' _ _),i+1,some i,rfl,by omega,?_,?_,?_,?_,?_,?_,he⟩<;>simp [h0,h4,FX,HE,E2,fw];by_cases o8:op=8;subst o8;rw [aw (by decide),aA rfl] at hN;subst hN
   refine ba ?_;refine W (J1 @cO) (xe h0 h4 FX HE E2 bV dG hcell fO cD gS bE) ?_<;>intros;refine⟨p.length-(i+1),by omega,EU.trans (AW.le.lP A' _ _),i+1,none,rfl,by omega,?_,?_,?_,?_,?_,?_,he⟩<;>simp [h0,h4,FX,HE,E2,fw];rw [aw o7,aw o8] at hN;subst hN;refine ba ?_;refine W (J1 @cO) (xY h0 h4 FX HE E2 bV dG hcell fO cD gS o7 o8 bE) ?_<;>intros;refine⟨p.length-(i+1),by omega,EU.trans (AW.le.lP A' _ _),i+1,b,rfl,by omega,λd hd=>Nat.lt_succ_of_lt (xS d hd),?_,?_,?_,?_,?_,he⟩<;>simp [h0,h4,FX,HE,E2,fw];rw [aw e0] at he;refine ba ?_;refine W (J1 @cO) (mB h0 h4 FX HE E2 bV dG hcell fO cD gS e0 bE) ?_<;>intros
   all_goals first|exact EU.trans (AW.le.lP A' _ _)|(simp [cx,aR,aU,bu,aQ,aS,oQ,he]<;>exact EU.trans (AW.le.lP A' _ _))
 have vT:i=p.length:=by omega
 subst vT;rw [List.drop_length] at he;unfold i5 at he;cases b with
 | none=>
   simp only [fw] at h4;refine ba ?_;refine W cF (J6 h0 h4 FX HE E2 cD) ?_<;>intros
   all_goals first|exact EU|(simp [cx,aR,aU,bu,aQ,aS,oQ,he]<;>exact EU)
 | some d=>
   simp only [fw] at h4;have vF:¬((d:Int)<0):=(by omega);have zg:(0:Int)<=d:=(by omega);refine ba ?_;refine W cF (J8 h0 h4 FX HE E2 cD vF zg) ?_<;>intros
   all_goals first|exact EU|(simp [cx,aR,aU,bu,aQ,aS,oQ,he]<;>exact EU)
def BM (p:List bm):Bool:=decide ((cG p).2=0)
theorem Mn (hF:FOK) (v:Value) (p:List bm) (A:AW) (h:ly A v p) :
 aD qa 240 [v] A (λu A'=>u=.bool (BM p)/\A=A'):=by
 refine aN Tryz.func240 λhw=>?_;have cC:=rG hF v p A h;unfold BM;unfold oQ at cC;by_cases h0:(cG p).2=0
 . refine W (J1 @cC) (J1 h0) ?_<;>intros
   all_goals simp [aR,aU,bu,aQ,aS,h0]
 refine W (J1 @cC) (J1 h0) ?_<;>intros
 all_goals simp [aR,aU,bu,aQ,aS,h0]
def DF (p:List bm) (k:Nat):Int:=if BM p=true/\d6 p k=7 then dq p k else -1
theorem LN (hF:FOK) (v:Value) (p:List bm) (k:Nat) (A:AW) (h:ly A v p) (hk:k<p.length) :
 aD qa 206 [v,.int .i64 k] A (λu A'=>u=.int .i64 (DF p k)/\A=A'):=by
 refine aN Tryz.func206 λhw=>?_;have cV:=Mn hF v p A h;unfold DF;cases hv:BM p with
 | false=>
   rw [hv] at cV;obtain⟨o,c,rfl,_⟩:=h.cy;refine W (J1 @cV) (J1 hk) ?_<;>intros
   all_goals simp [aR,aU,bu,aQ,aS]
 | true=>
   rw [hv] at cV;have hl:p.length<=64:=(gY (p:=p) (by simpa [BM] using hv)).1;have cE:=wP v p k A h (by omega) hk;obtain⟨o,c,rfl,_⟩:=h.cy;obtain⟨q,b8,xO,bV,fO,hcell⟩:=h.at hk;subst xO;have dG:=wB hcell;have ho:d6 p k=p[k].op:=lE (qk hk);rw [ho];by_cases h7:p[k].op=7
   . refine W (J2 @cV @cE) (J5 hk bV dG fO h7) ?_<;>intros
     all_goals simp [aR,aU,bu,aQ,aS,h7]
   refine W (J2 @cV @cE) (J5 hk bV dG fO h7) ?_<;>intros
   all_goals simp [aR,aU,bu,aQ,aS,h7]
end
section
abbrev Dt:List (Nat×Nat):=[(0,0),(1,0),(2,0),(3,0),(4,0),(6,0),(7,0),(8,0),(9,0),(10,0),(5,2),(11,2),(12,0),(13,0)]
abbrev Ds:List (Nat×Nat):=[(0,0),(1,0),(2,0),(3,0),(4,0),(5,0),(6,0),(7,0),(8,0)]
abbrev oG:List (Nat×Nat):=[(0,0),(1,0),(2,0),(3,0),(4,0),(5,0),(6,0),(7,0),(8,0),(9,0),(10,2),(11,0),(12,0)]
abbrev oF:List (Nat×Nat):=[(0,0),(1,0),(2,0),(3,0),(4,0),(5,0),(6,0),(7,0),(8,0),(9,0),(10,3),(11,0),(12,0),(13,3)]
abbrev oE:List (Nat×Nat):=[(0,0),(1,0),(2,0),(3,0),(4,0),(6,0),(5,2),(7,3)]
abbrev oD:List (Nat×Nat):=[(0,0),(1,0),(2,0),(3,0),(4,0),(5,0),(6,0),(7,0),(8,0),(9,0),(10,0),(11,0),(12,0),(13,0),(14,0),(15,0),(16,0),(17,0)]
abbrev oC:List (Nat×Nat):=[(0,0),(1,0),(2,0),(3,0),(4,0),(5,0),(6,0),(7,0),(8,0),(9,0),(10,0),(11,0),(12,0),(13,2),(14,3),(15,0),(16,0),(17,3)]
abbrev oB:List (Nat×Nat):=[(0,0),(1,0),(2,0),(3,0),(4,0),(5,0),(6,0),(7,0),(8,0),(9,0),(10,2),(11,0),(12,3)]
open T7
variable [Gl]
theorem DG (hF:FOK) {q:oh} {l:List bm} (hR:CR q l) (k:Int) (VK:0<=k) (hl:(cG l).2=0) (h7:d6 l k.toNat=7) {A:AW} {L K:List It} {kk:Value->AW->Prop} (hw:A.Wf) (hS:ah A L) (hp:aE L (.at q.bb q.o) K)
 (hk:kk (.int .i64 (dq l k.toNat)) A):aD qa 206 [.slice (some ⟨q.bb,q.off,none⟩) l.length q.eA,.int .i64 k] A kk:=by
 obtain⟨n,rfl⟩:=Int.eq_ofNat_of_zero_le VK;refine bO (LN hF _ l n A (hR.is (ah.gR hS hp)) (rM (by rw [Zp] at h7;omega))) ?_;rintro _ _ ⟨rfl,rfl⟩ _ _;have e:DF l n=dq l n:=by
  unfold DF;rw [aA ⟨by simp [BM,hl],by simpa using h7⟩]
 rw [e]
 simpa using hk
theorem TE (n:Nat) (s:aJ) (hl:s.ay.length<2^38):d7 qa 204 [pv n] [.h (bf n s)] (λ(x:Option Addr×Nat) v=>v=.slice x.1 s.ay.length x.2) (λx=>[.h (av .i64 (.slice x.1 s.ay.length x.2) s.ay),.h (bf n s)]):=by
 intro A F hw hS;refine bO (NN n s _ s.aH A hw (bf.Uw (ah.bS hS (.s .z .z)) .z) hl) ?_;rintro u A' ⟨h1,h2⟩ kI _;obtain⟨o,c,rfl,_⟩:=h1.is.cy;exact⟨(o,c),rfl,av.iB hS hw h2 h1⟩
structure Ru (t:aT):Prop where
 cf:cX t.cf
 pc:0<=t.pc/\t.pc<2^40
 gH:t.gH.length+t.dF.length<2^29
 nS:t.gE.length<2^27
 vX:0<=t.jB/\t.jB<2^40
 zK:0<=t.iR/\t.iR<2^40
 nB:0<=t.fC/\t.fC<2^40
 rU:(cG t.aC).2=0
theorem Ff (q:oh) (b:Nat) (t:aT) (s:aJ) (i:bm) (dB:t.fL=some s) (dL:t.dM=none) (fa:t.dI=none) (hB:Ru t) (mg:i.op=12\/i.op=13) (hi:cg i=0) :
 bn qa 132 [pv b,j4 i] [.h (gF q b t)] (λ_=>True) (λ_=>[.h (gF q b (t.ln i s))]):=by
 have kO:0<=t.pc/\t.pc<2^40:=hB.pc;have xC:t.gH.length<2^30:=by have:=hB.gH;omega
 obtain⟨r1,r2,_⟩:=mY hi;obtain⟨op,i1,i2,i3,bR⟩:=i;dsimp only at mg r2;unfold j4;by_cases h1:s.aC=1
 . rcases mg with h2|h2
   . subst h2;have e:t.ln ⟨12,i1,i2,i3,bR⟩ s=((({ t with fL:=none,aW:=false }:aT).gy i1 s.value).pz 4 s.value).pG:=by
      unfold aT.ln;dsimp only;rw [aA h1];rfl
     rw [e];intro A F hw dA;refine aN kbe λ_=>?_;dsimp only [aa,af] at dA;obtain⟨⟨cW,eD,kC,fm,vs,vo⟩,hS⟩:=gF.open dA .z;clear dA;dsimp only [jb,aa,af] at hS;rw [dB,dL,fa] at hS;dsimp only [dY,go,dX,gk,gq,lF] at hS;have hq:=fE hS hw;revert hq hS hw;refine Wu (J5 (Tg.mk (n:=10) (λ{A L K k}=>fp (A:=A) (L:=L) (K:=K) (k:=k) (vI cW s))) (Tg.mk (n:=10) (λ{A L K k}=>fp (A:=A) (L:=L) (K:=K) (k:=k) (DR cW s))) (Tg.mk (n:=36) (λx1 x2 x3 x4 x5 x6 x7 x8 x9=>C2 b { t.d with aW:=false } x1 x2 x3 x4 x5 x6 x7 x8 x9 i1 i2 i3 bR s.value t.gH hi kO xC)) (od Dt) (od Ds)) (J2 h1 bE) ?_<;>(unhygienic intros);refine⟨_,by first|rfl|(simp;rfl),by first|trivial|rfl|(simp;done),?_⟩;apply gF.bS;apply ah.mw
     (·exact sA)
     . dsimp only [jb,aT.pG,aT.to,aT.pz,aT.gy,aT.fi,aT.kw,aT.d]
       (try simp only [dB,dL,fa])
       (·first|exact pA|exact kA)
     (·first|exact pA|exact kA)
     all_goals(first|exact 0|exact undef)
   subst h2;have hb:=r2 rfl;have xR:=λw=>ry (d:={ t.d with aW:=false }) (w:=w) hb;have e:t.ln ⟨13,i1,i2,i3,bR⟩ s=((({ t with fL:=none,aW:=false }:aT)).pz 5 (t.dE.bp i2)).pG:=by
    unfold aT.ln;dsimp only;rw [aA h1];rfl
   rw [e];intro A F hw dA;refine aN kbe λ_=>?_;dsimp only [aa,af] at dA;obtain⟨⟨cW,eD,kC,fm,vs,vo⟩,hS⟩:=gF.open dA .z;clear dA;dsimp only [jb,aa,af] at hS;rw [dB,dL,fa] at hS;dsimp only [dY,go,dX,gk,gq,lF] at hS;have hq:=fE hS hw;revert hq hS hw;(repeat first|clear hq|clear hS|clear hw|revert hc|revert R|revert K);refine Wu (J5 (Tg.mk (n:=10) (λ{A L K k}=>fp (A:=A) (L:=L) (K:=K) (k:=k) (vI cW s))) (Tg.mk (n:=10) (λ{A L K k}=>fp (A:=A) (L:=L) (K:=K) (k:=k) (DR cW s))) (Tg.mk (n:=36) (λx1 x2 x3 x4 x5 x6 x7 x8 x9=>C1 b { t.d with aW:=false } x1 x2 x3 x4 x5 x6 x7 x8 x9 i1 i2 i3 bR (t.d.dE.bp i2) t.gH hi kO xC)) (od Dt) (od Ds)) (J5 h1 xR hb.1 hb.2 bE) ?_<;>(unhygienic intros);refine⟨_,by first|rfl|(simp;rfl),by first|trivial|rfl|(simp;done),?_⟩;apply gF.bS;apply ah.mw
   (·exact sA)
   . dsimp only [jb,aT.pG,aT.to,aT.pz,aT.gy,aT.fi,aT.kw,aT.d]
     (try simp only [dB,dL,fa])
     (·first|exact pA|exact kA)
   (·first|exact pA|exact kA)
   all_goals(first|exact 0|exact undef)
 by_cases h2:s.aC=6
 . have e:t.ln ⟨op,i1,i2,i3,bR⟩ s=((({ t with fL:=none,aW:=false }:aT)).pz 7 6).pG:=by
    unfold aT.ln;dsimp only;rw [aw h1,aA h2]
   rw [e];intro A F hw dA;refine aN kbe λ_=>?_;dsimp only [aa,af] at dA;obtain⟨⟨cW,eD,kC,fm,vs,vo⟩,hS⟩:=gF.open dA .z;clear dA;dsimp only [jb,aa,af] at hS;rw [dB,dL,fa] at hS;dsimp only [dY,go,dX,gk,gq,lF] at hS;have hq:=fE hS hw;revert hq hS hw;(repeat first|clear hq|clear hS|clear hw|revert hc|revert R|revert K);refine Wu (J6 (Tg.mk (n:=10) (λ{A L K k}=>fp (A:=A) (L:=L) (K:=K) (k:=k) (vI cW s))) (Tg.mk (n:=10) (λ{A L K k}=>fp (A:=A) (L:=L) (K:=K) (k:=k) (DR cW s))) (Tg.mk (n:=36) (λx1=>jw b { t.d with aW:=false } x1 t.gH 7 6 xC)) (Tg.mk (n:=37) (λx1 x2 x3 x4 x5 x6 x7 x8 x9=>lc b { t.d with aW:=false } x1 x2 x3 x4 x5 x6 x7 x8 x9 kO)) (od Dt) (od Ds)) (J3 h1 h2 bE) ?_<;>(unhygienic intros);refine⟨_,by first|rfl|(simp;rfl),by first|trivial|rfl|(simp;done),?_⟩;apply gF.bS;apply ah.mw
   (·exact sA)
   . dsimp only [jb,aT.pG,aT.to,aT.pz,aT.gy,aT.fi,aT.kw,aT.d]
     (try simp only [dB,dL,fa])
     (·first|exact pA|exact kA)
   (·first|exact pA|exact kA)
   all_goals(first|exact 0|exact undef)
 have e:t.ln ⟨op,i1,i2,i3,bR⟩ s=({ t with fL:=none,aW:=false }:aT):=by
  unfold aT.ln;dsimp only;rw [aw h1,aw h2]
 rw [e];intro A F hw dA;refine aN kbe λ_=>?_;dsimp only [aa,af] at dA;obtain⟨⟨cW,eD,kC,fm,vs,vo⟩,hS⟩:=gF.open dA .z;clear dA;dsimp only [jb,aa,af] at hS;rw [dB,dL,fa] at hS;dsimp only [dY,go,dX,gk,gq,lF] at hS;have hq:=fE hS hw;revert hq hS hw;(repeat first|clear hq|clear hS|clear hw|revert hc|revert R|revert K);refine W (J4 (Tg.mk (n:=10) (λ{A L K k}=>fp (A:=A) (L:=L) (K:=K) (k:=k) (vI cW s))) (Tg.mk (n:=10) (λ{A L K k}=>fp (A:=A) (L:=L) (K:=K) (k:=k) (DR cW s))) (od Dt) (od Ds)) (J3 h1 h2 bE) ?_<;>(unhygienic intros);refine⟨_,by first|rfl|(simp;rfl),by first|trivial|rfl|(simp;done),?_⟩;apply gF.bS;apply ah.mw
 (·exact sA)
 . dsimp only [jb,aT.pG,aT.to,aT.pz,aT.gy,aT.fi,aT.kw,aT.d]
   (try simp only [dB,dL,fa])
   (·first|exact pA|exact kA)
 (·first|exact pA|exact kA)
 all_goals(first|exact 0|exact undef)
theorem PR (hF:FOK) (q:oh) (b:Nat) (t:aT) (s:aJ) (dB:t.fL=some s) (dL:t.dM=none) (fa:t.dI=none) (hB:Ru t) (h7:d6 t.aC t.bN.toNat=7) (Tw:0<=t.bN) (up:∀x∈s.ay,x<2^62) (UC:s.ay.length<=8) (Di:CR q t.aC) :
 bn qa 133 [pv b] [.h (gF q b t)] (λ_=>True) (λ_=>[.h (gF q b (t.bS s))]):=by
 have xC:=hB.gH;have YV:t.gH.length+t.dF.length<2^30:=by omega
 have hlo2:(t.gH++t.dF).length<2^30:=by rw [qm];omega
 have hlo3:t.gH.length<2^30:=by omega
 have hll:t.gE.length<2^28:=by have:=hB.nS;omega
 have hf1:s.ay.length<2^38:=by omega
 have IW:s.ay.length<2^28:=by omega
 have pn:=hB.cf;have Tr:t.bN.toNat<t.aC.length:=rM (by omega);have xS:t.bN<t.aC.length:=by omega
 have him:t.wC t.bN=t.aC[t.bN.toNat]:=by
  unfold aT.wC;rw [List.getD_eq_getElem?_getD,qk Tr];rfl
 have VE:qg.wrap ((dq t.aC t.bN.toNat:Int)+1)=(dq t.aC t.bN.toNat:Int)+1:=by
  have h64:=(gY hB.rU).1;have h65:=(mr (p:=t.aC) (k:=t.bN.toNat+1) (by omega)).2.1;unfold dq;exact ar (by omega) (by omega)
 by_cases h1:s.aC=1
 . by_cases h2:0<s.ay.length
   . have e:t.bS s=({ t with fL:=none,gH:=t.gH++t.dF,gE:=nE t.cf t.gE s.nJ s.ay }:aT).kw 1:=by
      unfold aT.bS aT.oS;rw [aw (by omega),aA h1,aA h2,h1]
     rw [e];intro A F hw dA;refine aN kaN λ_=>?_;dsimp only [aa,af] at dA;obtain⟨⟨cW,eD,kC,fm,vs,vo⟩,hS⟩:=gF.open dA .z;clear dA;dsimp only [jb,aa,af] at hS;rw [dB,dL,fa] at hS;dsimp only [dY,go,dX,gk,gq,lF] at hS;have hq:=fE hS hw
     repeat' (first|(with_reducible apply SF;(·first|(simp;done)|(simp;rfl));(·first|(simp;done)|(simp;rfl));(·exact wA);(·exact sA);(·first|exact pA|exact kA);(·first|exact AW.bY _ _|((repeat' (first|apply aE.z|apply aE.s));done)|(simp [hq];(repeat' (first|rfl|refine⟨rfl,?_⟩));done)|(simp;done)|(simp;rfl)|(simp [hq];done)|(simp [hq];rfl));(·first|omega|(simp;omega));(·intro _ _;trivial);rintro _ _ _ hS hw _;(try dsimp only [AW.bd] at hS);have hq:=fE hS hw)|(with_reducible apply Hw;(·first|(simp;done)|(simp;rfl));(·first|(simp;done)|(simp;rfl));(·exact wA);(·exact sA);(·first|exact pA|exact kA);(·first|exact AW.bY _ _|((repeat' (first|apply aE.z|apply aE.s));done)|(simp [hq];(repeat' (first|rfl|refine⟨rfl,?_⟩));done)|(simp;done)|(simp;rfl)|(simp [hq];done)|(simp [hq];rfl));(·first|omega|(simp;omega));(·intro _ _;trivial);rintro _ _ _ hS hw _;(try dsimp only [AW.bd] at hS);have hq:=fE hS hw)|(refine kY λR hR=>?_;simp [ar,ax,hq,VE,h1,h2,AW.ab,aG];try simp (disch:=omega) only [aA,aw,ar,ax])|(refine hR _ _ ?_;clear hR R)|(refine hK _ _ ?_;clear hK K)|refine nx ?_|refine wn λK hK=>?_|simp only [wS,oG,oF,oE,oD,oC,oB]|refine wl qj oG (by decide +kernel) λK hK=>?_|refine wl qj oF (by decide +kernel) λK hK=>?_|refine wl qj oE (by decide +kernel) λK hK=>?_|refine wl qj oD (by decide +kernel) λK hK=>?_|refine wl qj oC (by decide +kernel) λK hK=>?_|refine wl qj oB (by decide +kernel) λK hK=>?_|(apply fp (vI cW s);(·exact wA);(·exact sA);(·first|exact pA|exact kA);)|(apply fp (JW cW s);(·exact wA);(·exact sA);(·first|exact pA|exact kA);)|(apply d7.ft (TE cW s hf1);(·exact wA);(·exact sA);(·first|exact pA|exact kA);(rintro xw _ _ rfl hS hw _;have hS:=lA hS;(try (have hq:=fE hS hw))))|(apply bn.ft (KW fm t.cf pn t.gE s.nJ _ s.ay up hll IW);(·exact wA);(·exact sA);(·first|exact pA|exact kA);rintro _ _ _ hS hw _;have hS:=lA hS;have hq:=fE hS hw)|(apply DG hF Di t.bN Tw hB.rU h7;(·exact wA);(·exact sA);(·first|exact pA|exact kA);)|(apply bn.ft (yJ b _ _ _ _ _ _ _ _ _ _ _);(·exact wA);(·exact sA);(·first|exact pA|exact kA);rintro _ _ _ hS hw _;have hS:=lA hS;have hq:=fE hS hw)|(show c8 _ _ _ _ _ _;refine nx ?_)|(refine wc rfl (λhc=>?_) (λhc=>?_)<;>(try simp at hc)<;>(try omega))|(refine ib (λhc=>?_) (λhc=>?_)<;>(try omega)<;>(try simp (disch:=omega) only [aA,aw])))
     try simp only [qm] at hS
     refine⟨_,by first|rfl|(simp;rfl),by first|trivial|rfl|(simp;done),?_⟩;apply gF.bS;apply ah.mw
     (·exact sA)
     . dsimp only [jb,aT.pG,aT.to,aT.pz,aT.gy,aT.fi,aT.kw,aT.d]
       (try simp only [dB,dL,fa])
       (·first|exact pA|exact kA)
     (·first|exact pA|exact kA)
     all_goals(first|exact 0|exact undef)
   have e:t.bS s=({ t with fL:=none,gH:=t.gH++t.dF }:aT).kw 1:=by
    unfold aT.bS aT.oS;rw [aw (by omega),aA h1,aw h2,h1]
   have h3:s.ay.length=0:=(by omega);rw [e];intro A F hw dA;refine aN kaN λ_=>?_;dsimp only [aa,af] at dA;obtain⟨⟨cW,eD,kC,fm,vs,vo⟩,hS⟩:=gF.open dA .z;clear dA;dsimp only [jb,aa,af] at hS;rw [dB,dL,fa] at hS;dsimp only [dY,go,dX,gk,gq,lF] at hS;have hq:=fE hS hw
   repeat' (first|(with_reducible apply SF;(·first|(simp;done)|(simp;rfl));(·first|(simp;done)|(simp;rfl));(·exact wA);(·exact sA);(·first|exact pA|exact kA);(·first|exact AW.bY _ _|((repeat' (first|apply aE.z|apply aE.s));done)|(simp [hq];(repeat' (first|rfl|refine⟨rfl,?_⟩));done)|(simp;done)|(simp;rfl)|(simp [hq];done)|(simp [hq];rfl));(·first|omega|(simp;omega));(·intro _ _;trivial);rintro _ _ _ hS hw _;(try dsimp only [AW.bd] at hS);have hq:=fE hS hw)|(with_reducible apply Hw;(·first|(simp;done)|(simp;rfl));(·first|(simp;done)|(simp;rfl));(·exact wA);(·exact sA);(·first|exact pA|exact kA);(·first|exact AW.bY _ _|((repeat' (first|apply aE.z|apply aE.s));done)|(simp [hq];(repeat' (first|rfl|refine⟨rfl,?_⟩));done)|(simp;done)|(simp;rfl)|(simp [hq];done)|(simp [hq];rfl));(·first|omega|(simp;omega));(·intro _ _;trivial);rintro _ _ _ hS hw _;(try dsimp only [AW.bd] at hS);have hq:=fE hS hw)|(refine kY λR hR=>?_;simp [ar,ax,hq,VE,h1,h3,AW.ab,aG];try simp (disch:=omega) only [aA,aw,ar,ax])|(refine hR _ _ ?_;clear hR R)|(refine hK _ _ ?_;clear hK K)|refine nx ?_|refine wn λK hK=>?_|simp only [wS,oG,oF,oE,oD,oC,oB]|refine wl qj oG (by decide +kernel) λK hK=>?_|refine wl qj oF (by decide +kernel) λK hK=>?_|refine wl qj oE (by decide +kernel) λK hK=>?_|refine wl qj oD (by decide +kernel) λK hK=>?_|refine wl qj oC (by decide +kernel) λK hK=>?_|refine wl qj oB (by decide +kernel) λK hK=>?_|(apply fp (vI cW s);(·exact wA);(·exact sA);(·first|exact pA|exact kA);)|(apply fp (JW cW s);(·exact wA);(·exact sA);(·first|exact pA|exact kA);)|(apply d7.ft (TE cW s hf1);(·exact wA);(·exact sA);(·first|exact pA|exact kA);(rintro xw _ _ rfl hS hw _;have hS:=lA hS;(try (have hq:=fE hS hw))))|(apply DG hF Di t.bN Tw hB.rU h7;(·exact wA);(·exact sA);(·first|exact pA|exact kA);)|(apply bn.ft (yJ b _ _ _ _ _ _ _ _ _ _ _);(·exact wA);(·exact sA);(·first|exact pA|exact kA);rintro _ _ _ hS hw _;have hS:=lA hS;have hq:=fE hS hw)|(show c8 _ _ _ _ _ _;refine nx ?_)|(refine wc rfl (λhc=>?_) (λhc=>?_)<;>(try simp at hc)<;>(try omega))|(refine ib (λhc=>?_) (λhc=>?_)<;>(try omega)<;>(try simp (disch:=omega) only [aA,aw])))
   try simp only [qm] at hS
   refine⟨_,by first|rfl|(simp;rfl),by first|trivial|rfl|(simp;done),?_⟩;apply gF.bS;apply ah.mw
   (·exact sA)
   . dsimp only [jb,aT.pG,aT.to,aT.pz,aT.gy,aT.fi,aT.kw,aT.d]
     (try simp only [dB,dL,fa])
     (·first|exact pA|exact kA)
   (·first|exact pA|exact kA)
   all_goals(first|exact 0|exact undef)
 by_cases h9:s.aC=9
 . obtain⟨Lk,Mf⟩:=Di.at Tr;have hcell:q.b8[q.off+t.d.bN.toNat*5+4]? = some (.int .i64 (t.wC t.bN).bR):=by
    rw [him];exact KY Mf 4 (by omega)
   have Dg:q.off+t.d.bN.toNat*5+5<=q.b8.length:=Lk;have JP:0<=t.d.bN:=Tw;have kS:t.d.bN<(t.aC.length:Int):=xS;by_cases h2:t.d.iR<(t.wC t.bN).bR
   . have e:t.bS s=({ t with fL:=none,dE:=t.lH }:aT).to t.bN:=by
      unfold aT.bS aT.oS;rw [aA h9,aA (show t.iR<(t.wC t.bN).bR from h2),aw h1]
     rw [e];intro A F hw dA;refine aN kaN λ_=>?_;dsimp only [aa,af] at dA;obtain⟨⟨cW,eD,kC,fm,vs,vo⟩,hS⟩:=gF.open dA .z;clear dA;dsimp only [jb,aa,af] at hS;rw [dB,dL,fa] at hS;dsimp only [dY,go,dX,gk,gq,lF] at hS;have hq:=fE hS hw
     repeat' (first|(refine kY λR hR=>?_;simp [ar,ax,hq,VE,h1,h9,h2,hcell,JP,kS,AW.ab,aG];try simp (disch:=omega) only [aA,aw,ar,ax])|(refine hR _ _ ?_;clear hR R)|(refine hK _ _ ?_;clear hK K)|refine nx ?_|refine wn λK hK=>?_|simp only [wS,oG,oF,oE,oD,oC,oB]|refine wl qj oG (by decide +kernel) λK hK=>?_|refine wl qj oF (by decide +kernel) λK hK=>?_|refine wl qj oE (by decide +kernel) λK hK=>?_|refine wl qj oD (by decide +kernel) λK hK=>?_|refine wl qj oC (by decide +kernel) λK hK=>?_|refine wl qj oB (by decide +kernel) λK hK=>?_|(apply fp (vI cW s);(·exact wA);(·exact sA);(·first|exact pA|exact kA);)|(apply bn.ft (yJ b _ _ _ _ _ _ _ _ _ _ _);(·exact wA);(·exact sA);(·first|exact pA|exact kA);rintro _ _ _ hS hw _;have hS:=lA hS;have hq:=fE hS hw)|(show c8 _ _ _ _ _ _;refine nx ?_)|(refine wc rfl (λhc=>?_) (λhc=>?_)<;>(try simp at hc)<;>(try omega))|(refine ib (λhc=>?_) (λhc=>?_)<;>(try omega)<;>(try simp (disch:=omega) only [aA,aw])))
     try simp only [qm] at hS
     refine⟨_,by first|rfl|(simp;rfl),by first|trivial|rfl|(simp;done),?_⟩;apply gF.bS;apply ah.mw
     (·exact sA)
     . dsimp only [jb,aT.pG,aT.to,aT.pz,aT.gy,aT.fi,aT.kw,aT.d]
       (try simp only [dB,dL,fa])
       (·first|exact pA|exact kA)
     (·first|exact pA|exact kA)
     all_goals(first|exact 0|exact undef)
   have e:t.bS s=({ t with fL:=none,dE:=t.lH }:aT).kw 5:=by
    unfold aT.bS aT.oS;rw [aA h9,aw (show ¬t.iR<(t.wC t.bN).bR from h2),aw h1]
   rw [e];intro A F hw dA;refine aN kaN λ_=>?_;dsimp only [aa,af] at dA;obtain⟨⟨cW,eD,kC,fm,vs,vo⟩,hS⟩:=gF.open dA .z;clear dA;dsimp only [jb,aa,af] at hS;rw [dB,dL,fa] at hS;dsimp only [dY,go,dX,gk,gq,lF] at hS;have hq:=fE hS hw
   repeat' (first|(with_reducible apply Hw;(·first|(simp;done)|(simp;rfl));(·first|(simp;done)|(simp;rfl));(·exact wA);(·exact sA);(·first|exact pA|exact kA);(·first|exact AW.bY _ _|((repeat' (first|apply aE.z|apply aE.s));done)|(simp [hq];(repeat' (first|rfl|refine⟨rfl,?_⟩));done)|(simp;done)|(simp;rfl)|(simp [hq];done)|(simp [hq];rfl));(·first|omega|(simp;omega));(·intro _ _;trivial);rintro _ _ _ hS hw _;(try dsimp only [AW.bd] at hS);have hq:=fE hS hw)|(refine kY λR hR=>?_;simp [ar,ax,hq,VE,h1,h9,h2,hcell,JP,kS,AW.ab,aG];try simp (disch:=omega) only [aA,aw,ar,ax])|(refine hR _ _ ?_;clear hR R)|(refine hK _ _ ?_;clear hK K)|refine nx ?_|refine wn λK hK=>?_|simp only [wS,oG,oF,oE,oD,oC,oB]|refine wl qj oG (by decide +kernel) λK hK=>?_|refine wl qj oF (by decide +kernel) λK hK=>?_|refine wl qj oE (by decide +kernel) λK hK=>?_|refine wl qj oD (by decide +kernel) λK hK=>?_|refine wl qj oC (by decide +kernel) λK hK=>?_|refine wl qj oB (by decide +kernel) λK hK=>?_|(apply fp (vI cW s);(·exact wA);(·exact sA);(·first|exact pA|exact kA);)|(apply DG hF Di t.bN Tw hB.rU h7;(·exact wA);(·exact sA);(·first|exact pA|exact kA);)|(apply bn.ft (yJ b _ _ _ _ _ _ _ _ _ _ _);(·exact wA);(·exact sA);(·first|exact pA|exact kA);rintro _ _ _ hS hw _;have hS:=lA hS;have hq:=fE hS hw)|(show c8 _ _ _ _ _ _;refine nx ?_)|(refine wc rfl (λhc=>?_) (λhc=>?_)<;>(try simp at hc)<;>(try omega))|(refine ib (λhc=>?_) (λhc=>?_)<;>(try omega)<;>(try simp (disch:=omega) only [aA,aw])))
   try simp only [qm] at hS
   refine⟨_,by first|rfl|(simp;rfl),by first|trivial|rfl|(simp;done),?_⟩;apply gF.bS;apply ah.mw
   (·exact sA)
   . dsimp only [jb,aT.pG,aT.to,aT.pz,aT.gy,aT.fi,aT.kw,aT.d]
     (try simp only [dB,dL,fa])
     (·first|exact pA|exact kA)
   (·first|exact pA|exact kA)
   all_goals(first|exact 0|exact undef)
 have e:t.bS s=({ t with fL:=none,dE:=t.lH }:aT).kw s.aC:=by
  unfold aT.bS aT.oS;rw [aw h9,aw h1]
 rw [e];intro A F hw dA;refine aN kaN λ_=>?_;dsimp only [aa,af] at dA;obtain⟨⟨cW,eD,kC,fm,vs,vo⟩,hS⟩:=gF.open dA .z;clear dA;dsimp only [jb,aa,af] at hS;rw [dB,dL,fa] at hS;dsimp only [dY,go,dX,gk,gq,lF] at hS;have hq:=fE hS hw
 repeat' (first|(with_reducible apply Hw;(·first|(simp;done)|(simp;rfl));(·first|(simp;done)|(simp;rfl));(·exact wA);(·exact sA);(·first|exact pA|exact kA);(·first|exact AW.bY _ _|((repeat' (first|apply aE.z|apply aE.s));done)|(simp [hq];(repeat' (first|rfl|refine⟨rfl,?_⟩));done)|(simp;done)|(simp;rfl)|(simp [hq];done)|(simp [hq];rfl));(·first|omega|(simp;omega));(·intro _ _;trivial);rintro _ _ _ hS hw _;(try dsimp only [AW.bd] at hS);have hq:=fE hS hw)|(refine kY λR hR=>?_;simp [ar,ax,hq,VE,h1,h9,AW.ab,aG];try simp (disch:=omega) only [aA,aw,ar,ax])|(refine hR _ _ ?_;clear hR R)|(refine hK _ _ ?_;clear hK K)|refine nx ?_|refine wn λK hK=>?_|simp only [wS,oG,oF,oE,oD,oC,oB]|refine wl qj oG (by decide +kernel) λK hK=>?_|refine wl qj oF (by decide +kernel) λK hK=>?_|refine wl qj oE (by decide +kernel) λK hK=>?_|refine wl qj oD (by decide +kernel) λK hK=>?_|refine wl qj oC (by decide +kernel) λK hK=>?_|refine wl qj oB (by decide +kernel) λK hK=>?_|(apply fp (vI cW s);(·exact wA);(·exact sA);(·first|exact pA|exact kA);)|(apply DG hF Di t.bN Tw hB.rU h7;(·exact wA);(·exact sA);(·first|exact pA|exact kA);)|(apply bn.ft (yJ b _ _ _ _ _ _ _ _ _ _ _);(·exact wA);(·exact sA);(·first|exact pA|exact kA);rintro _ _ _ hS hw _;have hS:=lA hS;have hq:=fE hS hw)|(show c8 _ _ _ _ _ _;refine nx ?_)|(refine wc rfl (λhc=>?_) (λhc=>?_)<;>(try simp at hc)<;>(try omega))|(refine ib (λhc=>?_) (λhc=>?_)<;>(try omega)<;>(try simp (disch:=omega) only [aA,aw])))
 try simp only [qm] at hS
 refine⟨_,by first|rfl|(simp;rfl),by first|trivial|rfl|(simp;done),?_⟩;apply gF.bS;apply ah.mw
 (·exact sA)
 . dsimp only [jb,aT.pG,aT.to,aT.pz,aT.gy,aT.fi,aT.kw,aT.d]
   (try simp only [dB,dL,fa])
   (·first|exact pA|exact kA)
 (·first|exact pA|exact kA)
 all_goals(first|exact 0|exact undef)
theorem GW (hF:FOK) (q:oh) (b:Nat) (t:aT) (s:aJ) (i:bm) (dB:t.fL=some s) (dL:t.dM=none) (fa:t.dI=none) (hB:Ru t) (hi:cg i=0) (dy:t.aW=true->i.op=12\/i.op=13) (hwk:t.aW=false->d6 t.aC t.bN.toNat=7/\0<=t.bN) (up:∀x∈s.ay,x<2^62) (UC:s.ay.length<=8) (Di:CR q t.aC) :
 bn qa 91 [pv b,j4 i] [.h (gF q b t)] (λ_=>True) (λ_=>[.h (gF q b (t.tx i s))]):=by
 have kO:0<=t.pc/\t.pc<2^40:=hB.pc;have YU:t.dF.length<2^30:=by have:=hB.gH;omega
 obtain⟨r1,_⟩:=mY hi;obtain⟨op,i1,i2,i3,bR⟩:=i;dsimp only at dy r1;unfold j4;by_cases h1:s.aF=2
 . cases hs:t.aW with
   | true=>
     have yk:t.d.aW=true:=hs;have e:t.tx ⟨op,i1,i2,i3,bR⟩ s=t.ln ⟨op,i1,i2,i3,bR⟩ s:=by
      unfold aT.tx;rw [aA h1,aA hs]
     have hes:=Ff q b t s ⟨op,i1,i2,i3,bR⟩ dB dL fa hB (dy hs) hi;rw [e];intro A F hw dA;refine aN kau λ_=>?_;dsimp only [aa,af] at dA;obtain⟨⟨cW,eD,kC,fm,vs,vo⟩,hS⟩:=gF.open dA .z;clear dA;dsimp only [jb,aa,af] at hS;rw [dB,dL,fa] at hS;dsimp only [dY,go,dX,gk,gq,lF] at hS;have hq:=fE hS hw;revert hq hS hw;refine Wu (J2 (Tg.mk (n:=10) (λ{A L K k}=>fp (A:=A) (L:=L) (K:=K) (k:=k) (BB cW s))) (Tg.mk (n:=34) @hes)) (J3 h1 yk bE) ?_<;>(unhygienic intros);exact⟨_,by first|rfl|(simp;rfl),trivial,ah.bS hS (.s .z (.s (by repeat' (first|apply aE.z|apply aE.s)) .z))⟩
   | false=>
     have yk:t.d.aW=false:=hs;have e:t.tx ⟨op,i1,i2,i3,bR⟩ s=t.bS s:=by
      unfold aT.tx;rw [aA h1,aw (by rw [hs];decide)]
     have hes:=PR hF q b t s dB dL fa hB (hwk hs).1 (hwk hs).2 up UC Di;rw [e];intro A F hw dA;refine aN kau λ_=>?_;dsimp only [aa,af] at dA;obtain⟨⟨cW,eD,kC,fm,vs,vo⟩,hS⟩:=gF.open dA .z;clear dA;dsimp only [jb,aa,af] at hS;rw [dB,dL,fa] at hS;dsimp only [dY,go,dX,gk,gq,lF] at hS;have hq:=fE hS hw;revert hq hS hw;(repeat first|clear hq|clear hS|clear hw|revert hc|revert R|revert K);refine Wu (J2 (Tg.mk (n:=10) (λ{A L K k}=>fp (A:=A) (L:=L) (K:=K) (k:=k) (BB cW s))) (Tg.mk (n:=34) @hes)) (J3 h1 yk bE) ?_<;>(unhygienic intros);exact⟨_,by first|rfl|(simp;rfl),trivial,ah.bS hS (.s .z (.s (by repeat' (first|apply aE.z|apply aE.s)) .z))⟩
 cases hs:t.aW with
 | true=>
   have yk:t.d.aW=true:=hs;have e:t.tx ⟨op,i1,i2,i3,bR⟩ s=t:=by
    unfold aT.tx;rw [aw h1,aA hs]
   rw [e];intro A F hw dA;refine aN kau λ_=>?_;dsimp only [aa,af] at dA;obtain⟨⟨cW,eD,kC,fm,vs,vo⟩,hS⟩:=gF.open dA .z;clear dA;dsimp only [jb,aa,af] at hS;rw [dB,dL,fa] at hS;dsimp only [dY,go,dX,gk,gq,lF] at hS;have hq:=fE hS hw;revert hq hS hw;(repeat first|clear hq|clear hS|clear hw|revert hc|revert R|revert K);refine W (J1 (Tg.mk (n:=10) (λ{A L K k}=>fp (A:=A) (L:=L) (K:=K) (k:=k) (BB cW s)))) (J3 h1 yk bE) ?_<;>(unhygienic intros);refine⟨_,by first|rfl|(simp;rfl),by first|trivial|rfl|(simp;done),?_⟩;apply gF.bS
   (·exact sA)
   . dsimp only [jb,aT.pG,aT.to,aT.pz,aT.gy,aT.fi,aT.kw,aT.d]
     (try simp only [dB,dL,fa])
     (·first|exact pA|exact kA)
   (·first|exact pA|exact kA)
   all_goals(first|exact 0|exact undef)
 | false=>
   have yk:t.d.aW=false:=hs;by_cases h2:op=10
   . subst h2;have ha:=r1 rfl;have e:t.tx ⟨10,i1,i2,i3,bR⟩ s=(t.fi i1 1 s.value).pG:=by
      unfold aT.tx;rw [aw h1,aw (by rw [hs];decide),aA rfl]
     rw [e];intro A F hw dA;refine aN kau λ_=>?_;dsimp only [aa,af] at dA;obtain⟨⟨cW,eD,kC,fm,vs,vo⟩,hS⟩:=gF.open dA .z;clear dA;dsimp only [jb,aa,af] at hS;rw [dB,dL,fa] at hS;dsimp only [dY,go,dX,gk,gq,lF] at hS;have hq:=fE hS hw;revert hq hS hw;(repeat first|clear hq|clear hS|clear hw|revert hc|revert R|revert K);refine Wu (J3 (Tg.mk (n:=10) (λ{A L K k}=>fp (A:=A) (L:=L) (K:=K) (k:=k) (BB cW s))) (Tg.mk (n:=36) (λx1 x2 x3 x4 x5 x6=>Lv b cW t.d x1 x2 x3 x4 x5 x6 s t.dF i1 1 ha YU)) (Tg.mk (n:=37) (λx1 x2 x3 x4 x5 x6 x7 x8 x9=>lc b { t.d with dE:=t.d.dE.set i1 s.value } x1 x2 x3 x4 x5 x6 x7 x8 x9 kO))) (J3 h1 yk bE) ?_<;>(unhygienic intros);refine⟨_,by first|rfl|(simp;rfl),by first|trivial|rfl|(simp;done),?_⟩;apply gF.bS
     (·exact sA)
     . dsimp only [jb,aT.pG,aT.to,aT.pz,aT.gy,aT.fi,aT.kw,aT.d]
       (try simp only [dB,dL,fa])
       (·first|exact pA|exact kA)
     (·first|exact pA|exact kA)
     all_goals(first|exact 0|exact undef)
   by_cases h3:op=14
   . subst h3;have ha:=r1 rfl;have e:t.tx ⟨14,i1,i2,i3,bR⟩ s=(t.fi i1 2 s.value).pG:=by
      unfold aT.tx;rw [aw h1,aw (by rw [hs];decide),aw (show ¬(14:Int)=10 by decide),aA rfl]
     rw [e];intro A F hw dA;refine aN kau λ_=>?_;dsimp only [aa,af] at dA;obtain⟨⟨cW,eD,kC,fm,vs,vo⟩,hS⟩:=gF.open dA .z;clear dA;dsimp only [jb,aa,af] at hS;rw [dB,dL,fa] at hS;dsimp only [dY,go,dX,gk,gq,lF] at hS;have hq:=fE hS hw;revert hq hS hw;(repeat first|clear hq|clear hS|clear hw|revert hc|revert R|revert K);refine Wu (J3 (Tg.mk (n:=10) (λ{A L K k}=>fp (A:=A) (L:=L) (K:=K) (k:=k) (BB cW s))) (Tg.mk (n:=36) (λx1 x2 x3 x4 x5 x6=>Lv b cW t.d x1 x2 x3 x4 x5 x6 s t.dF i1 2 ha YU)) (Tg.mk (n:=37) (λx1 x2 x3 x4 x5 x6 x7 x8 x9=>lc b { t.d with dE:=t.d.dE.set i1 s.value } x1 x2 x3 x4 x5 x6 x7 x8 x9 kO))) (J3 h1 yk bE) ?_<;>(unhygienic intros);refine⟨_,by first|rfl|(simp;rfl),by first|trivial|rfl|(simp;done),?_⟩;apply gF.bS
     (·exact sA)
     . dsimp only [jb,aT.pG,aT.to,aT.pz,aT.gy,aT.fi,aT.kw,aT.d]
       (try simp only [dB,dL,fa])
       (·first|exact pA|exact kA)
     (·first|exact pA|exact kA)
     all_goals(first|exact 0|exact undef)
   have e:t.tx ⟨op,i1,i2,i3,bR⟩ s=t.pG:=by
    unfold aT.tx;rw [aw h1,aw (by rw [hs];decide),aw h2,aw h3]
   rw [e];intro A F hw dA;refine aN kau λ_=>?_;dsimp only [aa,af] at dA;obtain⟨⟨cW,eD,kC,fm,vs,vo⟩,hS⟩:=gF.open dA .z;clear dA;dsimp only [jb,aa,af] at hS;rw [dB,dL,fa] at hS;dsimp only [dY,go,dX,gk,gq,lF] at hS;have hq:=fE hS hw;revert hq hS hw;(repeat first|clear hq|clear hS|clear hw|revert hc|revert R|revert K);refine Wu (J2 (Tg.mk (n:=10) (λ{A L K k}=>fp (A:=A) (L:=L) (K:=K) (k:=k) (BB cW s))) (Tg.mk (n:=37) (λx1 x2 x3 x4 x5 x6 x7 x8 x9=>lc b t.d x1 x2 x3 x4 x5 x6 x7 x8 x9 kO))) (J5 h1 yk h2 h3 bE) ?_<;>(unhygienic intros);refine⟨_,by first|rfl|(simp;rfl),by first|trivial|rfl|(simp;done),?_⟩;apply gF.bS
   (·exact sA)
   . dsimp only [jb,aT.pG,aT.to,aT.pz,aT.gy,aT.fi,aT.kw,aT.d]
     (try simp only [dB,dL,fa])
     (·first|exact pA|exact kA)
   (·first|exact pA|exact kA)
   all_goals(first|exact 0|exact undef)
end
end Go.Stx
