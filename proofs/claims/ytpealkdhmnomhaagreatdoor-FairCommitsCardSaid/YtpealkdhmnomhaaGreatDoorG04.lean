/-
 The program's check of an instruction.
-/
import Derived.Test.YtpealkdhmnomhaaGreatDoorG03
import Derived.Test.YtpealkdhmnomhaaGreatDoorF4
set_option linter.unusedVariables false
set_option linter.unusedSimpArgs false
set_option linter.unusedSectionVars false
set_option maxRecDepth 20000
set_option maxHeartbeats 4000000
open Bool renaming and_eq_true->Zd
open Go.IntKind renaming i64->qY
open Go.Lib renaming indexByte->kaP
open Go.Proofs.Tryz renaming prog->qV
open Go.Stx.AW.le renaming alloc->qW
open List renaming all_eq_true->Zr,mem_range->Zn
open Bool renaming false->qk,true->qg
open Go.IntKind renaming i64->qa
open Go.Value renaming bool->qn,int->qb,string->qE
open Option renaming some->qc
namespace Go.Stx
open Go Go.Proofs
attribute [local irreducible] TW bI cM aV aB aL cU dh
section
namespace TGFbI
theorem nO [Gl] {A:AW} {L:List It} {T:Prop} (hS:aj A L) (hw:A.Wf) (h':(aW A L/\bz A L/\cd L)=T:=by first|(dsimp only [aa,ah,aW,bz,cd,ff];done)|exact rfl):T:=h'▸hS.eX hw
end TGFbI
open TGFbI
open Go.RowKit
variable [Gl]
def kV:List (List UInt8×List UInt8):=[([110,111,112],[]),([99,111,110,115,116],[65,73]),([109,111,118,101],[65,66]),([],[65,66,67]),([106,117,109,112],[73]),([122,101,114,111],[65,73]),
 ([110,111,110,122,101,114,111],[65,73]),([98,101,103,105,110],[73]),([99,111,109,109,105,116],[]),([97,98,111,114,116],[]),([116,114,101,97,100],[65,66,73]),([116,119,114,105,116,101],[65,66,73]),
 ([112,114,101,97,100],[65,66,73]),([112,119,114,105,116,101],[65,66,73]),([97,108,108,111,99],[65,73]),([102,114,101,101],[65]),([102,101,110,99,101],[]),([111,117,116,99,111,109,101],[65])]
def gY:List Value:=kV.flatMap λx=>[qE (bs x.1),qE (bs x.2)]
def ln (k:Nat):List UInt8:=(kV.getD k ([],[])).2
structure FOK [Gl]:Prop where
 n:Gl.N=4
 ok:Gl.ok 0=true
 forms:∃e fr,Gl.B 0=some (.cells gY.toArray e fr)
theorem TB {k:Nat} (hk:k<18):gY[k*2+1]? = qc (qE (bs (ln k))):=by
 have h:((List.range 18).all λk=>match gY[k*2+1]? with|some (qE s)=>decide (s.data.toList=ln k)|_=>qk)=qg:=Ye
 have:=Zr.1 h k (Zn.2 hk);cases hc:gY[k*2+1]? with
 | none=>rw [hc] at this;cases this
 | some v=>
   rw [hc] at this;cases v with
   | string s=>
     have h2:s.data.toList=ln k:=by simpa using this
     rw [<-h2];rfl
   | _=>cases this
theorem caps {k:Nat} (hk:k<18):decide (0<=kaP (ln k) 65)=mZ k/\decide (0<=kaP (ln k) 66)=lj k/\decide (0<=kaP (ln k) 67)=mY k:=by
 have h:((List.range 18).all λk=>(decide (0<=kaP (ln k) 65) == mZ k) && (decide (0<=kaP (ln k) 66) == lj k) && (decide (0<=kaP (ln k) 67) == mY k))=qg:=Ye
 have:=Zr.1 h k (Zn.2 hk);simp only [Zd,beq_iff_eq] at this;exact⟨this.1.1,this.1.2,this.2⟩
theorem uQ (s:List UInt8) (c:UInt8) (A:AW):za qV 190 [qE (bs s),qE ⟨#[c]⟩] A (qn (decide (0<=kaP s c))):=by
 refine⟨by kernel_rfl,rfl,λm w iq hs hl=>?_⟩;have e2:iq = #[qE (bs s),qE ⟨#[c]⟩]:=by
  apply Array.ext';obtain⟨v1,l1,h1,h2,h3⟩:=hl.nj;obtain⟨v2,l2,rfl,h4,h5⟩:=h3.nj;rw [h1,h2.oM rfl,h4.oM rfl,h5.sj]
 subst e2;refine(Tryz.strings_Contains_one (bs s) c w).mono ?_;rintro e w' ⟨rfl,rfl⟩;exact⟨rfl,⟨λ_ _=>rfl,rfl,rfl,rfl,Nat.le_refl _⟩⟩
theorem Nh (x:bq) (A:AW):aB qV 191 [.agg (az x).toArray] A (λu A'=>u=qn (fG x.op x.cy)/\A=A'):=by
 refine aB.tF (V:=qn (fG x.op x.cy)) Yb (λhw=>?_) Ye;refine aK Tryz.func191 λ_=>?_;obtain⟨op,a,b,c,cy⟩:=x;by_cases o1:op=1
 . subst o1;have he:fG 1 cy=qg:=Yr;rw [he];refine W cx (J2 @AW.ab @az.eq_1) ?_<;>intros
   all_goals (simp [aS,aX,bA,aQ,aR]<;>exact qW A _)
 by_cases oE:op=10
 . subst oE;have he:fG 10 cy=qg:=Yr;rw [he];refine W cx (J3 o1 @AW.ab @az.eq_1) ?_<;>intros
   all_goals (simp [aS,aX,bA,aQ,aR]<;>exact qW A _)
 by_cases o11:op=11
 . subst o11;have he:fG 11 cy=qg:=Yr;rw [he];refine W cx (J4 o1 oE @AW.ab @az.eq_1) ?_<;>intros
   all_goals (simp [aS,aX,bA,aQ,aR]<;>exact qW A _)
 by_cases o12:op=12
 . subst o12;have he:fG 12 cy=qg:=Yr;rw [he];refine W cx (J5 o1 oE o11 @AW.ab @az.eq_1) ?_<;>intros
   all_goals (simp [aS,aX,bA,aQ,aR]<;>exact qW A _)
 by_cases o13:op=13
 . subst o13;have he:fG 13 cy=qg:=Yr;rw [he];refine W cx (J6 o1 oE o11 o12 @AW.ab @az.eq_1) ?_<;>intros
   all_goals (simp [aS,aX,bA,aQ,aR]<;>exact qW A _)
 by_cases o3:op=3
 . subst o3;have he:fG 3 cy=(decide (0<=cy) && decide (cy<22)):=Yr;rw [he];by_cases q1:0<=cy
   . by_cases q2:cy<22
     . skip
       refine W cx (J9 o1 oE o11 o12 o13 q1 q2 @AW.ab @az.eq_1) ?_<;>intros
       all_goals (simp [aS,aX,bA,aQ,aR,q1,q2]<;>exact qW A _)
     skip
     refine W cx (J9 o1 oE o11 o12 o13 q1 q2 @AW.ab @az.eq_1) ?_<;>intros
     all_goals (simp [aS,aX,bA,aQ,aR,q1,q2]<;>exact qW A _)
   skip
   refine W cx (J8 o1 oE o11 o12 o13 q1 @AW.ab @az.eq_1) ?_<;>intros
   all_goals (simp [aS,aX,bA,aQ,aR,q1]<;>exact qW A _)
 by_cases o4:op=4
 . subst o4;have he:fG 4 cy=(decide (0<=cy) && decide (cy<=64)):=Yr;rw [he];by_cases q1:0<=cy
   . by_cases q2:cy<=64
     . skip
       refine W cx (E5 o1 oE o11 o12 o13 o3 q1 q2 @AW.ab @az.eq_1) ?_<;>intros
       all_goals (simp [aS,aX,bA,aQ,aR,q1,q2]<;>exact qW A _)
     skip
     refine W cx (E5 o1 oE o11 o12 o13 o3 q1 q2 @AW.ab @az.eq_1) ?_<;>intros
     all_goals (simp [aS,aX,bA,aQ,aR,q1,q2]<;>exact qW A _)
   skip
   refine W cx (J9 o1 oE o11 o12 o13 o3 q1 @AW.ab @az.eq_1) ?_<;>intros
   all_goals (simp [aS,aX,bA,aQ,aR,q1]<;>exact qW A _)
 by_cases o5:op=5
 . subst o5;have he:fG 5 cy=(decide (0<=cy) && decide (cy<=64)):=Yr;rw [he];by_cases q1:0<=cy
   . by_cases q2:cy<=64
     . skip
       refine W cx (H7 o1 oE o11 o12 o13 o3 o4 q1 q2 @AW.ab @az.eq_1) ?_<;>intros
       all_goals (simp [aS,aX,bA,aQ,aR,q1,q2]<;>exact qW A _)
     skip
     refine W cx (H7 o1 oE o11 o12 o13 o3 o4 q1 q2 @AW.ab @az.eq_1) ?_<;>intros
     all_goals (simp [aS,aX,bA,aQ,aR,q1,q2]<;>exact qW A _)
   skip
   refine W cx (E5 o1 oE o11 o12 o13 o3 o4 q1 @AW.ab @az.eq_1) ?_<;>intros
   all_goals (simp [aS,aX,bA,aQ,aR,q1]<;>exact qW A _)
 by_cases o6:op=6
 . subst o6;have he:fG 6 cy=(decide (0<=cy) && decide (cy<=64)):=Yr;rw [he];by_cases q1:0<=cy
   . by_cases q2:cy<=64
     . skip
       refine W cx (vZ o1 oE o11 o12 o13 o3 o4 o5 q1 q2 @AW.ab @az.eq_1) ?_<;>intros
       all_goals (simp [aS,aX,bA,aQ,aR,q1,q2]<;>exact qW A _)
     skip
     refine W cx (vZ o1 oE o11 o12 o13 o3 o4 o5 q1 q2 @AW.ab @az.eq_1) ?_<;>intros
     all_goals (simp [aS,aX,bA,aQ,aR,q1,q2]<;>exact qW A _)
   skip
   refine W cx (H7 o1 oE o11 o12 o13 o3 o4 o5 q1 @AW.ab @az.eq_1) ?_<;>intros
   all_goals (simp [aS,aX,bA,aQ,aR,q1]<;>exact qW A _)
 by_cases o7:op=7
 . subst o7;have he:fG 7 cy=(decide (1<=cy) && decide (cy<=8)):=Yr;rw [he];by_cases q1:1<=cy
   . by_cases q2:cy<=8
     . skip
       refine W cx (mW o1 oE o11 o12 o13 o3 o4 o5 o6 q1 q2 @AW.ab @az.eq_1) ?_<;>intros
       all_goals (simp [aS,aX,bA,aQ,aR,q1,q2]<;>exact qW A _)
     skip
     refine W cx (mW o1 oE o11 o12 o13 o3 o4 o5 o6 q1 q2 @AW.ab @az.eq_1) ?_<;>intros
     all_goals (simp [aS,aX,bA,aQ,aR,q1,q2]<;>exact qW A _)
   skip
   refine W cx (vZ o1 oE o11 o12 o13 o3 o4 o5 o6 q1 @AW.ab @az.eq_1) ?_<;>intros
   all_goals (simp [aS,aX,bA,aQ,aR,q1]<;>exact qW A _)
 by_cases o14:op=14
 . subst o14;have he:fG 14 cy=(decide (0<=cy) && decide (cy<4)):=Yr;rw [he];by_cases q1:0<=cy
   . by_cases q2:cy<4
     . skip
       refine W cx (y9 o1 oE o11 o12 o13 o3 o4 o5 o6 o7 q1 q2 @AW.ab @az.eq_1) ?_<;>intros
       all_goals (simp [aS,aX,bA,aQ,aR,q1,q2]<;>exact qW A _)
     skip
     refine W cx (y9 o1 oE o11 o12 o13 o3 o4 o5 o6 o7 q1 q2 @AW.ab @az.eq_1) ?_<;>intros
     all_goals (simp [aS,aX,bA,aQ,aR,q1,q2]<;>exact qW A _)
   skip
   refine W cx (mW o1 oE o11 o12 o13 o3 o4 o5 o6 o7 q1 @AW.ab @az.eq_1) ?_<;>intros
   all_goals (simp [aS,aX,bA,aQ,aR,q1]<;>exact qW A _)
 have he:fG op cy=decide (cy=0):=by
  unfold fG;rw [aw Ya,aw o3,aw Ya,aw o7,aw o14]
 rw [he];by_cases q1:cy=0
 . skip
   refine W cx (y9 o1 oE o11 o12 o13 o3 o4 o5 o6 o7 o14 q1 @AW.ab @az.eq_1) ?_<;>intros
   all_goals (simp [aX,bA,aQ,aR,q1]<;>exact qW A _)
 skip
 refine W cx (y9 o1 oE o11 o12 o13 o3 o4 o5 o6 o7 o14 q1 @AW.ab @az.eq_1) ?_<;>intros
 all_goals (simp [aX,bA,aQ,aR,q1]<;>exact qW A _)
end
section
abbrev eJ:List (Nat×Nat):=[(0,0),(1,0),(2,0),(3,0),(4,0),(5,0),(6,0),(7,0),(8,0),(9,2),(10,0)]
namespace TGFbJ
theorem nO [Gl] {A:AW} {L:List It} {T:Prop} (hS:aj A L) (hw:A.Wf) (h':(aW A L/\bz A L/\cd L)=T:=by first|(dsimp only [aa,ah,aW,bz,cd,ff];done)|exact rfl):T:=h'▸hS.eX hw
end TGFbJ
open TGFbJ
section
variable (G1 G2:Gl) (hG:∀g,G1.ok g=qg->G2.ok g=qg)
include hG
theorem Ed {n:Nat} {o:Operand} (h:@AX G1 n o=qg):@AX G2 n o=qg:=by
 cases o with
 | global g=>exact hG g h
 | _=>exact h
theorem M9 {n:Nat} {o:Oper} (h:@oy G1 n o=qg):@oy G2 n o=qg:=by
 unfold oy at h ⊢;rw [Zd] at h ⊢;refine⟨?_,h.2⟩;have h1:=h.1;rw [Array.all_eq_true] at h1 ⊢;exact λi hi=>Ed G1 G2 hG (h1 i hi)
theorem mt {n:Nat}:∀{c:Code},@mu G1 n c=qg->@mu G2 n c=qg
 | .region _ bQ _,h=>by
   unfold mu at h ⊢;rw [Array.all_eq_true] at h ⊢;exact λi hi=>M9 G1 G2 hG (h i hi)
 | .seq a b,h=>by
   unfold mu at h ⊢;rw [Zd] at h ⊢;exact⟨mt h.1,mt h.2⟩
 | .cond c a b,h=>by
   unfold mu at h ⊢;rw [Zd,Zd] at h ⊢;exact⟨⟨Ed G1 G2 hG h.1.1,mt h.1.2⟩,mt h.2⟩
 | .block _ b,h=>by
   unfold mu at h ⊢;exact mt h
 | .loop b,h=>by
   unfold mu at h ⊢;exact mt h
 | .skip,h=>rfl
 | .exit _,h=>rfl
 | .ret,h=>rfl
end
@[reducible] def GlF:Gl:={ B:=λ_=>none,ok:=λg=>g == 0,N:=1,lt:=λg h=>by have:=eq_of_beq h;omega }
variable [Gl]
theorem Qn (mF:Gl.ok 0=qg) {fn:Func} {n:Nat} (h:@N9 GlF fn n=qg):N9 fn n=qg:=by
 have hG:∀g,GlF.ok g=qg->Gl.ok g=qg:=λg hg=>by
  have:g=0:=eq_of_beq hg;subst this;exact mF
 unfold N9 at h ⊢;simp only [Zd] at h ⊢;obtain⟨⟨⟨h1,h2⟩,h3⟩,h4⟩:=h;refine⟨⟨⟨h1,h2⟩,?_⟩,?_⟩;rw [Zr] at h3 ⊢;exact λr hr=>h3 r hr;cases hb:fn.body with
 | none=>rw [hb] at h4;exact h4
 | some c=>rw [hb] at h4;exact mt GlF _ hG h4
theorem d7 (a:Fr) (g:Nat):jt a (.global g)=.pointer (qc ⟨g,0,none⟩):=rfl
theorem IP (hF:FOK) (x:bq) (A:AW):za qV 141 [.agg (az x).toArray] A (qb qa (cW x)):=by
 refine za.of_call rfl ?_;obtain⟨e,fr,hB⟩:=hF.forms;refine aB.look (cs:=gY) hF.ok hB (λk v h=>?_) ?_;refine⟨by simpa using h,?_⟩;have h1:gY.all gg=qg:=Ye
 exact Zr.1 h1 v (List.mem_of_getElem? h);generalize A.ro=A0;have bO:(A0.set 0 (qc (.cells gY qk 1))).bS 0=qc gY:=by simp [AW.ab]
 have jW:(A0.set 0 (qc (.cells gY qk 1))).bk 0=qc (.cells gY qk 1):=Yb
 generalize A0.set 0 (qc (.cells gY qk 1))=A at bO jW;refine EF Tryz.func141 rfl (Qn hF.ok Ye) λhw=>?_;have hz:¬0=A.next:=λe=>by have:=hw.lt jW;omega
 have rA:¬A.next=0:=λe=>hz e.symm;obtain⟨op,a,b,c,cy⟩:=x;by_cases h1:op<0
 . have he:cW ⟨op,a,b,c,cy⟩=10:=(by unfold cW;rw [ay (.inl h1)]);rw [he];refine W (J1 (od eJ)) (J3 h1 @AW.ab @az.eq_1) ?_<;>intros
   all_goals simp [aS,aX,bA,aQ,aR]
 by_cases h2:18<=op
 . have he:cW ⟨op,a,b,c,cy⟩=10:=(by unfold cW;rw [ay (.inr h2)]);rw [he];refine W (J1 (od eJ)) (J4 h1 h2 @AW.ab @az.eq_1) ?_<;>intros
   all_goals simp [aS,aX,bA,aQ,aR]
 obtain⟨k,rfl⟩:∃k:Nat,op=k:=⟨op.toNat,by omega⟩;have hk:k<18:=Ya
 have j9:¬((18:Int)<=k):=Ya
 obtain⟨l1,l2,l3⟩:=caps hk;have hcell:=TB hk;have bW:gY.length=36:=Ye
 have c1:∀A,aB qV 190 [qE (bs (ln k)),qE ((⟨#[65,66,67]⟩:ByteArray).extract 0 1)] A (λu A'=>u=qn (mZ k)/\A=A'):=λA=>by rw [<-l1];exact(uQ (ln k) 65 A).call ⟨rfl,rfl⟩
 have c2:∀A,aB qV 190 [qE (bs (ln k)),qE ((⟨#[65,66,67]⟩:ByteArray).extract 1 2)] A (λu A'=>u=qn (lj k)/\A=A'):=λA=>by rw [<-l2];exact(uQ (ln k) 66 A).call ⟨rfl,rfl⟩
 have c3:∀A,aB qV 190 [qE (bs (ln k)),qE ((⟨#[65,66,67]⟩:ByteArray).extract 2 3)] A (λu A'=>u=qn (mY k)/\A=A'):=λA=>by rw [<-l3];exact(uQ (ln k) 67 A).call ⟨rfl,rfl⟩
 have he:cW ⟨k,a,b,c,cy⟩=if (ip a (mZ k) && ip b (lj k) && ip c (mY k)) && fG k cy then 0 else 11:=by unfold cW;rw [aw Yg]
 rw [he];have cN:=Nh ⟨(k:Int),a,b,c,cy⟩;simp only [az] at cN;generalize fG (k:Int) cy=no at cN ⊢;generalize mZ k=ua at c1 ⊢;generalize lj k=ub at c2 ⊢;generalize mY k=uc at c3 ⊢;generalize OP:ip a ua=ra;generalize GP:ip b ub=rb;generalize zU:ip c uc=rc;have key:∀(r:Int) (u:Bool),ip r u=(if u then decide (0<=r) && decide (r<8) else decide (r=0)):=λ_ _=>rfl;rw [key] at OP GP zU;revert hw;refine W (J1 (od eJ)) (J4 h1 j9 @AW.ab @az.eq_1) ?_<;>(unhygienic intros);refine iH 4 ?_;cases ua with
 | false=>
   by_cases ya0:a=0
   . have ya1:ra=qg:=(by rw [<-OP];simp [ya0]);subst ya1;subst ya0;cases ub with
     | false=>
       by_cases yb0:b=0
       . have Kf:rb=qg:=YZ;subst Kf;subst yb0;cases uc with
         | false=>
           by_cases yc0:c=0
           . have wd:rc=qg:=Yy;subst wd;subst yc0;cases no with
             | false=>
               refine W (J5 (od eJ) @c1 @c2 @c3 @cN) (H7 h1 j9 jW hcell bW hz rA hk @AW.ab @az.eq_1 @d7) ?_<;>intros
               all_goals simp [aS,aX,bA,aQ,aR]
             | true=>
               refine W (J5 (od eJ) @c1 @c2 @c3 @cN) (H7 h1 j9 jW hcell bW hz rA hk @AW.ab @az.eq_1 @d7) ?_<;>intros
               all_goals simp [aX,bA,aQ,aR]
           have wd:rc=qk:=Yy;subst wd;refine W (J5 (od eJ) @c1 @c2 @c3 @cN) (vZ h1 j9 jW hcell bW hz rA hk yc0 @AW.ab @az.eq_1 @d7) ?_<;>intros
           all_goals simp [cZ,aS,aX,bA,aQ,aR]
         | true=>
           by_cases yc0:c<0
           . have wd:rc=qk:=Yo;subst wd;refine W (J5 (od eJ) @c1 @c2 @c3 @cN) (vZ h1 j9 jW hcell bW hz rA hk yc0 @AW.ab @az.eq_1 @d7) ?_<;>intros
             all_goals simp [cZ,aS,aX,bA,aQ,aR]
           by_cases yc2:8<=c
           . have wd:rc=qk:=Yo;subst wd;refine W (J5 (od eJ) @c1 @c2 @c3 @cN) (mW h1 j9 jW hcell bW hz rA hk yc0 yc2 @AW.ab @az.eq_1 @d7) ?_<;>intros
             all_goals simp [cZ,aS,aX,bA,aQ,aR]
           have wd:rc=qg:=Yo;subst wd;cases no with
           | false=>
             refine W (J5 (od eJ) @c1 @c2 @c3 @cN) (mW h1 j9 jW hcell bW hz rA hk yc0 yc2 @AW.ab @az.eq_1 @d7) ?_<;>intros
             all_goals simp [aS,aX,bA,aQ,aR]
           | true=>
             refine W (J5 (od eJ) @c1 @c2 @c3 @cN) (mW h1 j9 jW hcell bW hz rA hk yc0 yc2 @AW.ab @az.eq_1 @d7) ?_<;>intros
             all_goals simp [aX,bA,aQ,aR]
       have Kf:rb=qk:=YZ;subst Kf;refine W (J5 (od eJ) @c1 @c2 @c3 @cN) (vZ h1 j9 jW hcell bW hz rA hk yb0 @AW.ab @az.eq_1 @d7) ?_<;>intros
       all_goals simp [cZ,aS,aX,bA,aQ,aR]
     | true=>
       by_cases yb0:b<0
       . have Kf:rb=qk:=YG;subst Kf;refine W (J5 (od eJ) @c1 @c2 @c3 @cN) (vZ h1 j9 jW hcell bW hz rA hk yb0 @AW.ab @az.eq_1 @d7) ?_<;>intros
         all_goals simp [cZ,aS,aX,bA,aQ,aR]
       by_cases yb2:8<=b
       . have Kf:rb=qk:=YG;subst Kf;refine W (J5 (od eJ) @c1 @c2 @c3 @cN) (mW h1 j9 jW hcell bW hz rA hk yb0 yb2 @AW.ab @az.eq_1 @d7) ?_<;>intros
         all_goals simp [cZ,aS,aX,bA,aQ,aR]
       have Kf:rb=qg:=YG;subst Kf;cases uc with
       | false=>
         by_cases yc0:c=0
         . have wd:rc=qg:=Yy;subst wd;subst yc0;cases no with
           | false=>
             refine W (J5 (od eJ) @c1 @c2 @c3 @cN) (mW h1 j9 jW hcell bW hz rA hk yb0 yb2 @AW.ab @az.eq_1 @d7) ?_<;>intros
             all_goals simp [aS,aX,bA,aQ,aR]
           | true=>
             refine W (J5 (od eJ) @c1 @c2 @c3 @cN) (mW h1 j9 jW hcell bW hz rA hk yb0 yb2 @AW.ab @az.eq_1 @d7) ?_<;>intros
             all_goals simp [aX,bA,aQ,aR]
         have wd:rc=qk:=Yy;subst wd;refine W (J5 (od eJ) @c1 @c2 @c3 @cN) (y9 h1 j9 jW hcell bW hz rA hk yb0 yb2 yc0 @AW.ab @az.eq_1 @d7) ?_<;>intros
         all_goals simp [cZ,aS,aX,bA,aQ,aR]
       | true=>
         by_cases yc0:c<0
         . have wd:rc=qk:=Yo;subst wd;refine W (J5 (od eJ) @c1 @c2 @c3 @cN) (y9 h1 j9 jW hcell bW hz rA hk yb0 yb2 yc0 @AW.ab @az.eq_1 @d7) ?_<;>intros
           all_goals simp [cZ,aS,aX,bA,aQ,aR]
         by_cases yc2:8<=c
         . have wd:rc=qk:=Yo;subst wd;refine W (J5 (od eJ) @c1 @c2 @c3 @cN) (Uc h1 j9 jW hcell bW hz rA hk yb0 yb2 yc0 yc2 @AW.ab @az.eq_1 @d7) ?_<;>intros
           all_goals simp [cZ,aS,aX,bA,aQ,aR]
         have wd:rc=qg:=Yo;subst wd;cases no with
         | false=>
           refine W (J5 (od eJ) @c1 @c2 @c3 @cN) (Uc h1 j9 jW hcell bW hz rA hk yb0 yb2 yc0 yc2 @AW.ab @az.eq_1 @d7) ?_<;>intros
           all_goals simp [aS,aX,bA,aQ,aR]
         | true=>
           refine W (J5 (od eJ) @c1 @c2 @c3 @cN) (Uc h1 j9 jW hcell bW hz rA hk yb0 yb2 yc0 yc2 @AW.ab @az.eq_1 @d7) ?_<;>intros
           all_goals simp [aX,bA,aQ,aR]
   have ya1:ra=qk:=(by rw [<-OP];simp [ya0]);subst ya1;refine W (J5 (od eJ) @c1 @c2 @c3 @cN) (vZ h1 j9 jW hcell bW hz rA hk ya0 @AW.ab @az.eq_1 @d7) ?_<;>intros
   all_goals simp [cZ,aS,aX,bA,aQ,aR]
 | true=>
   by_cases ya0:a<0
   . have ya1:ra=qk:=Y9;subst ya1;refine W (J5 (od eJ) @c1 @c2 @c3 @cN) (vZ h1 j9 jW hcell bW hz rA hk ya0 @AW.ab @az.eq_1 @d7) ?_<;>intros
     all_goals simp [cZ,aS,aX,bA,aQ,aR]
   by_cases ya2:8<=a
   . have ya1:ra=qk:=Y9;subst ya1;refine W (J5 (od eJ) @c1 @c2 @c3 @cN) (mW h1 j9 jW hcell bW hz rA hk ya0 ya2 @AW.ab @az.eq_1 @d7) ?_<;>intros
     all_goals simp [cZ,aS,aX,bA,aQ,aR]
   have ya1:ra=qg:=Y9;subst ya1;cases ub with
   | false=>
     by_cases yb0:b=0
     . have Kf:rb=qg:=YZ;subst Kf;subst yb0;cases uc with
       | false=>
         by_cases yc0:c=0
         . have wd:rc=qg:=Yy;subst wd;subst yc0;cases no with
           | false=>
             refine W (J5 (od eJ) @c1 @c2 @c3 @cN) (mW h1 j9 jW hcell bW hz rA hk ya0 ya2 @AW.ab @az.eq_1 @d7) ?_<;>intros
             all_goals simp [aS,aX,bA,aQ,aR]
           | true=>
             refine W (J5 (od eJ) @c1 @c2 @c3 @cN) (mW h1 j9 jW hcell bW hz rA hk ya0 ya2 @AW.ab @az.eq_1 @d7) ?_<;>intros
             all_goals simp [aX,bA,aQ,aR]
         have wd:rc=qk:=Yy;subst wd;refine W (J5 (od eJ) @c1 @c2 @c3 @cN) (y9 h1 j9 jW hcell bW hz rA hk ya0 ya2 yc0 @AW.ab @az.eq_1 @d7) ?_<;>intros
         all_goals simp [cZ,aS,aX,bA,aQ,aR]
       | true=>
         by_cases yc0:c<0
         . have wd:rc=qk:=Yo;subst wd;refine W (J5 (od eJ) @c1 @c2 @c3 @cN) (y9 h1 j9 jW hcell bW hz rA hk ya0 ya2 yc0 @AW.ab @az.eq_1 @d7) ?_<;>intros
           all_goals simp [cZ,aS,aX,bA,aQ,aR]
         by_cases yc2:8<=c
         . have wd:rc=qk:=Yo;subst wd;refine W (J5 (od eJ) @c1 @c2 @c3 @cN) (Uc h1 j9 jW hcell bW hz rA hk ya0 ya2 yc0 yc2 @AW.ab @az.eq_1 @d7) ?_<;>intros
           all_goals simp [cZ,aS,aX,bA,aQ,aR]
         have wd:rc=qg:=Yo;subst wd;cases no with
         | false=>
           refine W (J5 (od eJ) @c1 @c2 @c3 @cN) (Uc h1 j9 jW hcell bW hz rA hk ya0 ya2 yc0 yc2 @AW.ab @az.eq_1 @d7) ?_<;>intros
           all_goals simp [aS,aX,bA,aQ,aR]
         | true=>
           refine W (J5 (od eJ) @c1 @c2 @c3 @cN) (Uc h1 j9 jW hcell bW hz rA hk ya0 ya2 yc0 yc2 @AW.ab @az.eq_1 @d7) ?_<;>intros
           all_goals simp [aX,bA,aQ,aR]
     have Kf:rb=qk:=YZ;subst Kf;refine W (J5 (od eJ) @c1 @c2 @c3 @cN) (y9 h1 j9 jW hcell bW hz rA hk ya0 ya2 yb0 @AW.ab @az.eq_1 @d7) ?_<;>intros
     all_goals simp [cZ,aS,aX,bA,aQ,aR]
   | true=>
     by_cases yb0:b<0
     . have Kf:rb=qk:=YG;subst Kf;refine W (J5 (od eJ) @c1 @c2 @c3 @cN) (y9 h1 j9 jW hcell bW hz rA hk ya0 ya2 yb0 @AW.ab @az.eq_1 @d7) ?_<;>intros
       all_goals simp [cZ,aS,aX,bA,aQ,aR]
     by_cases yb2:8<=b
     . have Kf:rb=qk:=YG;subst Kf;refine W (J5 (od eJ) @c1 @c2 @c3 @cN) (Uc h1 j9 jW hcell bW hz rA hk ya0 ya2 yb0 yb2 @AW.ab @az.eq_1 @d7) ?_<;>intros
       all_goals simp [cZ,aS,aX,bA,aQ,aR]
     have Kf:rb=qg:=YG;subst Kf;cases uc with
     | false=>
       by_cases yc0:c=0
       . have wd:rc=qg:=Yy;subst wd;subst yc0;cases no with
         | false=>
           refine W (J5 (od eJ) @c1 @c2 @c3 @cN) (Uc h1 j9 jW hcell bW hz rA hk ya0 ya2 yb0 yb2 @AW.ab @az.eq_1 @d7) ?_<;>intros
           all_goals simp [aS,aX,bA,aQ,aR]
         | true=>
           refine W (J5 (od eJ) @c1 @c2 @c3 @cN) (Uc h1 j9 jW hcell bW hz rA hk ya0 ya2 yb0 yb2 @AW.ab @az.eq_1 @d7) ?_<;>intros
           all_goals simp [aX,bA,aQ,aR]
       have wd:rc=qk:=Yy;subst wd;refine W (J5 (od eJ) @c1 @c2 @c3 @cN) (Mg h1 j9 jW hcell bW hz rA hk ya0 ya2 yb0 yb2 yc0 @AW.ab @az.eq_1 @d7) ?_<;>intros
       all_goals simp [cZ,aS,aX,bA,aQ,aR]
     | true=>
       by_cases yc0:c<0
       . have wd:rc=qk:=Yo;subst wd;refine W (J5 (od eJ) @c1 @c2 @c3 @cN) (Mg h1 j9 jW hcell bW hz rA hk ya0 ya2 yb0 yb2 yc0 @AW.ab @az.eq_1 @d7) ?_<;>intros
         all_goals simp [cZ,aS,aX,bA,aQ,aR]
       by_cases yc2:8<=c
       . have wd:rc=qk:=Yo;subst wd;refine W (J5 (od eJ) @c1 @c2 @c3 @cN) (J17 h1 j9 jW hcell bW hz rA hk ya0 ya2 yb0 yb2 yc0 yc2 @AW.ab @az.eq_1 @d7) ?_<;>intros
         all_goals simp [cZ,aS,aX,bA,aQ,aR]
       have wd:rc=qg:=Yo;subst wd;cases no with
       | false=>
         refine W (J5 (od eJ) @c1 @c2 @c3 @cN) (J17 h1 j9 jW hcell bW hz rA hk ya0 ya2 yb0 yb2 yc0 yc2 @AW.ab @az.eq_1 @d7) ?_<;>intros
         all_goals simp [aS,aX,bA,aQ,aR]
       | true=>
         refine W (J5 (od eJ) @c1 @c2 @c3 @cN) (J17 h1 j9 jW hcell bW hz rA hk ya0 ya2 yb0 yb2 yc0 yc2 @AW.ab @az.eq_1 @d7) ?_<;>intros
         all_goals simp [aX,bA,aQ,aR]
end
section
namespace TGFbK
theorem nO [Gl] {A:AW} {L:List It} {T:Prop} (hS:aj A L) (hw:A.Wf) (h':(aW A L/\bz A L/\cd L)=T:=by first|(dsimp only [aa,ah,aW,bz,cd,ff];done)|exact rfl):T:=h'▸hS.eX hw
end TGFbK
open TGFbK
variable [Gl]
theorem uH (hF:FOK) (x:bq) (A:AW):aB qV 141 [.agg (az x).toArray] A (λu A'=>u=qb qa (cW x)/\A=A'):=(IP hF x A).call ⟨rfl,rfl⟩
theorem IO (hF:FOK) (x:bq) (A:AW):aB qV 142 [.agg (az x).toArray] A (λu A'=>u=qb qa (bH x)/\A=A'):=by
 refine aB.tF (V:=qb qa (bH x)) Yb (λhw=>?_) Ye;refine aK Tryz.func142 λ_=>?_;obtain⟨op,a,b,c,cy⟩:=x;have mg:=λA=>uH hF ⟨op,a,b,c,cy⟩ A;simp only [az] at mg;by_cases h0:cW ⟨op,a,b,c,cy⟩=0
 . rw [h0] at mg;by_cases o8:op=8
   . subst o8;have he:bH ⟨8,a,b,c,cy⟩=1:=Yj;rw [he];refine W (J1 @mg) (J2 @AW.ab @az.eq_1) ?_<;>intros
     all_goals (simp [aS,aX,bA,aQ,aR]<;>exact qW A _)
   by_cases o9:op=9
   . subst o9;have he:bH ⟨9,a,b,c,cy⟩=1:=Yj;rw [he];refine W (J1 @mg) (J3 o8 @AW.ab @az.eq_1) ?_<;>intros
     all_goals (simp [aS,aX,bA,aQ,aR]<;>exact qW A _)
   by_cases oE:op=10
   . subst oE;have he:bH ⟨10,a,b,c,cy⟩=1:=Yj;rw [he];refine W (J1 @mg) (J4 o8 o9 @AW.ab @az.eq_1) ?_<;>intros
     all_goals (simp [aS,aX,bA,aQ,aR]<;>exact qW A _)
   by_cases o11:op=11
   . subst o11;have he:bH ⟨11,a,b,c,cy⟩=1:=Yj;rw [he];refine W (J1 @mg) (J5 o8 o9 oE @AW.ab @az.eq_1) ?_<;>intros
     all_goals (simp [aS,aX,bA,aQ,aR]<;>exact qW A _)
   by_cases o14:op=14
   . subst o14;have he:bH ⟨14,a,b,c,cy⟩=1:=Yj;rw [he];refine W (J1 @mg) (J6 o8 o9 oE o11 @AW.ab @az.eq_1) ?_<;>intros
     all_goals (simp [aS,aX,bA,aQ,aR]<;>exact qW A _)
   by_cases o15:op=15
   . subst o15;have he:bH ⟨15,a,b,c,cy⟩=1:=Yj;rw [he];refine W (J1 @mg) (J7 o8 o9 oE o11 o14 @AW.ab @az.eq_1) ?_<;>intros
     all_goals (simp [aS,aX,bA,aQ,aR]<;>exact qW A _)
   by_cases o7:op=7
   . subst o7;have he:bH ⟨7,a,b,c,cy⟩=2:=Yj;rw [he];refine W (J1 @mg) (J8 o8 o9 oE o11 o14 o15 @AW.ab @az.eq_1) ?_<;>intros
     all_goals (simp [aS,aX,bA,aQ,aR]<;>exact qW A _)
   by_cases o12:op=12
   . subst o12;have he:bH ⟨12,a,b,c,cy⟩=2:=Yj;rw [he];refine W (J1 @mg) (J9 o8 o9 oE o11 o14 o15 o7 @AW.ab @az.eq_1) ?_<;>intros
     all_goals (simp [aS,aX,bA,aQ,aR]<;>exact qW A _)
   by_cases o13:op=13
   . subst o13;have he:bH ⟨13,a,b,c,cy⟩=2:=Yj;rw [he];refine W (J1 @mg) (E5 o8 o9 oE o11 o14 o15 o7 o12 @AW.ab @az.eq_1) ?_<;>intros
     all_goals (simp [aS,aX,bA,aQ,aR]<;>exact qW A _)
   by_cases o16:op=16
   . subst o16;have he:bH ⟨16,a,b,c,cy⟩=2:=Yj;rw [he];refine W (J1 @mg) (H7 o8 o9 oE o11 o14 o15 o7 o12 o13 @AW.ab @az.eq_1) ?_<;>intros
     all_goals (simp [aS,aX,bA,aQ,aR]<;>exact qW A _)
   by_cases o17:op=17
   . subst o17;have he:bH ⟨17,a,b,c,cy⟩=2:=Yj;rw [he];refine W (J1 @mg) (vZ o8 o9 oE o11 o14 o15 o7 o12 o13 o16 @AW.ab @az.eq_1) ?_<;>intros
     all_goals (simp [aS,aX,bA,aQ,aR]<;>exact qW A _)
   have he:bH ⟨op,a,b,c,cy⟩=0:=(by unfold bH;rw [ay h0];dsimp only;rw [aw Ya,aw Ya]);rw [he];refine W (J1 @mg) (mW o8 o9 oE o11 o14 o15 o7 o12 o13 o16 o17 @AW.ab @az.eq_1) ?_<;>intros
   all_goals (simp [aX,bA,aQ,aR]<;>exact qW A _)
 have he:bH ⟨op,a,b,c,cy⟩=0:=by unfold bH;rw [aw h0]
 rw [he];refine W (J1 @mg) (J3 h0 @AW.ab @az.eq_1) ?_<;>intros
 all_goals (simp [aX,bA,aQ,aR]<;>exact qW A _)
theorem IN (hF:FOK) (x:bq) (A:AW):aB qV 192 [.agg (az x).toArray] A (λu A'=>u=.tuple #[qb qa ((eL x).getD 0),qn (eL x).isSome]/\A=A'):=by
 refine aB.tF (V:=.tuple #[qb qa ((eL x).getD 0),qn (eL x).isSome]) (dB.tuple Yb) (λhw=>?_) Ye;refine aK Tryz.func192 λ_=>?_;obtain⟨op,a,b,c,cy⟩:=x;have mg:=λA=>uH hF ⟨op,a,b,c,cy⟩ A;simp only [az] at mg;by_cases h0:cW ⟨op,a,b,c,cy⟩=0
 . rw [h0] at mg;by_cases o4:op=4
   . subst o4;have he:eL ⟨4,a,b,c,cy⟩=qc cy:=YY;rw [he];refine W (J1 @mg) (J2 @AW.ab @az.eq_1) ?_<;>intros
     all_goals (simp [aS,aX,bA,aQ,aR]<;>exact qW A _)
   by_cases o5:op=5
   . subst o5;have he:eL ⟨5,a,b,c,cy⟩=qc cy:=YY;rw [he];refine W (J1 @mg) (J3 o4 @AW.ab @az.eq_1) ?_<;>intros
     all_goals (simp [aS,aX,bA,aQ,aR]<;>exact qW A _)
   by_cases o6:op=6
   . subst o6;have he:eL ⟨6,a,b,c,cy⟩=qc cy:=YY;rw [he];refine W (J1 @mg) (J4 o4 o5 @AW.ab @az.eq_1) ?_<;>intros
     all_goals (simp [aS,aX,bA,aQ,aR]<;>exact qW A _)
   have he:eL ⟨op,a,b,c,cy⟩=none:=Xs;rw [he];refine W (J1 @mg) (J5 o4 o5 o6 @AW.ab @az.eq_1) ?_<;>intros
   all_goals (simp [aX,bA,aQ,aR]<;>exact qW A _)
 have he:eL ⟨op,a,b,c,cy⟩=none:=by unfold eL;rw [aw (λh=>h0 h.1)]
 rw [he];refine W (J1 @mg) (J3 h0 @AW.ab @az.eq_1) ?_<;>intros
 all_goals (simp [aX,bA,aQ,aR]<;>exact qW A _)
def US (p:List bq) (k:Nat) (b:Option Nat) (x:bq):Int:=match eL x with
 | some n=>if gm p k b n=qg then 0 else 42
 | none=>0
theorem MM (hF:FOK) (v:Value) (p:List bq) (k:Nat) (b:Option Nat) (A:AW) (h:li A v p) (hl:p.length<=64) (hk:k<p.length) (hb:∀d,b=qc d->d<p.length) :
 aB qV 143 [v,qb qa k,qb qa (fV b)] A (λu A'=>u=qb qa (US p k b p[k])/\A=A'):=by
 refine aK Tryz.func143 λhw=>?_;obtain⟨o,c,rfl,_⟩:=h.bR;obtain⟨q,bS,wW,bO,fA,hcell⟩:=h.at hk;subst wW;have gC:qY.wrap ((k:Int)+1)=((k+1:Nat):Int):=af Ya Ya;generalize p[k]=x at hcell;have dZ:=yn hcell;have cS:=λB=>IN hF x B;have P9:=@GL x;have hsk:=@wh x;unfold US;obtain⟨op,a,b',c',cy⟩:=x;simp only at hsk P9 dZ;simp only [az] at hcell cS;generalize eL ⟨op,a,b',c',cy⟩=sk at cS hsk;cases sk with
 | none=>
   repeat' (first|(refine iT λR hR=>?_;simp [bO,hcell,fA,hk];try simp (disch:=omega) only [ay,aw,af,an])|(refine hR _ _ ?_;clear hR R)|(refine hK _ _ ?_;clear hK K)|refine nx ?_|refine wn λK hK=>?_|simp only [wS]|(refine bD (cS _) ?_;rintro _ _ ⟨rfl,rfl⟩ _ _)|(show cM _ _ _ _ _ _;refine nx ?_)|(refine wc rfl (λhc=>?_) (λhc=>?_)<;>(try simp at hc)))
   all_goals simp [aS,aX,bA,aQ,aR]
 | some n=>
   obtain⟨rfl,g1,g2⟩:=hsk rfl;obtain⟨g3,g4⟩:=P9 g1 g2;obtain⟨m,hm⟩:∃m:Nat,n=m:=⟨n.toNat,by omega⟩;subst hm;have GN:qY.wrap (((k+1:Nat):Int)+m)=((k+1+m:Nat):Int):=af Ya Ya;have zT:qY.wrap ((k:Int)+1+m)=((k+1+m:Nat):Int):=af Ya Ya;have hT:gm p k b (m:Int)=if p.length<k+1+m then qk else match (generalizing:=false) b with
    | some b=>decide (k+1+m<=dL p b)
    | none=>!iE p k (k+1+m):=by unfold gm;simp only [Int.toNat_natCast];cases b<;>rfl
   simp only [hT];generalize ht:k+1+m=t at GN zT hT;by_cases q1:p.length<t
   . rw [ay q1,aw Yb];refine W (J1 @cS) (J9 bO dZ hcell fA hk gC GN zT q1) ?_<;>intros
     all_goals simp [aS,aX,bA,aQ,aR]
   rw [aw q1];cases b with
   | some d=>
     have hd:=hb d rfl;have xC:¬((d:Int)<0):=Ya;have Au:(0:Int)<=d:=Ya;have cE:=yJ _ p d A h Ya hd;simp only [fV];by_cases q2:t<=dL p d
     . have q3:¬dL p d<t:=Ya;rw [ay (by simp [q2])];refine W (J2 @cS @cE) (mW bO dZ hcell fA hk gC GN zT q1 q2 q3 xC Au) ?_<;>intros
       all_goals simp [aX,bA,aQ,aR]
     have q3:dL p d<t:=Ya;rw [aw (by simp [q3])];refine W (J2 @cS @cE) (mW bO dZ hcell fA hk gC GN zT q1 q2 q3 xC Au) ?_<;>intros
     all_goals simp [aS,aX,bA,aQ,aR]
   | none=>
     have cI:=Td _ p k t A h Ya hk Ya;simp only [fV];generalize iE p k t=it at cI;cases it with
     | true=>
       rw [aw Yb];refine W (J2 @cS @cI) (J9 bO dZ hcell fA hk gC GN zT q1) ?_<;>intros
       all_goals simp [aS,aX,bA,aQ,aR]
     | false=>
       rw [ay Yb];refine W (J2 @cS @cI) (J9 bO dZ hcell fA hk gC GN zT q1) ?_<;>intros
       all_goals simp [aX,bA,aQ,aR]
set_option maxHeartbeats 8000000 in
theorem Vq (hF:FOK) (v:Value) (p:List bq) (k:Nat) (b:Option Nat) (A:AW) (h:li A v p) (hl:p.length<=64) (hk:k<p.length) (hb:∀d,b=qc d->d<p.length) :
 aB qV 110 [v,qb qa k,qb qa (fV b)] A (λu A'=>u=qb qa (wH (gm p) k b p[k])/\A=A'):=by
 refine aK Tryz.func110 λhw=>?_;have cT:=MM hF v p k b A h hl hk hb;obtain⟨o,c,rfl,_⟩:=h.bR;obtain⟨q,bS,wW,bO,fA,hcell⟩:=h.at hk;subst wW;generalize p[k]=x at hcell cT;have dZ:=yn hcell;have cI:=λB=>uH hF x B;have cP:=λB=>IO hF x B
 have hE:wH (gm p) k b x=if cW x=0 then
  if (x.op=7/\b.isSome=qg)\/(x.op=8/\b.isSome=qk) then 40
  else if (bH x=1/\b.isSome=qk)\/(bH x=2/\b.isSome=qg) then 41
  else US p k b x else cW x:=by unfold wH US;rfl
 rw [hE];clear hE;generalize US p k b x=te at cT;obtain⟨op,a,b',c',cy⟩:=x;simp only at dZ;simp only [az] at hcell cI cP;generalize bH ⟨op,a,b',c',cy⟩=pl at cP;generalize cW ⟨op,a,b',c',cy⟩=e at cI;by_cases e0:e=0
 rotate_left
 . rw [aw e0]
   repeat' (first|(refine iT λR hR=>?_;simp [bO,hcell,fA,hk,e0];try simp (disch:=omega) only [ay,aw,af,an])|(refine hR _ _ ?_;clear hR R)|(refine hK _ _ ?_;clear hK K)|refine nx ?_|refine wn λK hK=>?_|simp only [wS]|(refine bD (cI _) ?_;rintro _ _ ⟨rfl,rfl⟩ _ _)|(show cM _ _ _ _ _ _;refine nx ?_)|(refine wc rfl (λhc=>?_) (λhc=>?_)<;>(try simp at hc)))
   all_goals simp [aS,aX,bA,aQ,aR]
 subst e0;rw [ay rfl];cases b with
 | none=>
   simp only [fV] at cT ⊢;by_cases ob:op=8
   . subst ob;rw [ay Yb];refine W (J3 @cI @cP @cT) (J5 bO dZ hcell fA hk) ?_<;>intros
     all_goals simp [aS,aX,bA,aQ,aR]
   rw [aw (by simp [ob])];by_cases oo:op=7
   . subst oo;by_cases pb:pl=1
     . subst pb;rw [ay Yb];refine W (J3 @cI @cP @cT) (J6 bO dZ hcell fA hk ob) ?_<;>intros
       all_goals simp [aS,aX,bA,aQ,aR]
     rw [aw YF];by_cases po:pl=2
     . subst po;refine W (J3 @cI @cP @cT) (J6 bO dZ hcell fA hk ob) ?_<;>intros
       all_goals simp [aX,bA,aQ,aR]
     skip
     refine W (J3 @cI @cP @cT) (J8 bO dZ hcell fA hk ob pb po) ?_<;>intros
     all_goals simp [aX,bA,aQ,aR]
   skip
   by_cases pb:pl=1
   . subst pb;rw [ay Yb];refine W (J3 @cI @cP @cT) (J7 bO dZ hcell fA hk ob oo) ?_<;>intros
     all_goals simp [aS,aX,bA,aQ,aR]
   rw [aw YF];by_cases po:pl=2
   . subst po;refine W (J3 @cI @cP @cT) (J7 bO dZ hcell fA hk ob oo) ?_<;>intros
     all_goals simp [aX,bA,aQ,aR]
   skip
   refine W (J3 @cI @cP @cT) (J9 bO dZ hcell fA hk ob oo pb po) ?_<;>intros
   all_goals simp [aX,bA,aQ,aR]
 | some d=>
   simp only [fV] at cT ⊢;have xC:¬((d:Int)<0):=Ya;have Au:(0:Int)<=d:=Ya;by_cases ob:op=7
   . subst ob;rw [ay Yb];refine W (J3 @cI @cP @cT) (J7 bO dZ hcell fA hk xC Au) ?_<;>intros
     all_goals simp [aS,aX,bA,aQ,aR]
   rw [aw (by simp [ob])];by_cases oo:op=8
   . subst oo;by_cases pb:pl=2
     . subst pb;rw [ay Yb];refine W (J3 @cI @cP @cT) (J8 bO dZ hcell fA hk xC Au ob) ?_<;>intros
       all_goals simp [aS,aX,bA,aQ,aR]
     rw [aw YF];by_cases po:pl=1
     . subst po;refine W (J3 @cI @cP @cT) (J8 bO dZ hcell fA hk xC Au ob) ?_<;>intros
       all_goals simp [aX,bA,aQ,aR]
     skip
     refine W (J3 @cI @cP @cT) (E5 bO dZ hcell fA hk xC Au ob pb po) ?_<;>intros
     all_goals simp [aX,bA,aQ,aR]
   skip
   by_cases pb:pl=2
   . subst pb;rw [ay Yb];refine W (J3 @cI @cP @cT) (J9 bO dZ hcell fA hk xC Au ob oo) ?_<;>intros
     all_goals simp [aS,aX,bA,aQ,aR]
   rw [aw YF];by_cases po:pl=1
   . subst po;refine W (J3 @cI @cP @cT) (J9 bO dZ hcell fA hk xC Au ob oo) ?_<;>intros
     all_goals simp [aX,bA,aQ,aR]
   skip
   refine W (J3 @cI @cP @cT) (H7 bO dZ hcell fA hk xC Au ob oo pb po) ?_<;>intros
   all_goals simp [aX,bA,aQ,aR]
end
end Go.Stx
