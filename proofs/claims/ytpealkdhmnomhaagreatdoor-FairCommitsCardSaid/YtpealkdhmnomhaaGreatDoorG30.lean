/-
 Configurations: the checks of both sides, at any configuration.
-/
import Derived.Test.YtpealkdhmnomhaaGreatDoorG10
import Derived.Test.YtpealkdhmnomhaaGreatDoorG06
set_option linter.unusedVariables false
set_option linter.unusedSimpArgs false
set_option linter.unusedSectionVars false
set_option maxRecDepth 20000
set_option maxHeartbeats 4000000
open Go.IntKind renaming i64->qY,u64->q8
open Go.Proofs.Tryz renaming prog->qV
open Go.Stx.AW.le renaming alloc->qW
open Go.Value renaming int->Zb
open List renaming drop_eq_getElem_cons->ZU,length_append->Zc,length_cons->Zy,length_nil->kam,mem_append->ZH,mem_singleton->kai
open Nat renaming le_trans->ZA,lt_of_lt_of_le->kaR,mul_le_mul_left->kaL,zero_add->ZZ,zero_le->Zt
open Bool renaming true->qg
open Go renaming Value->qd
open Go.IntKind renaming i64->qa,u64->qj
open Go.Stx.eh renaming cells->qi
open Go.Value renaming bool->qn,int->qb,pointer->qm,tuple->qA
open Option renaming none->qh,some->qc
namespace Go.Stx
open Go Go.Proofs
attribute [local irreducible] TW bI cM aV aB aL cU dh
section
open T7
abbrev xF (c:aY):Prop:=(0<=c.c0/\c.c0<=64)/\(0<=c.c1/\c.c1<=64)/\(0<=c.c2/\c.c2<=64)/\(0<=c.c3/\c.c3<=64)
def lw (c:aY):Int:=
 if ¬((1<=c.bg/\c.bg<=64)/\(1<=c.av/\c.av<=64)) then 50
 else if ¬(xF c/\c.nb<=64/\(0<=c.base/\c.base<=c.bg)/\c.hw<=c.bg-c.base) then 51
 else if ¬((1<=c.reads/\c.reads<=32)/\(1<=c.bU/\c.bU<=32)/\(0<=c.ar/\c.ar<=8)/\(0<=c.aA/\c.aA<=8)) then 52
 else if ¬(0<=c.aC/\c.aC<=1099511627776) then 53 else 0
def JM (c:aY):qd:=if xF c then qA #[qb qa c.nb,qb qa c.hw,qn (decide (c.nb<=64))] else qA #[qb qa 0,qb qa 0,qn false]
variable [Gl]
theorem eS (n lo hi:Int) (A:AW):aB qV 82 [qb qa n,qb qa lo,qb qa hi] A (λv A'=>v=qn (decide (lo<=n/\n<=hi))/\A=A'):=by
 refine aK Tryz.func82 λ_=>?_;refine W cx cx (J2 ?_ ?_)<;>intros
 all_goals(simp_all<;>omega)
theorem jq (n lo hi:Int) (A:AW):aB qV 104 [qb qa n,qb qa lo,qb qa hi] A (λv A'=>v=qn (decide (lo<=n/\n<=hi))/\A=A'):=by
 refine aK Tryz.func104 λ_=>?_;refine W cx cx (J2 ?_ ?_)<;>intros
 all_goals(simp_all<;>omega)
theorem Tt (c:aY) (A:AW):aB qV 95 [c.v] A (λv A'=>v=JM c/\A=A'):=by
 refine aB.tF (V:=JM c) (by unfold JM;split<;>exact dB.tuple Yb) (λhw=>?_) Ye;refine aK Tryz.func95 λ_=>?_;obtain⟨V,hV⟩:∃V,JM c=V:=⟨_,rfl⟩;rw [hV];unfold JM xF aY.nb aY.hw at hV;obtain⟨jm,d9,i9,c0,c1,c2,c3,iJ,iW,ja,i8,gL,jr⟩:=c;dsimp only [aY.v,aY.cells] at hV ⊢;revert hw;refine W cx (J1 bC) ?_<;>(unhygienic intros);refine iH 5 ?_;by_cases h0:0<=c0/\c0<=64
 . obtain⟨k0,Ej⟩:=h0;by_cases h1:0<=c1/\c1<=64
   . obtain⟨k1,GF⟩:=h1;by_cases h2:0<=c2/\c2<=64
     . obtain⟨k2,JJ⟩:=h2;by_cases h3:0<=c3/\c3<=64
       . obtain⟨k3,ND⟩:=h3;rw [ay Ya] at hV;subst hV;refine W cx (J9 k0 Ej k1 GF k2 JJ k3 ND bC) ?_<;>intros
         all_goals(
          refine⟨_,by (simp;rfl),?_,qW _ _⟩;simp only [Value.tuple.injEq,Array.mk.injEq,List.cons.injEq,Value.int.injEq,true_and,and_true];rw [pw1,pw2,pw3];simp (disch:=omega) only [af]
          try simp)
       rw [aw Ya] at hV;subst hV;by_cases RV:c3<0
       . refine W cx (J8 k0 Ej k1 GF k2 JJ RV bC) ?_<;>intros
         all_goals exact⟨_,by (simp;done),rfl,qW _ _⟩
       have Qh:64<c3:=Ya;refine W cx (J9 k0 Ej k1 GF k2 JJ RV Qh bC) ?_<;>intros
       all_goals exact⟨_,by (simp;done),rfl,qW _ _⟩
     rw [aw Ya] at hV;subst hV;by_cases RV:c2<0
     . refine W cx (J6 k0 Ej k1 GF RV bC) ?_<;>intros
       all_goals exact⟨_,by (simp;done),rfl,qW _ _⟩
     have Qh:64<c2:=Ya;refine W cx (J7 k0 Ej k1 GF RV Qh bC) ?_<;>intros
     all_goals exact⟨_,by (simp;done),rfl,qW _ _⟩
   rw [aw Ya] at hV;subst hV;by_cases RV:c1<0
   . refine W cx (J4 k0 Ej RV bC) ?_<;>intros
     all_goals exact⟨_,by (simp;done),rfl,qW _ _⟩
   have Qh:64<c1:=Ya;refine W cx (J5 k0 Ej RV Qh bC) ?_<;>intros
   all_goals exact⟨_,by (simp;done),rfl,qW _ _⟩
 rw [aw Ya] at hV;subst hV;by_cases RV:c0<0
 . refine W cx (J2 RV bC) ?_<;>intros
   all_goals exact⟨_,by (simp;done),rfl,qW _ _⟩
 have Qh:64<c0:=Ya
 refine W cx (J3 RV Qh bC) ?_<;>intros
 all_goals exact⟨_,by (simp;done),rfl,qW _ _⟩
theorem I0 (c:aY) (A:AW):aB qV 81 [c.v] A (λv A'=>v=qb qa (lw c)/\A=A'):=by
 refine aB.tF (V:=qb qa (lw c)) Yb (λhw=>?_) Ye;refine aK Tryz.func81 λ_=>?_;have hh:=Tt c;unfold JM at hh;have eN:c.nb=c.c0+c.c1+c.c2+c.c3:=rfl;have eW:c.hw=c.c0+c.c1*2+c.c2*4+c.c3*8:=rfl;have hW:xF c->0<=c.hw/\c.hw<=1000:=λh=>by unfold xF at h;omega
 obtain⟨V,hV⟩:∃V,lw c=V:=⟨_,rfl⟩;rw [hV];unfold lw at hV;by_cases q0:xF c
 . rw [ay q0] at hh;obtain⟨q1,q2⟩:=hW q0;simp only [show xF c=True from eq_true q0,true_and] at hV;generalize c.nb=nb at *;generalize c.hw=jN at *;clear eN eW hW q0;obtain⟨jm,d9,i9,c0,c1,c2,c3,iJ,iW,ja,i8,gL,jr⟩:=c;dsimp only [aY.v,aY.cells] at hV hh ⊢;refine W (J2 @hh @eS) (J1 bC) (H7 ?_ ?_ ?_ ?_ ?_ ?_ ?_ ?_ ?_ ?_ ?_)<;>intros
   all_goals(
    refine⟨_,by (simp;rfl),?_,qW _ _⟩;rw [<-hV];congr 1
    repeat (first|rw [ay Ya]|rw [aw Ya])
    done)
 rw [aw q0] at hh;simp only [show xF c=False from eq_false q0,false_and,not_false_eq_true,if_true] at hV;clear eN eW hW q0;obtain⟨jm,d9,i9,c0,c1,c2,c3,iJ,iW,ja,i8,gL,jr⟩:=c;dsimp only [aY.v,aY.cells] at hV hh ⊢;refine W (J2 @hh @eS) (J1 bC) (J3 ?_ ?_ ?_)<;>intros
 all_goals(
  refine⟨_,by (simp;rfl),?_,qW _ _⟩;rw [<-hV];congr 1
  repeat (first|rw [ay Ya]|rw [aw Ya])
  done)
end
section
open T7
variable [Gl]
set_option maxHeartbeats 8000000 in
theorem Dn (c:aY) (A:AW):aB qV 70 [c.v] A (λv A'=>v=qb qa (lw c)/\A=A'):=by
 refine aB.tF (V:=qb qa (lw c)) Yb (λhw=>?_) Ye;refine aK Tryz.func70 λ_=>?_;obtain⟨V,hV⟩:∃V,lw c=V:=⟨_,rfl⟩;rw [hV];unfold lw xF aY.nb aY.hw at hV;obtain⟨jm,d9,i9,c0,c1,c2,c3,iJ,iW,ja,i8,gL,jr⟩:=c;dsimp only [aY.v,aY.cells] at hV ⊢;by_cases iZ:(1<=jm/\jm<=64)/\(1<=d9/\d9<=64)
 rotate_left
 . rw [ay iZ] at hV;subst hV;refine W (J1 @jq) (J1 bC) (J2 ?_ ?_)<;>intros
   all_goals exact⟨_,by (simp;done),rfl,qW _ _⟩
 rw [aw Ya] at hV;obtain⟨⟨w1,w2⟩,w3,w4⟩:=iZ;revert hw;refine W (J1 @jq) (J5 w1 w2 w3 w4 bC) ?_<;>(unhygienic intros);refine iH 5 ?_;by_cases h0:0<=c0/\c0<=64
 rotate_left
 . rw [ay Ya] at hV;subst hV;refine W (J1 @jq) (J2 h0 bC) ?_<;>intros
   all_goals exact⟨_,by (simp;done),rfl,qW _ _⟩
 obtain⟨k0,Ej⟩:=h0;by_cases h1:0<=c1/\c1<=64
 rotate_left
 . rw [ay Ya] at hV;subst hV;refine W (J1 @jq) (J4 k0 Ej h1 bC) ?_<;>intros
   all_goals exact⟨_,by (simp;done),rfl,qW _ _⟩
 obtain⟨k1,GF⟩:=h1;by_cases h2:0<=c2/\c2<=64
 rotate_left
 . rw [ay Ya] at hV;subst hV;refine W (J1 @jq) (J6 k0 Ej k1 GF h2 bC) ?_<;>intros
   all_goals exact⟨_,by (simp;done),rfl,qW _ _⟩
 obtain⟨k2,JJ⟩:=h2;by_cases h3:0<=c3/\c3<=64
 rotate_left
 . rw [ay Ya] at hV;subst hV;refine W (J1 @jq) (J8 k0 Ej k1 GF k2 JJ h3 bC) ?_<;>intros
   all_goals exact⟨_,by (simp;done),rfl,qW _ _⟩
 obtain⟨k3,ND⟩:=h3;refine W (J1 @jq) (J17 w1 w2 w3 w4 k0 Ej k1 GF k2 JJ k3 ND bC @pw1 @pw2 @pw3 @pw0) (J9 ?_ ?_ ?_ ?_ ?_ ?_ ?_ ?_ ?_)<;>intros
 all_goals(
  refine⟨_,by (simp;rfl),?_,qW _ _⟩;rw [<-hV];congr 1
  repeat (first|rw [ay Ya]|rw [aw Ya])
  done)
def Ft (c:aY):Int:=if lw c=0 then c.nb else 0
theorem QC {c:aY} (h:lw c=0):xF c/\c.nb<=64:=by
 unfold lw at h;split at h;cases h;split at h;cases h;rename_i h1;rw [Decidable.not_not] at h1;exact⟨h1.1,h1.2.1⟩
theorem F6 (c:aY) (A:AW):aB qV 44 [c.v] A (λv A'=>v=qb qa (Ft c)/\A=A'):=by
 refine aB.tF (V:=qb qa (Ft c)) Yb (λhw=>?_) Ye;refine aK Tryz.func44 λ_=>?_;have As:=Dn c;unfold Ft;by_cases h0:lw c=0
 . rw [h0] at As;rw [ay h0];have hc:=(QC h0).1;unfold xF at hc;unfold aY.nb;obtain⟨jm,d9,i9,c0,c1,c2,c3,iJ,iW,ja,i8,gL,jr⟩:=c;dsimp only [aY.v,aY.cells] at As hc ⊢;obtain⟨⟨k0,Ej⟩,⟨k1,GF⟩,⟨k2,JJ⟩,k3,ND⟩:=hc;refine W (J1 @As) (J1 bC) ?_<;>intros
   all_goals exact⟨_,by (simp;rfl),by rfl,qW _ _⟩
 rw [aw h0];dsimp only [aY.v,aY.cells] at As ⊢;refine W (J1 @As) (J2 h0 bC) ?_<;>intros
 all_goals exact⟨_,by (simp;done),rfl,qW _ _⟩
end
section
open T7
def lV:List (List bq)->Nat->Option (Nat×Nat×Int)
 | [],_=>qh
 | p::l,t=>if (c8 p).2=0 then lV l (t+1) else qc (t,(c8 p).1,(c8 p).2)
def uD (n:Nat):List Int->Nat->Option Nat
 | [],_=>qh
 | x::l,k=>if x<0\/(n:Int)<=x then qc k else uD n l (k+1)
def jM (c:aY) (ni:Nat) (ps:List (List bq)) (pk:List Int):Nat×Nat×Int:=
 if lw c≠0 then (0,0,lw c)
 else if ps.length<1\/16<ps.length then (0,0,54)
 else if ¬(ni:Int)=c.bg then (0,0,55)
 else match lV ps 0 with
 | some r=>r
 | none=>if 65536<pk.length then (0,0,56) else match uD ps.length pk 0 with
   | some k=>(0,k,56)
   | none=>(0,0,0)
def vP (x:Nat×Nat×Int):qd:=qA #[qb qa x.1,qb qa x.2.1,qb qa x.2.2]
variable [Gl]
def jb (A:AW) (v:qd) (ps:List (List bq)):Prop:=∃us:List qd,fL A 1 v ps.length us/\∀i (hi:i<ps.length),∃u,us[i]? = qc u/\li A u ps[i]
theorem jb.le {A B:AW} (hl:A.le B) (hw:A.Wf) {v:qd} {ps:List (List bq)} (h:jb A v ps):jb B v ps:=by
 obtain⟨us,h1,h2⟩:=h;exact⟨us,h1.le hl hw,λi hi=>let ⟨u,h3,h4⟩:=h2 i hi;⟨u,h3,h4.le hl hw⟩⟩
theorem jb.bR {A:AW} {v:qd} {ls:List (List bq)} (h:jb A v ls):∃o c,v=.slice o ls.length c/\ls.length<=c:=by
 obtain⟨us,h1,_⟩:=h;exact h1.bR
theorem jb.at {A:AW} {o:Option Addr} {n c:Nat} {ls:List (List bq)} (h:jb A (.slice o n c) ls) {i:Nat} (hi:i<ls.length) :
 ∃p bS u,o=qc p/\A.bS p.block=qc bS/\bS[p.off+i]? = qc u/\li A u ls[i]:=by
 obtain⟨us,h1,h2⟩:=h;obtain⟨u,h3,h4⟩:=h2 i hi;rcases h1 with ⟨_,e,_⟩|⟨p,c',bS,own,q,e1,e2,e3,e4,e5,e6⟩;omega;injection e1 with e1 e7 e8;subst e4;refine⟨p,bS,u,e1,AW.yc e3,?_,h4⟩;rw [e6,Nat.mul_one,List.getElem?_take_of_lt hi,List.getElem?_drop] at h3;exact h3
def gU (c:aY) (vi vp vk:qd):List qd:=c.cells++[vi,vp,vk]
def FX (c:aY) (vi vp vk:qd):qd:=.agg (gU c vi vp vk).toArray
def pz:List qd:=[qb qa 0,qb qa 0,qb qa 0,qb qa 0,qb qa 0,qb qa 0,qb qa 0,qb qa 0,qb qa 0,qb qa 0,qb qa 0,qb qa 0,qn false,.slice qh 0 0,.slice qh 0 0,.slice qh 0 0]
set_option maxHeartbeats 8000000 in
theorem MT (hF:FOK) (c:aY) (vi vp vk:qd) (ni ci:Nat) (oi:Option Addr) (ps:List (List bq)) (pk:List Int) (A:AW) (hvi:vi=.slice oi ni ci) (hp:jb A vp ps) (hk:bK A qa vk pk) :
 aB qV 52 [FX c vi vp vk] A (λu A'=>u=vP (jM c ni ps pk)/\A=A'):=by
 refine aB.tF (V:=vP (jM c ni ps pk)) (dB.tuple Yb) (λhw=>?_) Ye;refine aK Tryz.func52 λ_=>?_;subst hvi;obtain⟨op,cp,rfl,_⟩:=hp.bR;obtain⟨ok,ck,rfl,_⟩:=hk.bR;have mg:=I0 c;unfold jM;generalize lw c=ce at mg ⊢;obtain⟨jm,d9,i9,c0,c1,c2,c3,iJ,iW,ja,i8,gL,jr⟩:=c;unfold FX gU;simp only [aY.v,aY.cells,aa,ah] at mg ⊢;obtain⟨O,hO⟩:∃O,(eh.cells [qb qa jm,qb qa d9,qb qa i9,qb qa c0,qb qa c1,qb qa c2,qb qa c3,qb qa iJ,qb qa iW,qb qa ja,qb qa i8,qb qa gL,qn jr,.slice oi ni ci,.slice op ps.length cp,.slice ok pk.length ck] qg 1)=O:=⟨_,rfl⟩;by_cases e0:ce=0
 rotate_left
 . rw [ay e0];refine W (J2 @mg @eS) (J2 e0 bC) ?_<;>intros
   all_goals (simp [aS,aX,bA,aQ,aR,vP]<;>exact qW A _)
 subst e0;rw [aw Yb];by_cases e1:ps.length<1\/16<ps.length
 . rw [ay e1];by_cases e2:ps.length<1
   . have e2':ps.length=0:=Ya;refine W (J2 @mg @eS) (J3 e2 e2' bC) ?_<;>intros
     all_goals (simp [aS,aX,bA,aQ,aR,vP]<;>exact qW A _)
   have e3:16<ps.length:=Ya;have e4:¬(ps.length:Int)<=16:=Ya;have e5:1<=(ps.length:Int):=Ya;refine W (J2 @mg @eS) (J5 e2 e3 e4 e5 bC) ?_<;>intros
   all_goals (simp [aS,aX,bA,aQ,aR,vP]<;>exact qW A _)
 rw [aw e1];have e2:¬ps.length<1:=Ya
 have e3:¬16<ps.length:=Ya
 have e4:(ps.length:Int)<=16:=Ya
 have e5:1<=(ps.length:Int):=Ya
 by_cases e6:(ni:Int)=jm
 rotate_left
 . rw [ay e6];refine W (J2 @mg @eS) (J6 e2 e3 e4 e5 e6 bC) ?_<;>intros
   all_goals (simp [aS,aX,bA,aQ,aR,vP]<;>exact qW A _)
 subst e6;rw [aw Yb];obtain⟨Rp,hRp⟩:∃Rp,lV ps 0=Rp:=⟨_,rfl⟩;obtain⟨Rk,hRk⟩:∃Rk,uD ps.length pk 0=Rk:=⟨_,rfl⟩;have hR0:Rp=lV (ps.drop 0) 0:=hRp.symm;have hK0:Rk=uD ps.length (pk.drop 0) 0:=hRk.symm;rw [hRp,hRk];clear hRp hRk;obtain⟨V,hV⟩:∃V,vP (match Rp with
  | some r=>r
  | none=>if 65536<pk.length then (0,0,56) else match Rk with
    | some k=>(0,k,56)
    | none=>(0,0,0))=V:=⟨_,rfl⟩
 rw [hV];revert hw;refine W (J2 @mg @eS) (J5 e2 e3 e4 e5 bC) ?_<;>(unhygienic intros);rw [hO];have DB:A.le (A.alloc O):=qW A O;have hgO:(A.alloc O).bk A.next=qc O:=Yb
 have hwO:=hw.alloc O;generalize A.alloc O=A1 at DB hgO hwO ⊢;subst hO;have hrO:=AW.yc hgO;refine df (λk fr A'=>A1=A'/\∃i:Nat,k=ps.length-i/\i<=ps.length/\fr 1=qm (qc ⟨A.next,0,qh⟩)/\fr 31=.slice op ps.length cp/\fr 32=qb qa ps.length/\fr 33=qb qa i/\Rp=lV (ps.drop i) i) ps.length ?_ ?_;exact⟨rfl,0,rfl,Zt _,rfl,rfl,rfl,rfl,hR0⟩;rintro k fr A' ⟨rfl,i,rfl,hi,g1,g31,g32,g33,he⟩;by_cases bY:i<ps.length
 . obtain⟨q,bS,u,wW,bO,hcell,hu⟩:=(hp.le DB hw).at bY;subst wW;have gC:=zd (i:=i);have fz:ps.drop i=ps[i]::ps.drop (i+1):=ZU bY;rw [fz] at he;unfold lV at he;have cC:=sZ hF u ps[i] _ hu;unfold rm at cC;by_cases z:(c8 ps[i]).2=0;rw [ay z] at he;rw [z] at cC;refine aT ?_;refine W (J2 @cC @eS) (J9 hrO g1 g31 g32 g33 bY gC bO hcell) ?_<;>intros;refine⟨ps.length-(i+1),by omega,rfl,i+1,rfl,by omega,?_,?_,?_,?_,he⟩<;>simp [g1,g31,g32];rw [aw z] at he;rw [he] at hV;simp only at hV;refine aT ?_;refine W (J2 @cC @eS) (E5 hrO g1 g31 g32 g33 bY gC bO hcell z) ?_<;>intros
   all_goals (simp [cZ,aS,aX,bA,aQ,aR,<-hV,vP]<;>exact DB)
 have tD:i=ps.length:=Ya
 subst tD;rw [List.drop_length] at he;rw [he] at hV;simp only [lV] at hV;by_cases f1:65536<pk.length
 . rw [ay f1] at hV;refine aT ?_;refine W (J1 @eS) (J7 hrO g1 g31 g32 g33 bY f1) ?_<;>intros
   all_goals (simp [aS,aX,bA,aQ,aR,<-hV,vP]<;>exact DB)
 rw [aw f1] at hV;refine aT ?_;revert hw;(repeat revert hc);refine W (J1 @eS) (J7 hrO g1 g31 g32 g33 bY f1) ?_<;>(unhygienic intros);refine df (λk fr2 A'=>A1=A'/\∃i:Nat,k=pk.length-i/\i<=pk.length/\fr2 1=qm (qc ⟨A.next,0,qh⟩)/\fr2 54=.slice ok pk.length ck/\fr2 55=qb qa pk.length/\fr2 56=qb qa i/\Rk=uD ps.length (pk.drop i) i) pk.length ?_ ?_;refine⟨rfl,0,rfl,Zt _,?_,?_,?_,?_,hK0⟩<;>simp [g1];rintro k fr2 A' ⟨rfl,i,rfl,OQ,j1,j54,j55,j56,hf⟩;by_cases pe:i<pk.length
 . obtain⟨q,bS,wW,bO,hcell⟩:=(hk.le DB hw).at pe;subst wW;have gC:=zd (i:=i);have fz:pk.drop i=pk[i]::pk.drop (i+1):=ZU pe;rw [fz] at hf;unfold uD at hf;generalize pk[i]=x at hcell hf;by_cases b1:x<0
   . rw [ay (.inl b1)] at hf;rw [hf] at hV;simp only at hV;refine aT ?_;refine W (J1 @eS) (E5 hrO j1 j54 j55 j56 pe gC bO hcell b1) ?_<;>intros
     all_goals (simp [cZ,aS,aX,bA,aQ,aR,<-hV,vP]<;>exact DB)
   by_cases b2:(ps.length:Int)<=x
   . rw [ay (.inr b2)] at hf;rw [hf] at hV;simp only at hV;refine aT ?_;refine W (J1 @eS) (H7 hrO j1 j54 j55 j56 pe gC bO hcell b1 b2) ?_<;>intros
     all_goals (simp [cZ,aS,aX,bA,aQ,aR,<-hV,vP]<;>exact DB)
   rw [aw Ya] at hf;refine aT ?_;refine W (J1 @eS) (H7 hrO j1 j54 j55 j56 pe gC bO hcell b1 b2) ?_<;>intros;refine⟨pk.length-(i+1),by omega,rfl,i+1,rfl,by omega,?_,?_,?_,?_,hf⟩<;>simp [j1,j54,j55]
 have hil2:i=pk.length:=Ya
 subst hil2;rw [List.drop_length] at hf;rw [hf] at hV;simp only [uD] at hV;refine aT ?_;refine W (J1 @eS) (J6 hrO j1 j54 j55 j56 pe) ?_<;>intros
 all_goals (simp [aX,bA,aQ,aR,<-hV,vP]<;>exact DB)
end
section
variable [Gl]
theorem Sb {P:Program} {t e:TypeId} {i:TypeInfo} {z:qd} {A:AW} {B:Nat} {v:qd} {n:Nat} {cs:List qd} (x:qd) (hu:P.underlying t=qc (.slice e)) (hi:P.info? e=qc i) (hz:i.zero=qc z) (hs:i.size=1) (pq:z.cells.size=1) (zZ:i.bytes<=24)
 (hx:x.oneCell'=qg) (iz:dV B A 1 v n cs) (hn:n<2 ^ 30) (hB:B<=A.next) (hw:A.Wf) :
 ∃v' A',fI P (A.alloc (qi [x] qg 1)) t t v (.slice (qc ⟨A.next,0,qh⟩) 1 1)=qc (v',A')/\dV B A' 1 v' (n+1) (cs++[x])/\Q3 B A A' v v':=by
 have Cw:=dV.le (qW A (qi [x] qg 1)) hw iz;have jI:gN (A.alloc (qi [x] qg 1)) 1 (.slice (qc ⟨A.next,0,qh⟩) 1 1)=qc (1,[x]):=by
  simp [gN,AW.bS]
 have hb:(n+1)*i.bytes<=140737488355328:=by
  have:=kaL (n+1) zZ;omega
 obtain⟨v',A',h1,h2,h3,h4,h5,h6,h7⟩:=km (P:=P) (size:=1) (t:=t) hu hi hz hs pq Ya Cw jI (by rw [List.all_cons,hx];rfl) Ya hb Y0 (hw.alloc _);refine⟨v',A',h1,h2,λA0 ha hl=>h3 A0 ha (hl.trans (qW A _)),h4,by rw [AW.be] at h5;omega,λj hj gZ=>?_,λj hj=>?_⟩;rw [h6 j Yg gZ,AW.gl _ _ Ya];rcases h7 with rfl|h7;exact .inl hj;rw [h7] at hj;injection hj with hj;simp at hj;exact .inr Ya
structure PS (B:Nat) (A:AW) (vp:Value) (us:List Value) (ps:List (List bq)):Prop where
 own:dV B A 1 vp us.length us
 len:us.length=ps.length
 el:∀i (hi:i<ps.length),∃u,us[i]? = some u/\dV B A 5 u ps[i].length (ps[i].flatMap az)/\∀j,ep vp=some j->ep u≠some j
theorem dV.zQ {B C:Nat} (hc:C<=B) {A:AW} {size:Nat} {v:qd} {n:Nat} {cs:List qd} (h:dV B A size v n cs):dV C A size v n cs:=by
 rcases h with h|⟨p,c,bS,h1,h2,hs,h3,h4,h5⟩;exact .inl h;exact .inr ⟨p,c,bS,h1,h2,hs,by omega,h4,h5⟩
theorem PS.le {B:Nat} {A A':AW} {vp:qd} {us:List qd} {ps:List (List bq)} (h:PS B A vp us ps) (hl:A.le A') (hw:A.Wf):PS B A' vp us ps:=
 ⟨h.own.le hl hw,h.len,λi hi=>let ⟨u,h1,h2,h3⟩:=h.el i hi;⟨u,h1,h2.le hl hw,h3⟩⟩
theorem PS.iM {B:Nat} {A A':AW} {vp:qd} {us:List qd} {ps:List (List bq)} (h:PS B A vp us ps) (he:∀j,B<=j->j<A.next->A'.bk j=A.bk j) (hw:A.Wf):PS B A' vp us ps:=
 ⟨h.own.iM λj hj=>he j (h.own.lt hw hj).1 (h.own.lt hw hj).2,h.len,λi hi=>let ⟨u,h1,h2,h3⟩:=h.el i hi;⟨u,h1,h2.iM λj hj=>he j (h2.lt hw hj).1 (h2.lt hw hj).2,h3⟩⟩
theorem PS.nil (B:Nat) (A:AW):PS B A (.slice qh 0 0) [] []:=⟨dV.nil _ _ _,rfl,λi hi=>by simp at hi⟩
theorem dV.aM {B:Nat} {A:AW} {size:Nat} {v:qd} {n:Nat} {cs:List qd} (h:dV B A size v n cs):v.oneCell'=qg:=by
 rcases h with ⟨rfl,_⟩|⟨p,c,bS,rfl,_⟩<;>rfl
theorem PS.progs {B:Nat} {A:AW} {vp:qd} {us:List qd} {ps:List (List bq)} (h:PS B A vp us ps):jb A vp ps:=by
 refine⟨us,?_,λi hi=>?_⟩;rw [<-h.len];exact h.own.is;obtain⟨u,h1,h2,h3⟩:=h.el i hi;exact⟨u,h1,h2.is⟩
theorem PS.add {B:Nat} {A:AW} {vp:qd} {us:List qd} {ps:List (List bq)} (h:PS B A vp us ps) {u:qd} {p:List bq} (hu:dV B A 5 u p.length (p.flatMap az)) (gZ:∀j,ep vp=qc j->ep u≠qc j)
 (hn:us.length<2 ^ 30) (hB:B<=A.next) (hw:A.Wf) :
 ∃v' A',fI qV (A.alloc (qi [u] qg 1)) 29 29 vp (.slice (qc ⟨A.next,0,qh⟩) 1 1)=qc (v',A')/\PS B A' v' (us++[u]) (ps++[p])/\Q3 B A A' vp v':=by
 obtain⟨v',A',e,h2,k⟩:=Sb (P:=qV) u Tryz.underlying29 Tryz.info76 Tryz.zero76 rfl rfl Yb hu.aM h.own hn hB hw;have Tn:∀{x:qd} {n cs},dV B A 5 x n cs->(∀j,ep vp=qc j->ep x≠qc j)->dV B A' 5 x n cs/\∀j,ep v'=qc j->ep x≠qc j:=λ{x n cs} hx hd=>by
  refine⟨hx.iM λj hj=>k.bk j (hx.lt hw hj).2 λe2=>hd j e2 hj,λj hj kh=>?_⟩;rcases k.mR j hj with e2|e2;exact hd j e2 kh;have:=(hx.lt hw kh).2;omega
 refine⟨v',A',e,⟨by rw [Zc];exact h2,by simp [h.len],λi hi=>?_⟩,k⟩;by_cases bY:i<ps.length;obtain⟨x,h3,h4,h5⟩:=h.el i bY;obtain⟨h6,h7⟩:=Tn h4 h5;refine⟨x,?_,?_,h7⟩;rw [List.getElem?_append_left (by rw [h.len];exact bY),h3];rw [List.getElem_append_left bY];exact h6;have OQ:i=ps.length:=by simp at hi;omega
 subst OQ;obtain⟨h6,h7⟩:=Tn hu gZ;refine⟨u,?_,?_,h7⟩;rw [<-h.len];simp
 simpa using h6
end
section
open T7
variable [Gl]
def nQ (a n:Int):Int:=q8.wrap a % n
theorem rI (a n:Int) (hn:0<n):0<=nQ a n/\nQ a n<n:=⟨Int.emod_nonneg _ Ya,Int.emod_lt_of_pos _ hn⟩
theorem Ax (a n:Int) (A:AW) (hn:0<n) (yt:n<=9223372036854775807) :
 aB qV 18 [qb qa a,qb qa n] A (λv A'=>v=qb qa (nQ a n)/\A=A'):=by
 refine aK Tryz.func18 λhw=>?_;have iZ:q8.wrap n=n:=an Ya Ya;have gZ:n≠0:=Ya
 obtain⟨h1,h2⟩:=kN a;obtain⟨h3,h4⟩:=rI a n hn;have hr:(q8.wrap a).tmod n=nQ a n:=Int.tmod_eq_emod_of_nonneg h1;have jE:qY.wrap (nQ a n)=nQ a n:=af Ya Ya;refine W cx (J4 iZ gZ hr jE) ?_<;>intros;simp
end
section
abbrev lS:List (Nat×Nat):=[(0,0),(1,0),(2,0),(3,0),(4,0),(5,0),(6,0),(10,0),(7,2),(8,0),(9,0),(11,2),(12,2),(13,3),(14,0),(15,3)]
abbrev lR:List (Nat×Nat):=[(0,0),(1,0),(2,0),(3,0),(4,0),(5,0),(6,0),(7,2),(8,2),(9,3),(10,0),(11,3)]
open T7
variable [Gl]
structure SB (A:AW) (b:Nat) (A':AW):Prop where
 next:A.next<=A'.next
 bk:∀i,i<A.next->i≠b->A'.bk i=A.bk i
theorem SB.refl (A:AW) (b:Nat):SB A b A:=⟨Nat.le_refl _,λ_ _ _=>rfl⟩
theorem SB.trans {A B C:AW} {b:Nat} (h:SB A b B) (k:SB B b C):SB A b C:=⟨ZA h.next k.next,λi hi hb=>(k.bk i (kaR hi h.next) hb).trans (h.bk i hi hb)⟩
theorem SB.nd {A B:AW} {b:Nat} (h:A.le B):SB A b B:=⟨h.next,λi hi _=>h.bk i hi⟩
theorem SB.set {A B:AW} {b:Nat} (h:SB A b B) (o:Option eh):SB A b (B.set b o):=⟨h.next,λi hi hb=>(AW.aZ hb).trans (h.bk i hi hb)⟩
theorem SB.le {A0 A B:AW} {b:Nat} (h:A0.le A) (hb:A0.next<=b) (k:SB A b B):A0.le B:=⟨ZA h.next k.next,λi hi=>(k.bk i (kaR hi h.next) Ya).trans (h.bk i hi)⟩
theorem SB.app {A1 A A':AW} {b:Nat} {v v':qd} (h:SB A1 b A) (hv:∀j,ep v=qc j->A1.next<=j) (k:Q3 A1.next A A' v v'):SB A1 b A':=
 ⟨ZA h.next k.next,λi hi hb=>(k.bk i (kaR hi h.next) λe=>by have:=hv i e;omega).trans (h.bk i hi hb)⟩
theorem Ow {P:Program} {t e:TypeId} {i:TypeInfo} {z:qd} {A:AW} {B:Nat} {v:qd} {n:Nat} {cs:List qd} (x:qd) (hu:P.underlying t=qc (.slice e)) (hi:P.info? e=qc i) (hz:i.zero=qc z) (hs:i.size=1) (pq:z.cells.size=1) (zZ:i.bytes<=8)
 (hx:x.oneCell'=qg) (iz:dV B A 1 v n cs) (hn:n<17592186044415) (hB:B<=A.next) (hw:A.Wf) :
 ∃v' A',fI P (A.alloc (qi [x] qg 1)) t t v (.slice (qc ⟨A.next,0,qh⟩) 1 1)=qc (v',A')/\dV B A' 1 v' (n+1) (cs++[x])/\Q3 B A A' v v':=by
 have Cw:=dV.le (qW A (qi [x] qg 1)) hw iz;have jI:gN (A.alloc (qi [x] qg 1)) 1 (.slice (qc ⟨A.next,0,qh⟩) 1 1)=qc (1,[x]):=by
  simp [gN,AW.bS]
 have hb:(n+1)*i.bytes<=140737488355328:=by
  have:=kaL (n+1) zZ;omega
 obtain⟨v',A',h1,h2,h3,h4,h5,h6,h7⟩:=km (P:=P) (size:=1) (t:=t) hu hi hz hs pq Ya Cw jI (by rw [List.all_cons,hx];rfl) Ya hb Y0 (hw.alloc _);refine⟨v',A',h1,h2,λA0 ha hl=>h3 A0 ha (hl.trans (qW A _)),h4,by rw [AW.be] at h5;omega,λj hj gZ=>?_,λj hj=>?_⟩;rw [h6 j Yg gZ,AW.gl _ _ Ya];rcases h7 with rfl|h7;exact .inl hj;rw [h7] at hj;injection hj with hj;simp at hj;exact .inr Ya
def QP (nh:Int) (q:List bq):Prop:=q.length<=1001/\(nh<=64->(c8 q).2=0)/\Jd q
theorem FV (hn:Gl.N=4) (c:aY) (Wq:0<=c.bg/\c.bg<=64) (n:Nat) (hn16:n<=16) (vl vk:qd) (ls:List (List Int)) (pk:List Int) (nh:Int) (heap plain:Bool) (A:AW) (hL:pH A vl ls)
 (hm:0<=nh/\nh<=1000) (hk:bK A qa vk pk) (hkl:pk.length<=17592186044415) (hnp:pk=[]\/1<=n) :
 aB qV 23 [c.v,qb qa n,vl,qb qa nh,qn heap,qn plain,vk] A (λu A'=>∃(oi:Option Addr) (ni ci:Nat) (vp:qd) (ok:Option Addr) (ck:Nat) (us:List qd) (ps:List (List bq)) (kl zs:List Int) (Z:Nat),
  u=FX c (.slice oi ni ci) vp (.slice ok kl.length ck)/\A.next<=Z/\PS Z A' vp us ps/\A.le A'/\A'.Wf/\dV Z A' 1 (.slice ok kl.length ck) kl.length (kl.map (Zb qa))/\kl.length=pk.length/\us.length=n/\(∀q∈ps,QP nh q)/\(∀j o,ep (.slice ok kl.length ck)=qc j->PS Z (A'.set j o) vp us ps)/\
  (ni:Int)=c.bg/\(∀x∈kl,0<=x/\x<(n:Int))/\zs.length=ni/\dV A.next A' 1 (.slice oi ni ci) ni (zs.map (Zb qj))/\∀j,ep (.slice oi ni ci)=qc j->j<Z):=by
 refine aK Tryz.func23 λhw=>?_;obtain⟨ol,cl,rfl,_⟩:=hL.bR;obtain⟨okk,ckk,rfl,_⟩:=hk.bR;have cB:=λB=>F6 c B;generalize Ft c=bl at cB;have Bk:c.v=.agg c.cells.toArray:=rfl;obtain⟨jm,d9,i9,c0,c1,c2,c3,iJ,iW,ja,i8,gL,jr⟩:=c;simp only at Wq;obtain⟨Jg,rfl⟩:∃Jg:Nat,jm=Jg:=⟨jm.toNat,by omega⟩;have hwsz:Jg<=64:=Ya
 unfold FX gU;simp only [aY.v,aY.cells,aa,ah] at cB ⊢;revert hw;refine W (J2 (od lS) (od lR)) (J1 bC) ?_<;>(unhygienic intros)
 refine Fu (λA1=>A.le A1/\A1.Wf/\A1.next=A.next+3/\A1.bk A.next=qc (qi [qb qa (Jg:Int),qb qa d9,qb qa i9,qb qa c0,qb qa c1,qb qa c2,qb qa c3,qb qa iJ,qb qa iW,qb qa ja,qb qa i8,qb qa gL,qn jr] qg 1)/\
  A1.bk (A.next+1)=qc (qi pz qg 1)/\
  A1.bk (A.next+2)=qc (qi [qb qa (Jg:Int),qb qa d9,qb qa i9,qb qa c0,qb qa c1,qb qa c2,qb qa c3,qb qa iJ,qb qa iW,qb qa ja,qb qa i8,qb qa gL,qn jr,.slice qh 0 0,.slice qh 0 0,.slice qh 0 0] qg 1)) ?_ ?_
 have e1:¬A.next=A.next+1+1:=Ya
 have e2:¬A.next=A.next+1:=Ya
 have e3:¬A.next+1=A.next:=Ya
 have e4:¬A.next+1+1=A.next:=Ya
 refine⟨(((qW A _).trans (qW _ _)).trans (qW _ _)).set Ya _,(((hw.alloc _).alloc _).alloc _).set _ (by simp only [AW.be];omega),by simp,?_,?_,?_⟩;simp [AW.du,AW.dx,e1];simp [AW.du,AW.dx,pz];simp [];rintro A1 ⟨GV,iZ,C7,hb7,Wy,hb15⟩
 refine mH (λfr A'=>∃(vi:qd) (ni:Nat) (zs:List Int),ni=Jg/\zs.length=ni/\fr 1=qb qa n/\fr 2=.slice ol ls.length cl/\fr 3=qb qa nh/\fr 4=qn heap/\fr 5=qn plain/\fr 6=.slice okk pk.length ckk/\fr 7=qm (qc ⟨A.next,0,qh⟩)/\fr 14=qm (qc ⟨A.next+1,0,qh⟩)/\fr 15=qm (qc ⟨A.next+2,0,qh⟩)/\
  SB A1 (A.next+2) A'/\A'.Wf/\A'.bk (A.next+2)=qc (qi [qb qa (Jg:Int),qb qa d9,qb qa i9,qb qa c0,qb qa c1,qb qa c2,qb qa c3,qb qa iJ,qb qa iW,qb qa ja,qb qa i8,qb qa gL,qn jr,vi,.slice qh 0 0,.slice qh 0 0] qg 1)/\dV A1.next A' 1 vi ni (zs.map (Zb qj))) ?_ ?_
 . refine df (λk fr A'=>∃(i:Nat) (vi:qd) (zs:List Int),k=Jg-i/\i<=Jg/\zs.length=i/\fr 1=qb qa n/\fr 2=.slice ol ls.length cl/\fr 3=qb qa nh/\fr 4=qn heap/\fr 5=qn plain/\fr 6=.slice okk pk.length ckk/\fr 7=qm (qc ⟨A.next,0,qh⟩)/\fr 14=qm (qc ⟨A.next+1,0,qh⟩)/\fr 15=qm (qc ⟨A.next+2,0,qh⟩)/\fr 16=qb qa i/\
    SB A1 (A.next+2) A'/\A'.Wf/\A'.bk (A.next+2)=qc (qi [qb qa (Jg:Int),qb qa d9,qb qa i9,qb qa c0,qb qa c1,qb qa c2,qb qa c3,qb qa iJ,qb qa iW,qb qa ja,qb qa i8,qb qa gL,qn jr,vi,.slice qh 0 0,.slice qh 0 0] qg 1)/\dV A1.next A' 1 vi i (zs.map (Zb qj))) Jg ?_ ?_
   exact⟨0,_,[],rfl,Zt _,rfl,rfl,rfl,rfl,rfl,rfl,rfl,rfl,rfl,rfl,rfl,SB.refl _ _,iZ,hb15,dV.nil _ _ _⟩;rintro k fr A' ⟨i,vi,zs,rfl,hi,hzl,g1,g2,g3,g4,g5,g6,g7,uq,tG,WG,hS,jN,hb,iz⟩;have NX:=(hS.bk A.next Ya Ya).trans hb7;have pe:=jN.lt hb;by_cases bY:i<Jg
   . obtain⟨qv,hqv⟩:∃qv,q8.wrap ((i:Int).tmod 4)=qv:=⟨_,rfl⟩;have gC:=zd (i:=i);obtain⟨vi',A4,e4,vJ,k4⟩:=Sb (P:=qV) (qb qj qv) Tryz.underlying28 Tryz.info35 Tryz.zero35 rfl rfl Yb rfl iz Ya hS.next jN;have vJ:dV A1.next A4 1 vi' (i+1) ((zs++[qv]).map (Zb qj)):=by simpa using vJ
     have gZ:ep vi≠qc (A.next+2):=λe=>by have:=(iz.lt jN e).1;omega
     have yy:=(k4.bk (A.next+2) pe gZ).trans hb;have Wg:=k4.wf.lt yy;have Ab:=hS.app (λj hj=>(iz.lt jN hj).1) k4;have dw:Jg-i=(Jg-(i+1))+1:=Ya;have Ui:=iz.aM;have VZ:=vJ.aM;refine aT ?_;revert hS hw;refine W (J2 (od lS) (od lR)) (J18 g1 g2 g3 g4 g5 g6 g7 uq tG WG bY gC hqv hb NX yy e4 bC) ?_<;>(unhygienic intros);obtain⟨oi',ci',rfl,_⟩:=vJ.is.bR;refine W (J2 (od lS) (od lR)) (J18 g1 g2 g3 g4 g5 g6 g7 uq tG WG bY gC hqv hb NX yy e4 bC) ?_<;>intros;refine⟨Jg-(i+1),by omega,i+1,_,zs++[qv],rfl,by omega,by simp [hzl],?_,?_,?_,?_,?_,?_,?_,?_,?_,?_,Ab.set _,k4.wf.set _ Wg,AW.bV,vJ.iM λj hj=>AW.aZ (λe=>by have:=(vJ.lt k4.wf hj).1;omega)⟩<;>simp [g1,g2,g3,g4,g5,g6,g7,uq,tG]
   refine aT ?_;revert hS hw;refine W (J2 (od lS) (od lR)) (y9 g1 g2 g3 g4 g5 g6 g7 uq tG WG bY hb NX @AW.ab) ?_<;>(unhygienic intros);refine⟨vi,_,zs,by omega,hzl,?_,?_,?_,?_,?_,?_,?_,?_,?_,hS,jN,hb,iz⟩<;>simp [g1,g2,g3,g4,g5,g6,g7,uq,tG]
 rintro fr A2 ⟨vi,ni,zs,Lq,hzl,g1,g2,g3,g4,g5,g6,g7,uq,tG,js,jE,lF,NN⟩;have Lt:=js.le GV Ya;have yt:A.next+3<=A2.next:=by rw [<-C7];exact js.next
 have hb7:=(js.bk A.next Ya Ya).trans hb7;have Wy:=(js.bk (A.next+1) Ya Ya).trans Wy;obtain⟨oi,cpi,rfl,_⟩:=NN.is.bR;have Us:∀j,ep (.slice oi ni cpi)=qc j->A.next+3<=j/\j<A2.next:=λj hj=>⟨by have:=(NN.lt jE hj).1;omega,(NN.lt jE hj).2⟩;have hI:∀A',SB A2 (A.next+2) A'->dV A1.next A' 1 (.slice oi ni cpi) ni (zs.map (Zb qj)):=λA' h=>NN.iM λj hj=>h.bk j (Us j hj).2 (by have:=(Us j hj).1;omega);clear hb15 NN js iZ GV;refine aT ?_;revert hw;refine W (J2 (od lS) (od lR)) (J9 g1 g2 g3 g4 g5 g6 g7 uq tG) ?_<;>(unhygienic intros)
 refine mH (λfr A'=>∃(vp:qd) (us:List qd) (ps:List (List bq)),us.length=n/\(∀q∈ps,QP nh q)/\fr 1=qb qa n/\fr 2=.slice ol ls.length cl/\fr 3=qb qa nh/\fr 4=qn heap/\fr 5=qn plain/\fr 6=.slice okk pk.length ckk/\fr 7=qm (qc ⟨A.next,0,qh⟩)/\fr 14=qm (qc ⟨A.next+1,0,qh⟩)/\fr 15=qm (qc ⟨A.next+2,0,qh⟩)/\
  SB A2 (A.next+2) A'/\A'.Wf/\A'.bk (A.next+2)=qc (qi [qb qa (Jg:Int),qb qa d9,qb qa i9,qb qa c0,qb qa c1,qb qa c2,qb qa c3,qb qa iJ,qb qa iW,qb qa ja,qb qa i8,qb qa gL,qn jr,.slice oi ni cpi,vp,.slice qh 0 0] qg 1)/\PS A2.next A' vp us ps) ?_ ?_
 . refine df (λk fr A'=>∃(t:Nat) (vp:qd) (us:List qd) (ps:List (List bq)),k=n-t/\t<=n/\us.length=t/\(∀q∈ps,QP nh q)/\fr 1=qb qa n/\fr 2=.slice ol ls.length cl/\fr 3=qb qa nh/\fr 4=qn heap/\fr 5=qn plain/\fr 6=.slice okk pk.length ckk/\fr 7=qm (qc ⟨A.next,0,qh⟩)/\fr 14=qm (qc ⟨A.next+1,0,qh⟩)/\fr 15=qm (qc ⟨A.next+2,0,qh⟩)/\fr 17=qb qa t/\
    SB A2 (A.next+2) A'/\A'.Wf/\A'.bk (A.next+2)=qc (qi [qb qa (Jg:Int),qb qa d9,qb qa i9,qb qa c0,qb qa c1,qb qa c2,qb qa c3,qb qa iJ,qb qa iW,qb qa ja,qb qa i8,qb qa gL,qn jr,.slice oi ni cpi,vp,.slice qh 0 0] qg 1)/\PS A2.next A' vp us ps) n ?_ ?_
   exact⟨0,_,[],[],rfl,Zt _,rfl,by simp,by simp [g1],by simp [g2],by simp [g3],by simp [g4],by simp [g5],by simp [g6],by simp [g7],by simp [uq],by simp [tG],rfl,SB.refl _ _,jE,lF,PS.nil _ _⟩;clear g1 g2 g3 g4 g5 g6 g7 uq tG;rintro k fr A' ⟨t,vp,us,ps,rfl,ht,hut,mV,g1,g2,g3,g4,g5,g6,g7,uq,tG,Tz,hS,jN,hb,hP⟩;have NX:=(hS.bk A.next Ya Ya).trans hb7;have pe:=jN.lt hb;have hleA:=hS.le Lt Ya;have hL':=hL.keeps (gW.nd hleA hw);obtain⟨op',cp',xy,_⟩:=hP.own.is.bR;subst xy;by_cases bY:t<n
   . have gC:qY.wrap ((t:Int)+1)=((t+1:Nat):Int):=af Ya Ya;have dw:n-t=(n-(t+1))+1:=Ya;by_cases DA:t<ls.length
     . obtain⟨q,bS,own,u,wW,bO,hcell,hu⟩:=hL'.at DA;subst wW;cases heap with
       | true=>
         refine aT ?_;revert hS hw;refine W (J3 (od lS) (od lR) @cB) (J18 g1 g2 g3 g4 g5 g6 g7 uq tG Tz bY DA gC bO hcell hb NX @AW.ab) ?_<;>(unhygienic intros);refine(pK hn _ _ nh _ plain _ hu hm).mono ?_;rintro u2 A4 ⟨p,ER,P2,mT,nz,hpv,hpa⟩
         refine⟨mT,?_⟩
         obtain⟨ou,cu,P1,_⟩:=P2.is.bR;subst P1;have IW:=hP.le mT jN;obtain⟨HW,A5,e5,Qf,k5⟩:=IW.add (P2.zQ hS.next) (λj h1 h2=>by have:=(hP.own.lt jN h1).2;have:=(P2.lt nz h2).1;omega) Ya (ZA hS.next mT.next) nz;have yy:=mT.mS jN hb;have Ww:=(k5.bk (A.next+2) (nz.lt yy) (λe=>by have:=(IW.own.lt nz e).1;omega)).trans yy;have w6:=(hS.trans (SB.nd mT)).app (λj hj=>(IW.own.lt nz hj).1) k5;obtain⟨op2,cp2,PZ,_⟩:=Qf.own.is.bR;subst PZ;simp only [Zc,Zy,kam,ZZ] at Qf e5;have Ls:=k5.wf.lt Ww;revert hS hw;(repeat first|revert hc|revert R|revert K);refine W (J2 (od lS) (od lR)) (J17 g1 g2 g3 g4 g5 g6 g7 uq tG Tz bY DA gC yy Ww e5 bC) ?_<;>(unhygienic intros);refine⟨n-(t+1),by omega,t+1,_,us++[.slice ou p.length cu],ps++[p],rfl,by omega,by rw [Zc,hut];rfl,λq hq=>by
          rcases ZH.1 hq with h|h;exact mV q h;rw [kai.1 h];exact⟨ER,hpv,hpa⟩,?_,?_,?_,?_,?_,?_,?_,?_,?_,?_,w6.set _,k5.wf.set _ Ls,AW.bV,Qf.iM (λj h1 _=>AW.aZ (show j≠A.next+2 by omega)) k5.wf⟩<;>simp [g1,g2,g3,g4,g5,g6,g7,uq,tG]
       | false=>
         refine aT ?_;revert hS hw;refine W (J3 (od lS) (od lR) @cB) (J18 g1 g2 g3 g4 g5 g6 g7 uq tG Tz bY DA gC bO hcell hb NX @AW.ab) ?_<;>(unhygienic intros);refine(pK hn _ _ nh _ plain _ hu hm).mono ?_;rintro u2 A4 ⟨p,ER,P2,mT,nz,hpv,hpa⟩
         refine⟨mT,?_⟩
         obtain⟨ou,cu,P1,_⟩:=P2.is.bR;subst P1;have IW:=hP.le mT jN;obtain⟨HW,A5,e5,Qf,k5⟩:=IW.add (P2.zQ hS.next) (λj h1 h2=>by have:=(hP.own.lt jN h1).2;have:=(P2.lt nz h2).1;omega) Ya (ZA hS.next mT.next) nz;have yy:=mT.mS jN hb;have Ww:=(k5.bk (A.next+2) (nz.lt yy) (λe=>by have:=(IW.own.lt nz e).1;omega)).trans yy;have w6:=(hS.trans (SB.nd mT)).app (λj hj=>(IW.own.lt nz hj).1) k5;obtain⟨op2,cp2,PZ,_⟩:=Qf.own.is.bR;subst PZ;simp only [Zc,Zy,kam,ZZ] at Qf e5;have Ls:=k5.wf.lt Ww;revert hS hw;(repeat first|revert hc|revert R|revert K);refine W (J2 (od lS) (od lR)) (J17 g1 g2 g3 g4 g5 g6 g7 uq tG Tz bY DA gC yy Ww e5 bC) ?_<;>(unhygienic intros);refine⟨n-(t+1),by omega,t+1,_,us++[.slice ou p.length cu],ps++[p],rfl,by omega,by rw [Zc,hut];rfl,λq hq=>by
          rcases ZH.1 hq with h|h;exact mV q h;rw [kai.1 h];exact⟨ER,hpv,hpa⟩,?_,?_,?_,?_,?_,?_,?_,?_,?_,?_,w6.set _,k5.wf.set _ Ls,AW.bV,Qf.iM (λj h1 _=>AW.aZ (show j≠A.next+2 by omega)) k5.wf⟩<;>simp [g1,g2,g3,g4,g5,g6,g7,uq,tG]
     have hu:bK A' qa (.slice qh 0 0) []:=bK.nil _ _;cases heap with
     | true=>
       refine aT ?_;revert hS hw;refine W (J3 (od lS) (od lR) @cB) (Mg g1 g2 g3 g4 g5 g6 g7 uq tG Tz bY DA gC hb NX @AW.ab) ?_<;>(unhygienic intros);refine(pK hn _ _ nh _ plain _ hu hm).mono ?_;rintro u2 A4 ⟨p,ER,P2,mT,nz,hpv,hpa⟩
       refine⟨mT,?_⟩
       obtain⟨ou,cu,P1,_⟩:=P2.is.bR;subst P1;have IW:=hP.le mT jN;obtain⟨HW,A5,e5,Qf,k5⟩:=IW.add (P2.zQ hS.next) (λj h1 h2=>by have:=(hP.own.lt jN h1).2;have:=(P2.lt nz h2).1;omega) Ya (ZA hS.next mT.next) nz;have yy:=mT.mS jN hb;have Ww:=(k5.bk (A.next+2) (nz.lt yy) (λe=>by have:=(IW.own.lt nz e).1;omega)).trans yy;have w6:=(hS.trans (SB.nd mT)).app (λj hj=>(IW.own.lt nz hj).1) k5;obtain⟨op2,cp2,PZ,_⟩:=Qf.own.is.bR;subst PZ;simp only [Zc,Zy,kam,ZZ] at Qf e5;have Ls:=k5.wf.lt Ww;revert hS hw;(repeat first|revert hc|revert R|revert K);refine W (J2 (od lS) (od lR)) (J17 g1 g2 g3 g4 g5 g6 g7 uq tG Tz bY DA gC yy Ww e5 bC) ?_<;>(unhygienic intros);refine⟨n-(t+1),by omega,t+1,_,us++[.slice ou p.length cu],ps++[p],rfl,by omega,by rw [Zc,hut];rfl,λq hq=>by
        rcases ZH.1 hq with h|h;exact mV q h;rw [kai.1 h];exact⟨ER,hpv,hpa⟩,?_,?_,?_,?_,?_,?_,?_,?_,?_,?_,w6.set _,k5.wf.set _ Ls,AW.bV,Qf.iM (λj h1 _=>AW.aZ (show j≠A.next+2 by omega)) k5.wf⟩<;>simp [g1,g2,g3,g4,g5,g6,g7,uq,tG]
     | false=>
       refine aT ?_;revert hS hw;refine W (J3 (od lS) (od lR) @cB) (Mg g1 g2 g3 g4 g5 g6 g7 uq tG Tz bY DA gC hb NX @AW.ab) ?_<;>(unhygienic intros);refine(pK hn _ _ nh _ plain _ hu hm).mono ?_;rintro u2 A4 ⟨p,ER,P2,mT,nz,hpv,hpa⟩
       refine⟨mT,?_⟩
       obtain⟨ou,cu,P1,_⟩:=P2.is.bR;subst P1;have IW:=hP.le mT jN;obtain⟨HW,A5,e5,Qf,k5⟩:=IW.add (P2.zQ hS.next) (λj h1 h2=>by have:=(hP.own.lt jN h1).2;have:=(P2.lt nz h2).1;omega) Ya (ZA hS.next mT.next) nz;have yy:=mT.mS jN hb;have Ww:=(k5.bk (A.next+2) (nz.lt yy) (λe=>by have:=(IW.own.lt nz e).1;omega)).trans yy;have w6:=(hS.trans (SB.nd mT)).app (λj hj=>(IW.own.lt nz hj).1) k5;obtain⟨op2,cp2,PZ,_⟩:=Qf.own.is.bR;subst PZ;simp only [Zc,Zy,kam,ZZ] at Qf e5;have Ls:=k5.wf.lt Ww;revert hS hw;(repeat first|revert hc|revert R|revert K);refine W (J2 (od lS) (od lR)) (J17 g1 g2 g3 g4 g5 g6 g7 uq tG Tz bY DA gC yy Ww e5 bC) ?_<;>(unhygienic intros);refine⟨n-(t+1),by omega,t+1,_,us++[.slice ou p.length cu],ps++[p],rfl,by omega,by rw [Zc,hut];rfl,λq hq=>by
        rcases ZH.1 hq with h|h;exact mV q h;rw [kai.1 h];exact⟨ER,hpv,hpa⟩,?_,?_,?_,?_,?_,?_,?_,?_,?_,?_,w6.set _,k5.wf.set _ Ls,AW.bV,Qf.iM (λj h1 _=>AW.aZ (show j≠A.next+2 by omega)) k5.wf⟩<;>simp [g1,g2,g3,g4,g5,g6,g7,uq,tG]
   refine aT ?_;revert hS hw;refine W (J2 (od lS) (od lR)) (H7 g1 g2 g3 g4 g5 g6 g7 uq tG Tz bY) ?_<;>(unhygienic intros);refine⟨_,us,ps,by omega,mV,?_,?_,?_,?_,?_,?_,?_,?_,?_,hS,jN,hb,hP⟩<;>simp [g1,g2,g3,g4,g5,g6,g7,uq,tG]
 clear g1 g2 g3 g4 g5 g6 g7 uq tG;rintro fr A3 ⟨vp,us,ps,hun,mV,g1,g2,g3,g4,g5,g6,g7,uq,tG,lO,wV,xS,hP⟩;have EU:=lO.le Lt Ya;have hn3:A.next+3<=A3.next:=ZA yt lO.next;obtain⟨op',cp',xy,_⟩:=hP.own.is.bR;subst xy;have Wy:=(lO.bk (A.next+1) Ya Ya).trans Wy;have hP3:∀A',SB A3 (A.next+2) A'->PS A2.next A' (.slice op' us.length cp') us ps:=λA' h=>hP.iM (λj h1 h2=>h.bk j h2 Ya) wV;have hI3:∀A',SB A3 (A.next+2) A'->dV A1.next A' 1 (.slice oi ni cpi) ni (zs.map (Zb qj)):=λA' h=>hI A' (lO.trans h);have hn23:=lO.next;clear lO hP hI;refine aT ?_;revert hw;refine W (J2 (od lS) (od lR)) (J4 g1 g6 uq tG) ?_<;>(unhygienic intros)
 refine mH (λfr A'=>∃(vk:qd) (kl:List Int),(∀x∈kl,0<=x/\x<(n:Int))/\kl.length=pk.length/\fr 1=qb qa n/\fr 6=.slice okk pk.length ckk/\fr 14=qm (qc ⟨A.next+1,0,qh⟩)/\fr 15=qm (qc ⟨A.next+2,0,qh⟩)/\
  SB A3 (A.next+2) A'/\A'.Wf/\A'.bk (A.next+2)=qc (qi [qb qa (Jg:Int),qb qa d9,qb qa i9,qb qa c0,qb qa c1,qb qa c2,qb qa c3,qb qa iJ,qb qa iW,qb qa ja,qb qa i8,qb qa gL,qn jr,.slice oi ni cpi,.slice op' us.length cp',vk] qg 1)/\dV A3.next A' 1 vk kl.length (kl.map (Zb qa))) ?_ ?_
 . refine df (λk fr A'=>∃(i:Nat) (vk:qd) (kl:List Int),(∀x∈kl,0<=x/\x<(n:Int))/\k=pk.length-i/\i<=pk.length/\kl.length=i/\fr 1=qb qa n/\fr 6=.slice okk pk.length ckk/\fr 14=qm (qc ⟨A.next+1,0,qh⟩)/\fr 15=qm (qc ⟨A.next+2,0,qh⟩)/\fr 19=qb qa i/\
    SB A3 (A.next+2) A'/\A'.Wf/\A'.bk (A.next+2)=qc (qi [qb qa (Jg:Int),qb qa d9,qb qa i9,qb qa c0,qb qa c1,qb qa c2,qb qa c3,qb qa iJ,qb qa iW,qb qa ja,qb qa i8,qb qa gL,qn jr,.slice oi ni cpi,.slice op' us.length cp',vk] qg 1)/\dV A3.next A' 1 vk kl.length (kl.map (Zb qa))) pk.length ?_ ?_
   exact⟨0,_,[],by simp,rfl,Zt _,rfl,by simp [g1],by simp [g6],by simp [uq],by simp [tG],rfl,SB.refl _ _,wV,xS,dV.nil _ _ _⟩;clear g1 g2 g3 g4 g5 g6 g7 uq tG;rintro k fr A' ⟨i,vk,kl,Um,rfl,hi,hkli,g1,g6,uq,tG,g19,hS,jN,hb,iz⟩;have pe:=jN.lt hb;obtain⟨ovk,cvk,hvk,_⟩:=iz.is.bR;subst hvk;by_cases bY:i<pk.length
   . have C7:1<=n:=by
      rcases hnp with rfl|h;simp at bY;exact h
     obtain⟨q,bS,wW,bO,hcell⟩:=(hk.le (hS.le EU Ya) hw).at bY;subst wW;have cP:=λB=>Ax pk[i] (n:Int) B Ya Ya;have BH:=rI pk[i] n Ya;generalize nQ pk[i] n=pv at cP BH;generalize pk[i]=px at hcell cP;have gC:=zd (i:=i);obtain⟨vk',A4,e4,vJ,k4⟩:=Ow (P:=qV) (qb qa pv) Tryz.underlying24 Tryz.info3 Tryz.zero3 rfl rfl Yb rfl iz Ya hS.next jN;have gZ:ep (.slice ovk kl.length cvk)≠qc (A.next+2):=λe=>by have:=(iz.lt jN e).1;omega
     have yy:=(k4.bk (A.next+2) pe gZ).trans hb;have Wg:=k4.wf.lt yy;have Ab:=hS.app (λj hj=>(iz.lt jN hj).1) k4;have dw:pk.length-i=(pk.length-(i+1))+1:=Ya;obtain⟨ok4,ck4,P0,_⟩:=vJ.is.bR;subst P0;refine aT ?_;refine W (J3 (od lS) (od lR) @cP) (mW g1 g6 uq tG g19 bY gC bO hcell hb yy e4 bC) ?_<;>intros;refine⟨pk.length-(i+1),by omega,i+1,.slice ok4 (kl.length+1) ck4,kl++[pv],λx hx=>by
      rcases ZH.1 hx with h|h;exact Um x h;rw [kai.1 h];exact BH,rfl,by omega,by simp [hkli],?_,?_,?_,?_,?_,Ab.set _,k4.wf.set _ Wg,AW.bV,?_⟩
     rotate_right
     have h:=vJ.iM (A':=A4.set (A.next+2) (qc (qi [qb qa (Jg:Int),qb qa d9,qb qa i9,qb qa c0,qb qa c1,qb qa c2,qb qa c3,qb qa iJ,qb qa iW,qb qa ja,qb qa i8,qb qa gL,qn jr,.slice oi ni cpi,.slice op' us.length cp',.slice ok4 (kl.length+1) ck4] qg 1))) λj hj=>AW.aZ (λe=>by have:=(vJ.lt k4.wf hj).1;omega)
     simpa using h
     all_goals simp [g1,g6,uq,tG]
   refine aT ?_;revert hS hw;refine W (J2 (od lS) (od lR)) (J6 g1 g6 uq tG g19 bY) ?_<;>(unhygienic intros);refine⟨_,kl,Um,by omega,?_,?_,?_,?_,hS,jN,hb,iz⟩<;>simp [g1,g6,uq,tG]
 clear g1 g2 g3 g4 g5 g6 g7 uq tG;rintro fr A4 ⟨vk,kl,Um,hkl',g1,g6,uq,tG,hS,nz,yy,iz⟩;have Wx:=(hS.bk (A.next+1) Ya Ya).trans Wy;obtain⟨ok4,ck4,P0,_⟩:=iz.is.bR;subst P0;have IW:=hP3 A4 hS;have hlt14:=nz.lt Wx;have hA4:A3.next<=A4.next:=hS.next;have mT:=hS.le EU Ya;have gZ:¬A.next+2=A.next+1:=Ya
 have hne2:¬A.next+1=A.next+2:=Ya
 unfold pz at Wx;revert hS hw;refine W (J2 (od lS) (od lR)) (J9 g1 g6 uq tG Wx yy gZ hne2 bC) ?_<;>(unhygienic intros);refine⟨_,by (simp [bA,aQ,aR,uq,ir,AW.ab];done),oi,ni,cpi,_,ok4,ck4,us,ps,kl,zs,A2.next,rfl,by omega,IW.iM (λj h1 _=>AW.aZ (show j≠A.next+1 by omega)) nz,mT.set Ya _,nz.set _ hlt14,(iz.iM λj hj=>AW.aZ (λe=>by have:=(iz.lt nz hj).1;omega)).zQ hn23,hkl',hun,mV,λj o hj=>?_,by rw [Lq],Um,hzl,?_,λj hj=>(Us j hj).2⟩
 rotate_left
 exact((hI3 A4 hS).iM λj hj=>AW.aZ (λe=>by have:=(Us j hj).1;omega)).zQ Ya;have hj3:=(iz.lt nz hj).1;refine((hP3 (A4.set j o) ⟨hS.next,λi h1 h2=>by rw [AW.aZ Ya];exact hS.bk i h1 h2⟩).iM (λi h1 h2=>?_) (nz.set _ (iz.lt nz hj).2));by_cases e:i=j;subst e;rw [AW.bV,AW.bV];rw [AW.aZ e,AW.aZ Ya,AW.aZ e]
end
end Go.Stx
