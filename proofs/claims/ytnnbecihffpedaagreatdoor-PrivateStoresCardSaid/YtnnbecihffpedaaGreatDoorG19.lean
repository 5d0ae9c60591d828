import Derived.Test.YtnnbecihffpedaaGreatDoorG18
import Derived.Test.YtnnbecihffpedaaGreatDoorG11
set_option linter.all false
set_option maxRecDepth 20000
set_option maxHeartbeats 4000000
open List renaming length->U
open Go.Proofs.Tryz renaming func13->kbt,mx->Zm,prog->qZ
open Go.Stx.AW.le renaming alloc->q8
open Go.Value renaming oneCell'->ZK
open Int renaming toNat_natCast->Z5
open List renaming getElem?_eq_getElem->Zf,getElem?_eq_some_iff->Zy,getElem?_map->Z6,length_append->Zh,length_map->ZF,map_append->kaF,replicate->q9,set_getElem_self->kbk
open Nat renaming add_assoc->ZW,le_refl->Za,mul_one->ZY
open Prod renaming fst->ZB,snd->kaj
open Bool renaming false->qn,true->qj
open Go renaming FuncId->qN,Program->qp,Value->qi
open Go.Builtin renaming append->qP
open Go.Callee renaming builtin->qH
open Go.IntKind renaming i64->qg,u64->qr
open Go.Op renaming call->qW
open Go.Stx.dt renaming cells->qm
open Go.Value renaming bool->qt,int->qh,pointer->qs,slice->ql,tuple->qF
open Option renaming none->qk,some->qf
open Or renaming inl->qw,inr->qB
namespace Go.Stx
open Go Go.Proofs
attribute [local irreducible] TW bK df aW aE aL cY dm
section
abbrev Dw:List (Nat×Nat):=[(0,0),(1,0),(2,0),(3,0),(4,0),(5,0),(6,0),(7,0),(8,0),(9,0),(10,0),(11,2),(12,3)]
open T2
variable [Gl]
variable [AF]
def bz.LS {P:qp}{f:qN}{args:List qi}{q:rE}{b:Nat}{t:aV}{tN post:List It}{φ:qi->Prop}(h:bz P f args tN φ (λ_=>.h (iz q b t)::post)):
 eL P f args tN (λ(_:ThF) v=>φ v) (λx=>.at b (wo t.d ⟨gT t.fR x.du,x.vs,gS t.dV x.fj,na t.dP x.lM,ql (qf ⟨q.bb,q.off,qk⟩) (U t.aD) q.fg,pv x.fZ,x.vo⟩)::.h (eI t.fR x.du)::.h (jD x.vs t.dC)::.h (eH t.dV x.fj)::.h (gV t.dP x.lM)::
  .at q.bb q.o::.h (sV x.fZ t.cf t.iw)::.h (jD x.vo t.iA)::post):=λA F hw hS=>by refine bT (h A F hw hS) ?_;rintro v A'⟨h1,h2⟩_ _;obtain⟨x,hx⟩:=iz.open h2 .z;exact⟨x,h1,hx⟩
def eL.LS {P:qp}{f:qN}{args:List qi}{q:rE}{b:Nat}{t:aV}{tN:List It}{post:qi->List It}{φ:qi->qi->Prop}(h:eL P f args tN φ (λev=>.h (iz q b t)::post ev)):
 eL P f args tN (λ(y:qi×ThF) v=>φ y.1 v) (λy=>.at b (wo t.d ⟨gT t.fR y.2.du,y.2.vs,gS t.dV y.2.fj,na t.dP y.2.lM,ql (qf ⟨q.bb,q.off,qk⟩) (U t.aD) q.fg,pv y.2.fZ,y.2.vo⟩)::.h (eI t.fR y.2.du)::.h (jD y.2.vs t.dC)::.h (eH t.dV y.2.fj)::.h (gV t.dP y.2.lM)::
  .at q.bb q.o::.h (sV y.2.fZ t.cf t.iw)::.h (jD y.2.vo t.iA)::post y.1):=λA F hw hS=>by refine bT (h A F hw hS) ?_;rintro v A'⟨ev,h1,h2⟩_ _;obtain⟨x,hx⟩:=iz.open h2 .z;exact⟨(ev,x),h1,hx⟩
def O2 {eu:Int->Int->Int->Int}(hA:yx eu)(hF:FOK){c:bu}{nt k:Nat}(hc:dl c)(hk:k+1<2^24)(q:rE)(b pb:Nat)(t:aV)(M:Mm)(hM:mr c nt k M)(h:mR c nt k t)(sh:EC t.aD)(GP:CR q t.aD)(hd:t.done=qn):
 eL qZ 13 [pv b,pv pb] [.h (iz q b t),eA pb M] (λev v=>v=qF #[eQ (t.step eu M).2.1,ev,qt qj]) (λev=>[.h (iz q b (t.step eu M).2.2.2.1),eA pb (t.step eu M).2.2.2.2,.h (gK ev (t.step eu M).2.2.1)]):=by
 have hB:ThB t:=by have h1:=h.co.iA;have h2:=h.co.sn;exact ME hc Ya h.co Ya
 have lj:0<=t.pc/\t.pc<2^40:=hB.pc;have b9:=h.co.lt hd;have se:t.pc.toNat<U t.aD:=Ya
 obtain⟨La,RC⟩:=GP.at se;have S6:t.aD[t.pc.toNat]=t.dG:=by unfold aV.dG aV.yD;rw[List.getD_eq_getElem?_getD,Zf se];rfl
 rw[S6]at RC;have GM:q.off+t.d.pc.toNat*5+5<=U q.bO:=La;have IX:(q.bO.drop (q.off+t.d.pc.toNat*5)).take 5=aA t.dG:=RC;have Hc:0<=t.d.pc:=lj.1;have up:t.d.pc<(U t.aD:Int):=b9;have Ta:t.d.done=qn:=hd;have hi:=Nv h.co hd;unfold aV.step;rw[ar (by rw[hd];decide)];dsimp only;unfold aV.nJ;cases eh:t.dV with
 |some f=>
   obtain⟨dI,_,g3,g4,g5,g6,g7⟩:=h.fen f eh;have OK:=h.co.zH;have II:=Lz q b pb t M f dI eh hB Ya (LW hc h.co) (λl e=>by obtain⟨h1,h2,_⟩:=h.dr l e;exact⟨h1,by omega⟩)
   dsimp only;have P4:(t.vJ M f).2.1.d.id=t.d.id:=Mw f;generalize t.vJ M f=r at II P4 ⊢;have fM:=eh;intro A F hw dU;refine aO kbt λ_=>?_;dsimp only[aa,ah]at dU;obtain⟨⟨du,fj,lM,fZ,vs,vo⟩,hS⟩:=iz.open dU .z;clear dU;dsimp only[jP,aa,ah]at hS;rw[dI,eh]at hS;dsimp only[eI,gT,eH,gS,gV,na]at hS;have hq:=gP hS hw;have lW:∀k l,(b=A.next+k+l)=False:=λk l=>by simp[hq,ZW]
   have xl:∀k l,(q.bb=A.next+k+l)=False:=λk l=>by simp[hq,ZW]
   revert hq hS hw;(repeat revert hc);refine Wu (J2 (Tg.mk (n:=35) (bz.LS II)) (od Dw)) (Hr lW xl P4 Ta Hc up GM IX @eQ.eq_1 bL) ?_<;>(unhygienic intros);refine⟨_,by (simp[AW.ab];rfl),?_⟩;apply BR
   (·rfl)
   apply iz.bZ;apply gK.nil
   (·exact sA)
   dsimp only[jP]
   (·exact sH)
   (·exact sH)
 |none=>
   have fM:=h.UM eh;dsimp only;cases dI:t.fR with
   |none=>
     dsimp only;have ut:=exN_call hF q b pb t M t.dG dI eh fM (exN_of hA hc hk hM h hd dI eh sh) GP;have P4:(t.my eu M t.dG).2.2.1.d.id=t.d.id:=Hg _;generalize t.my eu M t.dG=r at ut P4 ⊢;generalize t.dG=i at *;obtain⟨op,i1,i2,i3,cg⟩:=i;unfold ll at ut;intro A F hw dU;refine aO kbt λ_=>?_;dsimp only[aa,ah]at dU;obtain⟨⟨du,fj,lM,fZ,vs,vo⟩,hS⟩:=iz.open dU .z;clear dU;dsimp only[jP,aa,ah]at hS;rw[dI,eh,fM]at hS;dsimp only[eI,gT,eH,gS,gV,na]at hS;have hq:=gP hS hw;have lW:∀k l,(b=A.next+k+l)=False:=λk l=>by simp[hq,ZW]
     have xl:∀k l,(q.bb=A.next+k+l)=False:=λk l=>by simp[hq,ZW]
     revert hq hS hw;(repeat revert hc);refine Wu (J2 (Tg.mk (n:=35) (eL.LS ut)) (od Dw)) (Ls lW xl P4 Ta Hc up GM IX @aA.eq_1 @eQ.eq_1 bL) ?_<;>(unhygienic intros);refine⟨_,by (simp[AW.ab];rfl),?_⟩;apply BR
     (·rfl)
     apply iz.bZ
     . skip
       (·exact sA)
     dsimp only[jP]
     (·exact sH)
     (·exact sH)
   |some s=>
     dsimp only;by_cases hb:s.kQ=qj
     . rw[az hb];have WF:=Au hF (busy_H hc hk hM h hd dI hb) q b pb dI eh fM GP;have y6:=λn=>yL n s;simp only[hb]at y6;have P4:(t.yU M s).2.2.1.d.id=t.d.id:=CT;generalize t.yU M s=r at WF P4 ⊢;intro A F hw dU;refine aO kbt λ_=>?_;dsimp only[aa,ah]at dU;obtain⟨⟨du,fj,lM,fZ,vs,vo⟩,hS⟩:=iz.open dU .z;clear dU;dsimp only[jP,aa,ah]at hS;rw[dI,eh,fM]at hS;dsimp only[eI,gT,eH,gS,gV,na]at hS;have hq:=gP hS hw;have lW:∀k l,(b=A.next+k+l)=False:=λk l=>by simp[hq,ZW]
       have xl:∀k l,(q.bb=A.next+k+l)=False:=λk l=>by simp[hq,ZW]
       revert hq hS hw;(repeat revert hc);refine Wu (J3 (Tg.mk (n:=10) (λ{A L K k}=>gg (A:=A) (L:=L) (K:=K) (k:=k) (y6 du))) (Tg.mk (n:=35) (eL.LS WF)) (od Dw)) (Hr lW xl P4 Ta Hc up GM IX @eQ.eq_1 bL) ?_<;>(unhygienic intros);refine⟨_,by (simp[AW.ab];rfl),?_⟩;apply BR
       (·rfl)
       apply iz.bZ
       . skip
         (·exact sA)
       dsimp only[jP]
       (·exact sH)
       (·exact sH)
     rw[ar hb];have lW:s.kQ=qn:=by simpa using hb
     have y6:=λn=>yL n s;simp only[lW]at y6;by_cases hs:t.aZ=qj
     . rw[az hs];have tu:t.d.aZ=qj:=hs;have WF:=Au hF (t:={ t with gt:=t.gt+1,fR:=qf (t.w9 t.dG s) }) (ask_H hc hk hM h hd dI hs) q b pb rfl eh fM GP;obtain⟨g1,_,_,g2⟩:=h.C8 s dI;rw[az (qB hs)]at g1;have hask:=λvs vf vd vc vl vo n=>VJ b n t.d vs vf vd vc vl vo t.dG s (g1.ok.b.attC hc) (g1.Ui hs).1 hi hB.pG;have ea:TP t.d t.dG s=t.w9 t.dG s:=rfl;rw[ea]at hask;have P4:(({ t with gt:=t.gt+1,fR:=qf (t.w9 t.dG s) }:aV).yU M (t.w9 t.dG s)).2.2.1.d.id=t.d.id:=CT;rw[show t.ask t.dG s={ t with gt:=t.gt+1,fR:=qf (t.w9 t.dG s) } from rfl];generalize ({ t with gt:=t.gt+1,fR:=qf (t.w9 t.dG s) }:aV).yU M (t.w9 t.dG s)=r at WF P4 ⊢;generalize t.w9 t.dG s=s2 at WF hask ⊢;generalize t.dG=i at *;obtain⟨op,i1,i2,i3,cg⟩:=i;unfold ll at hask;intro A F hw dU;refine aO kbt λ_=>?_;dsimp only[aa,ah]at dU;obtain⟨⟨du,fj,lM,fZ,vs,vo⟩,hS⟩:=iz.open dU .z;clear dU;dsimp only[jP,aa,ah]at hS
       rw[dI,eh,fM]at hS;dsimp only[eI,gT,eH,gS,gV,na]at hS;have hq:=gP hS hw;have lW:∀k l,(b=A.next+k+l)=False:=λk l=>by simp[hq,ZW]
       have xl:∀k l,(q.bb=A.next+k+l)=False:=λk l=>by simp[hq,ZW]
       revert hq hS hw;(repeat revert hc);refine Wu (J4 (Tg.mk (n:=10) (λ{A L K k}=>gg (A:=A) (L:=L) (K:=K) (k:=k) (y6 du))) (Tg.mk (n:=37) (λx1 x2 x3 x4 x5 x6=>hask x1 x2 x3 x4 x5 x6 du)) (Tg.mk (n:=35) (eL.LS WF)) (od Dw)) (Ay lW xl P4 Ta tu Hc up GM IX @aA.eq_1 @eQ.eq_1 bL) ?_<;>(unhygienic intros);refine⟨_,by (simp[AW.ab];rfl),?_⟩;apply BR
       (·rfl)
       apply iz.bZ
       . skip
         (·exact sA)
       dsimp only[jP]
       (·exact sH)
       (·exact sH)
     rw[ar hs];have ED:t.aZ=qn:=by simpa using hs
     have tu:t.d.aZ=qn:=ED;have ut:=exS_call hF q b pb t s M t.dG dI eh fM (exS_of hA hc hk hM h hd dI lW ED sh) GP;have P4:(t.my eu M t.dG).2.2.1.d.id=t.d.id:=Hg _;generalize t.my eu M t.dG=r at ut P4 ⊢;generalize t.dG=i at *;obtain⟨op,i1,i2,i3,cg⟩:=i;unfold ll at ut;intro A F hw dU;refine aO kbt λ_=>?_;dsimp only[aa,ah]at dU;obtain⟨⟨du,fj,lM,fZ,vs,vo⟩,hS⟩:=iz.open dU .z;clear dU;dsimp only[jP,aa,ah]at hS;rw[dI,eh,fM]at hS;dsimp only[eI,gT,eH,gS,gV,na]at hS;have hq:=gP hS hw;have lW:∀k l,(b=A.next+k+l)=False:=λk l=>by simp[hq,ZW]
     have xl:∀k l,(q.bb=A.next+k+l)=False:=λk l=>by simp[hq,ZW]
     revert hq hS hw;(repeat revert hc);refine Wu (J3 (Tg.mk (n:=10) (λ{A L K k}=>gg (A:=A) (L:=L) (K:=K) (k:=k) (y6 du))) (Tg.mk (n:=35) (eL.LS ut)) (od Dw)) (Ay lW xl P4 Ta tu Hc up GM IX @aA.eq_1 @eQ.eq_1 bL) ?_<;>(unhygienic intros);refine⟨_,by (simp[AW.ab];rfl),?_⟩;apply BR
     (·rfl)
     apply iz.bZ
     . skip
       (·exact sA)
     dsimp only[jP]
     (·exact sH)
     (·exact sH)
end
section
abbrev oThrM_0:List (Nat×Nat):=[(0,0),(1,0),(2,0),(3,0),(4,0),(5,0),(6,0),(7,0),(8,0),(9,0),(10,0),(11,2),(12,3)]
abbrev G4:List (Nat×Nat):=[(0,0),(1,0),(2,0),(3,0),(5,0),(4,2),(6,2),(7,0),(8,2),(9,0)]
open T7
variable [Gl]
def N4 (v:qi)(n:Nat)(cs:List qi)(A:AW)(h:gW A 5 v n cs)(h1:cs.all ZK=qj)(hl:n<2^30):
 aE qZ 30 [v] A (λu A'=>dW A.next A' 5 u n cs/\A.le A'/\A'.Wf):=by
 refine aO Tryz.func30 λhw=>?_;have hv:(∃c,v=ql qk n c)\/∃q c,v=ql (qf q) n c:=by
  rcases h with ⟨⟨o,rfl⟩,rfl,rfl⟩|⟨p,c,bO,own,u,rfl,_⟩
  . cases o with
    |none=>exact qw ⟨_,rfl⟩
    |some q=>exact qB ⟨_,_,rfl⟩
  exact qB ⟨_,_,rfl⟩
 rcases hv with ⟨c,rfl⟩|⟨q,c,rfl⟩;obtain⟨rfl,rfl,rfl⟩:n=0/\c=0/\cs=[]:=by exact XY
 revert hw;refine W db db ?_<;>(unhygienic intros);exact⟨_,rfl,qw ⟨rfl,rfl,rfl⟩,AW.le.refl A,hw⟩;have h2:=gW.le (q8 A (qm [] qj 5)) hw h;have jd:dW A.next (A.alloc (qm [] qj 5)) 5 (ql (qf ⟨A.next,0,qk⟩) 0 0) 0 []:=qB ⟨⟨A.next,0,qk⟩,0,[],rfl,Za _,rfl,Za _,by simp,by simp,by simp⟩;obtain⟨v',A',e1,e2,e3,e4,e5,e6,e7⟩:=lD (P:=qZ) (size:=5) (t:=30) Tryz.underlying30 Tryz.info33 Tryz.zero33 rfl rfl Ya jd (gW.pR h2) h1 Ya Yg Yb (hw.alloc _);refine W db (J1 e1) ?_<;>intros;refine⟨_,rfl,?_,?_,e4⟩
 simpa using e2
 exact e3 A (Za _) (q8 A _)
def N3 (v:qi)(n:Nat)(cs:List qi)(A:AW)(h:gW A 3 v n cs)(h1:cs.all ZK=qj)(hl:n<2^30):
 aE qZ 49 [v] A (λu A'=>dW A.next A' 3 u n cs/\A.le A'/\A'.Wf):=by
 refine aO Tryz.func49 λhw=>?_;have hv:(∃c,v=ql qk n c)\/∃q c,v=ql (qf q) n c:=by
  rcases h with ⟨⟨o,rfl⟩,rfl,rfl⟩|⟨p,c,bO,own,u,rfl,_⟩
  . cases o with
    |none=>exact qw ⟨_,rfl⟩
    |some q=>exact qB ⟨_,_,rfl⟩
  exact qB ⟨_,_,rfl⟩
 rcases hv with ⟨c,rfl⟩|⟨q,c,rfl⟩;obtain⟨rfl,rfl,rfl⟩:n=0/\c=0/\cs=[]:=by exact XY
 revert hw;refine W db db ?_<;>(unhygienic intros);exact⟨_,rfl,qw ⟨rfl,rfl,rfl⟩,AW.le.refl A,hw⟩;have h2:=gW.le (q8 A (qm [] qj 3)) hw h;have jd:dW A.next (A.alloc (qm [] qj 3)) 3 (ql (qf ⟨A.next,0,qk⟩) 0 0) 0 []:=qB ⟨⟨A.next,0,qk⟩,0,[],rfl,Za _,rfl,Za _,by simp,by simp,by simp⟩;obtain⟨v',A',e1,e2,e3,e4,e5,e6,e7⟩:=lD (P:=qZ) (size:=3) (t:=80) Tryz.underlying80 Tryz.info83 Tryz.zero83 rfl rfl Ya jd (gW.pR h2) h1 Ya Yg Yb (hw.alloc _);refine W db (J1 e1) ?_<;>intros;refine⟨_,rfl,?_,?_,e4⟩
 simpa using e2
 exact e3 A (Za _) (q8 A _)
def HD (b:Nat)(t:aV)(f:ThF)(vc:qi):List It:=[.at b (wo t.d ⟨gT t.fR f.du,f.vs,gS t.dV f.fj,na t.dP f.lM,vc,pv f.fZ,f.vo⟩),.h (eI t.fR f.du),.h (jD f.vs t.dC),.h (eH t.dV f.fj),.h (gV t.dP f.lM),
 .h (Ms vc t.aD),.h (sV f.fZ t.cf t.iw),.h (jD f.vo t.iA)]
def wz (b:Nat)(t:aV):HP:=ut λf:ThF×qi=>aP (HD b t f.1 f.2)
def wz.open {A:AW}{L K:List It}{b:Nat}{t:aV}(h:aj A L)(hp:aF L (.h (wz b t)) K):∃f:ThF×qi,aj A (HD b t f.1 f.2++K):=lb h hp
def wz.eB {A:AW}{L K:List It}{b:Nat}{t:aV}{f:ThF}{vc:qi}(h:aj A L)(e:bd L (HD b t f vc) K):aj A (.h (wz b t)::K):=ju (f,vc) h e
def wz.bZ {A:AW}{L K G K2:List It}{b:Nat}{t:aV}{du fj lM fZ:Nat}{vs vo vc:qi}(h:aj A L)(e:bd L (HD b t ⟨du,fj,lM,fZ,vs,vo⟩ vc) K)(e2:bd K G K2):aj A (.h (wz b t)::G):=aj.bZ (wz.eB h e) (.s .z e2)
def wz.toQ {A:AW}{L K:List It}{b:Nat}{t:aV}(h:aj A L)(hp:aF L (.h (wz b t)) K)(hl:0<U t.aD):∃q,CR q t.aD/\aj A (.h (iz q b t)::K):=by
 obtain⟨⟨⟨du,fj,lM,fZ,vs,vo⟩,vc⟩,h1⟩:=wz.open h hp;dsimp only[HD,aa,ah]at h1;obtain⟨q,rfl,h2,h3⟩:=codeOpen h1 (.s (.s (.s (.s (.s .z))))) hl;refine⟨q,h2,iz.eB (du:=du) (fj:=fj) (lM:=lM) (fZ:=fZ) (vs:=vs) (vo:=vo) h3 ?_⟩;unfold jP;dsimp only
 (·exact sH)
def iz.toP {A:AW}{L K:List It}{q:rE}{b:Nat}{t:aV}(h:aj A L)(hp:aF L (.h (iz q b t)) K)(hR:CR q t.aD):aj A (.h (wz b t)::K):=by
 obtain⟨⟨du,fj,lM,fZ,vs,vo⟩,h1⟩:=iz.open h hp;dsimp only[jP,aa,ah]at h1;have h2:=W0 hR h1 (.s (.s (.s (.s (.s .z)))));refine wz.eB (f:=⟨du,fj,lM,fZ,vs,vo⟩) (vc:=ql (qf ⟨q.bb,q.off,qk⟩) (U t.aD) q.fg) h2 ?_;unfold HD;dsimp only
 (·exact sH)
def stV (d:Bh):qi:=.agg (qh qg d.pc::(d.dY.cells++[qh qg d.mn,qt d.done])).toArray
def O4 (b:Nat)(t:aV)(M:Mm)(pb:Nat)(hd:t.done=qj):bz qZ 13 [pv b,pv pb] [.h (wz b t)] (λv=>v=qF #[eQ bS.zero,ql qk 0 0,qt qn]) (λ_=>[.h (wz b t)]):=by
 intro A F hw dU;refine aO kbt λ_=>?_;dsimp only[aa,ah]at dU;obtain⟨⟨⟨du,fj,lM,fZ,vs,vo⟩,vc⟩,hS⟩:=wz.open dU .z;clear dU;dsimp only[HD,aa,ah]at hS;have hq:=gv hS hw;have Ta:t.d.done=qj:=hd;revert hq hS hw;refine W (J1 (od oThrM_0)) (J2 Ta bL) ?_<;>(unhygienic intros);refine⟨_,by (simp[AW.ab];rfl),by rfl,?_⟩;apply wz.bZ
 (·exact sA)
 unfold HD;dsimp only
 (·exact sH)
 (·exact sH)
def ins_one (l:List bp):(l.flatMap aA).all ZK=qj:=by rw[List.all_eq_true];intro v hv;obtain⟨x,_,hx⟩:=List.mem_flatMap.1 hv;simp only[aA,List.mem_cons,List.not_mem_nil,or_false]at hx;rcases hx with rfl|rfl|rfl|rfl|rfl<;>rfl
def SC (c:bu){A:AW}{L:List It}{k:qi->AW->Prop}(hw:A.Wf)(hS:aj A L)(hk:∀n A',aj A' (.h (sV n c [])::L)->A'.Wf->A.le A'->k (pv n) A'):aE qZ 31 [c.v] A k:=by refine aO Tryz.func31 λ_=>?_;obtain⟨mB,gq,mh,c0,c1,c2,c3,kS,lZ,mi,mf,jC,nE⟩:=c;simp only[bu.v];revert hS hw;refine W db (J1 bL) ?_<;>(unhygienic intros);refine⟨_,by rfl,?_⟩;have w1:=hw.alloc (qm [qh qg mB,qh qg gq,qh qg mh,qh qg c0,qh qg c1,qh qg c2,qh qg c3,qh qg kS,qh qg lZ,qh qg mi,qh qg mf,qh qg jC,qt nE] qj 1);have h1:aj _ L:=bD.alloc hS hw (qm [qh qg mB,qh qg gq,qh qg mh,qh qg c0,qh qg c1,qh qg c2,qh qg c3,qh qg kS,qh qg lZ,qh qg mi,qh qg mf,qh qg jC,qt nE] qj 1) |>.right;refine hk (A.next+1) _ ?_ (w1.alloc _) ((q8 A _).trans (q8 _ _));refine sV.eB (v:=ql qk 0 0) (L:=.h (LmE (ql qk 0 0) [])::.at (A.next+1) (limO ⟨mB,gq,mh,c0,c1,c2,c3,kS,lZ,mi,mf,jC,nE⟩ (ql qk 0 0))::L) ?_ (.s (.s .z) (.s .z .z));exact dv.nil (bD.alloc h1 w1 _)
def thrTo_ex (b:Nat)(d:Bh)(va vs vf vd vl vo:qi)(o:Option Addr)(n c:Nat)(pc:Int)(A:AW)(hg:A.bk b=qf (wo d ⟨va,vs,vf,vd,ql o n c,vl,vo⟩)):
 aE qZ 32 [pv b,qh qg pc] A (λu A'=>A'=A.set b (qf (wo { d with pc:=pc,done:=decide (pc=n) } ⟨va,vs,vf,vd,ql o n c,vl,vo⟩))):=by refine aO Tryz.func32 λ_=>?_;refine W db (J2 hg bL) ?_<;>intros;exact⟨_,rfl,AW.set_set⟩
def aj.emp0 {A:AW}{L:List It}(h:aj A L):aj A (.h eY::L):=by unfold aj at *;show bD A (eY*aP L);rw[iD];exact h
def aj.drop2 {A:AW}{x y:It}{L:List It}(h:aj A (x::y::L)):aj A (x::L):=by have h2:bD A (y.hp*(x.hp*aP L)):=bD.dJ h (by show x.hp*(y.hp*aP L)=_;ac_rfl);exact h2.right
def PD (hF:FOK){c:bu}(hc:dl c)(id n:Int)(OK:0<=id/\id<n/\n<=16)(v:qi)(p:List bp)(hp:(b7 p).2=0){A:AW}{L:List It}{k:qi->AW->Prop}(hw:A.Wf)(hS:aj A L)(h:lE A v p)(hk:∀b A',aj A' (.h (wz b (rp c id n p))::L)->A'.Wf->A.le A'->k (qF #[pv b,qh qg 0]) A'):aE qZ 11 [c.v,qh qg id,qh qg n,v] A k:=by
 refine aO Tryz.func11 λ_=>?_;have hl:U p<=64:=(gA hp).1;obtain⟨o,cc,rfl,_⟩:=h.cL;have CF:=uC c hc;have lj:=λO=>uf hF (ql o (U p) cc) p (A.alloc O) (gW.le (q8 A O) hw h);have Qh:=λ{A:AW}{L:List It}{k:qi->AW->Prop}=>SC c (A:=A) (L:=L) (k:=k);generalize Wo:b7 p=pp at hp lj;obtain⟨p1,p2⟩:=pp;dsimp only at hp;subst hp;unfold sj at lj;have a1:¬n<1:=Ya
 have a2:¬16<n:=Ya
 have a3:¬id<0:=Ya
 have a4:¬n<=id:=Ya
 obtain⟨mB,gq,mh,c0,c1,c2,c3,kS,lZ,mi,mf,jC,nE⟩:=c;simp only[bu.v]at CF Qh ⊢;revert hS hw;(repeat revert hc);refine W (J3 (od G4) @CF @lj) (J5 a1 a2 a3 a4 bL) ?_<;>(unhygienic intros);have w1:=hw.alloc (qm [qh qg mB,qh qg gq,qh qg mh,qh qg c0,qh qg c1,qh qg c2,qh qg c3,qh qg kS,qh qg lZ,qh qg mi,qh qg mf,qh qg jC,qt nE] qj 1);have h1:aj _ (.at A.next _::L):=bD.alloc hS hw (qm [qh qg mB,qh qg gq,qh qg mh,qh qg c0,qh qg c1,qh qg c2,qh qg c3,qh qg kS,qh qg lZ,qh qg mi,qh qg mf,qh qg jC,qt nE] qj 1);refine bT (N4 _ _ _ _ (gW.le (q8 A _) hw h) (ins_one p) Ya) ?_;rintro u A4⟨ho4,pz,rS⟩_ _
 refine⟨pz,?_⟩
 have h4:aj A4 (.h (Ms u p)::.at A.next _::L):=dv.jh h1 w1 pz ho4;obtain⟨o4,c4,rfl,_⟩:=ho4.is.cL;have hg4:=h4.g 1 rfl;revert hS hw;(repeat first|revert hc|revert R|revert K);refine W (J1 (od G4)) (J2 hg4 bL) ?_<;>(unhygienic intros);refine Qh rS h4 ?_;intro n5 A5 h5 CA La
 refine⟨La,?_⟩
 revert hS hw;(repeat first|revert hc|revert R|revert K);refine W (J1 (od G4)) (J1 bL) ?_<;>(unhygienic intros);refine bT (thrTo_ex A5.next ⟨0,.zero,0,qn,0,⟨mB,gq,mh,c0,c1,c2,c3,kS,lZ,mi,mf,jC,nE⟩,id,n,0,.zero,0,qn,0⟩ (qs qk) (ql qk 0 0) (qs qk) (qs qk) (pv n5) (ql qk 0 0) o4 (U p) c4 0 _ (AW.cD _ _)) ?_;rintro u A6 rfl _ _
 skip
 revert hS hw;(repeat first|revert hc|revert R|revert K);refine W (J1 (od G4)) (J1 bL) ?_<;>(unhygienic intros);refine⟨qF #[pv A5.next,qh qg 0],by simp[bA,aR,aS],?_⟩
 have h6:aj ((A5.alloc (wo ⟨0,.zero,0,qn,0,⟨mB,gq,mh,c0,c1,c2,c3,kS,lZ,mi,mf,jC,nE⟩,id,n,0,.zero,0,qn,0⟩ ⟨qs qk,ql qk 0 0,qs qk,qs qk,ql o4 (U p) c4,pv n5,ql qk 0 0⟩)).set A5.next (qf (wo ⟨0,.zero,0,qn,0,⟨mB,gq,mh,c0,c1,c2,c3,kS,lZ,mi,mf,jC,nE⟩,id,n,0,.zero,0,decide ((0:Int)=U p),0⟩ ⟨qs qk,ql qk 0 0,qs qk,qs qk,ql o4 (U p) c4,pv n5,ql qk 0 0⟩))) (.at A5.next (wo ⟨0,.zero,0,qn,0,⟨mB,gq,mh,c0,c1,c2,c3,kS,lZ,mi,mf,jC,nE⟩,id,n,0,.zero,0,decide ((0:Int)=U p),0⟩ ⟨qs qk,ql qk 0 0,qs qk,qs qk,ql o4 (U p) c4,pv n5,ql qk 0 0⟩)::.h (sV n5 ⟨mB,gq,mh,c0,c1,c2,c3,kS,lZ,mi,mf,jC,nE⟩ [])::.h (Ms (ql o4 (U p) c4) p)::.at A.next (qm [qh qg mB,qh qg gq,qh qg mh,qh qg c0,qh qg c1,qh qg c2,qh qg c3,qh qg kS,qh qg lZ,qh qg mi,qh qg mf,qh qg jC,qt nE] qj 1)::L):=
  bD.set (bD.alloc h5 CA _) _
 refine hk A5.next _ ?_ ((CA.alloc _).set _ Yb) (((q8 A _).trans pz).trans (La.trans (AW.le.mu A5 _ _)));have h7:=aj.emp0 (aj.emp0 (aj.emp0 (aj.nilO (aj.nilO h6))));have e:decide ((0:Int)=U p)=decide (U p=0):=by by_cases e:U p=0;simp[e];rw[decide_eq_false e,decide_eq_false Ya]
 rw[e]at h7;have h8:=wz.eB (b:=A5.next) (t:=rp ⟨mB,gq,mh,c0,c1,c2,c3,kS,lZ,mi,mf,jC,nE⟩ id n p) (f:=⟨0,0,0,n5,ql qk 0 0,ql qk 0 0⟩) (vc:=ql o4 (U p) c4) (K:=.at A.next (qm [qh qg mB,qh qg gq,qh qg mh,qh qg c0,qh qg c1,qh qg c2,qh qg c3,qh qg kS,qh qg lZ,qh qg mi,qh qg mf,qh qg jC,qt nE] qj 1)::L) h7 (by
  show bd _ [.at A5.next (wo ⟨0,.zero,0,qn,0,⟨mB,gq,mh,c0,c1,c2,c3,kS,lZ,mi,mf,jC,nE⟩,id,n,0,.zero,0,decide (U p=0),0⟩ ⟨qs qk,ql qk 0 0,qs qk,qs qk,ql o4 (U p) c4,pv n5,ql qk 0 0⟩),.h eY,.h (jD (ql qk 0 0) []),.h eY,.h eY,.h (Ms (ql o4 (U p) c4) p),.h (sV n5 _ []),.h (jD (ql qk 0 0) [])] _
  exact pA)
 have h9:=aj.drop2 h8;rw[<-e]at h9;exact h9
def eL.ev0 {P:qp}{f:qN}{args:List qi}{tN:List It}{x y:qi}{a1 a2:It}(h:eL P f args tN (λev v=>v=qF #[x,ev,y]) (λev=>[a1,a2,.h (gK ev [])])):
 eL P f args tN (λ(z:Option Addr×Nat) v=>v=qF #[x,ql z.1 0 z.2,y]) (λ_=>[a1,a2]):=λA F hw hS=>by refine bT (h A F hw hS) ?_;rintro v A'⟨ev,rfl,h2⟩_ _;obtain⟨q,hq,h3⟩:=gK.open h2 (.s (.s .z));have L0:q=[]:=List.map_eq_nil_iff.1 hq;subst L0;dsimp only[Jb,aa,ah]at h3;obtain⟨o,c,rfl,_⟩:=gW.cL (aj.mH h3 .z);refine⟨(o,c),rfl,?_⟩;exact h3.tail.tail
end
section
open T7
variable [Gl]
variable [AF]
def thStepP {eu:Int->Int->Int->Int}(hA:yx eu)(hF:FOK){c:bu}{nt k:Nat}(hc:dl c)(hk:k+1<2^24)(b pb:Nat)(t:aV)(M:Mm)(hM:mr c nt k M)(h:mR c nt k t)(sh:EC t.aD)(hd:t.done=qn):
 eL qZ 13 [pv b,pv pb] [.h (wz b t),eA pb M] (λev v=>v=qF #[eQ (t.step eu M).2.1,ev,qt qj]) (λev=>[.h (wz b (t.step eu M).2.2.2.1),eA pb (t.step eu M).2.2.2.2,.h (gK ev (t.step eu M).2.2.1)]):=by intro A F hw hS;have b9:=h.co.lt hd;have lj:=h.co.pc;obtain⟨q,hR,jK⟩:=wz.toQ hS .z Ya;refine bT (O2 hA hF hc hk q b pb t M hM h sh hR hd A F hw jK) ?_;rintro v A'⟨ev,h1,h2⟩_ _;exact⟨ev,h1,iz.toP h2 .z (by rw[EI];exact hR)⟩
def VF (b:Nat)(d:Bh)(w:ThW)(l:List lq)(hl:U l<2^30){A:AW}{L K:List It}{k:qi->AW->Prop}(hw:A.Wf)(hS:aj A L)(hp:bd L [.at b (wo d w),.h (jD w.vo l)] K)(hk:∀o c A',aj A' (.h (jD (ql o (U l) c) l)::L)->A'.Wf->A.le A'->k (ql o (U l) c) A'):aE qZ 22 [pv b] A k:=by
 have jK:aj A (.at b (wo d w)::.h (jD w.vo l)::K):=by
  unfold aj at hS ⊢;rw[hp.aP]at hS;refine bD.dJ hS ?_;show (pt b (wo d w)*(jD w.vo l*eY))*aP K=pt b (wo d w)*(jD w.vo l*aP K);rw[ei]
  ac_rfl
 have hq:=jK.fm hw;dsimp only[aa,ah,ba,bB,cd,fw]at hq;have OH:gW A 3 w.vo (U l) (xN l):=aj.mH jK (.s .z);refine aO Tryz.func22 λ_=>?_
 repeat' (first|(refine lz λR hR=>?_;simp[hq,AW.ab];try simp(disch:=omega)only[az,ar,an,ax])|(refine hR _ _ ?_;clear hR R)|(refine hK _ _ ?_;clear hK K)|refine nx ?_|refine wn λK hK=>?_|simp only[wS]|(show df _ _ _ _ _ _;refine nx ?_)|(refine wc rfl (λhc=>?_) (λhc=>?_)<;>(try simp at hc)))
 refine bT (N3 _ _ _ _ OH (Ux l) hl) ?_;rintro u A4⟨ho,gb,rS⟩_ _;obtain⟨o,c,rfl,_⟩:=ho.is.cL
 skip
 revert hq hS hw;(repeat first|revert hc|revert R|revert K);refine W db (J1 bL) ?_<;>(unhygienic intros);refine⟨_,by rfl,?_⟩;exact hk o c A4 (dv.jh hS hw gb ho) rS gb
end
section
variable [Gl]
structure sy where
 fG:List aV
 M:Mm
 bg:List bS
 vE:List JX
def sy.pick (eu:Int->Int->Int->Int)(m:sy)(id:Int):sy:=
 if 0<=id then
  match m.fG[id.toNat]? with
  |none=>m
  |some t=>
    let r:=t.step eu m.M
    if r.1=qj then ⟨m.fG.set id.toNat r.2.2.2.1,r.2.2.2.2,m.bg++[r.2.1],m.vE++r.2.2.1.map λe=>{ e with bR:=U m.bg }⟩ else m
 else m
def sy.did (eu:Int->Int->Int->Int)(m:sy)(id:Int):Bool:=
 if 0<=id then
  match m.fG[id.toNat]? with
  |none=>qn
  |some t=>(t.step eu m.M).1
 else qn
def bS.cells (s:bS):List qi:=[qh qg s.af,qh qg s.eK,qh qg s.tC,qh qg s.jq.fB,qh qg s.jq.cell,qh qg s.jq.cZ,qh qr s.jq.eV,qh qr s.jq.put,qt s.jq.done]
def MI (l:List bS):List qi:=l.flatMap bS.cells
def oR (v:qi)(l:List bS):HP:=dv 9 v (U l) (MI l)
def stpC_one (l:List bS)(o:bS):MI l++o.cells=MI (l++[o]):=by simp[MI]
section
variable {P:qp} {S:AW->Prop} {K:Fr->AW->Prop} {dE:List yW} {a:Fr} {A:AW} {d:Option Tmp} {x y:Operand} {n:Nat} {v:qi} {L K':List It}
def lwStp {l:List bS}{s:bS}(e1:gZ a x=v)(e2:gZ a y=ql (qf ⟨n,0,qk⟩) 1 1)(hw:A.Wf)(hS:aj A L)(hp:aF L (.h (oR v l)) K')(hn:A.bk n=qf (qm [qh qg s.af,qh qg s.eK,qh qg s.tC,qh qg s.jq.fB,qh qg s.jq.cell,qh qg s.jq.cZ,qh qr s.jq.eV,qh qr s.jq.put,qt s.jq.done] qj 9))(cy:U l<2 ^ 30)(hs:∀A',aj A' K'->S A')(hk:∀o c A',aj A' (.h (oR (ql o (U l+1) c) (l++[s]))::K')->A'.Wf->A.next<=A'.next->aW qZ S K dE (d8 a d (ql o (U l+1) c)) A'):
 aW qZ S K (⟨d,qW ⟨qH qP,#[x,y],#[67,67]⟩,qk,3⟩::dE) a A:=by
 refine F0 (P:=qZ) (size:=9) (m:=U l) (cs:=MI l) Tryz.underlying67 Tryz.info53 Tryz.zero53 rfl rfl Ya Yd e1 e2 hw hS hp hn rfl rfl cy hs λo c A' h1 h2 h3=>hk o c A' ?_ h2 h3;have e:oR (ql o (U l+1) c) (l++[s])=dv 9 (ql o (U l+1) c) (U l+1) (MI l++s.cells):=by unfold oR;rw[<-stpC_one,Zh];rfl
 rw[e];exact h1
def lwEvM {l:List JX}{e:JX}{r w:qi}{K1 K2 K3:List It}(e1:gZ a x=v)(e2:gZ a y=ql (qf ⟨n,0,qk⟩) 1 1)(hw:A.Wf)(hS:aj A L)(hp:aF L (.h (gK v l)) K1)(yY:aF K1 (.h (ay qg r e.reads)) K2)(hp3:aF K2 (.h (ay qg w e.b8)) K3)(hn:A.bk n=qf (qm (CK e r w) qj 6))(cy:U l<2 ^ 30)(hs:∀A',aj A' K3->S A')(hk:∀o c A',aj A' (.h (gK (ql o (U l+1) c) (l++[e]))::K3)->A'.Wf->A.next<=A'.next->aW qZ S K dE (d8 a d (ql o (U l+1) c)) A'):
 aW qZ S K (⟨d,qW ⟨qH qP,#[x,y],#[54,54]⟩,qk,3⟩::dE) a A:=by
 obtain⟨q,hq,h1⟩:=gK.open hS hp;have hl:U q=U l:=by rw[<-hq,ZF]
 dsimp only[Jb,aa,ah]at h1;have bZ:∀o c A',aj A' (.h (dv 6 (ql o (U l+1) c) (U q+1) (iq q++CK e r w))::.h (ff q)::K1)->aj A' (.h (gK (ql o (U l+1) c) (l++[e]))::K3):=λo c A' h=>by
  have h2:aj A' (.h (dv 6 (ql o (U l+1) c) (U (q++[(e,r,w)])) (iq (q++[(e,r,w)])))::.h (ff (q++[(e,r,w)]))::K3):=by
   have e5:iq (q++[(e,r,w)])=iq q++CK e r w:=(by simp[iq]);have e6:ff (q++[(e,r,w)])=ff q*(ay qg r e.reads*ay qg w e.b8):=by rw[Gf];show _*((ay qg r e.reads*ay qg w e.b8)*eY)=_;rw[ei]
   rw[e5,e6,Zh];refine bD.dJ h ?_;show dv 6 _ _ _*(ff q*aP K1)=dv 6 _ _ _*((ff q*(ay qg r e.reads*ay qg w e.b8))*aP K3);rw[yY.aP,hp3.aP];show dv 6 (ql o (U l+1) c) (U q+1) _*(ff q*(ay qg r e.reads*(ay qg w e.b8*aP K3)))=_
   ac_rfl
  exact gK.eB (q:=q++[(e,r,w)]) Xl h2 (.s .z (.s .z .z))
 rw[<-hl]at hk bZ;have nQ:(CK e r w).all ZK=qj:=by
  have f1:=(aj.wu h1 (.s (.s yY))).cL;have h9:aj A (.h (ay qg r e.reads)::.h (dv 6 v (U q) (iq q))::.h (ff q)::K2):=by
   unfold aj at h1 ⊢;refine bD.dJ h1 ?_;show dv 6 v _ _*(ff q*aP K1)=ay qg r e.reads*(dv 6 v _ _*(ff q*aP K2));rw[yY.aP];show dv 6 v _ _*(ff q*(ay qg r e.reads*aP K2))=_
   ac_rfl
  have f2:=(aj.wu h9 (.s (.s (.s hp3)))).cL;obtain⟨o1,c1,e1,_⟩:=f1;obtain⟨o2,c2,e2,_⟩:=f2;rw[e1,e2];rfl
 refine F0 (P:=qZ) (size:=6) (m:=U q) (cs:=iq q) Tryz.underlying54 Tryz.info177 Tryz.zero177 rfl rfl Ya Yd e1 e2 hw h1 .z hn rfl nQ Ya (λA' h=>hs A' ?_) λo c A' h1 h2 h3=>hk o c A' (bZ o c A' h1) h2 h3;have h3:aj A' K1:=h.tail;have h4:bD A' (ay qg r e.reads*(ay qg w e.b8*aP K3)):=by unfold aj at h3;rw[yY.aP,hp3.aP]at h3;exact h3
 exact h4.right.right
def lwEvm {l:List JX}{e:JX}{r w:qi}{K3:List It}(e1:gZ a x=v)(e2:gZ a y=ql (qf ⟨n,0,qk⟩) 1 1)(hw:A.Wf)(hS:aj A L)(hp:bd L [.h (gK v l),.h (ay qg r e.reads),.h (ay qg w e.b8)] K3)(hn:A.bk n=qf (qm [qh qg e.bR,qh qg e.af,qh qg e.fB,qh qg e.word,r,w] qj 6))(cy:U l<2 ^ 30)(hs:∀A',aj A' K3->S A')(hk:∀o c A',aj A' (.h (gK (ql o (U l+1) c) (l++[e]))::K3)->A'.Wf->A.next<=A'.next->aW qZ S K dE (d8 a d (ql o (U l+1) c)) A'):
 aW qZ S K (⟨d,qW ⟨qH qP,#[x,y],#[54,54]⟩,qk,3⟩::dE) a A:=by
 have h1:aj A (.h (gK v l)::.h (ay qg r e.reads)::.h (ay qg w e.b8)::K3):=by
  unfold aj at hS ⊢;rw[hp.aP]at hS;refine bD.dJ hS ?_;show (gK v l*(ay qg r e.reads*(ay qg w e.b8*eY)))*aP K3=gK v l*(ay qg r e.reads*(ay qg w e.b8*aP K3));rw[ei]
  ac_rfl
 exact lwEvM e1 e2 hw h1 .z .z .z hn cy hs hk
end
def mQ (q:List (Nat×aV)):HP:=q.foldr (λx P=>wz x.1 x.2*P) eY
def JU (q r:List (Nat×aV)):mQ (q++r)=mQ q*mQ r:=by
 induction q with
 |nil=>show mQ r=eY*mQ r;rw[iD]
 |cons y q ih=>
   show wz y.1 y.2*mQ (q++r)=(wz y.1 y.2*mQ q)*mQ r;rw[ih]
   ac_rfl
def ThsH_at {q:List (Nat×aV)}{i:Nat}(hi:i<U q):∃R:HP,mQ q=wz q[i].1 q[i].2*R/\∀t,mQ (q.set i (q[i].1,t))=wz q[i].1 t*R:=by
 refine⟨mQ (q.take i)*mQ (q.drop (i+1)),?_,λt=>?_⟩;have e:q=q.take i++(q[i]::q.drop (i+1)):=by rw[<-List.drop_eq_getElem_cons hi,List.take_append_drop]
 have h:=congrArg mQ e;rw[JU]at h;rw[h];show mQ (q.take i)*(wz q[i].1 q[i].2*mQ (q.drop (i+1)))=_
 ac_rfl
 have e:q.set i (q[i].1,t)=q.take i++((q[i].1,t)::q.drop (i+1)):=by rw[List.set_eq_take_append_cons_drop,az hi]
 rw[e,JU];show mQ (q.take i)*(wz q[i].1 t*mQ (q.drop (i+1)))=_
 ac_rfl
structure McF where
 pb:Nat
 vt:Value
 vs:Value
 ve:Value
def mcI (b:Nat)(m:sy)(f:McF)(q:List (Nat×aV)):List It:=[.at b (qm [pv f.pb,f.vt,f.vs,f.ve] qj 1),eA f.pb m.M,.h (oC f.vt (q.map ZB)),.h (mQ q),.h (oR f.vs m.bg),.h (gK f.ve m.vE)]
def Kj (b:Nat)(m:sy):HP:=ut λx:McF×{ q:List (Nat×aV) // q.map kaj=m.fG }=>aP (mcI b m x.1 x.2.1)
section
variable {A:AW} {L K:List It} {b:Nat} {m:sy}
def Kj.open (h:aj A L)(hp:aF L (.h (Kj b m)) K):∃f q,q.map kaj=m.fG/\aj A (mcI b m f q++K):=by obtain⟨⟨f,q,hq⟩,h⟩:=lb h hp;exact⟨f,q,hq,h⟩
def Kj.eB {f:McF}{q:List (Nat×aV)}(hq:q.map kaj=m.fG)(h:aj A L)(e:bd L (mcI b m f q) K):aj A (.h (Kj b m)::K):=ju (g:=λx:McF×{ q:List (Nat×aV) // q.map kaj=m.fG }=>mcI b m x.1 x.2.1) (f,⟨q,hq⟩) h e
def aj.thsAt {q:List (Nat×aV)}{i:Nat}(hi:i<U q)(h:aj A L)(hp:aF L (.h (mQ q)) K):∃R:HP,aj A (.h (wz q[i].1 q[i].2)::.h R::K)/\∀(A':AW)(L' K' K2:List It)(t:aV),aj A' L'->aF L' (.h (wz q[i].1 t)) K'->aF K' (.h R) K2->aj A' (.h (mQ (q.set i (q[i].1,t)))::K2):=by
 obtain⟨R,h1,h2⟩:=ThsH_at hi;refine⟨R,?_,λA' L' K' K2 t hS e1 e2=>?_⟩;unfold aj at h ⊢;rw[hp.aP]at h;refine h.dJ ?_;show mQ q*aP K=wz q[i].1 q[i].2*(R*aP K);rw[h1]
 ac_rfl
 unfold aj at hS ⊢;rw[e1.aP,e2.aP]at hS;refine hS.dJ ?_;show wz q[i].1 t*(R*aP K2)=mQ (q.set i (q[i].1,t))*aP K2;rw[h2]
 ac_rfl
end
end
section
open T2
variable [Gl]
def Dq:∀{l:List (List bp)}{t:Nat},mm l t=qk->∀i (hi:i<U l),(b7 l[i]).2=0
 |[],t,_,i,hi=>by simp at hi
 |p::l,t,h,i,hi=>by
   unfold mm at h;split at h
   . rename_i h0;cases i with
     |zero=>exact h0
     |succ i=>exact Dq h i YP
   cases h
def Dp:∀{l:List (List bp)}{t:Nat}{r:Nat×Nat×Int},mm l t=qf r->r.2.2≠0
 |[],t,r,h=>by cases h
 |p::l,t,r,h=>by unfold mm at h;split at h;exact Dp h;rename_i h0;injection h with h;subst h;exact h0
def wF {c:bu}{ni:Nat}{ps:List (List bp)}{pk:List Int}(h:(kh c ni ps pk).2.2=0):
 kh c ni ps pk=(0,0,0)/\lL c=0/\1<=U ps/\U ps<=16/\(ni:Int)=c.bm/\∀i (hi:i<U ps),(b7 ps[i]).2=0:=by
 unfold kh at h ⊢;by_cases h1:lL c≠0;rw[az h1]at h;exact absurd h h1;rw[ar h1]at h ⊢;by_cases h2:U ps<1\/16<U ps;rw[az h2]at h;cases h;rw[ar h2]at h ⊢;by_cases h3:¬(ni:Int)=c.bm;rw[az h3]at h;cases h;rw[ar h3]at h ⊢;cases h4:mm ps 0 with
 |some r=>rw[h4]at h;exact absurd h (Dp h4)
 |none=>
   rw[h4]at h;simp only at h ⊢;by_cases h5:65536<U pk;rw[az h5]at h;cases h;rw[ar h5]at h ⊢;cases h6:vP (U ps) pk 0 with
   |some k=>rw[h6]at h;cases h
   |none=>exact⟨rfl,by simpa using h1,by omega,by omega,by simpa using h3,Dq h4⟩
section
variable {S:AW->Prop} {K:Fr->AW->Prop} {dE:List yW} {a:Fr} {A:AW} {d:Option Tmp} {x y:Operand} {n:Nat} {v:qi} {L K':List It}
def lwThr {l:List Nat}{q:Nat}(e1:gZ a x=v)(e2:gZ a y=ql (qf ⟨n,0,qk⟩) 1 1)(hw:A.Wf)(hS:aj A L)(hp:aF L (.h (oC v l)) K')(hn:A.bk n=qf (qm [pv q] qj 1))(cy:U l<2 ^ 30)(hs:∀A',aj A' K'->S A')(hk:∀o c A',aj A' (.h (oC (ql o (U l+1) c) (l++[q]))::K')->A'.Wf->A.next<=A'.next->aW qZ S K dE (d8 a d (ql o (U l+1) c)) A'):
 aW qZ S K (⟨d,qW ⟨qH qP,#[x,y],#[197,197]⟩,qk,3⟩::dE) a A:=by
 refine F0 (P:=qZ) (size:=1) (m:=U l) (cs:=l.map pv) Tryz.underlying197 Tryz.info41 Tryz.zero41 rfl rfl Ya Yd e1 e2 hw hS hp hn rfl rfl cy hs λo c A' h1 h2 h3=>hk o c A' ?_ h2 h3;have e:oC (ql o (U l+1) c) (l++[q])=dv 1 (ql o (U l+1) c) (U l+1) (l.map pv++[pv q]):=by unfold oC;rw[Zh,kaF];rfl
 rw[e];exact h1
end
def newT_u (hF:FOK){c:bu}(hc:dl c)(id n:Int)(OK:0<=id/\id<n/\n<=16)(v:qi)(p:List bp)(hp:(b7 p).2=0){A:AW}(h:lE A v p){L:List It}{k:qi->AW->Prop}(hw:A.Wf)(hS:aj A L)(hk:∀b A',aj A' (.h (wz b (rp c id n p))::L)->A'.Wf->A.le A'->k (qF #[pv b,qh qg 0]) A'):aE qZ 11 [c.v,qh qg id,qh qg n,v] A k:=PD hF hc id n OK v p hp hw hS h hk
def aj.nilStp {A:AW}{L:List It}(h:aj A L):aj A (.h (oR (ql qk 0 0) [])::L):=dv.nil h
def aj.nilEvt {A:AW}{L:List It}(h:aj A L):aj A (.h (gK (ql qk 0 0) [])::L):=gK.nil h
def oJ (c:bu)(zs:List Int)(ps:List (List bp)):sy:=⟨ps.mapIdx λi p=>rp c i (U ps) p,EL c (U ps) zs,[],[]⟩
def V8 (hF:FOK){c:bu}(vX:re c)(vi vp vk:qi)(zs:List Int)(ps:List (List bp))(pk:List Int)(A:AW)(hvi:b5 A qr vi zs)(hp:jU A vp ps)(hk:b5 A qg vk pk)(he:(kh c (U zs) ps pk).2.2=0):
 aE qZ 41 [MZ c vi vp vk] A (λu A'=>∃b,u=qF #[pv b,qh qg 0,qh qg 0,qh qg 0]/\aj A' [.h (Kj b (oJ c zs ps)),.h (lP A.bk)]):=by
 refine aO Tryz.func41 λhw=>?_;obtain⟨hr,hce,Hd,BO,Kc,lj⟩:=wF he;obtain⟨oi,ci,rfl,_⟩:=hvi.cL;have cS:=λO=>Pf hF c (ql oi (U zs) ci) vp vk (U zs) ci oi ps pk (A.alloc O) rfl (hp.le (q8 A O) hw) (hk.le (q8 A O) hw);rw[hr]at cS;obtain⟨op,cp,rfl,_⟩:=hp.cL;obtain⟨ok,ck,rfl,_⟩:=hk.cL;have hcC:=vX.ok;have hS:aj A [.h (lP A.bk)]:=by show bD A (lP A.bk*eY);rw[ei];exact⟨A.bk,rfl,λi o h=>h⟩
 have Bp:c.au=((c.au.toNat:Nat):Int):=by have:=hcC.au;omega
 have zJ:=E4 vX;have eM:(λk=>if k=0 then zs++q9 (U (wP c.c0 c.c1)) 0 else if k=1 then q9 c.au.toNat 0 else if k=5 then q9 (U ps) 0 else if k=6 then vY c.c0 c.c1 else if k=7 then wP c.c0 c.c1 else [0])=EL c (U ps) zs:=by unfold EL;rw[<-zJ,Z5]
 have hNT:=fun(i:Nat) (hi:i<U ps)=>PD hF hcC (i:Int) (U ps:Int) Ya;obtain⟨mB,gq,mh,c0,c1,c2,c3,kS,lZ,mi,mf,jC,nE⟩:=c;have cN:=λB (F:HP) hw hS=>Lg (U ps) (U (wP c0 c1)) gq.toNat (ql oi (U zs) ci) zs mB gq mh c0 c1 c2 c3 kS lZ mi mf jC nE vX B F (lP A.bk) (λB F h=>gW.keeps (iI.Nj h) hvi) hw hS Hd BO Kc Bp rfl;unfold MZ kj bu.cells w7 at cS;unfold MZ kj bu.cells;dsimp only[bu.v,bu.cells]at cN hNT;simp only[aa,ah]at cS ⊢;revert hS hw;refine W (J1 @cS) (J1 bL) ?_<;>(unhygienic intros);refine bT (cN _ (aP [.at A.next (qm [qh qg mB,qh qg gq,qh qg mh,qh qg c0,qh qg c1,qh qg c2,qh qg c3,qh qg kS,qh qg lZ,qh qg mi,qh qg mf,qh qg jC,qt nE,ql oi (U zs) ci,ql op (U ps) cp,ql ok (U pk) ck] qj 1),.at (A.next+1) (qm [qs qk,ql qk 0 0,ql qk 0 0,ql qk 0 0] qj 1)]) ?_ ?_) ?_
 exact wA;show aj _ [.h (lP A.bk),.at A.next (qm [qh qg mB,qh qg gq,qh qg mh,qh qg c0,qh qg c1,qh qg c2,qh qg c3,qh qg kS,qh qg lZ,qh qg mi,qh qg mf,qh qg jC,qt nE,ql oi (U zs) ci,ql op (U ps) cp,ql ok (U pk) ck] qj 1),.at (A.next+1) (qm [qs qk,ql qk 0 0,ql qk 0 0,ql qk 0 0] qj 1)];apply aj.bZ
 (·exact sA)
 (·exact sH)
 rintro _ A2⟨pb,rfl,jK⟩jG _;rw[eM]at jK;clear hS hw;have hS:aj A2 [eA pb (EL ⟨mB,gq,mh,c0,c1,c2,c3,kS,lZ,mi,mf,jC,nE⟩ (U ps) zs),.h (lP A.bk),.at A.next (qm [qh qg mB,qh qg gq,qh qg mh,qh qg c0,qh qg c1,qh qg c2,qh qg c3,qh qg kS,qh qg lZ,qh qg mi,qh qg mf,qh qg jC,qt nE,ql oi (U zs) ci,ql op (U ps) cp,ql ok (U pk) ck] qj 1),.at (A.next+1) (qm [qs qk,ql qk 0 0,ql qk 0 0,ql qk 0 0] qj 1)]:=jK;have hw:=jG;clear jK jG;have hq:=gP hS hw;revert hq hS hw;(repeat first|revert hc|revert R|revert K);refine W db (J1 bL) ?_<;>(unhygienic intros);generalize hM0:EL ⟨mB,gq,mh,c0,c1,c2,c3,kS,lZ,mi,mf,jC,nE⟩ (U ps) zs=M0 at hS
 refine dO (λk fr A'=>A'.Wf/\∃(i:Nat)(vt:qi)(q:List (Nat×aV)),k=U ps-i/\i<=U ps/\q.map kaj=(ps.take i).mapIdx (λj p=>rp ⟨mB,gq,mh,c0,c1,c2,c3,kS,lZ,mi,mf,jC,nE⟩ j (U ps) p)/\fr 1=pv A.next/\fr 2=pv (A.next+1)/\fr 38=ql op (U ps) cp/\fr 39=qh qg (U ps)/\fr 40=qh qg i/\
  aj A' [eA pb M0,.h (lP A.bk),.at A.next (qm [qh qg mB,qh qg gq,qh qg mh,qh qg c0,qh qg c1,qh qg c2,qh qg c3,qh qg kS,qh qg lZ,qh qg mi,qh qg mf,qh qg jC,qt nE,ql oi (U zs) ci,ql op (U ps) cp,ql ok (U pk) ck] qj 1),.at (A.next+1) (qm [pv pb,vt,ql qk 0 0,ql qk 0 0] qj 1),.h (oC vt (q.map ZB)),.h (mQ q)]) (U ps) ?_ ?_
 refine⟨?_,0,ql qk 0 0,[],by omega,by omega,rfl,by simp,by simp,by simp,by simp,by simp,?_⟩;exact wA;have h1:∀B:AW,aj B [eA pb M0,.h (lP A.bk),.at A.next (qm [qh qg mB,qh qg gq,qh qg mh,qh qg c0,qh qg c1,qh qg c2,qh qg c3,qh qg kS,qh qg lZ,qh qg mi,qh qg mf,qh qg jC,qt nE,ql oi (U zs) ci,ql op (U ps) cp,ql ok (U pk) ck] qj 1),.at (A.next+1) (qm [pv pb,ql qk 0 0,ql qk 0 0,ql qk 0 0] qj 1)]->aj B [eA pb M0,.h (lP A.bk),.at A.next (qm [qh qg mB,qh qg gq,qh qg mh,qh qg c0,qh qg c1,qh qg c2,qh qg c3,qh qg kS,qh qg lZ,qh qg mi,qh qg mf,qh qg jC,qt nE,ql oi (U zs) ci,ql op (U ps) cp,ql ok (U pk) ck] qj 1),.at (A.next+1) (qm [pv pb,ql qk 0 0,ql qk 0 0,ql qk 0 0] qj 1),.h (oC (ql qk 0 0) []),.h (mQ [])]:=λB hB=>by have h2:aj B (.h (oC (ql qk 0 0) [])::.h eY::[eA pb M0,.h (lP A.bk),.at A.next (qm [qh qg mB,qh qg gq,qh qg mh,qh qg c0,qh qg c1,qh qg c2,qh qg c3,qh qg kS,qh qg lZ,qh qg mi,qh qg mf,qh qg jC,qt nE,ql oi (U zs) ci,ql op (U ps) cp,ql ok (U pk) ck] qj 1),.at (A.next+1) (qm [pv pb,ql qk 0 0,ql qk 0 0,ql qk 0 0] qj 1)]):=dv.nil (aj.emp0 hB);exact aj.bZ h2 (.s (.s (.s .z)) (.s (.s (.s .z)) (.s (.s (.s .z)) (.s (.s (.s .z)) (.s .z (.s .z .z))))))
 refine h1 _ ?_;apply aj.bZ
 (·exact sA)
 (·exact sH)
 clear hS hw hq;rintro k fr A'⟨hw,i,vt,q,rfl,hi,hqs,g1,g2,g38,g39,g40,hS⟩;have hkp:iI A A':=hS.keeps 1 rfl;obtain⟨ov,cv,rfl,_⟩:=gW.cL (aj.mH hS (.s (.s (.s (.s .z)))));rw[ZF]at hS;have hlq:U q=i:=by have:=congrArg List.length hqs;simp at this;omega
 by_cases b9:i<U ps
 . obtain⟨us,u1,u2⟩:=hp;obtain⟨q0,bO,u,pS,bP,hcell,hu⟩:=jU.at (⟨us,gW.keeps hkp u1,λi hi=>let ⟨u,h3,h4⟩:=u2 i hi;⟨u,h3,gW.keeps hkp h4⟩⟩:jU A' (ql op (U ps) cp) ps) b9;subst pS;have gf:(i:Int)<U ps:=Ya;have ij:=C0 (i:=i);have OK:0<=(i:Int)/\(i:Int)<U ps/\(U ps:Int)<=16:=Ya;have hq:=gP hS hw;refine aU ?_
   repeat' (first|(with_reducible apply lwThr;(·(simp;rfl));(·(simp;rfl));(·exact wA);(·exact sA);(·exact kA);(·exact AW.cD _ _);(·(simp;omega));(·intro _ _;trivial);rintro _ _ _ hS hw _;have hq:=gP hS hw)|(refine lz λR hR=>?_;simp[g1,g2,g38,g39,g40,hq,gf,ij,bP,hcell,AW.ab,aI];try simp(disch:=omega)only[az,ar,an,ax])|(refine hR _ _ ?_;clear hR R)|(refine hK _ _ ?_;clear hK K)|refine nx ?_|refine wn λK hK=>?_|simp only[wS]|(apply newT_u hF hcC i (U ps) OK u ps[i] (lj i b9) hu;(·exact wA);(·exact sA);((rintro _ _ hS hw gb);have hq:=gP hS hw))|(show df _ _ _ _ _ _;refine nx ?_)|(refine wc rfl (λhc=>?_) (λhc=>?_)<;>(try simp at hc)))
   rename_i bt A5 Bt CA hq5 o5 c5 A6 le6;refine⟨U ps-(i+1),by omega,?_,i+1,ql o5 (U q+1) c5,q++[(bt,rp ⟨mB,gq,mh,c0,c1,c2,c3,kS,lZ,mi,mf,jC,nE⟩ i (U ps) ps[i])],rfl,by omega,?_,by simp[g1],by simp[g2],by simp[g38],by simp[g39],by simp,?_⟩;exact wA;rw[kaF,hqs,List.take_succ_eq_append_getElem b9,List.mapIdx_append];simp[Nat.min_eq_left (Nat.le_of_lt b9)];have e:mQ (q++[(bt,rp ⟨mB,gq,mh,c0,c1,c2,c3,kS,lZ,mi,mf,jC,nE⟩ i (U ps) ps[i])])=wz bt (rp ⟨mB,gq,mh,c0,c1,c2,c3,kS,lZ,mi,mf,jC,nE⟩ i (U ps) ps[i])*mQ q:=by
    rw[JU];show mQ q*(wz bt _*eY)=_;rw[ei]
    ac_rfl
   rw[ZF]at hS;rw[e,kaF]
   have h1:∀(B:AW)(v:qi),aj B [eA pb M0,.h (lP A.bk),.at A.next (qm [qh qg mB,qh qg gq,qh qg mh,qh qg c0,qh qg c1,qh qg c2,qh qg c3,qh qg kS,qh qg lZ,qh qg mi,qh qg mf,qh qg jC,qt nE,ql oi (U zs) ci,ql (qf q0) (U ps) cp,ql ok (U pk) ck] qj 1),.at (A.next+1) (qm [pv pb,v,ql qk 0 0,ql qk 0 0] qj 1),.h (oC v (q.map ZB++[bt])),.h (wz bt (rp ⟨mB,gq,mh,c0,c1,c2,c3,kS,lZ,mi,mf,jC,nE⟩ i (U ps) ps[i])),.h (mQ q)]->
    aj B [eA pb M0,.h (lP A.bk),.at A.next (qm [qh qg mB,qh qg gq,qh qg mh,qh qg c0,qh qg c1,qh qg c2,qh qg c3,qh qg kS,qh qg lZ,qh qg mi,qh qg mf,qh qg jC,qt nE,ql oi (U zs) ci,ql (qf q0) (U ps) cp,ql ok (U pk) ck] qj 1),.at (A.next+1) (qm [pv pb,v,ql qk 0 0,ql qk 0 0] qj 1),.h (oC v (q.map ZB++[bt])),.h (wz bt (rp ⟨mB,gq,mh,c0,c1,c2,c3,kS,lZ,mi,mf,jC,nE⟩ i (U ps) ps[i])*mQ q)]:=λB v h=>by unfold aj at h ⊢;refine bD.dJ h ?_;simp only[aP,It.hp,ei]
   refine h1 _ _ ?_;exact XX
 have uR:i=U ps:=Ya
 subst uR;have gf:¬((U ps:Int)<U ps):=Ya
 have hq:=gP hS hw;refine aU ?_;revert hq hS hw;(repeat revert hc);refine W db (J7 g1 g2 g38 g39 g40 gf bL) ?_<;>(unhygienic intros);rw[List.take_length]at hqs;have h1:=aj.nilStp (aj.nilEvt hS);refine⟨qF #[pv (A.next+1),qh qg 0,qh qg 0,qh qg 0],by simp[bA,aR,aS],A.next+1,rfl,?_⟩;subst hM0;refine aj.bZ (Kj.eB (b:=A.next+1) (m:=oJ ⟨mB,gq,mh,c0,c1,c2,c3,kS,lZ,mi,mf,jC,nE⟩ zs ps) (f:=⟨pb,ql ov (U q) cv,ql qk 0 0,ql qk 0 0⟩) (q:=q) (K:=[.h (lP A.bk),.at A.next (qm [qh qg mB,qh qg gq,qh qg mh,qh qg c0,qh qg c1,qh qg c2,qh qg c3,qh qg kS,qh qg lZ,qh qg mi,qh qg mf,qh qg jC,qt nE,ql oi (U zs) ci,ql op (U ps) cp,ql ok (U pk) ck] qj 1)]) hqs h1 ?_) (.s .z (.s .z .z));unfold mcI oJ;dsimp only
 (·exact sH)
end
section
abbrev nW:List (Nat×Nat):=[(0,0),(1,0),(2,0),(3,0),(4,0),(5,0),(6,2),(7,3),(8,0),(9,0),(10,3)]
open T2
variable [Gl]
variable [AF]
def aj.ptrI {A:AW}{L K:List It}{v:qi}{ns:List Nat}(h:aj A L)(hp:aF L (.h (oC v ns)) K){i:Nat}(hi:i<U ns):
 ∃b off c bO,v=ql (qf ⟨b,off,qk⟩) (U ns) c/\bO[off+i]?=qf (pv ns[i])/\off+U ns<=U bO/\aj A (.at b (qm bO qj 1)::K)/\
  ∀(A':AW)(L' K':List It),aj A' L'->aF L' (.at b (qm bO qj 1)) K'->aj A' (.h (oC (ql (qf ⟨b,off,qk⟩) (U ns) c) ns)::K'):=by unfold aj at h;rw[hp.aP]at h;rcases dv.cases h with ⟨_,h0,_⟩|⟨b,off,c,bO,rfl,h1,h2,h3,h4⟩;omega;rw[ZY]at h2 h3;refine⟨b,off,c,bO,rfl,?_,h2,h4,λA' L' K' hS e=>?_⟩;have e1:(ns.map pv)[i]?=((bO.drop off).take (U ns))[i]?:=congrArg (·[i]?) h3;rw[List.getElem?_take_of_lt hi,List.getElem?_drop,Z6,Zf hi]at e1;exact e1.symm;unfold aj at hS;rw[e.aP]at hS;exact dv.mk h1 (by rw[ZY];exact h2) (by rw[ZY];exact h3) hS
def Ep {t:aV}{s:aJ}{M:Mm}:(t.yU M s).2.1=[]\/∃e,(t.yU M s).2.1=[e]:=by unfold aV.yU;dsimp only;split;exact qB ⟨_,rfl⟩;split;exact qB ⟨_,rfl⟩;exact qw rfl
def O9 {eu:Int->Int->Int->Int}{t:aV}{M:Mm}:(t.step eu M).2.2.1=[]\/∃e,(t.step eu M).2.2.1=[e]:=by
 have hp:∀i,(t.plain M i).2.1=[]\/∃e,(t.plain M i).2.1=[e]:=λi=>by unfold aV.plain;dsimp only;split;exact qw rfl;split;exact Ep;split<;>exact qB ⟨_,rfl⟩
 have he:∀i,(t.my eu M i).2.1=[]\/∃e,(t.my eu M i).2.1=[e]:=λi=>by unfold aV.my;split;exact Ep;split;split;exact Ep;exact qw rfl;split;exact hp i;split<;>exact qw rfl
 unfold aV.step;split;exact qw rfl;show (t.nJ eu M).2.1=[]\/_;unfold aV.nJ;split;exact qw rfl;split;split;exact Ep;split;exact Ep;exact he _;exact he _
structure EvP where
 bb:Nat
 off:Nat
 fg:Nat
 bO:List Value
 r:Value
 w:Value
def eL.ev1 {P:qp}{f:qN}{args:List qi}{tN:List It}{x y:qi}{a1 a2:It}{e:JX}(h:eL P f args tN (λev v=>v=qF #[x,ev,y]) (λev=>[a1,a2,.h (gK ev [e])])):
 eL P f args tN (λ(z:EvP) v=>v=qF #[x,ql (qf ⟨z.bb,z.off,qk⟩) 1 z.fg,y]/\z.off+6<=U z.bO/\(z.bO.drop z.off).take 6=CK e z.r z.w) (λz=>[a1,a2,.at z.bb (qm z.bO qj 6),.h (ay qg z.r e.reads),.h (ay qg z.w e.b8)]):=λA F hw hS=>by
 refine bT (h A F hw hS) ?_;rintro v A'⟨ev,rfl,h2⟩_ _;obtain⟨q,hq,h3⟩:=gK.open h2 (.s (.s .z));obtain⟨⟨e',r,w⟩,q',rfl,rfl,pS⟩:=List.map_eq_cons_iff.1 hq;have L0:q'=[]:=List.map_eq_nil_iff.1 pS;subst L0;dsimp only[Jb,aa,ah]at h3;have e1:iq [(e',r,w)]=CK e' r w:=by simp[iq]
 rw[e1]at h3;rcases dv.cases h3 with ⟨_,h0,_⟩|⟨b,off,c,bO,rfl,g1,g2,g3,g4⟩;cases h0;refine⟨⟨b,off,c,bO,r,w⟩,⟨rfl,g2,g3.symm⟩,?_⟩;have g5:bD A' (pt b (qm bO qj 6)*(((ay qg r e'.reads*ay qg w e'.b8)*eY)*(a1.hp*(a2.hp*(F*eY))))):=g4;refine bD.dJ g5 ?_;show _=a1.hp*(a2.hp*(pt b (qm bO qj 6)*(ay qg r e'.reads*(ay qg w e'.b8*(F*eY)))));rw[ei]
 ac_rfl
def V4 {eu:Int->Int->Int->Int}(hA:yx eu)(hF:FOK){c:bu}{nt k:Nat}(hc:dl c)(hk:k+1<2^24)(b:Nat)(m:sy)(hM:mr c nt k m.M)(hT:∀t∈m.fG,mR c nt k t/\EC t.aD)(hl:U m.fG<=16)(OH:U m.bg<2^29)(hel:U m.vE<2^29)(id:Int):
 bz qZ 42 [pv b,qh qg id] [.h (Kj b m)] (λv=>v=qt (m.did eu id)) (λ_=>[.h (Kj b (m.pick eu id))]):=by
 intro A F hw dU;refine aO Tryz.func42 λ_=>?_;dsimp only[aa,ah]at dU;obtain⟨⟨pb,vt,vs,ve⟩,q,DT,hS⟩:=Kj.open dU .z;have hql:U q=U m.fG:=by rw[<-DT,ZF]
 clear dU;dsimp only[mcI,aa,ah]at hS;by_cases h0:id<0
 . unfold sy.did sy.pick;rw[ar Ya,ar Ya];have hq:=gP hS hw;revert hq hS hw;(repeat revert hc);refine Wu (J2 (od nW) (⟨⟩:Ts (λ_=>True) [0,0,0,0,0,0,0,0,0,0,0,3,0,0,0,0,2,3,0,0] (.aM 0 (.aM 1 (.aM 2 (.aM 3 (.aM 4 (.aM 5 (.aM 6 (.aM 7 (.aM 8 (.aM 9 (.aM 10 (.wm 11 (.aM 12 (.aM 13 (.aM 14 (.aM 15 (.aM 16 (.aM 17 (.aM 18 (.aM 19 .nil)))))))) 16 (.aM 11 (.aM 12 (.aM 13 (.aM 14 (.aM 15 (.aM 17 (.aM 18 (.aM 19 .nil)))))))))))))))))))))) (J2 h0 bL) ?_<;>(unhygienic intros);refine⟨_,by rfl,rfl,?_⟩;exact aj.bZ (Kj.eB (f:=⟨pb,vt,vs,ve⟩) DT hS Xo) (.s .z (.s .z .z))
 have mT:U (q.map ZB)=U m.fG:=by rw[ZF,hql]
 by_cases h1:(U m.fG:Int)<=id
 . unfold sy.did sy.pick;rw[az Ya,az Ya,List.getElem?_eq_none Ya];obtain⟨o,cc,rfl,_⟩:=gW.cL (aj.mH hS (.s (.s .z)));rw[mT]at hS;have hq:=gP hS hw;revert hq hS hw;(repeat revert hc);refine Wu (J2 (od nW) (⟨⟩:Ts (λ_=>True) [0,0,0,0,0,0,0,0,0,0,0,3,0,0,0,0,2,3,0,0] (.aM 0 (.aM 1 (.aM 2 (.aM 3 (.aM 4 (.aM 5 (.aM 6 (.aM 7 (.aM 8 (.aM 9 (.aM 10 (.wm 11 (.aM 12 (.aM 13 (.aM 14 (.aM 15 (.aM 16 (.aM 17 (.aM 18 (.aM 19 .nil)))))))) 16 (.aM 11 (.aM 12 (.aM 13 (.aM 14 (.aM 15 (.aM 17 (.aM 18 (.aM 19 .nil)))))))))))))))))))))) (J3 h0 h1 bL) ?_<;>(unhygienic intros);refine⟨_,by rfl,rfl,?_⟩;rw[<-mT]at hS;exact aj.bZ (Kj.eB (f:=⟨pb,_,vs,ve⟩) DT hS Xo) (.s .z (.s .z .z))
 have hi:id.toNat<U q:=Ya
 obtain⟨i,OK⟩:∃i:Nat,id=i:=⟨id.toNat,by omega⟩;subst OK;simp only[Z5]at hi;obtain⟨tb,off,cc,bO,rfl,bP,Qb,jH,jv⟩:=aj.ptrI hS (.s (.s .z)) (i:=i) Ya;obtain⟨R,jK,ru⟩:=aj.thsAt hi jH (.s (.s (.s .z)));have Ry:m.fG[i]?=qf q[i].2:=by rw[<-DT,Z6,Zf hi];rfl
 rw[List.getElem_map]at bP;generalize hx:q[i]=x at *;obtain⟨bt,t⟩:=x;dsimp only at Ry bP jK ru;obtain⟨ki,sh⟩:=hT t (List.mem_of_getElem? Ry);have e0:m.did eu i=(t.step eu m.M).1:=by unfold sy.did;rw[az Ya,Z5,Ry]
 clear hS jH;have hS:=jK;clear jK;rw[e0];rw[mT]at jv hS;have hir:off+i<U bO:=Ya
 obtain⟨hir2,BM⟩:=Zy.1 bP
 have bZ:∀(t':aV)(M':Mm)(FA ve':qi)(st':List bS)(ev':List JX)(A':AW)(L' K1 K2 K3 K4 K5 K6 K7 K8:List It),aj A' L'->aF L' (.h (wz bt t')) K1->aF K1 (.h R) K2->aF K2 (.at tb (qm bO qj 1)) K3->
  aF K3 (.at b (qm [pv pb,ql (qf ⟨tb,off,qk⟩) (U m.fG) cc,FA,ve'] qj 1)) K4->aF K4 (eA pb M') K5->aF K5 (.h (oR FA st')) K6->aF K6 (.h (gK ve' ev')) K7->bd K7 [.h F] K8->
  aj A' [.h (Kj b ⟨m.fG.set i t',M',st',ev'⟩),.h F]:=λt' M' FA ve' st' ev' A' L' K1 K2 K3 K4 K5 K6 K7 K8 h e1 e2 e3 e4 e5 e6 e7 e8=>by
  have g1:=ru A' L' K1 K2 t' h e1 e2;have g2:=jv A' _ _ g1 (.s e3);have hf:(q.set i (bt,t')).map ZB=q.map ZB:=by
   rw[List.map_set];have e:(bt,t').1=(q.map ZB)[i]'Ya:=by rw[List.getElem_map,hx]
   rw[e,kbk]
  have hs:(q.set i (bt,t')).map kaj=m.fG.set i t':=by rw[List.map_set,DT]
  refine aj.bZ (Kj.eB (f:=⟨pb,ql (qf ⟨tb,off,qk⟩) (U m.fG) cc,FA,ve'⟩) (q:=q.set i (bt,t')) (K:=K7) hs g2 ?_) (.s .z e8);unfold mcI;dsimp only;rw[hf];exact .s (.s (.s e4)) (.s (.s (.s e5)) (.s .z (.s .z (.s e6 (.s e7 .z)))))
 by_cases hd:t.done=qj
 . have cJ:(t.step eu m.M)=(qn,bS.zero,[],t,m.M):=(by unfold aV.step;rw[az hd]);have e1:m.pick eu i=m:=by unfold sy.pick;rw[az Ya,Z5,Ry];dsimp only;rw[cJ];rfl
   rw[e1,cJ];have hq:=gP hS hw;have nG:=O4 bt t m.M pb hd;revert hq hS hw;(repeat first|revert hc|revert R);refine Wu (J3 (od nW) (⟨⟩:Ts (λ_=>True) [0,0,0,0,0,0,0,0,0,0,0,3,0,0,0,0,2,3,0,0] (.aM 0 (.aM 1 (.aM 2 (.aM 3 (.aM 4 (.aM 5 (.aM 6 (.aM 7 (.aM 8 (.aM 9 (.aM 10 (.wm 11 (.aM 12 (.aM 13 (.aM 14 (.aM 15 (.aM 16 (.aM 17 (.aM 18 (.aM 19 .nil)))))))) 16 (.aM 11 (.aM 12 (.aM 13 (.aM 14 (.aM 15 (.aM 17 (.aM 18 (.aM 19 .nil))))))))))))))))))))) @nG) (Hr h1 Qb bP hir BM @eQ.eq_1 @bS.zero.eq_1 @bj.v.eq_1 @bj.zero.eq_1 bL) (J2 ?_ ?_)<;>(unhygienic intros)
   all_goals
    refine⟨_,by rfl,by rfl,?_⟩;have e2:m=⟨m.fG.set i t,m.M,m.bg,m.vE⟩:=by
     have:m.fG.set i t=m.fG:=by obtain⟨g1,g2⟩:=Zy.1 Ry;rw[<-g2,kbk]
     rw[this]
    rw[e2];apply bZ
    (·exact sA)
    all_goals(first|exact sH|exact sO)
 have Ta:t.done=qn:=by simpa using hd
 have zI:=thStepP hA hF hc hk bt pb t m.M hM ki sh Ta;have P5:(t.step eu m.M).1=qj:=by unfold aV.step;rw[ar hd]
 have e1:m.pick eu i=⟨m.fG.set i (t.step eu m.M).2.2.2.1,(t.step eu m.M).2.2.2.2,m.bg++[(t.step eu m.M).2.1],m.vE++(t.step eu m.M).2.2.1.map λe=>{ e with bR:=U m.bg }⟩:=by unfold sy.pick;rw[az Ya,Z5,Ry];dsimp only;rw[P5];rfl
 have Br:=O9 (eu:=eu) (t:=t) (M:=m.M);rw[e1];generalize t.step eu m.M=r at *;obtain⟨ok,st,vE,t',M'⟩:=r;dsimp only at P5 zI Br ⊢;subst P5;have hq:=gP hS hw;rcases Br with rfl|⟨e,rfl⟩
 . have Kb:=eL.ev0 zI;revert hq hS hw;(repeat first|revert hc|revert R);refine Wu (J3 (Tg.mk (n:=32) @Kb) (od nW) (⟨⟩:Ts (λ_=>True) [0,0,0,0,0,0,0,0,0,0,0,3,0,0,0,0,2,3,0,0] (.aM 0 (.aM 1 (.aM 2 (.aM 3 (.aM 4 (.aM 5 (.aM 6 (.aM 7 (.aM 8 (.aM 9 (.aM 10 (.wm 11 (.aM 12 (.aM 13 (.aM 14 (.aM 15 (.aM 16 (.aM 17 (.aM 18 (.aM 19 .nil)))))))) 16 (.aM 11 (.aM 12 (.aM 13 (.aM 14 (.aM 15 (.aM 17 (.aM 18 (.aM 19 .nil)))))))))))))))))))))) (J7 h1 Qb bP hir BM @eQ.eq_1 bL) (J2 ?_ ?_)<;>(unhygienic intros)
   all_goals
    refine dO (λk fr A'=>fr=_/\A'=_) 0 ⟨rfl,rfl⟩ ?_;rintro k _ _⟨rfl,rfl⟩;refine aU ?_
    repeat' (first|(with_reducible apply lwStp (s:=st);(·(simp;rfl));(·(simp;rfl));(·exact wA);(·exact sA);(·exact kA);(·(simp;(repeat' (first|rfl|refine⟨rfl,?_⟩));done));(·omega);(·intro _ _;trivial);rintro _ _ _ hS hw _;have hq:=gP hS hw)|(refine lz λR hR=>?_;simp[hq,AW.ab,aI];try simp(disch:=omega)only[az,ar,an,ax])|(refine hR _ _ ?_;clear hR R)|(refine hK _ _ ?_;clear hK K)|refine nx ?_|refine wn λK hK=>?_|simp only[wS,nW]|refine wl Zm nW Yc λK hK=>?_|(show df _ _ _ _ _ _;refine nx ?_)|(refine wc rfl (λhc=>?_) (λhc=>?_)<;>(try simp at hc)))
    refine⟨_,by rfl,by rfl,?_⟩;rw[show m.vE++List.map (λe:JX=>({ bR:=U m.bg,af:=e.af,fB:=e.fB,word:=e.word,reads:=e.reads,b8:=e.b8 }:JX)) []=m.vE from List.append_nil _];apply bZ
    (·exact sA)
    all_goals(first|exact sH|exact sO)
 have ED:=eL.ev1 zI
 repeat' (first|(refine lz λR hR=>?_;simp[hq,h1,AW.ab];try simp(disch:=omega)only[az,ar,an,ax])|(refine hR _ _ ?_;clear hR R)|(refine hK _ _ ?_;clear hK K)|refine nx ?_|(refine VC λR hR=>?_;simp[hq,hir,BM,eQ,AW.ab,aI];try simp(disch:=omega)only[az])|(refine Rv (λR hR=>?_) (λR hR=>?_)<;>(simp[];try simp(disch:=omega)only[az,ar,an,ax]))|refine VB ?_|refine wn λK hK=>?_|simp only[wS]|simp only[bK,wD,ml,Option.map_none,List.getElem?_toArray,List.getElem?_cons_zero,List.getElem?_cons_succ,List.getD_cons_zero,List.getD_cons_succ]|refine wt (λ_=>True) Zm [0,0,0,0,0,0,0,0,0,0,0,3,0,0,0,0,2,3,0,0] (.aM 0 (.aM 1 (.aM 2 (.aM 3 (.aM 4 (.aM 5 (.aM 6 (.aM 7 (.aM 8 (.aM 9 (.aM 10 (.wm 11 (.aM 12 (.aM 13 (.aM 14 (.aM 15 (.aM 16 (.aM 17 (.aM 18 (.aM 19 .nil)))))))) 16 (.aM 11 (.aM 12 (.aM 13 (.aM 14 (.aM 15 (.aM 17 (.aM 18 (.aM 19 .nil)))))))))))))))))))) Yc λK hK=>?_|(apply eL.gk (ED);(·exact wA);(·exact sA);(·exact pA);(rintro xw _ _⟨rfl,hz1,sE⟩hS hw _;have hS:=lA hS;(try (have hq:=gP hS hw))))|(show df _ _ _ _ _ _;refine nx ?_)|(refine wc rfl (λhc=>?_) (λhc=>?_)<;>(try simp at hc)<;>(try omega)))
 all_goals
  obtain⟨zb,zo,zc,zrow,vr,vw⟩:=xw;dsimp only at hS hz1 sE
  refine dO (λk fr A'=>A'.Wf/\fr 0=pv b/\fr 43=ql (qf ⟨zb,zo,qk⟩) 1 zc/\fr 44=qh qg 1/\∃sp,fr 5=pv sp/\
   ((k=1/\fr 45=qh qg 0/\aj A' [.h (wz bt t'),eA pb M',.at zb (qm zrow qj 6),.h (ay qg vr e.reads),.h (ay qg vw e.b8),.h R,.at tb (qm bO qj 1),.at b (qm [pv pb,ql (qf ⟨tb,off,qk⟩) (U m.fG) cc,vs,ve] qj 1),.h (oR vs m.bg),.h (gK ve m.vE),.at sp (qm [qh qg st.af,qh qg st.eK,qh qg st.tC,qh qg st.jq.fB,qh qg st.jq.cell,qh qg st.jq.cZ,qh qr st.jq.eV,qh qr st.jq.put,qt st.jq.done] qj 1),.h F]) \/
    (k=0/\fr 45=qh qg 1/\∃ve',aj A' [.h (wz bt t'),eA pb M',.h R,.at tb (qm bO qj 1),.at b (qm [pv pb,ql (qf ⟨tb,off,qk⟩) (U m.fG) cc,vs,ve'] qj 1),.h (oR vs m.bg),.h (gK ve' (m.vE++[({ e with bR:=U m.bg }:JX)])),.at sp (qm [qh qg st.af,qh qg st.eK,qh qg st.tC,qh qg st.jq.fB,qh qg st.jq.cell,qh qg st.jq.cZ,qh qr st.jq.eV,qh qr st.jq.put,qt st.jq.done] qj 1),.h F]))) 1 ?_ ?_
  refine⟨?_,by simp,by simp,by simp,_,by simp;rfl,qw ⟨rfl,by simp,?_⟩⟩;exact wA;apply aj.bZ
  (·exact sA)
  (·exact sH)
  clear hS hw hq;rintro k fr A5⟨hw,f0,f43,f44,sp,f5,h⟩;rcases h with ⟨rfl,f45,hS⟩|⟨rfl,f45,ve',hS⟩
  . obtain⟨oz,cz,rfl,_⟩:=gW.cL (aj.mH hS (.s (.s (.s (.s (.s (.s (.s (.s .z)))))))));obtain⟨o1,c1,rfl,_⟩:=(aj.wu hS (.s (.s (.s .z)))).cL;obtain⟨o2,c2,rfl,_⟩:=(aj.wu hS (.s (.s (.s (.s .z))))).cL;obtain⟨ze,zi,zk,zw,zr,zv⟩:=e;unfold CK at sE;dsimp only at sE;have hq:=gP hS hw;refine aU ?_
    repeat' (first|(with_reducible apply lwEvm (e:=⟨U m.bg,zi,zk,zw,zr,zv⟩) (r:=ql o1 (U zr) c1) (w:=ql o2 (U zv) c2);(·(simp;rfl));(·(simp;rfl));(·exact wA);(·exact sA);(·exact pA);(·(simp;(repeat' (first|rfl|refine⟨rfl,?_⟩));done));(·omega);(·intro _ _;trivial);rintro _ _ _ hS hw _;have hq:=gP hS hw)|(refine lz λR hR=>?_;simp[an,hq,f0,f43,f44,f45,hz1,sE,AW.ab,aI];try simp(disch:=omega)only[az,ar,an,ax])|(refine hR _ _ ?_;clear hR R)|(refine hK _ _ ?_;clear hK K)|refine nx ?_|refine wn λK hK=>?_|simp only[wS,nW]|refine wl Zm nW Yc λK hK=>?_|(show df _ _ _ _ _ _;refine nx ?_)|(refine wc rfl (λhc=>?_) (λhc=>?_)<;>(try simp at hc)))
    refine⟨0,by omega,?_,by simp[f0],by simp[f43],by simp[f44],sp,by simp[f5],qB ⟨rfl,by simp,?_⟩⟩;exact wA;apply Exists.intro;exact XX
  have hq:=gP hS hw;refine aU ?_
  repeat' (first|(with_reducible apply lwStp (s:=st);(·(simp;rfl));(·(simp;rfl));(·exact wA);(·exact sA);(·exact kA);(·exact AW.cD _ _);(·omega);(·intro _ _;trivial);rintro _ _ _ hS hw _;have hq:=gP hS hw)|(refine lz λR hR=>?_;simp[hq,f0,f44,f45,f5,AW.ab,aI];try simp(disch:=omega)only[az,ar,an,ax])|(refine hR _ _ ?_;clear hR R)|(refine hK _ _ ?_;clear hK K)|refine nx ?_|refine wn λK hK=>?_|simp only[wS,nW]|refine wl Zm nW Yc λK hK=>?_|(show df _ _ _ _ _ _;refine nx ?_)|(refine wc rfl (λhc=>?_) (λhc=>?_)<;>(try simp at hc)))
  refine⟨_,by rfl,by rfl,?_⟩;apply bZ
  (·exact sA)
  all_goals(first|exact sH|exact sO)
end
end Go.Stx
