/-
 The program's thread: how an attempt's end is answered.
-/
import Derived.Test.YtpealkdhmnomhaaGreatDoorG24
import Derived.Test.YtpealkdhmnomhaaGreatDoorG05
set_option linter.unusedVariables false
set_option linter.unusedSimpArgs false
set_option linter.unusedSectionVars false
set_option maxRecDepth 20000
set_option maxHeartbeats 4000000
open Go.Proofs.Tryz renaming func125->ka5,func168->kbO,func169->kbm,mx->Ze,prog->qV
open List renaming length_append->Zc
open Prod renaming fst->Zq
open Bool renaming false->qk,true->qg
open Go renaming Value->qd
open Go.IntKind renaming i64->qa
open Go.Stx.eh renaming cells->qi
open Go.Value renaming int->qb,slice->qf
open Option renaming none->qh,some->qc
namespace Go.Stx
open Go Go.Proofs
attribute [local irreducible] TW bI cM aV aB aL cU dh
section
abbrev Fb:List (Nat×Nat):=[(0,0),(1,0),(2,0),(3,0),(4,0),(6,0),(7,0),(8,0),(9,0),(10,0),(5,2),(11,2),(12,0),(13,0)]
abbrev Fa:List (Nat×Nat):=[(0,0),(1,0),(2,0),(3,0),(4,0),(5,0),(6,0),(7,0),(8,0)]
abbrev pT:List (Nat×Nat):=[(0,0),(1,0),(2,0),(3,0),(4,0),(5,0),(6,0),(7,0),(8,0),(9,0),(10,2),(11,0),(12,0)]
abbrev pS:List (Nat×Nat):=[(0,0),(1,0),(2,0),(3,0),(4,0),(5,0),(6,0),(7,0),(8,0),(9,0),(10,3),(11,0),(12,0),(13,3)]
abbrev pR:List (Nat×Nat):=[(0,0),(1,0),(2,0),(3,0),(4,0),(6,0),(5,2),(7,3)]
abbrev pQ:List (Nat×Nat):=[(0,0),(1,0),(2,0),(3,0),(4,0),(5,0),(6,0),(7,0),(8,0),(9,0),(10,0),(11,0),(12,0),(13,0),(14,0),(15,0),(16,0),(17,0)]
abbrev pO:List (Nat×Nat):=[(0,0),(1,0),(2,0),(3,0),(4,0),(5,0),(6,0),(7,0),(8,0),(9,0),(10,0),(11,0),(12,0),(13,2),(14,3),(15,0),(16,0),(17,3)]
abbrev pN:List (Nat×Nat):=[(0,0),(1,0),(2,0),(3,0),(4,0),(5,0),(6,0),(7,0),(8,0),(9,0),(10,2),(11,0),(12,3)]
open T7
variable [Gl]
theorem Fq (hF:FOK) {q:pI} {l:List bq} (hR:CR q l) (k:Int) (NU:0<=k) (hl:(c8 l).2=0) (h7:eH l k.toNat=7) {A:AW} {L K:List It} {kk:qd->AW->Prop} (hw:A.Wf) (hS:aj A L) (hp:aE L (.at q.bb q.o) K)
 (hk:kk (qb qa (dL l k.toNat)) A):aB qV 239 [qf (qc ⟨q.bb,q.off,qh⟩) l.length q.eV,qb qa k] A kk:=by
 obtain⟨n,rfl⟩:=Int.eq_ofNat_of_zero_le NU;refine bD (Ol hF _ l n A (hR.is (aj.gR hS hp)) (tc (by rw [Int.toNat_natCast] at h7;omega))) ?_;rintro _ _ ⟨rfl,rfl⟩ _ _;have e:Fp l n=dL l n:=by
  unfold Fp;rw [ay ⟨by simp [Dq,hl],by simpa using h7⟩]
 rw [e]
 simpa using hk
theorem WI (n:Nat) (s:aI) (hl:s.aA.length<2^38):eI qV 237 [pv n] [.h (bp n s)] (λ(x:Option Addr×Nat) v=>v=qf x.1 s.aA.length x.2) (λx=>[.h (au qa (qf x.1 s.aA.length x.2) s.aA),.h (bp n s)]):=by
 intro A F hw hS;refine bD (Ql n s _ s.aH A hw (bp.toB (aj.bX hS (.s .z .z)) .z) hl) ?_;rintro u A' ⟨h1,h2⟩ jN _;obtain⟨o,c,rfl,_⟩:=h1.is.bR;exact⟨(o,c),rfl,au.jd hS hw h2 h1⟩
structure Ux (t:aU):Prop where
 cf:da t.cf
 pc:0<=t.pc/\t.pc<2^40
 io:t.io.length+t.dM.length<2^29
 pn:t.ii.length<2^27
 xT:0<=t.kj/\t.kj<2^40
 BE:0<=t.jv/\t.jv<2^40
 oN:0<=t.gf/\t.gf<2^40
 tt:(c8 t.aD).2=0
theorem Hk (q:pI) (b:Nat) (t:aU) (s:aI) (i:bq) (dO:t.fR=qc s) (ef:t.ee=qh) (fz:t.dY=qh) (hB:Ux t) (nq:i.op=12\/i.op=13) (hi:cW i=0) :
 bx qV 168 [pv b,k8 i] [.h (ik q b t)] (λ_=>True) (λ_=>[.h (ik q b (t.mq i s))]):=by
 have lp:0<=t.pc/\t.pc<2^40:=hB.pc;have zF:t.io.length<2^30:=by have:=hB.io;omega
 obtain⟨r1,r2,_⟩:=ox hi;obtain⟨op,i1,i2,i3,cy⟩:=i;dsimp only at nq r2;unfold k8;by_cases h1:s.aD=1
 . rcases nq with h2|h2
   . subst h2;have e:t.mq ⟨12,i1,i2,i3,cy⟩ s=((({ t with fR:=qh,bd:=qk }:aU).gX i1 s.value).rO 4 s.value).rT:=by
      unfold aU.mq;dsimp only;rw [ay h1];rfl
     rw [e];intro A F hw dU;refine aK kbO λ_=>?_;dsimp only [aa,ah] at dU;obtain⟨⟨di,fe,ly,fK,vs,vo⟩,hS⟩:=ik.open dU .z;clear dU;dsimp only [jP,aa,ah] at hS;rw [dO,ef,fz] at hS;dsimp only [eG,gM,eF,gJ,gO,mG] at hS;have hq:=gh hS hw;revert hq hS hw;refine Wu (J5 (Tg.mk (n:=10) (λ{A L K k}=>fQ (A:=A) (L:=L) (K:=K) (k:=k) (xE di s))) (Tg.mk (n:=10) (λ{A L K k}=>fQ (A:=A) (L:=L) (K:=K) (k:=k) (FB di s))) (Tg.mk (n:=36) (λx1 x2 x3 x4 x5 x6 x7 x8 x9=>EE b { t.d with bd:=qk } x1 x2 x3 x4 x5 x6 x7 x8 x9 i1 i2 i3 cy s.value t.io hi lp zF)) (od Fb) (od Fa)) (J2 h1 bC) ?_<;>(unhygienic intros);refine⟨_,by rfl,by trivial,?_⟩;apply ik.bX;apply aj.nF
     (·exact sA)
     . dsimp only [jP,aU.rT,aU.to,aU.rO,aU.gX,aU.eY,aU.lu,aU.d]
       (try simp only [ef,fz])
       (·exact pA)
     (·exact pA)
     all_goals(exact 0)
   subst h2;have hb:=r2 rfl;have zY:=λw=>sR (d:={ t.d with bd:=qk }) (w:=w) hb;have e:t.mq ⟨13,i1,i2,i3,cy⟩ s=((({ t with fR:=qh,bd:=qk }:aU)).rO 5 (t.dX.bk i2)).rT:=by
    unfold aU.mq;dsimp only;rw [ay h1];rfl
   rw [e];intro A F hw dU;refine aK kbO λ_=>?_;dsimp only [aa,ah] at dU;obtain⟨⟨di,fe,ly,fK,vs,vo⟩,hS⟩:=ik.open dU .z;clear dU;dsimp only [jP,aa,ah] at hS;rw [dO,ef,fz] at hS;dsimp only [eG,gM,eF,gJ,gO,mG] at hS;have hq:=gh hS hw;revert hq hS hw;refine Wu (J5 (Tg.mk (n:=10) (λ{A L K k}=>fQ (A:=A) (L:=L) (K:=K) (k:=k) (xE di s))) (Tg.mk (n:=10) (λ{A L K k}=>fQ (A:=A) (L:=L) (K:=K) (k:=k) (FB di s))) (Tg.mk (n:=36) (λx1 x2 x3 x4 x5 x6 x7 x8 x9=>ED b { t.d with bd:=qk } x1 x2 x3 x4 x5 x6 x7 x8 x9 i1 i2 i3 cy (t.d.dX.bk i2) t.io hi lp zF)) (od Fb) (od Fa)) (J5 h1 zY hb.1 hb.2 bC) ?_<;>(unhygienic intros);refine⟨_,by rfl,by trivial,?_⟩;apply ik.bX;apply aj.nF
   (·exact sA)
   . dsimp only [jP,aU.rT,aU.to,aU.rO,aU.gX,aU.eY,aU.lu,aU.d]
     (try simp only [ef,fz])
     (·exact pA)
   (·exact pA)
   all_goals(exact 0)
 by_cases h2:s.aD=6
 . have e:t.mq ⟨op,i1,i2,i3,cy⟩ s=((({ t with fR:=qh,bd:=qk }:aU)).rO 7 6).rT:=by
    unfold aU.mq;dsimp only;rw [aw h1,ay h2]
   rw [e];intro A F hw dU;refine aK kbO λ_=>?_;dsimp only [aa,ah] at dU;obtain⟨⟨di,fe,ly,fK,vs,vo⟩,hS⟩:=ik.open dU .z;clear dU;dsimp only [jP,aa,ah] at hS;rw [dO,ef,fz] at hS;dsimp only [eG,gM,eF,gJ,gO,mG] at hS;have hq:=gh hS hw;revert hq hS hw;refine Wu (J6 (Tg.mk (n:=10) (λ{A L K k}=>fQ (A:=A) (L:=L) (K:=K) (k:=k) (xE di s))) (Tg.mk (n:=10) (λ{A L K k}=>fQ (A:=A) (L:=L) (K:=K) (k:=k) (FB di s))) (Tg.mk (n:=36) (λx1=>ki b { t.d with bd:=qk } x1 t.io 7 6 zF)) (Tg.mk (n:=37) (λx1 x2 x3 x4 x5 x6 x7 x8 x9=>mh b { t.d with bd:=qk } x1 x2 x3 x4 x5 x6 x7 x8 x9 lp)) (od Fb) (od Fa)) (J3 h1 h2 bC) ?_<;>(unhygienic intros);refine⟨_,by rfl,by trivial,?_⟩;apply ik.bX;apply aj.nF
   (·exact sA)
   . dsimp only [jP,aU.rT,aU.to,aU.rO,aU.gX,aU.eY,aU.lu,aU.d]
     (try simp only [ef,fz])
     (·exact pA)
   (·exact pA)
   all_goals(exact 0)
 have e:t.mq ⟨op,i1,i2,i3,cy⟩ s=({ t with fR:=qh,bd:=qk }:aU):=by
  unfold aU.mq;dsimp only;rw [aw h1,aw h2]
 rw [e];intro A F hw dU;refine aK kbO λ_=>?_;dsimp only [aa,ah] at dU;obtain⟨⟨di,fe,ly,fK,vs,vo⟩,hS⟩:=ik.open dU .z;clear dU;dsimp only [jP,aa,ah] at hS;rw [dO,ef,fz] at hS;dsimp only [eG,gM,eF,gJ,gO,mG] at hS;have hq:=gh hS hw;revert hq hS hw;refine W (J4 (Tg.mk (n:=10) (λ{A L K k}=>fQ (A:=A) (L:=L) (K:=K) (k:=k) (xE di s))) (Tg.mk (n:=10) (λ{A L K k}=>fQ (A:=A) (L:=L) (K:=K) (k:=k) (FB di s))) (od Fb) (od Fa)) (J3 h1 h2 bC) ?_<;>(unhygienic intros);refine⟨_,by rfl,by trivial,?_⟩;apply ik.bX;apply aj.nF
 (·exact sA)
 . dsimp only [jP,aU.rT,aU.to,aU.rO,aU.gX,aU.eY,aU.lu,aU.d]
   (try simp only [ef,fz])
   (·exact pA)
 (·exact pA)
 all_goals(exact 0)
theorem Sw (hF:FOK) (q:pI) (b:Nat) (t:aU) (s:aI) (dO:t.fR=qc s) (ef:t.ee=qh) (fz:t.dY=qh) (hB:Ux t) (h7:eH t.aD t.b9.toNat=7) (Ly:0<=t.b9) (tE:∀x∈s.aA,x<2^62) (Qa:s.aA.length<=8) (E0:CR q t.aD) :
 bx qV 169 [pv b] [.h (ik q b t)] (λ_=>True) (λ_=>[.h (ik q b (t.bX s))]):=by
 have zF:=hB.io;have hlo1:t.io.length+t.dM.length<2^30:=Ya
 have hlo2:(t.io++t.dM).length<2^30:=by rw [Zc];omega
 have hlo3:t.io.length<2^30:=Ya
 have hll:t.ii.length<2^28:=by have:=hB.pn;omega
 have hf1:s.aA.length<2^38:=Ya
 have Lv:s.aA.length<2^28:=Ya
 have rH:=hB.cf;have Qe:t.b9.toNat<t.aD.length:=tc Ya;have Aa:t.b9<t.aD.length:=Ya
 have him:t.yp t.b9=t.aD[t.b9.toNat]:=by
  unfold aU.yp;rw [List.getD_eq_getElem?_getD,List.getElem?_eq_getElem Qe];rfl
 have Ul:IntKind.i64.wrap ((dL t.aD t.b9.toNat:Int)+1)=(dL t.aD t.b9.toNat:Int)+1:=by
  have h64:=(ia hB.tt).1;have h65:=(nC (p:=t.aD) (k:=t.b9.toNat+1) Ya).2.1;unfold dL;exact af Ya Ya
 by_cases h1:s.aD=1
 . by_cases h2:0<s.aA.length
   . have e:t.bX s=({ t with fR:=qh,io:=t.io++t.dM,ii:=oQ t.cf t.ii s.oX s.aA }:aU).lu 1:=by
      unfold aU.bX aU.rp;rw [aw Ya,ay h1,ay h2,h1]
     rw [e];intro A F hw dU;refine aK kbm λ_=>?_;dsimp only [aa,ah] at dU;obtain⟨⟨di,fe,ly,fK,vs,vo⟩,hS⟩:=ik.open dU .z;clear dU;dsimp only [jP,aa,ah] at hS;rw [dO,ef,fz] at hS;dsimp only [eG,gM,eF,gJ,gO,mG] at hS;have hq:=gh hS hw
     repeat' (first|(with_reducible apply VJ;(·(simp;rfl));(·(simp;rfl));(·exact wA);(·exact sA);(·exact kA);(·((repeat' (first|apply aE.z|apply aE.s));done));(·omega);(·intro _ _;trivial);rintro _ _ _ hS hw _;have hq:=gh hS hw)|(with_reducible apply JG;(·(simp;rfl));(·(simp;rfl));(·exact wA);(·exact sA);(·exact kA);(·(simp;(repeat' (first|rfl|refine⟨rfl,?_⟩));done));(·omega);(·intro _ _;trivial);rintro _ _ _ hS hw _;have hq:=gh hS hw)|(refine iT λR hR=>?_;simp [an,hq,Ul,h1,h2,AW.ab,aG];try simp (disch:=omega) only [ay,aw,af,an])|(refine hR _ _ ?_;clear hR R)|(refine hK _ _ ?_;clear hK K)|refine nx ?_|refine wn λK hK=>?_|simp only [wS,pT,pS,pR,pO,pN]|refine wl Ze pT Yc λK hK=>?_|refine wl Ze pS Yc λK hK=>?_|refine wl Ze pR Yc λK hK=>?_|refine wl Ze pO Yc λK hK=>?_|refine wl Ze pN Yc λK hK=>?_|(apply fQ (xE di s);(·exact wA);(·exact sA);(·exact kA);)|(apply fQ (MD di s);(·exact wA);(·exact sA);(·exact kA);)|(apply eI.fM (WI di s hf1);(·exact wA);(·exact sA);(·exact pA);(rintro xw _ _ rfl hS hw _;have hS:=lA hS;(try (have hq:=gh hS hw))))|(apply bx.fM (NB fK t.cf rH t.ii s.oX _ s.aA tE hll Lv);(·exact wA);(·exact sA);(·exact pA);rintro _ _ _ hS hw _;have hS:=lA hS;have hq:=gh hS hw)|(apply Fq hF E0 t.b9 Ly hB.tt h7;(·exact wA);(·exact sA);(·exact kA);)|(apply bx.fM (AO b _ _ _ _ _ _ _ _ _ _ _);(·exact wA);(·exact sA);(·exact pA);rintro _ _ _ hS hw _;have hS:=lA hS;have hq:=gh hS hw)|(show cM _ _ _ _ _ _;refine nx ?_)|(refine wc rfl (λhc=>?_) (λhc=>?_)<;>(try simp at hc)))
     try simp only [Zc] at hS
     refine⟨_,by rfl,by trivial,?_⟩;apply ik.bX;apply aj.nF
     (·exact sA)
     . dsimp only [jP,aU.rT,aU.to,aU.rO,aU.gX,aU.eY,aU.lu,aU.d]
       (try simp only [ef,fz])
       (·exact pA)
     (·exact pA)
     all_goals(exact 0)
   have e:t.bX s=({ t with fR:=qh,io:=t.io++t.dM }:aU).lu 1:=by
    unfold aU.bX aU.rp;rw [aw Ya,ay h1,aw h2,h1]
   have h3:s.aA.length=0:=Ya;rw [e];intro A F hw dU;refine aK kbm λ_=>?_;dsimp only [aa,ah] at dU;obtain⟨⟨di,fe,ly,fK,vs,vo⟩,hS⟩:=ik.open dU .z;clear dU;dsimp only [jP,aa,ah] at hS;rw [dO,ef,fz] at hS;dsimp only [eG,gM,eF,gJ,gO,mG] at hS;have hq:=gh hS hw
   repeat' (first|(with_reducible apply VJ;(·(simp;rfl));(·(simp;rfl));(·exact wA);(·exact sA);(·exact kA);(·((repeat' (first|apply aE.z|apply aE.s));done));(·omega);(·intro _ _;trivial);rintro _ _ _ hS hw _;have hq:=gh hS hw)|(with_reducible apply JG;(·(simp;rfl));(·(simp;rfl));(·exact wA);(·exact sA);(·exact kA);(·(simp;(repeat' (first|rfl|refine⟨rfl,?_⟩));done));(·omega);(·intro _ _;trivial);rintro _ _ _ hS hw _;have hq:=gh hS hw)|(refine iT λR hR=>?_;simp [an,hq,Ul,h1,h3,AW.ab,aG];try simp (disch:=omega) only [ay,aw,af,an])|(refine hR _ _ ?_;clear hR R)|(refine hK _ _ ?_;clear hK K)|refine nx ?_|refine wn λK hK=>?_|simp only [wS,pT,pS,pO,pN]|refine wl Ze pT Yc λK hK=>?_|refine wl Ze pS Yc λK hK=>?_|refine wl Ze pO Yc λK hK=>?_|refine wl Ze pN Yc λK hK=>?_|(apply fQ (xE di s);(·exact wA);(·exact sA);(·exact kA);)|(apply eI.fM (WI di s hf1);(·exact wA);(·exact sA);(·exact pA);(rintro xw _ _ rfl hS hw _;have hS:=lA hS;(try (have hq:=gh hS hw))))|(apply Fq hF E0 t.b9 Ly hB.tt h7;(·exact wA);(·exact sA);(·exact kA);)|(apply bx.fM (AO b _ _ _ _ _ _ _ _ _ _ _);(·exact wA);(·exact sA);(·exact pA);rintro _ _ _ hS hw _;have hS:=lA hS;have hq:=gh hS hw)|(show cM _ _ _ _ _ _;refine nx ?_)|(refine wc rfl (λhc=>?_) (λhc=>?_)<;>(try simp at hc)))
   try simp only [Zc] at hS
   refine⟨_,by rfl,by trivial,?_⟩;apply ik.bX;apply aj.nF
   (·exact sA)
   . dsimp only [jP,aU.rT,aU.to,aU.rO,aU.gX,aU.eY,aU.lu,aU.d]
     (try simp only [ef,fz])
     (·exact pA)
   (·exact pA)
   all_goals(exact 0)
 by_cases h9:s.aD=9
 . obtain⟨GT,Mu⟩:=E0.at Qe;have hcell:q.bS[q.off+t.d.b9.toNat*5+4]? = qc (qb qa (t.yp t.b9).cy):=by
    rw [him];exact NE Mu 4 Ya
   have ET:q.off+t.d.b9.toNat*5+5<=q.bS.length:=GT;have H3:0<=t.d.b9:=Ly;have lF:t.d.b9<(t.aD.length:Int):=Aa;by_cases h2:t.d.jv<(t.yp t.b9).cy
   . have e:t.bX s=({ t with fR:=qh,dX:=t.mK }:aU).to t.b9:=by
      unfold aU.bX aU.rp;rw [ay h9,ay (show t.jv<(t.yp t.b9).cy from h2),aw h1]
     rw [e];intro A F hw dU;refine aK kbm λ_=>?_;dsimp only [aa,ah] at dU;obtain⟨⟨di,fe,ly,fK,vs,vo⟩,hS⟩:=ik.open dU .z;clear dU;dsimp only [jP,aa,ah] at hS;rw [dO,ef,fz] at hS;dsimp only [eG,gM,eF,gJ,gO,mG] at hS;have hq:=gh hS hw
     repeat' (first|(refine iT λR hR=>?_;simp [hq,h9,h2,hcell,H3,lF,AW.ab,aG];try simp (disch:=omega) only [ay,aw,af,an])|(refine hR _ _ ?_;clear hR R)|(refine hK _ _ ?_;clear hK K)|refine nx ?_|refine wn λK hK=>?_|simp only [wS,pT,pQ]|refine wl Ze pT Yc λK hK=>?_|refine wl Ze pQ Yc λK hK=>?_|(apply fQ (xE di s);(·exact wA);(·exact sA);(·exact kA);)|(apply bx.fM (AO b _ _ _ _ _ _ _ _ _ _ _);(·exact wA);(·exact sA);(·exact pA);rintro _ _ _ hS hw _;have hS:=lA hS;have hq:=gh hS hw)|(show cM _ _ _ _ _ _;refine nx ?_)|(refine wc rfl (λhc=>?_) (λhc=>?_)<;>(try simp at hc)))
     try simp only [Zc] at hS
     refine⟨_,by rfl,by trivial,?_⟩;apply ik.bX;apply aj.nF
     (·exact sA)
     . dsimp only [jP,aU.rT,aU.to,aU.rO,aU.gX,aU.eY,aU.lu,aU.d]
       (try simp only [ef,fz])
       (·exact pA)
     (·exact pA)
     all_goals(exact 0)
   have e:t.bX s=({ t with fR:=qh,dX:=t.mK }:aU).lu 5:=by
    unfold aU.bX aU.rp;rw [ay h9,aw (show ¬t.jv<(t.yp t.b9).cy from h2),aw h1]
   rw [e];intro A F hw dU;refine aK kbm λ_=>?_;dsimp only [aa,ah] at dU;obtain⟨⟨di,fe,ly,fK,vs,vo⟩,hS⟩:=ik.open dU .z;clear dU;dsimp only [jP,aa,ah] at hS;rw [dO,ef,fz] at hS;dsimp only [eG,gM,eF,gJ,gO,mG] at hS;have hq:=gh hS hw
   repeat' (first|(with_reducible apply JG;(·(simp;rfl));(·(simp;rfl));(·exact wA);(·exact sA);(·exact kA);(·(simp;(repeat' (first|rfl|refine⟨rfl,?_⟩));done));(·omega);(·intro _ _;trivial);rintro _ _ _ hS hw _;have hq:=gh hS hw)|(refine iT λR hR=>?_;simp [an,hq,Ul,h9,h2,hcell,H3,lF,AW.ab,aG];try simp (disch:=omega) only [ay,aw,af,an])|(refine hR _ _ ?_;clear hR R)|(refine hK _ _ ?_;clear hK K)|refine nx ?_|refine wn λK hK=>?_|simp only [wS,pT,pQ,pO,pN]|refine wl Ze pT Yc λK hK=>?_|refine wl Ze pQ Yc λK hK=>?_|refine wl Ze pO Yc λK hK=>?_|refine wl Ze pN Yc λK hK=>?_|(apply fQ (xE di s);(·exact wA);(·exact sA);(·exact kA);)|(apply Fq hF E0 t.b9 Ly hB.tt h7;(·exact wA);(·exact sA);(·exact kA);)|(apply bx.fM (AO b _ _ _ _ _ _ _ _ _ _ _);(·exact wA);(·exact sA);(·exact pA);rintro _ _ _ hS hw _;have hS:=lA hS;have hq:=gh hS hw)|(show cM _ _ _ _ _ _;refine nx ?_)|(refine wc rfl (λhc=>?_) (λhc=>?_)<;>(try simp at hc)))
   try simp only [Zc] at hS
   refine⟨_,by rfl,by trivial,?_⟩;apply ik.bX;apply aj.nF
   (·exact sA)
   . dsimp only [jP,aU.rT,aU.to,aU.rO,aU.gX,aU.eY,aU.lu,aU.d]
     (try simp only [ef,fz])
     (·exact pA)
   (·exact pA)
   all_goals(exact 0)
 have e:t.bX s=({ t with fR:=qh,dX:=t.mK }:aU).lu s.aD:=by
  unfold aU.bX aU.rp;rw [aw h9,aw h1]
 rw [e];intro A F hw dU;refine aK kbm λ_=>?_;dsimp only [aa,ah] at dU;obtain⟨⟨di,fe,ly,fK,vs,vo⟩,hS⟩:=ik.open dU .z;clear dU;dsimp only [jP,aa,ah] at hS;rw [dO,ef,fz] at hS;dsimp only [eG,gM,eF,gJ,gO,mG] at hS;have hq:=gh hS hw
 repeat' (first|(with_reducible apply JG;(·(simp;rfl));(·(simp;rfl));(·exact wA);(·exact sA);(·exact kA);(·(simp;(repeat' (first|rfl|refine⟨rfl,?_⟩));done));(·omega);(·intro _ _;trivial);rintro _ _ _ hS hw _;have hq:=gh hS hw)|(refine iT λR hR=>?_;simp [hq,Ul,h1,h9,AW.ab,aG];try simp (disch:=omega) only [ay,aw,af,an])|(refine hR _ _ ?_;clear hR R)|(refine hK _ _ ?_;clear hK K)|refine nx ?_|refine wn λK hK=>?_|simp only [wS,pT,pO,pN]|refine wl Ze pT Yc λK hK=>?_|refine wl Ze pO Yc λK hK=>?_|refine wl Ze pN Yc λK hK=>?_|(apply fQ (xE di s);(·exact wA);(·exact sA);(·exact kA);)|(apply Fq hF E0 t.b9 Ly hB.tt h7;(·exact wA);(·exact sA);(·exact kA);)|(apply bx.fM (AO b _ _ _ _ _ _ _ _ _ _ _);(·exact wA);(·exact sA);(·exact pA);rintro _ _ _ hS hw _;have hS:=lA hS;have hq:=gh hS hw)|(show cM _ _ _ _ _ _;refine nx ?_)|(refine wc rfl (λhc=>?_) (λhc=>?_)<;>(try simp at hc)))
 try simp only [Zc] at hS
 refine⟨_,by rfl,by trivial,?_⟩;apply ik.bX;apply aj.nF
 (·exact sA)
 . dsimp only [jP,aU.rT,aU.to,aU.rO,aU.gX,aU.eY,aU.lu,aU.d]
   (try simp only [ef,fz])
   (·exact pA)
 (·exact pA)
 all_goals(exact 0)
theorem I7 (hF:FOK) (q:pI) (b:Nat) (t:aU) (s:aI) (i:bq) (dO:t.fR=qc s) (ef:t.ee=qh) (fz:t.dY=qh) (hB:Ux t) (hi:cW i=0) (dw:t.bd=qg->i.op=12\/i.op=13) (hwk:t.bd=qk->eH t.aD t.b9.toNat=7/\0<=t.b9) (tE:∀x∈s.aA,x<2^62) (Qa:s.aA.length<=8) (E0:CR q t.aD) :
 bx qV 125 [pv b,k8 i] [.h (ik q b t)] (λ_=>True) (λ_=>[.h (ik q b (t.uS i s))]):=by
 have lp:0<=t.pc/\t.pc<2^40:=hB.pc;have hls:t.dM.length<2^30:=by have:=hB.io;omega
 obtain⟨r1,_⟩:=ox hi;obtain⟨op,i1,i2,i3,cy⟩:=i;dsimp only at dw r1;unfold k8;by_cases h1:s.aF=2
 . cases hs:t.bd with
   | true=>
     have uI:t.d.bd=qg:=hs;have e:t.uS ⟨op,i1,i2,i3,cy⟩ s=t.mq ⟨op,i1,i2,i3,cy⟩ s:=by
      unfold aU.uS;rw [ay h1,ay hs]
     have hes:=Hk q b t s ⟨op,i1,i2,i3,cy⟩ dO ef fz hB (dw hs) hi;rw [e];intro A F hw dU;refine aK ka5 λ_=>?_;dsimp only [aa,ah] at dU;obtain⟨⟨di,fe,ly,fK,vs,vo⟩,hS⟩:=ik.open dU .z;clear dU;dsimp only [jP,aa,ah] at hS;rw [dO,ef,fz] at hS;dsimp only [eG,gM,eF,gJ,gO,mG] at hS;have hq:=gh hS hw;revert hq hS hw;refine Wu (J2 (Tg.mk (n:=10) (λ{A L K k}=>fQ (A:=A) (L:=L) (K:=K) (k:=k) (Dd di s))) (Tg.mk (n:=34) @hes)) (J3 h1 uI bC) ?_<;>(unhygienic intros);exact⟨_,by rfl,trivial,aj.bX hS (.s .z (.s (by repeat' (first|apply aE.z|apply aE.s)) .z))⟩
   | false=>
     have uI:t.d.bd=qk:=hs;have e:t.uS ⟨op,i1,i2,i3,cy⟩ s=t.bX s:=by
      unfold aU.uS;rw [ay h1,aw Y6]
     have hes:=Sw hF q b t s dO ef fz hB (hwk hs).1 (hwk hs).2 tE Qa E0;rw [e];intro A F hw dU;refine aK ka5 λ_=>?_;dsimp only [aa,ah] at dU;obtain⟨⟨di,fe,ly,fK,vs,vo⟩,hS⟩:=ik.open dU .z;clear dU;dsimp only [jP,aa,ah] at hS;rw [dO,ef,fz] at hS;dsimp only [eG,gM,eF,gJ,gO,mG] at hS;have hq:=gh hS hw;revert hq hS hw;refine Wu (J2 (Tg.mk (n:=10) (λ{A L K k}=>fQ (A:=A) (L:=L) (K:=K) (k:=k) (Dd di s))) (Tg.mk (n:=34) @hes)) (J3 h1 uI bC) ?_<;>(unhygienic intros);exact⟨_,by rfl,trivial,aj.bX hS (.s .z (.s (by repeat' (first|apply aE.z|apply aE.s)) .z))⟩
 cases hs:t.bd with
 | true=>
   have uI:t.d.bd=qg:=hs;have e:t.uS ⟨op,i1,i2,i3,cy⟩ s=t:=by
    unfold aU.uS;rw [aw h1,ay hs]
   rw [e];intro A F hw dU;refine aK ka5 λ_=>?_;dsimp only [aa,ah] at dU;obtain⟨⟨di,fe,ly,fK,vs,vo⟩,hS⟩:=ik.open dU .z;clear dU;dsimp only [jP,aa,ah] at hS;rw [dO,ef,fz] at hS;dsimp only [eG,gM,eF,gJ,gO,mG] at hS;have hq:=gh hS hw;revert hq hS hw;refine W (J1 (Tg.mk (n:=10) (λ{A L K k}=>fQ (A:=A) (L:=L) (K:=K) (k:=k) (Dd di s)))) (J3 h1 uI bC) ?_<;>(unhygienic intros);refine⟨_,by rfl,by trivial,?_⟩;apply ik.bX
   (·exact sA)
   . dsimp only [jP,aU.rT,aU.to,aU.rO,aU.gX,aU.eY,aU.lu,aU.d]
     (try simp only [dO,ef,fz])
     (·exact pA)
   (·exact pA)
   all_goals(exact 0)
 | false=>
   have uI:t.d.bd=qk:=hs;by_cases h2:op=10
   . subst h2;have ha:=r1 rfl;have e:t.uS ⟨10,i1,i2,i3,cy⟩ s=(t.eY i1 1 s.value).rT:=by
      unfold aU.uS;rw [aw h1,aw Y6,ay rfl]
     rw [e];intro A F hw dU;refine aK ka5 λ_=>?_;dsimp only [aa,ah] at dU;obtain⟨⟨di,fe,ly,fK,vs,vo⟩,hS⟩:=ik.open dU .z;clear dU;dsimp only [jP,aa,ah] at hS;rw [dO,ef,fz] at hS;dsimp only [eG,gM,eF,gJ,gO,mG] at hS;have hq:=gh hS hw;revert hq hS hw;refine Wu (J3 (Tg.mk (n:=10) (λ{A L K k}=>fQ (A:=A) (L:=L) (K:=K) (k:=k) (Dd di s))) (Tg.mk (n:=36) (λx1 x2 x3 x4 x5 x6=>N4 b di t.d x1 x2 x3 x4 x5 x6 s t.dM i1 1 ha hls)) (Tg.mk (n:=37) (λx1 x2 x3 x4 x5 x6 x7 x8 x9=>mh b { t.d with dX:=t.d.dX.set i1 s.value } x1 x2 x3 x4 x5 x6 x7 x8 x9 lp))) (J3 h1 uI bC) ?_<;>(unhygienic intros);refine⟨_,by rfl,by trivial,?_⟩;apply ik.bX
     (·exact sA)
     . dsimp only [jP,aU.rT,aU.to,aU.rO,aU.gX,aU.eY,aU.lu,aU.d]
       (try simp only [dO,ef,fz])
       (·exact pA)
     (·exact pA)
     all_goals(exact 0)
   by_cases h3:op=14
   . subst h3;have ha:=r1 rfl;have e:t.uS ⟨14,i1,i2,i3,cy⟩ s=(t.eY i1 2 s.value).rT:=by
      unfold aU.uS;rw [aw h1,aw Y6,aw (show ¬(14:Int)=10 by decide),ay rfl]
     rw [e];intro A F hw dU;refine aK ka5 λ_=>?_;dsimp only [aa,ah] at dU;obtain⟨⟨di,fe,ly,fK,vs,vo⟩,hS⟩:=ik.open dU .z;clear dU;dsimp only [jP,aa,ah] at hS;rw [dO,ef,fz] at hS;dsimp only [eG,gM,eF,gJ,gO,mG] at hS;have hq:=gh hS hw;revert hq hS hw;refine Wu (J3 (Tg.mk (n:=10) (λ{A L K k}=>fQ (A:=A) (L:=L) (K:=K) (k:=k) (Dd di s))) (Tg.mk (n:=36) (λx1 x2 x3 x4 x5 x6=>N4 b di t.d x1 x2 x3 x4 x5 x6 s t.dM i1 2 ha hls)) (Tg.mk (n:=37) (λx1 x2 x3 x4 x5 x6 x7 x8 x9=>mh b { t.d with dX:=t.d.dX.set i1 s.value } x1 x2 x3 x4 x5 x6 x7 x8 x9 lp))) (J3 h1 uI bC) ?_<;>(unhygienic intros);refine⟨_,by rfl,by trivial,?_⟩;apply ik.bX
     (·exact sA)
     . dsimp only [jP,aU.rT,aU.to,aU.rO,aU.gX,aU.eY,aU.lu,aU.d]
       (try simp only [dO,ef,fz])
       (·exact pA)
     (·exact pA)
     all_goals(exact 0)
   have e:t.uS ⟨op,i1,i2,i3,cy⟩ s=t.rT:=by
    unfold aU.uS;rw [aw h1,aw Y6,aw h2,aw h3]
   rw [e];intro A F hw dU;refine aK ka5 λ_=>?_;dsimp only [aa,ah] at dU;obtain⟨⟨di,fe,ly,fK,vs,vo⟩,hS⟩:=ik.open dU .z;clear dU;dsimp only [jP,aa,ah] at hS;rw [dO,ef,fz] at hS;dsimp only [eG,gM,eF,gJ,gO,mG] at hS;have hq:=gh hS hw;revert hq hS hw;refine Wu (J2 (Tg.mk (n:=10) (λ{A L K k}=>fQ (A:=A) (L:=L) (K:=K) (k:=k) (Dd di s))) (Tg.mk (n:=37) (λx1 x2 x3 x4 x5 x6 x7 x8 x9=>mh b t.d x1 x2 x3 x4 x5 x6 x7 x8 x9 lp))) (J5 h1 uI h2 h3 bC) ?_<;>(unhygienic intros);refine⟨_,by rfl,by trivial,?_⟩;apply ik.bX
   (·exact sA)
   . dsimp only [jP,aU.rT,aU.to,aU.rO,aU.gX,aU.eY,aU.lu,aU.d]
     (try simp only [dO,ef,fz])
     (·exact pA)
   (·exact pA)
   all_goals(exact 0)
end
section
open Go.Proofs Go
variable [Gl]
def Bo (e:HU) (r w:qd):List qd:=[qb qa e.cr,qb qa e.am,qb qa e.fx,qb qa e.word,r,w]
abbrev C4:=HU×qd×qd
def hY (q:List C4):List qd:=q.flatMap λy=>Bo y.1 y.2.1 y.2.2
def DK (y:C4):HP:=au qa y.2.1 y.1.reads*au qa y.2.2 y.1.bU
def eU (q:List C4):HP:=q.foldr (λy P=>DK y*P) fl
theorem Eo (q r:List C4):eU (q++r)=eU q*eU r:=by
 induction q with
 | nil=>show eU r=fl*eU r;rw [jf]
 | cons y q ih=>
   show DK y*eU (q++r)=(DK y*eU q)*eU r;rw [ih]
   ac_rfl
def Hh (v:qd) (q:List C4):List It:=[.h (dK 6 v q.length (hY q)),.h (eU q)]
def gA (v:qd) (l:List HU):HP:=td λx:{ q:List C4 // q.map Zq=l }=>aO (Hh v x.1)
section
variable {A:AW} {L K K1 K2:List It} {v:qd}
theorem gA.open {l:List HU} (h:aj A L) (hp:aE L (.h (gA v l)) K):∃q,q.map Zq=l/\aj A (Hh v q++K):=by
 obtain⟨⟨q,hq⟩,h⟩:=kT h hp;exact⟨q,hq,h⟩
theorem gA.dJ {l:List HU} {q:List C4} (hq:q.map Zq=l) (h:aj A L) (e:bf L (Hh v q) K):aj A (.h (gA v l)::K):=jp (g:=λx:{ q:List C4 // q.map Zq=l }=>Hh v x.1) ⟨q,hq⟩ h e
theorem gA.nil (h:aj A L):aj A (.h (gA (qf qh 0 0) [])::L):=by
 have h1:aj A (.h fl::L):=aj.nF h;have h2:aj A (.h (dK 6 (qf qh 0 0) 0 [])::.h fl::L):=dK.nil h1;exact gA.dJ (q:=[]) rfl h2 (.s .z (.s .z .z))
theorem gA.aM {n:Nat} {e:HU} {r w:qd} (h:aj A L) (h1:aE L (.at n (qi (Bo e r w) qg 6)) K) (h2:aE K (.h (au qa r e.reads)) K1) (h3:aE K1 (.h (au qa w e.bU)) K2):aj A (.h (gA (qf (qc ⟨n,0,qh⟩) 1 1) [e])::K2):=by
 unfold aj at h;rw [h1.aO,h2.aO,h3.aO] at h;have h4:bB A (pt n (qi (Bo e r w) qg 6)*(au qa r e.reads*(au qa w e.bU*aO K2))):=h;have e0:hY [(e,r,w)]=Bo e r w:=by simp [hY]
 have h5:aj A (.h (dK 6 (qf (qc ⟨n,0,qh⟩) 1 1) [(e,r,w)].length (hY [(e,r,w)]))::.h (eU [(e,r,w)])::K2):=by
  rw [e0];refine dK.mk (size:=6) (n:=1) (off:=0) (c:=1) (bS:=Bo e r w) (Nat.le_refl _) (Nat.le_refl _) rfl ?_;refine h4.dD ?_;show _=pt n (qi (Bo e r w) qg 6)*(((au qa r e.reads*au qa w e.bU)*fl)*aO K2);rw [dH]
  ac_rfl
 exact gA.dJ (q:=[(e,r,w)]) rfl h5 (.s .z (.s .z .z))
end
def eK (s:dm):qd:=.agg #[qb qa s.am,qb qa s.fu,qb qa s.CO,qb qa s.lU.fx,qb qa s.lU.cell,qb qa s.lU.cg,qb .u64 s.lU.eY,qb .u64 s.lU.put,.bool s.lU.done]
end
end Go.Stx
