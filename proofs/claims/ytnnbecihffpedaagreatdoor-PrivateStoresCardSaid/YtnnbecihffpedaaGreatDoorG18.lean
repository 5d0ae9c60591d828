import Derived.Test.YtnnbecihffpedaaGreatDoorG17
set_option linter.all false
set_option maxRecDepth 20000
set_option maxHeartbeats 4000000
open List renaming length->U
open Go.IntKind renaming i64->Zb,u64->Zc
open Go.Proofs.Tryz renaming func33->ka4,func35->kaJ,func37->kbs,func80->kbL,prog->qZ
open Go.Stx.AW.le renaming alloc->q8
open List renaming getElem?_cons_zero->ka7,getElem?_toArray->kaL
open Nat renaming le_succ->Zx
open Bool renaming false->qn,true->qj
open Go.IntKind renaming i64->qg
open Go.Value renaming int->qh,slice->ql,tuple->qF
open Option renaming none->qk,some->qf
open Or renaming inl->qw,inr->qB
namespace Go.Stx
open Go Go.Proofs
attribute [local irreducible] TW bK df aW aE aL cY dm
section
abbrev rH:List (Nat×Nat):=[(0,0),(1,0),(2,0),(3,0),(4,0),(5,0),(6,0),(7,0),(8,0),(9,0),(10,0),(11,0),(12,3)]
open T2
variable [Gl]
def Ol (hF:FOK)(q:rE)(b pb:Nat)(t:aV)(s:aJ)(M:Mm)(dI:t.fR=qf s)(eh:t.dV=qk)(fM:t.dP=qk)(hB:ThB t)(wU:Ow s M)(hC:iF (aY s M).2.2.1)(hi:cQ t.dG=0)(b9:t.pc<U t.aD)(cJ:t.aZ=qj->t.dG.op=12\/t.dG.op=13)(hwk:t.aZ=qn->d9 t.aD t.bW.toNat=7/\0<=t.bW)(rx:∀x∈(aY s M).2.2.1.aB,x<2^62)(Gb:(aY s M).2.2.1.aB.length<=8)(GP:CR q t.aD):
 eL qZ 35 [pv b,pv pb] [.h (iz q b t),eA pb M] (λev v=>v=qF #[eQ (t.yU M s).1,ev]) (λev=>[.h (iz q b (t.yU M s).2.2.1),eA pb (t.yU M s).2.2.2,.h (gK ev (t.yU M s).2.1)]):=by
 have jX:=λn=>VP n pb s M wU;unfold gN at jX;unfold aV.yU;generalize aY s M=r at jX hC rx Gb ⊢;obtain⟨ac,ph,s',M'⟩:=r;dsimp only at jX hC rx Gb ⊢;have lj:0<=t.pc/\t.pc<2^40:=hB.pc;have se:t.pc.toNat<U t.aD:=Ya
 obtain⟨La,RC⟩:=GP.at se;have S6:t.aD[t.pc.toNat]=t.dG:=by unfold aV.dG aV.yD;rw[List.getD_eq_getElem?_getD,List.getElem?_eq_getElem se];rfl
 rw[S6]at RC;have GM:q.off+t.d.pc.toNat*5+5<=U q.bO:=La;have IX:(q.bO.drop (q.off+t.d.pc.toNat*5)).take 5=aA t.dG:=RC;have Hc:0<=t.d.pc:=lj.1;have up:t.d.pc<(U t.aD:Int):=b9;have hB':ThB ({ t with fR:=qf s' }:aV):=⟨hB.cf,hB.pc,hB.iA,hB.p9,hB.y8,hB.C1,hB.pG,hB.uB⟩;have han:=Ll hF q b { t with fR:=qf s' } s' t.dG rfl eh fM hB' hi cJ hwk rx Gb GP;by_cases h3:ph=3
 . rw[az h3];subst h3;by_cases hb:s'.kQ=qj
   . rw[az hb];have y6:=λn=>yL n s';simp only[hb]at y6;intro A F hw dU;refine aO kaJ λ_=>?_;dsimp only[aa,ah]at dU;obtain⟨⟨du,fj,lM,fZ,vs,vo⟩,hS⟩:=iz.open dU .z;clear dU;dsimp only[jP,aa,ah]at hS;rw[dI,eh,fM]at hS;dsimp only[eI,gT,eH,gS,gV,na]at hS;have hq:=gP hS hw;revert hq hS hw;refine W (J3 (Tg.mk (n:=10) (λ{A L K k}=>gg (A:=A) (L:=L) (K:=K) (k:=k) (y6 du))) (od rH) (jX du)) (J3 bL @bx.eq_1 @bj.v.eq_1) ?_<;>(unhygienic intros);refine⟨_,by (simp[AW.ab];rfl),?_⟩;apply BR
     (·rfl)
     apply iz.bZ
     . skip
       apply gK.aM (e:=⟨0,t.id,3,0,[],[]⟩) (r:=ql qk 0 0) (w:=ql qk 0 0);apply aj.zE qg;apply aj.zE qg
       (·exact sA)
       (·repeat' (first|apply aF.z|apply aF.s))
       (·repeat' (apply aF.z))
       (·repeat' (apply aF.z))
     . dsimp only[jP,aV.pQ,aV.to,aV.sY,aV.io,aV.eV,aV.lK,aV.d]
       (try simp only[eh,fM])
       (·exact pA)
     (·exact pA)
     all_goals(exact 0)
   rw[ar hb];have lW:s'.kQ=qn:=by simpa using hb
   have y6:=λn=>yL n s';simp only[lW]at y6;intro A F hw dU;refine aO kaJ λ_=>?_;dsimp only[aa,ah]at dU;obtain⟨⟨du,fj,lM,fZ,vs,vo⟩,hS⟩:=iz.open dU .z;clear dU;dsimp only[jP,aa,ah]at hS;rw[dI,eh,fM]at hS;dsimp only[eI,gT,eH,gS,gV,na]at hS;have hq:=gP hS hw;revert hq hS hw;refine Wu (J4 (Tg.mk (n:=10) (λ{A L K k}=>gg (A:=A) (L:=L) (K:=K) (k:=k) (y6 du))) (Tg.mk (n:=34) @han) (od rH) (jX du)) (J7 GM IX Hc up bL @bx.eq_1 @bj.v.eq_1) ?_<;>(unhygienic intros);refine⟨_,by (simp[AW.ab];rfl),?_⟩;apply BR
   (·rfl)
   apply aj.bZ
   . skip
     apply gK.aM (e:=⟨0,t.id,3,0,[],[]⟩) (r:=ql qk 0 0) (w:=ql qk 0 0);apply aj.zE qg;apply aj.zE qg
     (·exact sA)
     (·repeat' (first|apply aF.z|apply aF.s))
     (·repeat' (apply aF.z))
     (·repeat' (apply aF.z))
   (·exact pA)
 rw[ar h3];by_cases Kg:ph=16
 . subst Kg;have hdz:=λn=>decidedP n s';by_cases yZ:s'.am=qj
   . rw[az (⟨rfl,yZ⟩:(16:Int)=16/\s'.am=qj)];simp only[yZ]at hdz;by_cases h1:s'.aD=1
     . rw[az h1];have hcz:=λn=>yI n s';simp only[h1]at hcz;by_cases hb:s'.kQ=qj
       . rw[az hb];have y6:=λn=>yL n s';simp only[hb]at y6;intro A F hw dU;refine aO kaJ λ_=>?_;dsimp only[aa,ah]at dU;obtain⟨⟨du,fj,lM,fZ,vs,vo⟩,hS⟩:=iz.open dU .z;clear dU;dsimp only[jP,aa,ah]at hS;rw[dI,eh,fM]at hS;dsimp only[eI,gT,eH,gS,gV,na]at hS;have hq:=gP hS hw;revert hq hS hw;refine W (J6 (Tg.mk (n:=10) (λ{A L K k}=>gg (A:=A) (L:=L) (K:=K) (k:=k) (y6 du))) (Tg.mk (n:=10) (λ{A L K k}=>gg (A:=A) (L:=L) (K:=K) (k:=k) (hdz du))) (Tg.mk (n:=10) (λ{A L K k}=>gg (A:=A) (L:=L) (K:=K) (k:=k) (hcz du))) (Tg.mk (n:=32) (Mv du s' hC)) (od rH) (jX du)) (J3 bL @bx.eq_1 @bj.v.eq_1) ?_<;>(unhygienic intros);refine⟨_,by (simp[AW.ab];rfl),?_⟩;apply BR
         (·rfl)
         apply iz.bZ
         . skip
           apply gK.aM (e:=⟨0,t.id,4,0,s'.reads,nZ s'⟩)
           (·exact sA)
           (·repeat' (first|apply aF.z|apply aF.s))
           (·repeat' (first|apply aF.z|apply aF.s))
           (·repeat' (first|apply aF.z|apply aF.s))
         . dsimp only[jP,aV.pQ,aV.to,aV.sY,aV.io,aV.eV,aV.lK,aV.d]
           (try simp only[eh,fM])
           (·exact pA)
         (·exact pA)
         all_goals(exact 0)
       rw[ar hb];have lW:s'.kQ=qn:=by simpa using hb
       have y6:=λn=>yL n s';simp only[lW]at y6;intro A F hw dU;refine aO kaJ λ_=>?_;dsimp only[aa,ah]at dU;obtain⟨⟨du,fj,lM,fZ,vs,vo⟩,hS⟩:=iz.open dU .z;clear dU;dsimp only[jP,aa,ah]at hS;rw[dI,eh,fM]at hS;dsimp only[eI,gT,eH,gS,gV,na]at hS;have hq:=gP hS hw;revert hq hS hw;refine Wu (J7 (Tg.mk (n:=10) (λ{A L K k}=>gg (A:=A) (L:=L) (K:=K) (k:=k) (y6 du))) (Tg.mk (n:=34) @han) (Tg.mk (n:=10) (λ{A L K k}=>gg (A:=A) (L:=L) (K:=K) (k:=k) (hdz du))) (Tg.mk (n:=10) (λ{A L K k}=>gg (A:=A) (L:=L) (K:=K) (k:=k) (hcz du))) (Tg.mk (n:=32) (Mv du s' hC)) (od rH) (jX du)) (J7 GM IX Hc up bL @bx.eq_1 @bj.v.eq_1) ?_<;>(unhygienic intros);refine⟨_,by (simp[AW.ab];rfl),?_⟩;apply BR
       (·rfl)
       apply aj.bZ
       . skip
         apply gK.aM (e:=⟨0,t.id,4,0,s'.reads,nZ s'⟩)
         (·exact sA)
         (·repeat' (first|apply aF.z|apply aF.s))
         (·repeat' (first|apply aF.z|apply aF.s))
         (·repeat' (first|apply aF.z|apply aF.s))
       (·exact pA)
     rw[ar h1];by_cases hb:s'.kQ=qj
     . rw[az hb];have y6:=λn=>yL n s';simp only[hb]at y6;intro A F hw dU;refine aO kaJ λ_=>?_;dsimp only[aa,ah]at dU;obtain⟨⟨du,fj,lM,fZ,vs,vo⟩,hS⟩:=iz.open dU .z;clear dU;dsimp only[jP,aa,ah]at hS;rw[dI,eh,fM]at hS;dsimp only[eI,gT,eH,gS,gV,na]at hS;have hq:=gP hS hw;revert hq hS hw;refine W (J6 (Tg.mk (n:=10) (λ{A L K k}=>gg (A:=A) (L:=L) (K:=K) (k:=k) (y6 du))) (Tg.mk (n:=10) (λ{A L K k}=>gg (A:=A) (L:=L) (K:=K) (k:=k) (hdz du))) (Tg.mk (n:=10) (λ{A L K k}=>gg (A:=A) (L:=L) (K:=K) (k:=k) (yI du s'))) (Tg.mk (n:=32) (Mv du s' hC)) (od rH) (jX du)) (J4 h1 bL @bx.eq_1 @bj.v.eq_1) ?_<;>(unhygienic intros);refine⟨_,by (simp[AW.ab];rfl),?_⟩;apply BR
       (·rfl)
       apply iz.bZ
       . skip
         apply gK.aM (e:=⟨0,t.id,4,0,s'.reads,[]⟩) (w:=ql qk 0 0);apply aj.zE qg
         (·exact sA)
         (·repeat' (first|apply aF.z|apply aF.s))
         (·repeat' (first|apply aF.z|apply aF.s))
         (·repeat' (apply aF.z))
       . dsimp only[jP,aV.pQ,aV.to,aV.sY,aV.io,aV.eV,aV.lK,aV.d]
         (try simp only[eh,fM])
         (·exact pA)
       (·exact pA)
       all_goals(exact 0)
     rw[ar hb];have lW:s'.kQ=qn:=by simpa using hb
     have y6:=λn=>yL n s';simp only[lW]at y6;intro A F hw dU;refine aO kaJ λ_=>?_;dsimp only[aa,ah]at dU;obtain⟨⟨du,fj,lM,fZ,vs,vo⟩,hS⟩:=iz.open dU .z;clear dU;dsimp only[jP,aa,ah]at hS;rw[dI,eh,fM]at hS;dsimp only[eI,gT,eH,gS,gV,na]at hS;have hq:=gP hS hw;revert hq hS hw;refine Wu (J7 (Tg.mk (n:=10) (λ{A L K k}=>gg (A:=A) (L:=L) (K:=K) (k:=k) (y6 du))) (Tg.mk (n:=34) @han) (Tg.mk (n:=10) (λ{A L K k}=>gg (A:=A) (L:=L) (K:=K) (k:=k) (hdz du))) (Tg.mk (n:=10) (λ{A L K k}=>gg (A:=A) (L:=L) (K:=K) (k:=k) (yI du s'))) (Tg.mk (n:=32) (Mv du s' hC)) (od rH) (jX du)) (J8 h1 GM IX Hc up bL @bx.eq_1 @bj.v.eq_1) ?_<;>(unhygienic intros);refine⟨_,by (simp[AW.ab];rfl),?_⟩;apply BR
     (·rfl)
     apply aj.bZ
     . skip
       apply gK.aM (e:=⟨0,t.id,4,0,s'.reads,[]⟩) (w:=ql qk 0 0);apply aj.zE qg
       (·exact sA)
       (·repeat' (first|apply aF.z|apply aF.s))
       (·repeat' (first|apply aF.z|apply aF.s))
       (·repeat' (apply aF.z))
     (·exact pA)
   rw[ar (λhh:(16:Int)=16/\s'.am=qj=>yZ hh.2)];have hdc2:s'.am=qn:=by simpa using yZ
   simp only[hdc2]at hdz;by_cases hb:s'.kQ=qj
   . rw[az hb];have y6:=λn=>yL n s';simp only[hb]at y6;intro A F hw dU;refine aO kaJ λ_=>?_;dsimp only[aa,ah]at dU;obtain⟨⟨du,fj,lM,fZ,vs,vo⟩,hS⟩:=iz.open dU .z;clear dU;dsimp only[jP,aa,ah]at hS;rw[dI,eh,fM]at hS;dsimp only[eI,gT,eH,gS,gV,na]at hS;have hq:=gP hS hw;revert hq hS hw;refine W (J4 (Tg.mk (n:=10) (λ{A L K k}=>gg (A:=A) (L:=L) (K:=K) (k:=k) (y6 du))) (Tg.mk (n:=10) (λ{A L K k}=>gg (A:=A) (L:=L) (K:=K) (k:=k) (hdz du))) (od rH) (jX du)) (J3 bL @bx.eq_1 @bj.v.eq_1) ?_<;>(unhygienic intros);refine⟨_,by (simp[AW.ab];rfl),?_⟩;apply BR
     (·rfl)
     apply iz.bZ
     . skip
       apply gK.nil
       (·exact sA)
     . dsimp only[jP,aV.pQ,aV.to,aV.sY,aV.io,aV.eV,aV.lK,aV.d]
       (try simp only[eh,fM])
       (·exact pA)
     (·exact pA)
     all_goals(exact 0)
   rw[ar hb];have lW:s'.kQ=qn:=by simpa using hb
   have y6:=λn=>yL n s';simp only[lW]at y6;intro A F hw dU;refine aO kaJ λ_=>?_;dsimp only[aa,ah]at dU;obtain⟨⟨du,fj,lM,fZ,vs,vo⟩,hS⟩:=iz.open dU .z;clear dU;dsimp only[jP,aa,ah]at hS;rw[dI,eh,fM]at hS;dsimp only[eI,gT,eH,gS,gV,na]at hS;have hq:=gP hS hw;revert hq hS hw;refine Wu (J5 (Tg.mk (n:=10) (λ{A L K k}=>gg (A:=A) (L:=L) (K:=K) (k:=k) (y6 du))) (Tg.mk (n:=34) @han) (Tg.mk (n:=10) (λ{A L K k}=>gg (A:=A) (L:=L) (K:=K) (k:=k) (hdz du))) (od rH) (jX du)) (J7 GM IX Hc up bL @bx.eq_1 @bj.v.eq_1) ?_<;>(unhygienic intros);refine⟨_,by (simp[AW.ab];rfl),?_⟩;apply BR
   (·rfl)
   apply aj.bZ
   . skip
     apply gK.nil
     (·exact sA)
   (·exact pA)
 rw[ar (λhh:ph=16/\s'.am=qj=>Kg hh.1)];by_cases hb:s'.kQ=qj
 . rw[az hb];have y6:=λn=>yL n s';simp only[hb]at y6;intro A F hw dU;refine aO kaJ λ_=>?_;dsimp only[aa,ah]at dU;obtain⟨⟨du,fj,lM,fZ,vs,vo⟩,hS⟩:=iz.open dU .z;clear dU;dsimp only[jP,aa,ah]at hS;rw[dI,eh,fM]at hS;dsimp only[eI,gT,eH,gS,gV,na]at hS;have hq:=gP hS hw;revert hq hS hw;refine W (J3 (Tg.mk (n:=10) (λ{A L K k}=>gg (A:=A) (L:=L) (K:=K) (k:=k) (y6 du))) (od rH) (jX du)) (J5 h3 Kg bL @bx.eq_1 @bj.v.eq_1) ?_<;>(unhygienic intros);refine⟨_,by (simp[AW.ab];rfl),?_⟩;apply BR
   (·rfl)
   apply iz.bZ
   . skip
     apply gK.nil
     (·exact sA)
   . dsimp only[jP,aV.pQ,aV.to,aV.sY,aV.io,aV.eV,aV.lK,aV.d]
     (try simp only[eh,fM])
     (·exact pA)
   (·exact pA)
   all_goals(exact 0)
 rw[ar hb];have lW:s'.kQ=qn:=by simpa using hb
 have y6:=λn=>yL n s';simp only[lW]at y6;intro A F hw dU;refine aO kaJ λ_=>?_;dsimp only[aa,ah]at dU;obtain⟨⟨du,fj,lM,fZ,vs,vo⟩,hS⟩:=iz.open dU .z;clear dU;dsimp only[jP,aa,ah]at hS;rw[dI,eh,fM]at hS;dsimp only[eI,gT,eH,gS,gV,na]at hS;have hq:=gP hS hw;revert hq hS hw;refine Wu (J4 (Tg.mk (n:=10) (λ{A L K k}=>gg (A:=A) (L:=L) (K:=K) (k:=k) (y6 du))) (Tg.mk (n:=34) @han) (od rH) (jX du)) (J9 h3 Kg GM IX Hc up bL @bx.eq_1 @bj.v.eq_1) ?_<;>(unhygienic intros);refine⟨_,by (simp[AW.ab];rfl),?_⟩;apply BR
 (·rfl)
 apply aj.bZ
 . skip
   apply gK.nil
   (·exact sA)
 (·exact pA)
end
section
abbrev rG:List (Nat×Nat):=[(0,0),(1,0),(2,0),(3,0),(4,0),(5,0),(6,0),(7,0),(8,0),(9,0),(10,2),(11,3),(12,0),(13,0),(14,0),(15,3)]
open T24
variable [Gl]
def aF.pt {n:Nat}{o:dt}{L:List It}:aF (.at n o::L) (.h (pt n o)) L:=.e rfl
def aj.Pu {A:AW}{L K:List It}{n:Nat}{o:dt}(h:aj A L)(hp:aF L (.h (pt n o)) K):aj A (.at n o::K):=by unfold aj at h ⊢;rw[hp.aP]at h;exact h
def Pn (a:bj)(A:AW):fQ 65 [a.v] A (qh qg (eJ a)):=by
 refine aE.wy (V:=qh qg (eJ a)) Yb (λhw=>?_) Yf;refine aO Tryz.func65 λ_=>?_;unfold bj.v eJ;by_cases h1:a.cell=8
 . refine W db (J2 h1 bL) ?_<;>intros;exact⟨_,by (simp;rfl),by simp[h1],q8 _ _⟩
 by_cases h2:a.fB=3
 . refine W db (J3 h1 h2 bL) ?_<;>intros;exact⟨_,by (simp;rfl),by simp[h1,h2],q8 _ _⟩
 refine W db (J3 h1 h2 bL) ?_<;>intros;exact⟨_,by (simp;rfl),by simp[h1,h2],q8 _ _⟩
def Us (a:bj){A:AW}{k:Value->AW->Prop}(hk:k (qh qg (eJ a)) A):aE qZ 65 [a.v] A k:=by refine bT (Pn a A) ?_;rintro _ _⟨rfl,rfl⟩_ _;exact hk
def Hk (p:Nat)(l:List gy)(r:Bool)(h:decide (U l=0)=r):bz qZ 66 [pv p] [.h (EA p l)] (λv=>v=.bool r) (λ_=>[.h (EA p l)]):=by subst h;exact QT p l
def Lz (q:rE)(b pb:Nat)(t:aV)(M:Mm)(f:kB)(dI:t.fR=qk)(eh:t.dV=qf f)(hB:ThB t)(hn:0<=f.next/\f.next<2^39)(hlm:∀x∈t.iw,x.1<2^62)(hdl:∀l,t.dP=qf l->l≠[]/\U l<2^28):
 bz qZ 33 [pv b,pv pb] [.h (iz q b t),eA pb M] (λv=>v=eQ (t.vJ M f).1) (λ_=>[.h (iz q b (t.vJ M f).2.1),eA pb (t.vJ M f).2.2]):=by
 have lj:0<=t.pc/\t.pc<2^40:=hB.pc;have AU:U t.iA<2^30:=by have:=hB.iA;omega
 have hll:U t.iw<2^28:=by have:=hB.p9;omega
 have sF:=hB.cf;unfold aV.vJ;cases fM:t.dP with
 |none=>
   dsimp only;have cJ:=λn=>NL n pb f M hn;have hdo:=λn A hg=>pC n (gG f M).2 A hg;have hli:=λn A hg=>Ld n (gG f M).2 A hg;generalize hr:gG f M=r at cJ hdo hli ⊢;obtain⟨ac,f'⟩:=r;dsimp only at cJ hdo hli ⊢;by_cases nG:f'.done=qj
   . simp only[nG]at hdo;rw[az nG];cases mT:nV t.cf t.iw f'.p9 with
     |nil=>
       have e:({ t with dV:=qf f',dP:=qf [],iw:=lH t.iw f'.p9 }:aV).kT=(({ t with dV:=qk,dP:=qk,iw:=lH t.iw f'.p9 }:aV).sY 6 0).pQ:=rfl;rw[e];have hdd:=λn=>Hk n [] qj rfl;have NC:=λn=>mT▸BL n t.cf sF t.iw f'.p9 hlm hll;by_cases h3:ac.cell=3
       . rw[az h3];intro A F hw dU;refine aO ka4 λ_=>?_;dsimp only[aa,ah]at dU;obtain⟨⟨du,fj,lM,fZ,vs,vo⟩,jH⟩:=iz.open dU .z;clear dU;dsimp only[jP,aa,ah]at jH;rw[dI,eh,fM]at jH;dsimp only[eI,gT,eH,gS,gV,na]at jH;have hS:=aj.Pu jH (.s (.s (.s .z)));clear jH;have hq:=s9 hS hw;revert hq hS hw;refine Wu (J8 (Tg.mk (n:=10) (λ{A L K k}=>oG (A:=A) (L:=L) (K:=K) (k:=k) (hdo fj))) (Tg.mk (n:=10) (λ{A L K k}=>oG (A:=A) (L:=L) (K:=K) (k:=k) (hli fj))) (Tg.mk (n:=32) (NC fZ)) (Tg.mk (n:=36) (λx1=>ko b t.d x1 t.iA 6 0 AU)) (Tg.mk (n:=37) (λx1 x2 x3 x4 x5 x6 x7 x8 x9=>mC b t.d x1 x2 x3 x4 x5 x6 x7 x8 x9 lj)) (od rG) (cJ fj) @hdd) (J4 h3 bL @bx.eq_1 @bj.v.eq_1) ?_<;>(unhygienic intros);refine⟨_,by (simp[AW.ab];rfl),by (simp[eQ,h3];done),?_⟩;apply iz.bZ;apply aj.oA
         apply aj.oA
         (·exact sA)
         . dsimp only[jP,aV.pQ,aV.to,aV.sY,aV.io,aV.eV,aV.lK,aV.d]
           (try simp only[dI])
           exact X2
         (·repeat' (first|apply bd.z|apply bd.s|apply aF.z|apply aF.s))
         all_goals(exact 0)
       rw[ar h3];intro A F hw dU;refine aO ka4 λ_=>?_;dsimp only[aa,ah]at dU;obtain⟨⟨du,fj,lM,fZ,vs,vo⟩,jH⟩:=iz.open dU .z;clear dU;dsimp only[jP,aa,ah]at jH;rw[dI,eh,fM]at jH;dsimp only[eI,gT,eH,gS,gV,na]at jH;have hS:=aj.Pu jH (.s (.s (.s .z)));clear jH;have hq:=s9 hS hw;revert hq hS hw;refine Wu (J8 (Tg.mk (n:=10) (λ{A L K k}=>oG (A:=A) (L:=L) (K:=K) (k:=k) (hdo fj))) (Tg.mk (n:=10) (λ{A L K k}=>oG (A:=A) (L:=L) (K:=K) (k:=k) (hli fj))) (Tg.mk (n:=32) (NC fZ)) (Tg.mk (n:=36) (λx1=>ko b t.d x1 t.iA 6 0 AU)) (Tg.mk (n:=37) (λx1 x2 x3 x4 x5 x6 x7 x8 x9=>mC b t.d x1 x2 x3 x4 x5 x6 x7 x8 x9 lj)) (od rG) (cJ fj) @hdd) (J4 h3 bL @bx.eq_1 @bj.v.eq_1) ?_<;>(unhygienic intros);refine⟨_,by (simp[AW.ab];rfl),by trivial,?_⟩
       apply iz.bZ;apply aj.oA;apply aj.oA
       (·exact sA)
       . dsimp only[jP,aV.pQ,aV.to,aV.sY,aV.io,aV.eV,aV.lK,aV.d]
         (try simp only[dI])
         exact X2
       (·repeat' (first|apply bd.z|apply bd.s|apply aF.z|apply aF.s))
       all_goals(exact 0)
     |cons x l=>
       have e:({ t with dV:=qf f',dP:=qf (x::l),iw:=lH t.iw f'.p9 }:aV).kT={ t with dV:=qf f',dP:=qf (x::l),iw:=lH t.iw f'.p9 }:=rfl;rw[e];have hdd:=λn=>Hk n (x::l) qn rfl;have NC:=λn=>mT▸BL n t.cf sF t.iw f'.p9 hlm hll;by_cases h3:ac.cell=3
       . rw[az h3];intro A F hw dU;refine aO ka4 λ_=>?_;dsimp only[aa,ah]at dU;obtain⟨⟨du,fj,lM,fZ,vs,vo⟩,jH⟩:=iz.open dU .z;clear dU;dsimp only[jP,aa,ah]at jH;rw[dI,eh,fM]at jH;dsimp only[eI,gT,eH,gS,gV,na]at jH;have hS:=aj.Pu jH (.s (.s (.s .z)));clear jH;have hq:=s9 hS hw;revert hq hS hw;refine W (J6 (Tg.mk (n:=10) (λ{A L K k}=>oG (A:=A) (L:=L) (K:=K) (k:=k) (hdo fj))) (Tg.mk (n:=10) (λ{A L K k}=>oG (A:=A) (L:=L) (K:=K) (k:=k) (hli fj))) (Tg.mk (n:=32) (NC fZ)) (od rG) (cJ fj) @hdd) (J4 h3 bL @bx.eq_1 @bj.v.eq_1) ?_<;>(unhygienic intros);refine⟨_,by (simp[AW.ab];rfl),by (simp[eQ,h3];done),?_⟩;apply iz.bZ;apply aj.oA;apply aj.oA
         (·exact sA)
         . dsimp only[jP,aV.pQ,aV.to,aV.sY,aV.io,aV.eV,aV.lK,aV.d]
           (try simp only[dI])
           exact XR
         (·repeat' (first|apply bd.z|apply bd.s|apply aF.z|apply aF.s))
         all_goals(exact 0)
       rw[ar h3];intro A F hw dU;refine aO ka4 λ_=>?_;dsimp only[aa,ah]at dU;obtain⟨⟨du,fj,lM,fZ,vs,vo⟩,jH⟩:=iz.open dU .z;clear dU;dsimp only[jP,aa,ah]at jH;rw[dI,eh,fM]at jH;dsimp only[eI,gT,eH,gS,gV,na]at jH;have hS:=aj.Pu jH (.s (.s (.s .z)));clear jH;have hq:=s9 hS hw;revert hq hS hw;refine W (J6 (Tg.mk (n:=10) (λ{A L K k}=>oG (A:=A) (L:=L) (K:=K) (k:=k) (hdo fj))) (Tg.mk (n:=10) (λ{A L K k}=>oG (A:=A) (L:=L) (K:=K) (k:=k) (hli fj))) (Tg.mk (n:=32) (NC fZ)) (od rG) (cJ fj) @hdd) (J4 h3 bL @bx.eq_1 @bj.v.eq_1) ?_<;>(unhygienic intros);refine⟨_,by (simp[AW.ab];rfl),by trivial,?_⟩;apply iz.bZ;apply aj.oA;apply aj.oA
       (·exact sA)
       . dsimp only[jP,aV.pQ,aV.to,aV.sY,aV.io,aV.eV,aV.lK,aV.d]
         (try simp only[dI])
         exact XR
       (·repeat' (first|apply bd.z|apply bd.s|apply aF.z|apply aF.s))
       all_goals(exact 0)
   have hdn2:f'.done=qn:=by simpa using nG
   simp only[hdn2]at hdo;rw[ar nG];have e:({ t with dV:=qf f',dP:=qk }:aV).kT={ t with dV:=qf f',dP:=qk }:=rfl;rw[e];by_cases h3:ac.cell=3
   . rw[az h3];intro A F hw dU;refine aO ka4 λ_=>?_;dsimp only[aa,ah]at dU;obtain⟨⟨du,fj,lM,fZ,vs,vo⟩,jH⟩:=iz.open dU .z;clear dU;dsimp only[jP,aa,ah]at jH;rw[dI,eh,fM]at jH;dsimp only[eI,gT,eH,gS,gV,na]at jH;have hS:=aj.Pu jH (.s (.s (.s .z)));clear jH;have hq:=s9 hS hw;revert hq hS hw;refine W (J3 (Tg.mk (n:=10) (λ{A L K k}=>oG (A:=A) (L:=L) (K:=K) (k:=k) (hdo fj))) (od rG) (cJ fj)) (J4 h3 bL @bx.eq_1 @bj.v.eq_1) ?_<;>(unhygienic intros);refine⟨_,by (simp[AW.ab];rfl),by (simp[eQ,h3];done),?_⟩;apply iz.bZ;apply aj.oA;apply aj.oA
     (·exact sA)
     . dsimp only[jP,aV.pQ,aV.to,aV.sY,aV.io,aV.eV,aV.lK,aV.d]
       (try simp only[dI])
       exact XR
     (·repeat' (first|apply bd.z|apply bd.s|apply aF.z|apply aF.s))
     all_goals(exact 0)
   rw[ar h3];intro A F hw dU;refine aO ka4 λ_=>?_;dsimp only[aa,ah]at dU;obtain⟨⟨du,fj,lM,fZ,vs,vo⟩,jH⟩:=iz.open dU .z;clear dU;dsimp only[jP,aa,ah]at jH;rw[dI,eh,fM]at jH;dsimp only[eI,gT,eH,gS,gV,na]at jH;have hS:=aj.Pu jH (.s (.s (.s .z)));clear jH;have hq:=s9 hS hw;revert hq hS hw;refine W (J3 (Tg.mk (n:=10) (λ{A L K k}=>oG (A:=A) (L:=L) (K:=K) (k:=k) (hdo fj))) (od rG) (cJ fj)) (J4 h3 bL @bx.eq_1 @bj.v.eq_1) ?_<;>(unhygienic intros);refine⟨_,by (simp[AW.ab];rfl),by trivial,?_⟩;apply iz.bZ;apply aj.oA;apply aj.oA
   (·exact sA)
   . dsimp only[jP,aV.pQ,aV.to,aV.sY,aV.io,aV.eV,aV.lK,aV.d]
     (try simp only[dI])
     exact XR
   (·repeat' (first|apply bd.z|apply bd.s|apply aF.z|apply aF.s))
   all_goals(exact 0)
 |some l0=>
   obtain⟨fL,Qh⟩:=hdl l0 fM;cases l0 with
   |nil=>exact absurd rfl fL
   |cons x l=>
     dsimp only;have hln2:U l<2^29:=(by rw[List.length_cons]at Qh;omega);have cJ:=λn=>QS n pb x l M hln2;generalize hr:CM (x::l) M=r at cJ ⊢;obtain⟨ac,l',M'⟩:=r;dsimp only at cJ ⊢;cases l' with
     |nil=>
       have e:({ t with dP:=qf [] }:aV).kT=(({ t with dV:=qk,dP:=qk }:aV).sY 6 0).pQ:=rfl;rw[e];have hdd:=λn=>Hk n [] qj rfl;intro A F hw dU;refine aO ka4 λ_=>?_;dsimp only[aa,ah]at dU;obtain⟨⟨du,fj,lM,fZ,vs,vo⟩,jH⟩:=iz.open dU .z;clear dU;dsimp only[jP,aa,ah]at jH;rw[dI,eh,fM]at jH;dsimp only[eI,gT,eH,gS,gV,na]at jH;have hS:=aj.Pu jH (.s (.s (.s .z)));clear jH;have hq:=s9 hS hw
       repeat' (first|(refine lz λR hR=>?_;simp[hq,AW.ab,aI,bj.v];try simp(disch:=omega)only[az,ar,an,ax])|(refine hR _ _ ?_;clear hR R)|(refine hK _ _ ?_;clear hK K)|refine nx ?_|refine wn λK hK=>?_|simp only[wS]|(refine Us ac ?_)|(apply bz.gk (cJ lM);(·exact wA);(·exact sA);(·exact pA);rintro _ _ rfl hS hw _;have hS:=lA hS;have hq:=s9 hS hw)|(apply bz.gk (hdd _);(·exact wA);(·exact sA);(·exact pA);rintro _ _ rfl hS hw _;have hS:=lA hS;have hq:=s9 hS hw)|(apply eL.gk (ko b t.d _ t.iA 6 0 AU);(·exact wA);(·exact sA);(·exact pA);(rintro xw _ _ _ hS hw _;have hS:=lA hS;(try (have hq:=s9 hS hw))))|(apply bz.gk (mC b t.d _ _ _ _ _ _ _ _ _ lj);(·exact wA);(·exact sA);(·exact pA);rintro _ _ _ hS hw _;have hS:=lA hS;have hq:=s9 hS hw)|(show df _ _ _ _ _ _;refine nx ?_)|(refine wc rfl (λhc=>?_) (λhc=>?_)<;>(try simp at hc)))
       refine⟨_,by (simp[AW.ab];rfl),by trivial,?_⟩;apply iz.bZ;apply aj.oA;apply aj.oA
       (·exact sA)
       . dsimp only[jP,aV.pQ,aV.to,aV.sY,aV.io,aV.eV,aV.lK,aV.d]
         (try simp only[dI])
         exact X2
       (·repeat' (first|apply bd.z|apply bd.s|apply aF.z|apply aF.s))
       all_goals(exact 0)
     |cons y l'=>
       have e:({ t with dP:=qf (y::l') }:aV).kT={ t with dP:=qf (y::l') }:=rfl;rw[e];have hdd:=λn=>Hk n (y::l') qn rfl;intro A F hw dU;refine aO ka4 λ_=>?_;dsimp only[aa,ah]at dU;obtain⟨⟨du,fj,lM,fZ,vs,vo⟩,jH⟩:=iz.open dU .z;clear dU;dsimp only[jP,aa,ah]at jH;rw[dI,eh,fM]at jH;dsimp only[eI,gT,eH,gS,gV,na]at jH;have hS:=aj.Pu jH (.s (.s (.s .z)));clear jH;have hq:=s9 hS hw
       repeat' (first|(refine lz λR hR=>?_;simp[hq,AW.ab,aI,bj.v];try simp(disch:=omega)only[az,ar,an,ax])|(refine hR _ _ ?_;clear hR R)|(refine hK _ _ ?_;clear hK K)|refine nx ?_|refine wn λK hK=>?_|simp only[wS]|(refine Us ac ?_)|(apply bz.gk (cJ lM);(·exact wA);(·exact sA);(·exact pA);rintro _ _ rfl hS hw _;have hS:=lA hS;have hq:=s9 hS hw)|(apply bz.gk (hdd _);(·exact wA);(·exact sA);(·exact pA);rintro _ _ rfl hS hw _;have hS:=lA hS;have hq:=s9 hS hw)|(show df _ _ _ _ _ _;refine nx ?_)|(refine wc rfl (λhc=>?_) (λhc=>?_)<;>(try simp at hc)))
       refine⟨_,by (simp[AW.ab];rfl),by trivial,?_⟩;apply iz.bZ;apply aj.oA;apply aj.oA
       (·exact sA)
       . dsimp only[jP,aV.pQ,aV.to,aV.sY,aV.io,aV.eV,aV.lK,aV.d]
         (try simp only[dI,eh])
         exact XR
       (·repeat' (first|apply bd.z|apply bd.s|apply aF.z|apply aF.s))
       all_goals(exact 0)
def sH [Gl]{L G K:List It}(h':bd L G K:=by first|((repeat' (first|apply bd.z|apply bd.s|apply aF.z|apply aF.pt|apply aF.s));done)|fail):bd L G K:=h'
def sO [Gl]{L K:List It}{x:It}(h':aF L x K:=by first|((repeat' (first|apply bd.z|apply bd.s|apply aF.z|apply aF.pt|apply aF.s));done)|fail):aF L x K:=h'
end
section
abbrev xP:List (Nat×Nat):=[(0,0),(1,0),(2,0),(3,0),(4,0),(5,0),(6,0),(7,3)]
abbrev xO:List (Nat×Nat):=[(0,0),(1,0),(2,0),(3,0),(4,0),(5,0),(6,0),(7,0),(8,0),(9,0),(10,0),(11,3),(12,0),(13,0),(14,0),(15,0),(16,3)]
open T2
variable [Gl]
structure JY (t:aV) (s:aJ) (M:Mm):Prop where
 hB:ThB t
 wU:Ow s M
 hC:iF (aY s M).2.2.1
 hi:cQ t.dG=0
 b9:t.pc<t.aD.length
 cJ:t.aZ=true->t.dG.op=12\/t.dG.op=13
 hwk:t.aZ=false->d9 t.aD t.bW.toNat=7/\0<=t.bW
 rx:∀x∈(aY s M).2.2.1.aB,x<2^62
 Gb:(aY s M).2.2.1.aB.length<=8
def Au (hF:FOK){t:aV}{s:aJ}{M:Mm}(h:JY t s M)(q:rE)(b pb:Nat)(dI:t.fR=qf s)(eh:t.dV=qk)(fM:t.dP=qk)(GP:CR q t.aD):
 eL qZ 35 [pv b,pv pb] [.h (iz q b t),eA pb M] (λev v=>v=qF #[eQ (t.yU M s).1,ev]) (λev=>[.h (iz q b (t.yU M s).2.2.1),eA pb (t.yU M s).2.2.2,.h (gK ev (t.yU M s).2.1)]):=
 Ol hF q b pb t s M dI eh fM h.hB h.wU h.hC h.hi h.b9 h.cJ h.hwk h.rx h.Gb GP
def Si (hF:FOK)(q:rE)(b pb:Nat)(t:aV)(M:Mm)(i:bp)(dI:t.fR=qk)(eh:t.dV=qk)(fM:t.dP=qk)(hB:ThB t)(lV:i.op=12\/i.op=13)(hi:cQ i=0)(GP:CR q t.aD)(hadv:t.cf.aZ=qj->JY ({ t with aZ:=qj,gt:=0 }:aV).sX (gE (fq t.cf t.id)).2 M):
 eL qZ 80 [pv b,pv pb,ll i] [.h (iz q b t),eA pb M] (λev v=>v=qF #[eQ (t.plain M i).1,ev]) (λev=>[.h (iz q b (t.plain M i).2.2.1),eA pb (t.plain M i).2.2.2,.h (gK ev (t.plain M i).2.1)]):=by
 have lj:0<=t.pc/\t.pc<2^40:=hB.pc;have AU:U t.iA<2^30:=by have:=hB.iA;omega
 have sF:=hB.cf;have hwd:=sF.bm;have hct:=hB.y8;have jt:Zc.wrap t.d.cf.bm=t.d.cf.bm:=(ax Ya Ya:Zc.wrap t.cf.bm=t.cf.bm);have htg:t.rh i=tg t.d i:=by unfold aV.rh tg;rfl
 have htn:=tgt_nn t.d i;unfold aV.plain;dsimp only;rw[htg];by_cases h1:t.d.cf.bm<=tg t.d i
 . rw[az (show t.cf.bm<=tg t.d i from h1)];rcases lV with h2|h2
   . obtain⟨op,i1,i2,i3,cg⟩:=i;dsimp only at h2;subst h2;have ha:=(pd hi).1 rfl;dsimp only at ha;have Hb:=λx w=>Cf (d:=t.d) (w:=w) (x:=x) ha;rw[az rfl];unfold ll;intro A F hw dU;refine aO kbL λ_=>?_;dsimp only[aa,ah]at dU;obtain⟨⟨du,fj,lM,fZ,vs,vo⟩,hS⟩:=iz.open dU .z;clear dU;dsimp only[jP,aa,ah]at hS;rw[dI,eh,fM]at hS;dsimp only[eI,gT,eH,gS,gV,na]at hS;have hq:=gP hS hw;have RE:b<A.next:=hw.lt (hS.g 0 rfl);have nb1:(b=A.next+1+1)=False:=eq_false Ya;have rt:(b=A.next+1+1+1)=False:=eq_false Ya;have Bj:(A.next+1+1=b)=False:=eq_false Ya;have Ct:(A.next+1+1+1=b)=False:=eq_false Ya;revert hq hS hw;refine Wu (J5 (Tg.mk (n:=10) (λ{A L K k} x1=>HF (A:=A) (L:=L) (K:=K) (k:=k) b t.d x1 ⟨12,i1,i2,i3,cg⟩ (qw rfl) hi)) (Tg.mk (n:=36) (λx1=>ko b { t.d with dY:=t.d.dY.set i1 0 } x1 t.iA 7 7 AU)) (Tg.mk (n:=37) (λx1 x2 x3 x4 x5 x6 x7 x8 x9=>mC b { t.d with dY:=t.d.dY.set i1 0 } x1 x2 x3 x4 x5 x6 x7 x8 x9 lj)) (od xP) (od xO)) (J6 jt h1 Hb ha.1 ha.2 bL) ?_<;>(unhygienic intros)
     refine⟨_,by (simp[AW.ab];rfl),?_⟩;apply BR
     (·rfl)
     apply iz.bZ;apply gK.nil
     (·exact sA)
     . dsimp only[jP,aV.pQ,aV.to,aV.sY,aV.io,aV.eV,aV.lK,aV.d]
       (try simp only[dI,eh,fM])
       dsimp only[eI,gT,eH,gS,gV,na]
       (·exact sH)
     (·exact sH)
     all_goals(exact 0)
   obtain⟨op,i1,i2,i3,cg⟩:=i;dsimp only at h2;subst h2;rw[ar (show ¬(13:Int)=12 by decide)];unfold ll;intro A F hw dU;refine aO kbL λ_=>?_;dsimp only[aa,ah]at dU;obtain⟨⟨du,fj,lM,fZ,vs,vo⟩,hS⟩:=iz.open dU .z;clear dU;dsimp only[jP,aa,ah]at hS;rw[dI,eh,fM]at hS;dsimp only[eI,gT,eH,gS,gV,na]at hS;have hq:=gP hS hw;have RE:b<A.next:=hw.lt (hS.g 0 rfl);have nb1:(b=A.next+1+1)=False:=eq_false Ya;have rt:(b=A.next+1+1+1)=False:=eq_false Ya;have Bj:(A.next+1+1=b)=False:=eq_false Ya;have Ct:(A.next+1+1+1=b)=False:=eq_false Ya;revert hq hS hw;refine Wu (J5 (Tg.mk (n:=10) (λ{A L K k} x1=>HF (A:=A) (L:=L) (K:=K) (k:=k) b t.d x1 ⟨13,i1,i2,i3,cg⟩ (qB rfl) hi)) (Tg.mk (n:=36) (λx1=>ko b t.d x1 t.iA 7 7 AU)) (Tg.mk (n:=37) (λx1 x2 x3 x4 x5 x6 x7 x8 x9=>mC b t.d x1 x2 x3 x4 x5 x6 x7 x8 x9 lj)) (od xP) (od xO)) (J3 jt h1 bL) ?_<;>(unhygienic intros)
   refine⟨_,by (simp[AW.ab];rfl),?_⟩;apply BR
   (·rfl)
   apply iz.bZ;apply gK.nil
   (·exact sA)
   . dsimp only[jP,aV.pQ,aV.to,aV.sY,aV.io,aV.eV,aV.lK,aV.d]
     (try simp only[dI,eh,fM])
     dsimp only[eI,gT,eH,gS,gV,na]
     (·exact sH)
   (·exact sH)
   all_goals(exact 0)
 rw[ar (show ¬t.cf.bm<=tg t.d i from h1)];by_cases h3:t.d.cf.aZ=qj
 . rw[az (show t.cf.aZ=qj from h3)];have WF:=Au hF (hadv h3) q b pb rfl eh fM GP;have hcf2:dl t.d.cf:=sF;rcases lV with h2|h2
   all_goals
    obtain⟨op,i1,i2,i3,cg⟩:=i;dsimp only at h2;subst h2;unfold ll;intro A F hw dU;refine aO kbL λ_=>?_;dsimp only[aa,ah]at dU;obtain⟨⟨du,fj,lM,fZ,vs,vo⟩,hS⟩:=iz.open dU .z;clear dU;dsimp only[jP,aa,ah]at hS;rw[dI,eh,fM]at hS;dsimp only[eI,gT,eH,gS,gV,na]at hS;have hq:=gP hS hw;have RE:b<A.next:=hw.lt (hS.g 0 rfl);have nb1:(b=A.next+1+1)=False:=eq_false Ya;have rt:(b=A.next+1+1+1)=False:=eq_false Ya;have Bj:(A.next+1+1=b)=False:=eq_false Ya;have Ct:(A.next+1+1+1=b)=False:=eq_false Ya
    all_goals(revert hq hS hw;refine Wu (J5 (Tg.mk (n:=10) (λ{A L K k} x1=>HF (A:=A) (L:=L) (K:=K) (k:=k) b t.d x1 ⟨_,i1,i2,i3,cg⟩ (by first|exact qw rfl|exact qB rfl) hi)) (Tg.mk (n:=36) (λx1=>FC b { t.d with aZ:=qj,gt:=0 } x1 hcf2 hct)) (Tg.mk (n:=35) @WF) (od xP) (od xO)) (J5 jt h1 h3 @eQ.eq_1 bL) ?_<;>unhygienic intros)
    refine⟨_,by (simp[AW.ab];rfl),?_⟩;apply BR
    (·rfl)
    apply aj.bZ
    (·exact sA)
    (·exact sH)
 rw[ar (show ¬t.cf.aZ=qj from h3)];have hwd2:t.d.cf.bm<=64:=hwd.2;have jG:Zb.wrap (tg t.d i)=tg t.d i:=an Ya Ya;rcases lV with h2|h2
 . obtain⟨op,i1,i2,i3,cg⟩:=i;dsimp only at h2;subst h2;rw[az rfl];have e:t.Fu ⟨12,i1,i2,i3,cg⟩ (iy M 1 (tg t.d ⟨12,i1,i2,i3,cg⟩)).put=((t.io i1 (iy M 1 (tg t.d ⟨12,i1,i2,i3,cg⟩)).put).sY 4 (iy M 1 (tg t.d ⟨12,i1,i2,i3,cg⟩)).put).pQ:=az rfl;rw[e];have hta:=λw {A L K} {k:Value->AW->Prop}=>HF (A:=A) (L:=L) (K:=K) (k:=k) b t.d w ⟨12,i1,i2,i3,cg⟩ (qw rfl) hi;generalize yR:tg t.d ⟨12,i1,i2,i3,cg⟩=Mj at *;unfold ll;unfold ll at hta;intro A F hw dU;refine aO kbL λ_=>?_;dsimp only[aa,ah]at dU;obtain⟨⟨du,fj,lM,fZ,vs,vo⟩,hS⟩:=iz.open dU .z;clear dU;dsimp only[jP,aa,ah]at hS;rw[dI,eh,fM]at hS;dsimp only[eI,gT,eH,gS,gV,na]at hS;have hq:=gP hS hw;have RE:b<A.next:=hw.lt (hS.g 0 rfl);have nb1:(b=A.next+1+1)=False:=eq_false Ya;have rt:(b=A.next+1+1+1)=False:=eq_false Ya;have Bj:(A.next+1+1=b)=False:=eq_false Ya;have Ct:(A.next+1+1+1=b)=False:=eq_false Ya
   repeat' (first|(refine lz λR hR=>?_;simp[hq,nb1,jt,jG,h1,h3,AW.ab,aI,bj.v];try simp(disch:=omega)only[ar])|(refine hR _ _ ?_;clear hR R)|(refine hK _ _ ?_;clear hK K)|refine nx ?_|(refine VC λR hR=>?_;simp[hq,AW.ab,aI];try simp(disch:=omega)only[az,ar,an,ax])|(refine Rv (λR hR=>?_) (λR hR=>?_)<;>(simp[hq,aI];try simp(disch:=omega)only[az,ar,an,ax]))|refine VB ?_|refine wn λK hK=>?_|simp only[wS]|simp only[bK,wD,ml,Option.map_none,kaL,ka7,List.getElem?_cons_succ,List.getD_cons_zero,List.getD_cons_succ]|(refine ⟨λA' g=>by simp[g],?_⟩)|(refine wt (λA'=>A'.bk (A.next+1+1+1)=qf (.cells [qh qg 0,qh qg t.d.id,qh qg 1,qh qg Mj,ql qk 0 0,ql qk 0 0] qj 1)) Tryz.mx [0,1,2,3,0] (.aM 0 (.aM 1 (.wm 2 (.aM 3 (.aM 4 .nil)) 3 (.aM 2 (.aM 4 .nil))))) Yc λK hK=>?_)|(apply hta _;(·exact wA);(·exact sA);(·exact kA);)|(apply bz.gk (ldL pb M 1 Mj);(·exact wA);(·exact sA);(·exact pA);rintro _ _ rfl hS hw _;have hS:=lA hS;have hq:=gP hS hw)|(apply eL.gk (Gx b t.d _ _ _ _ _ _ _ _ _ i1 i2 i3 cg _ t.iA hi lj AU);(·exact wA);(·exact sA);(·exact pA);(rintro xw _ _ _ hS hw _;have hS:=lA hS;(try (have hq:=gP hS hw))))|(show df _ _ _ _ _ _;refine nx ?_)|(refine wc rfl (λhc=>?_) (λhc=>?_)<;>(try simp at hc)))
   all_goals(
    refine⟨_,by (simp[hq,AW.ab];rfl),?_⟩;apply BR
    (·rfl)
    apply iz.bZ
    . apply gK.aM (e:=⟨0,t.id,1,Mj,[],[]⟩) (r:=ql qk 0 0) (w:=ql qk 0 0);apply aj.zE qg;apply aj.zE qg
      (·exact sA)
      (·repeat' (first|apply aF.z|apply aF.s))
      (·repeat' (apply aF.z))
      (·repeat' (apply aF.z))
    . dsimp only[jP,aV.pQ,aV.to,aV.sY,aV.io,aV.eV,aV.lK,aV.d]
      (try simp only[dI,eh,fM])
      dsimp only[eI,gT,eH,gS,gV,na]
      (·exact sH)
    (·exact sH)
    all_goals(exact 0))
 obtain⟨op,i1,i2,i3,cg⟩:=i;dsimp only at h2;subst h2;rw[ar (show ¬(13:Int)=12 by decide)];have hb:=(pd hi).2.1 rfl;dsimp only at hb;have Bq:=λw=>tV (d:=t.d) (w:=w) hb;have e:t.Fu ⟨13,i1,i2,i3,cg⟩ (FG M 1 (tg t.d ⟨13,i1,i2,i3,cg⟩) (t.d.dY.bk i2)).put=(t.sY 5 (FG M 1 (tg t.d ⟨13,i1,i2,i3,cg⟩) (t.d.dY.bk i2)).put).pQ:=ar (show ¬(13:Int)=12 by decide);have e0:t.dY.bk i2=t.d.dY.bk i2:=rfl;dsimp only;rw[e0,e];have hta:=λw {A L K} {k:Value->AW->Prop}=>HF (A:=A) (L:=L) (K:=K) (k:=k) b t.d w ⟨13,i1,i2,i3,cg⟩ (qB rfl) hi;generalize yR:tg t.d ⟨13,i1,i2,i3,cg⟩=Mj at *;unfold ll;unfold ll at hta;intro A F hw dU;refine aO kbL λ_=>?_;dsimp only[aa,ah]at dU;obtain⟨⟨du,fj,lM,fZ,vs,vo⟩,hS⟩:=iz.open dU .z;clear dU;dsimp only[jP,aa,ah]at hS;rw[dI,eh,fM]at hS;dsimp only[eI,gT,eH,gS,gV,na]at hS;have hq:=gP hS hw;have RE:b<A.next:=hw.lt (hS.g 0 rfl);have nb1:(b=A.next+1+1)=False:=eq_false Ya
 have rt:(b=A.next+1+1+1)=False:=eq_false Ya;have Bj:(A.next+1+1=b)=False:=eq_false Ya;have Ct:(A.next+1+1+1=b)=False:=eq_false Ya
 repeat' (first|(refine lz λR hR=>?_;simp[hq,nb1,rt,jt,jG,h1,h3,Bq,hb.1,hb.2,AW.ab,aI,bj.v];try simp(disch:=omega)only[ar])|(refine hR _ _ ?_;clear hR R)|(refine hK _ _ ?_;clear hK K)|refine nx ?_|(refine VC λR hR=>?_;simp[hq,AW.ab,aI];try simp(disch:=omega)only[az,ar,an,ax])|(refine Rv (λR hR=>?_) (λR hR=>?_)<;>(simp[hq,aI];try simp(disch:=omega)only[az,ar,an,ax]))|refine VB ?_|refine wn λK hK=>?_|simp only[wS,xO]|simp only[bK,wD,ml,Option.map_none,kaL,ka7,List.getElem?_cons_succ,List.getD_cons_zero,List.getD_cons_succ]|refine wl Tryz.mx xO Yc λK hK=>?_|(refine ⟨λA' g=>by simp[g],?_⟩)|(refine wt (λA'=>A'.bk (A.next+1+1+1)=qf (.cells [qh qg 0,qh qg t.d.id,qh qg 2,qh qg Mj,ql qk 0 0,ql qk 0 0] qj 1)) Tryz.mx [0,1,2,3,0] (.aM 0 (.aM 1 (.wm 2 (.aM 3 (.aM 4 .nil)) 3 (.aM 2 (.aM 4 .nil))))) Yc λK hK=>?_)|(apply hta _;(·exact wA);(·exact sA);(·exact kA);)|(apply bz.gk (stL pb M 1 Mj _);(·exact wA);(·exact sA);(·exact pA);rintro _ _ rfl hS hw _;have hS:=lA hS;have hq:=gP hS hw)|(apply eL.gk (Gw b t.d _ _ _ _ _ _ _ _ _ i1 i2 i3 cg _ t.iA hi lj AU);(·exact wA);(·exact sA);(·exact pA);(rintro xw _ _ _ hS hw _;have hS:=lA hS;(try (have hq:=gP hS hw))))|(show df _ _ _ _ _ _;refine nx ?_)|(refine wc rfl (λhc=>?_) (λhc=>?_)<;>(try simp at hc)))
 all_goals(
  refine⟨_,by (simp[hq,AW.ab];rfl),?_⟩;apply BR
  (·rfl)
  apply iz.bZ
  . apply gK.aM (e:=⟨0,t.id,2,Mj,[],[]⟩) (r:=ql qk 0 0) (w:=ql qk 0 0);apply aj.zE qg;apply aj.zE qg
    (·exact sA)
    (·repeat' (first|apply aF.z|apply aF.s))
    (·repeat' (apply aF.z))
    (·repeat' (apply aF.z))
  . dsimp only[jP,aV.pQ,aV.to,aV.sY,aV.io,aV.eV,aV.lK,aV.d]
    (try simp only[dI,eh,fM])
    dsimp only[eI,gT,eH,gS,gV,na]
    (·exact sH)
  (·exact sH)
  all_goals(exact 0))
end
section
abbrev u6:List (Nat×Nat):=[(0,0),(1,0),(2,0),(3,0),(4,0),(5,0),(6,0),(7,0),(8,0),(9,0),(10,0),(11,0),(12,0),(13,0),(14,0),(15,3),(16,0),(17,0),(18,0),(19,3)]
abbrev u5:List (Nat×Nat):=[(0,0),(1,0),(2,0),(3,0),(4,0),(5,0),(6,0),(7,0),(8,0),(9,2),(10,0),(11,0),(12,0),(13,3)]
open T2
variable [Gl]
variable [AF]
structure ExN (eu:Int->Int->Int->Int) (t:aV) (M:Mm) (i:bp):Prop where
 hA:yx eu
 hB:ThB t
 hi:cQ i=0
 sh:i.op=3->JG i.cg
 Nz:i.op≠8/\i.op≠9/\i.op≠10/\i.op≠11/\i.op≠14/\i.op≠15
 hb:i.op=7->JY ({ t with bW:=t.pc,nh:=t.dY,jz:=t.jz+1 }:aV).sX (gE (fq t.cf t.id)).2 M
 hp:t.cf.aZ=true->i.op=12\/i.op=13->JY ({ t with aZ:=true,gt:=0 }:aV).sX (gE (fq t.cf t.id)).2 M
 hlm:∀x∈t.iw,x.1<2^62
def DK (eu:Int->Int->Int->Int)(t:aV)(i:bp):(t.iY eu i).fR=t.fR/\(t.iY eu i).dV=t.dV/\(t.iY eu i).dP=t.dP/\(t.iY eu i).aD=t.aD/\(t.iY eu i).dC=t.dC/\(t.iY eu i).cf=t.cf/\(t.iY eu i).iw=t.iw/\(t.iY eu i).iA=t.iA:=by unfold aV.iY;split;exact⟨rfl,rfl,rfl,rfl,rfl,rfl,rfl,rfl⟩;split;exact⟨rfl,rfl,rfl,rfl,rfl,rfl,rfl,rfl⟩;split;exact⟨rfl,rfl,rfl,rfl,rfl,rfl,rfl,rfl⟩;split;exact⟨rfl,rfl,rfl,rfl,rfl,rfl,rfl,rfl⟩;exact⟨rfl,rfl,rfl,rfl,rfl,rfl,rfl,rfl⟩
def Wc (eu:Int->Int->Int->Int)(t:aV)(i:bp):(t.iY eu i).d.kz=t.d.kz:=by unfold aV.iY;split;rfl;split;rfl;split;rfl;split<;>rfl
def exN_call {eu:Int->Int->Int->Int}(hF:FOK)(q:rE)(b pb:Nat)(t:aV)(M:Mm)(i:bp)(dI:t.fR=qk)(eh:t.dV=qk)(fM:t.dP=qk)(hE:ExN eu t M i)(GP:CR q t.aD):
 eL qZ 37 [pv b,pv pb,ll i] [.h (iz q b t),eA pb M] (λev v=>v=qF #[eQ (t.my eu M i).1,ev]) (λev=>[.h (iz q b (t.my eu M i).2.2.1),eA pb (t.my eu M i).2.2.2,.h (gK ev (t.my eu M i).2.1)]):=by
 have hB:=hE.hB;have lj:0<=t.pc/\t.pc<2^40:=hB.pc;have sF:dl t.d.cf:=hB.cf;have hct:=hB.y8;have htr:=hB.C1;have jt:Zb.wrap (t.d.jz+1)=t.d.jz+1:=(an Ya Ya:Zb.wrap (t.jz+1)=t.jz+1);have Nz:=hE.Nz;obtain⟨_,_,_,hrng,_⟩:=pd hE.hi;unfold aV.my;rw[dI];dsimp only;by_cases h7:i.op=7
 . rw[az h7];have WF:=Au hF (hE.hb h7) q b pb rfl eh fM GP;obtain⟨op,i1,i2,i3,cg⟩:=i;dsimp only at h7;subst h7;unfold ll;intro A F hw dU;refine aO kbs λ_=>?_;dsimp only[aa,ah]at dU;obtain⟨⟨du,fj,lM,fZ,vs,vo⟩,hS⟩:=iz.open dU .z;clear dU;dsimp only[jP,aa,ah]at hS;rw[dI,eh,fM]at hS;dsimp only[eI,gT,eH,gS,gV,na]at hS;have hq:=gP hS hw;revert hq hS hw;refine Wu (J4 (Tg.mk (n:=36) (λx1=>FC b { t.d with bW:=t.pc,nh:=t.dY,jz:=t.jz+1 } x1 sF hct)) (Tg.mk (n:=35) @WF) (od u6) (od u5)) (J3 jt @eQ.eq_1 bL) ?_<;>(unhygienic intros);refine⟨_,by (simp[AW.ab];rfl),?_⟩;apply BR
   (·rfl)
   exact XX
 rw[ar h7];by_cases hp:i.op=12\/i.op=13
 . rw[az hp];have mT:=Si hF q b pb t M i dI eh fM hB hp hE.hi GP (λh=>hE.hp h hp);rcases hp with h2|h2
   all_goals
    obtain⟨op,i1,i2,i3,cg⟩:=i;dsimp only at h2;subst h2;unfold ll at mT;unfold ll;intro A F hw dU;refine aO kbs λ_=>?_;dsimp only[aa,ah]at dU;obtain⟨⟨du,fj,lM,fZ,vs,vo⟩,hS⟩:=iz.open dU .z;clear dU;dsimp only[jP,aa,ah]at hS;rw[dI,eh,fM]at hS;dsimp only[eI,gT,eH,gS,gV,na]at hS;have hq:=gP hS hw
    all_goals(revert hq hS hw;refine Wu (J3 (Tg.mk (n:=35) @mT) (od u6) (od u5)) (J2 @eQ.eq_1 bL) ?_<;>unhygienic intros)
    refine⟨_,by (simp[AW.ab];rfl),?_⟩;apply BR
    (·rfl)
    exact XX
 rw[ar hp];by_cases Kg:i.op=16
 . rw[az Kg];dsimp only;have II:=Lz q b pb ({ t with dV:=qf ⟨t.id,t.nt,qn,0,0⟩ }:aV) M ⟨t.id,t.nt,qn,0,0⟩ dI rfl ⟨hB.cf,hB.pc,hB.iA,hB.p9,hB.y8,hB.C1,hB.pG,hB.uB⟩ Yz hE.hlm (λl e=>by have e2:t.dP=qf l:=e;rw[fM]at e2;cases e2);rw[dI]at II;generalize aV.vJ ({ t with fR:=qk,dV:=qf ⟨t.id,t.nt,qn,0,0⟩ }:aV) M ⟨t.id,t.nt,qn,0,0⟩=r at II ⊢;obtain⟨op,i1,i2,i3,cg⟩:=i;dsimp only at Kg;subst Kg;unfold ll;intro A F hw dU;refine aO kbs λ_=>?_;dsimp only[aa,ah]at dU;obtain⟨⟨du,fj,lM,fZ,vs,vo⟩,hS⟩:=iz.open dU .z;clear dU;dsimp only[jP,aa,ah]at hS;rw[dI,eh,fM]at hS;dsimp only[eI,gT,eH,gS,gV,na]at hS;have hq:=gP hS hw;have lW:∀k l,(b=A.next+k+l)=False:=λk l=>by simp[hq,Nat.add_assoc]
   revert hq hS hw;refine Wu (J4 (Tg.mk (n:=34) @II) (od u6) (od u5) @KN) (J3 lW @eQ.eq_1 bL) ?_<;>(unhygienic intros);refine⟨_,by (simp[AW.ab];rfl),?_⟩;apply BR
   (·rfl)
   apply aj.bZ;apply gK.nil
   (·exact sA)
   (·exact sH)
 rw[ar Kg];have lV:(0<=i.op/\i.op<=6)\/i.op=17:=Ya
 have Wv:=λva vs vf vd vl vo o cc=>Ix hE.hA b t va vs vf vd vl vo o cc i lV hE.hi hE.sh lj;obtain⟨l1,l2,l3,l4,l5,l6,l7,l8⟩:=DK eu t i;rw[dI]at l1;rw[eh]at l2;rw[fM]at l3;obtain⟨n8,n9,n10,n11,n14,n15⟩:=Nz;have n12:¬i.op=12:=λe=>hp (qw e);have n13:¬i.op=13:=λe=>hp (qB e);unfold ll at Wv;unfold ll;intro A F hw dU;refine aO kbs λ_=>?_;dsimp only[aa,ah]at dU;obtain⟨⟨du,fj,lM,fZ,vs,vo⟩,hS⟩:=iz.open dU .z;clear dU;dsimp only[jP,aa,ah]at hS;rw[dI,eh,fM]at hS;dsimp only[eI,gT,eH,gS,gV,na]at hS;have hq:=gP hS hw
 repeat' (first|(refine lz λR hR=>?_;simp[hq,h7,n8,n9,n10,n11,n12,n13,n14,n15,Kg,AW.ab,aI];try simp(disch:=omega)only[az,ar,an,ax])|(refine hR _ _ ?_;clear hR R)|(refine hK _ _ ?_;clear hK K)|refine nx ?_|refine wn λK hK=>?_|simp only[wS]|(apply bz.gk (Wv _ _ _ _ _ _ _ _);(·exact wA);(·exact sA);(·exact pA);rintro _ _ _ hS hw _;have hS:=lA hS;have hq:=gP hS hw)|(show df _ _ _ _ _ _;refine nx ?_)|(refine wc rfl (λhc=>?_) (λhc=>?_)<;>(try simp at hc)))
 refine⟨_,by (simp[AW.ab];rfl),?_⟩;apply BR
 (·rfl)
 apply iz.bZ;apply gK.nil
 (·exact sA)
 dsimp only[jP];simp only[l1,l2,l3,l4,l5,l6,l7,l8];dsimp only[eI,gT,eH,gS,gV,na]
 (·exact sH)
 (·exact sH)
 all_goals(exact 0)
structure ExS (eu:Int->Int->Int->Int) (t:aV) (s:aJ) (M:Mm) (i:bp):Prop where
 hA:yx eu
 hB:ThB t
 hC:iF s
 hi:cQ i=0
 sh:i.op=3->JG i.cg
 xj:i.op≠7/\i.op≠12/\i.op≠13/\i.op≠16/\i.op≠17
 hr:i.op=10\/i.op=11\/i.op=14\/i.op=15\/i.op=8\/i.op=9->JY ({ t with fR:=some (t.KG i s) }:aV) (t.KG i s) M
def exS_call {eu:Int->Int->Int->Int}(hF:FOK)(q:rE)(b pb:Nat)(t:aV)(s:aJ)(M:Mm)(i:bp)(dI:t.fR=qf s)(eh:t.dV=qk)(fM:t.dP=qk)(hE:ExS eu t s M i)(GP:CR q t.aD):
 eL qZ 37 [pv b,pv pb,ll i] [.h (iz q b t),eA pb M] (λev v=>v=qF #[eQ (t.my eu M i).1,ev]) (λev=>[.h (iz q b (t.my eu M i).2.2.1),eA pb (t.my eu M i).2.2.2,.h (gK ev (t.my eu M i).2.1)]):=by
 have hB:=hE.hB;have lj:0<=t.pc/\t.pc<2^40:=hB.pc;have xj:=hE.xj;obtain⟨_,_,_,hrng,_⟩:=pd hE.hi;unfold aV.my;rw[ar xj.1,dI];dsimp only;by_cases hp:i.op=10\/i.op=11\/i.op=14\/i.op=15\/i.op=8\/i.op=9
 . rw[az hp];have WF:=Au hF (hE.hr hp) q b pb rfl eh fM GP;have hrq:=λvs vf vd vc vl vo n=>M6 b n t.d vs vf vd vc vl vo i s hE.hC hp hE.hi;have er:EU t.d i s=t.KG i s:=rfl;rw[er]at hrq;generalize t.KG i s=s2 at WF hrq ⊢;rcases hp with h|h|h|h|h|h
   all_goals
    obtain⟨op,i1,i2,i3,cg⟩:=i;dsimp only at h;subst h;unfold ll at hrq;unfold ll;intro A F hw dU;refine aO kbs λ_=>?_;dsimp only[aa,ah]at dU;obtain⟨⟨du,fj,lM,fZ,vs,vo⟩,hS⟩:=iz.open dU .z;clear dU;dsimp only[jP,aa,ah]at hS;rw[dI,eh,fM]at hS;dsimp only[eI,gT,eH,gS,gV,na]at hS;have hq:=gP hS hw
    all_goals(revert hq hS hw;refine Wu (J4 (Tg.mk (n:=37) (λx1 x2 x3 x4 x5 x6=>hrq x1 x2 x3 x4 x5 x6 du)) (Tg.mk (n:=35) @WF) (od u6) (od u5)) (J2 @eQ.eq_1 bL) ?_<;>unhygienic intros)
    refine⟨_,by (simp[AW.ab];rfl),?_⟩;apply BR
    (·rfl)
    exact XX
 rw[ar hp];have lV:(0<=i.op/\i.op<=6)\/i.op=17:=Ya
 have Wv:=λva vs vf vd vl vo o cc=>Ix hE.hA b t va vs vf vd vl vo o cc i lV hE.hi hE.sh lj;obtain⟨l1,l2,l3,l4,l5,l6,l7,l8⟩:=DK eu t i;have l9:(t.iY eu i).d.kz=t.d.kz:=Wc eu t i;rw[dI]at l1;rw[eh]at l2;rw[fM]at l3;obtain⟨n7,n12,n13,n16,n17⟩:=xj;have n8:¬i.op=8:=Ya
 have n9:¬i.op=9:=Ya
 have n10:¬i.op=10:=Ya
 have n11:¬i.op=11:=Ya
 have n14:¬i.op=14:=Ya
 have n15:¬i.op=15:=Ya
 unfold ll at Wv;unfold ll;intro A F hw dU;refine aO kbs λ_=>?_;dsimp only[aa,ah]at dU;obtain⟨⟨du,fj,lM,fZ,vs,vo⟩,hS⟩:=iz.open dU .z;clear dU;dsimp only[jP,aa,ah]at hS;rw[dI,eh,fM]at hS;dsimp only[eI,gT,eH,gS,gV,na]at hS;have hq:=gP hS hw
 repeat' (first|(refine lz λR hR=>?_;simp[hq,n7,n8,n9,n10,n11,n12,n13,n14,n15,n16,l9,AW.ab,aI];try simp(disch:=omega)only[az,ar,an,ax])|(refine hR _ _ ?_;clear hR R)|(refine hK _ _ ?_;clear hK K)|refine nx ?_|refine wn λK hK=>?_|simp only[wS]|(apply bz.gk (Wv _ _ _ _ _ _ _ _);(·exact wA);(·exact sA);(·exact pA);rintro _ _ _ hS hw _;have hS:=lA hS;have hq:=gP hS hw)|(show df _ _ _ _ _ _;refine nx ?_)|(refine wc rfl (λhc=>?_) (λhc=>?_)<;>(try simp at hc)))
 refine⟨_,by (simp[AW.ab];rfl),?_⟩;apply BR
 (·rfl)
 apply iz.bZ;apply gK.nil
 (·exact sA)
 dsimp only[jP];simp only[l1,l2,l3,l4,l5,l6,l7,l8];dsimp only[eI,gT,eH,gS,gV,na]
 (·exact sH)
 (·exact sH)
 all_goals(exact 0)
end
section
variable [Gl]
variable [AF]
variable {eu:Int->Int->Int->Int} {c:bu} {nt k:Nat} {M:Mm} {t:aV} {s:aJ}
def ME (hc:dl c)(hk:k<2^24)(h:pV c nt k t)(uO:U t.iA+U t.dC<=4*k):ThB t:=by have h1:=h.iA;have h2:=h.sn;have h3:=h.Bl;have h4:=h.pc;have h5:=(gA h.uB).1;have h6:=h.y8;have h7:=h.C1;have h8:=h.pG;exact⟨by rw[h.cf];exact hc,⟨h4.1,by omega⟩,by omega,by omega,by omega,by omega,by omega,h.uB⟩
def Nv (h:pV c nt k t)(hd:t.done=qn):cQ t.dG=0:=by obtain⟨j6,hi⟩:=h.dG hd;rw[hi];exact(wK h.uB j6).2.2
def Hq (hc:dl c)(hk:k+1<2^24)(hM:mr c nt k M)(h:pV c nt (k+1) t)(hd:t.done=qn)(hA:Adv c k t s):JY t s M:=by have h1:=h.iA;have h2:=h.sn;obtain⟨hK1,hK2⟩:=AD hc Ya hA.ok hM;have Ga:=Mg hA.ok hA.GQ M;have IP:=hc.nb;have e1:=hK1.b.GQ;have e2:=hc.aB;exact⟨ME hc hk h Ya,hA.ok.stepOk hc hM,hK1.b.attC hc,Nv h hd,h.lt hd,λe=>(hA.Ui e).1,λe=>⟨(hA.Hv e).1,(hA.Hv e).2.2.1⟩,λx hx=>by have:=Ga x hx;omega,by omega⟩
def Uj (hc:dl c)(hk:k+1<2^24)(hM:mr c nt k M)(h:pV c nt (k+1) t)(hcn:t.kz<=k)(hd:t.done=qn)(hs:t.aZ=qj->(t.dG.op=12\/t.dG.op=13)/\bY t.aD t.pc.toNat=qk)(hw:t.aZ=qn->t.pc=t.bW/\t.dG.op=7/\bY t.aD t.pc.toNat=qk):
 JY t.sX (gE (fq t.cf t.id)).2 M:=by
 have OK:=h.zH;have hcn0:=h.y8;have h1:pV c nt (k+1) t.sX:=⟨h.cf,h.nn,h.zH,h.uB,h.pc,h.dn,h.iA,by show U ([]:List lq)<=_;simp,h.Bl,h.DM,by show 0<=t.kz+1/\t.kz+1<=((k+1:Nat):Int);omega,h.C1,h.pG⟩;have hn:(fq t.cf t.id).nT 0=qj:=rfl;have hb:oU c k (gE (fq t.cf t.id)).2:=Fk (by rw[h.cf];exact Cs hc k t.id Ya);have cJ:(gE (fq t.cf t.id)).2.aG=1:=by unfold gE;rw[az hn]
 have hbf:∀x∈(gE (fq t.cf t.id)).2.aB,0<=x/\x<c.nb:=by unfold gE;rw[az hn];intro x hx;cases hx
 refine Hq hc hk hM h1 hd ⟨hb,cJ,hbf,hs,λe=>?_⟩;obtain⟨w1,w2,w3⟩:=hw e;have lj:=h.pc;have ho:=tP h hd;show d9 t.aD t.bW.toNat=7/\bY t.aD t.bW.toNat=qk/\0<=t.bW/\_;rw[<-w1];exact⟨ho.trans w2,w3,lj.1,qw ⟨w1,w2⟩⟩
def LW (hc:dl c)(h:pV c nt k t):∀x∈t.iw,x.1<2^62:=λx hx=>by have h1:=Jo hc (h.DM x hx);have h2:=hc.nb;omega
def alu_of (h:pV c nt k t)(hd:t.done=qn)(sh:EC t.aD):t.dG.op=3->JG t.dG.cg:=by obtain⟨j6,hi⟩:=h.dG hd;rw[hi];exact sh _ (List.getElem_mem j6)
def exN_of (hA:yx eu)(hc:dl c)(hk:k+1<2^24)(hM:mr c nt k M)(h:mR c nt k t)(hd:t.done=qn)(ha:t.fR=qk)(hf:t.dV=qk)(sh:EC t.aD):ExN eu t M t.dG:=by have tw:=h.co;have h':=tw.mono (Zx k);obtain⟨hs,je⟩:=h.pq ha;obtain⟨j6,hi⟩:=tw.dG hd;have mT:=(wK tw.uB j6).1 je;rw[<-hi]at mT;have htr:=tw.C1;have h1:=tw.iA;have h2:=tw.sn;refine⟨hA,ME hc Ya tw Ya,Nv tw hd,alu_of tw hd sh,mT,λh7=>?_,λ_ lV=>?_,LW hc tw⟩;exact Uj hc hk hM (t:={ t with bW:=t.pc,nh:=t.dY,jz:=t.jz+1 }) ⟨h'.cf,h'.nn,h'.zH,h'.uB,h'.pc,h'.dn,h'.iA,h'.sn,h'.Bl,h'.DM,h'.y8,by dsimp only;omega,h'.pG⟩ tw.y8.2 hd (λe=>XB) (λ_=>⟨rfl,h7,je⟩);exact Uj hc hk hM (t:={ t with aZ:=qj,gt:=0 }) ⟨h'.cf,h'.nn,h'.zH,h'.uB,h'.pc,h'.dn,h'.iA,h'.sn,h'.Bl,h'.DM,h'.y8,h'.C1,by dsimp only;omega⟩ tw.y8.2 hd (λ_=>⟨lV,je⟩) (λe=>Ym)
def ask_H (hc:dl c)(hk:k+1<2^24)(hM:mr c nt k M)(h:mR c nt k t)(hd:t.done=qn)(ha:t.fR=qf s)(hs:t.aZ=qj):JY (t.ask t.dG s) (t.w9 t.dG s) M:=by have tw:=h.co;have h':=tw.mono (Zx k);have hak:=tw.pG;obtain⟨g1,_,_,g2⟩:=h.C8 s ha;rw[az (qB hs)]at g1;exact Hq hc hk hM (t:=t.ask t.dG s) ⟨h'.cf,h'.nn,h'.zH,h'.uB,h'.pc,h'.dn,h'.iA,h'.sn,h'.Bl,h'.DM,h'.y8,h'.C1,by show 0<=t.gt+1/\t.gt+1<=((k+1:Nat):Int);omega⟩ hd ⟨TO hc g1.ok _,TN g1.st _,Mh g1.GQ _,g1.Ui,λe=>XE⟩
def busy_H (hc:dl c)(hk:k+1<2^24)(hM:mr c nt k M)(h:mR c nt k t)(hd:t.done=qn)(ha:t.fR=qf s)(hb:s.kQ=qj):JY t s M:=by obtain⟨g1,_,_,g2⟩:=h.C8 s ha;rw[az (qw hb)]at g1;exact Hq hc hk hM (h.co.mono (Zx k)) hd g1
def exS_of (hA:yx eu)(hc:dl c)(hk:k+1<2^24)(hM:mr c nt k M)(h:mR c nt k t)(hd:t.done=qn)(ha:t.fR=qf s)(hb:s.kQ=qn)(hs:t.aZ=qn)(sh:EC t.aD):ExS eu t s M t.dG:=by have tw:=h.co;have h':=tw.mono (Zx k);have h1:=tw.iA;have h2:=tw.sn;obtain⟨g1,_,_,g2⟩:=h.C8 s ha;rw[ar (by rw[hb,hs];simp)]at g1;have hR:=g1;obtain⟨w1,w2,w3,w4⟩:=hR.Hv;obtain⟨j6,hi⟩:=tw.dG hd;have mT:=(wK tw.uB j6).2.1 _ w4;rw[<-hi]at mT;refine⟨hA,ME hc Ya tw Ya,hR.ok.b.attC hc,Nv tw hd,alu_of tw hd sh,mT,λlV=>?_⟩;refine Hq hc hk hM (t:={ t with fR:=qf (t.KG t.dG s) }) ⟨h'.cf,h'.nn,h'.zH,h'.uB,h'.pc,h'.dn,h'.iA,h'.sn,h'.Bl,h'.DM,h'.y8,h'.C1,h'.pG⟩ hd ⟨R9 hc hR.ok _,ET hR.st _,LK hR.GQ _,λe=>XD,λ_=>⟨w1,w2,w3,?_⟩⟩;by_cases h89:t.dG.op=8\/t.dG.op=9;right;right;unfold aV.KG;rw[ar Ya,ar Ya,ar Ya,ar Ya];split;exact Hj hR.st hb (qw rfl);rw[az Ya];exact Hj hR.st hb (qB rfl);exact qB (qw ⟨w4,by show t.dG.op=10\/t.dG.op=11\/t.dG.op=14\/t.dG.op=15;omega⟩)
def Ft (i:bp)(v:Int):(t.Fu i v).aD=t.aD:=by unfold aV.Fu;split<;>rfl
def Fh:(t.sm s).aD=t.aD:=by unfold aV.sm;split<;>rfl
def fin_code:(t.bZ s).aD=t.aD:=by unfold aV.bZ;split;split;exact Fh;exact Fh;exact Fh
def aac (i:bp):(t.wi i s).aD=t.aD:=by
 unfold aV.wi;split;split;unfold aV.mI;dsimp only;split;exact Ft _ _;split<;>rfl;exact fin_code;split;rfl
 (repeat' split)<;>rfl
def As:(t.yU M s).2.2.1.aD=t.aD:=by unfold aV.yU;dsimp only;split;rfl;exact aac _
def yh:t.kT.aD=t.aD:=by unfold aV.kT;split<;>rfl
def Lx (f:kB):(t.vJ M f).2.1.aD=t.aD:=by unfold aV.vJ;split;dsimp only;split;exact yh;exact yh;exact yh
def Sg (i:bp):(t.plain M i).2.2.1.aD=t.aD:=by unfold aV.plain;dsimp only;split;split<;>rfl;split;exact As;split;exact Ft _ _;exact Ft _ _
def Mb (i:bp):(t.my eu M i).2.2.1.aD=t.aD:=by unfold aV.my;split;exact As;split;split;exact As;exact(DK eu t i).2.2.2.1;split;exact Sg i;split;exact Lx _;exact(DK eu t i).2.2.2.1
def RT:(t.nJ eu M).2.2.1.aD=t.aD:=by unfold aV.nJ;split;exact Lx _;split;split;exact As;split;exact As;exact Mb _;exact Mb _
def EI:(t.step eu M).2.2.2.1.aD=t.aD:=by unfold aV.step;split;rfl;exact RT
def loc_id (eu:Int->Int->Int->Int)(t:aV)(i:bp):(t.iY eu i).id=t.id:=by unfold aV.iY;split;rfl;split;rfl;split;rfl;split<;>rfl
def Oo (i:bp)(v:Int):(t.Fu i v).id=t.id:=by unfold aV.Fu;split<;>rfl
def NT:(t.sm s).id=t.id:=by unfold aV.sm;split<;>rfl
def fin_id:(t.bZ s).id=t.id:=by unfold aV.bZ;split;split;exact NT;exact NT;exact NT
def answ_id (i:bp):(t.wi i s).id=t.id:=by
 unfold aV.wi;split;split;unfold aV.mI;dsimp only;split;exact Oo _ _;split<;>rfl;exact fin_id;split;rfl
 (repeat' split)<;>rfl
def CT:(t.yU M s).2.2.1.id=t.id:=by unfold aV.yU;dsimp only;split;rfl;exact answ_id _
def CL:t.kT.id=t.id:=by unfold aV.kT;split<;>rfl
def Mw (f:kB):(t.vJ M f).2.1.id=t.id:=by unfold aV.vJ;split;dsimp only;split;exact CL;exact CL;exact CL
def plain_id (i:bp):(t.plain M i).2.2.1.id=t.id:=by unfold aV.plain;dsimp only;split;split<;>rfl;split;exact CT;split;exact Oo _ _;exact Oo _ _
def Hg (i:bp):(t.my eu M i).2.2.1.id=t.id:=by unfold aV.my;split;exact CT;split;split;exact CT;exact(loc_id eu t i);split;exact plain_id i;split;exact Mw _;exact(loc_id eu t i)
def step_ok (hc:dl c)(hk:k<2^40)(hM:mr c nt k M)(h:mR c nt k t):mR c nt (k+1) (t.step eu M).2.2.2.1/\mr c nt (k+1) (t.step eu M).2.2.2.2:=by unfold aV.step;split;exact⟨h.mono Ya,hM.mono Ya⟩;rename_i hd;exact stepI_ok hc hk hM h (by simpa using hd)
end
end Go.Stx
