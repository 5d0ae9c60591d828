/-
 Events in memory; what a step answers.
-/
import Derived.Test.YtipomeafemoelaaGreatDoorG13
set_option linter.unusedVariables false
set_option linter.unusedSimpArgs false
set_option linter.unusedSectionVars false
set_option maxRecDepth 20000
set_option maxHeartbeats 4000000
open Go.IntKind renaming i64->qg,u64->qd
open Go.Proofs.Tryz renaming func63->kag,func65->Z0,func67->kav,func98->kaP,mx->qj,prog->qa
open Go.Stx.AW.le renaming alloc->qb
open List renaming getD_cons_succ->ZE,getD_cons_zero->ZK,getElem?_cons_succ->ZC,getElem?_cons_zero->ZB,getElem?_toArray->Zn
open Option renaming bind_some->Zq,map_none->ZQ,map_some->qR
open Prod renaming fst->qB
namespace Go.Stx
open Go Go.Proofs
attribute [local irreducible] TW bG c8 aY aD aO cK da
section
open Go.Proofs Go
variable [Gl]
def zt (e:FO) (r w:Value):List Value:=[.int .i64 e.bW,.int .i64 e.aj,.int .i64 e.fI,.int .i64 e.UP,r,w]
abbrev Bq:=FO×Value×Value
def gz (q:List Bq):List Value:=q.flatMap λy=>zt y.1 y.2.1 y.2.2
def B6 (y:Bq):HP:=av .i64 y.2.1 y.1.reads*av .i64 y.2.2 y.1.bP
def ez (q:List Bq):HP:=q.foldr (λy P=>B6 y*P) eZ
theorem CN (q r:List Bq):ez (q++r)=ez q*ez r:=by
 induction q with
 | nil=>show ez r=eZ*ez r;rw [iD]
 | cons y q ih=>
   show B6 y*ez (q++r)=(B6 y*ez q)*ez r;rw [ih]
   ac_rfl
def Fb (v:Value) (q:List Bq):List It:=[.h (dv 6 v q.length (gz q)),.h (ez q)]
def fX (v:Value) (l:List FO):HP:=rO λx:{ q:List Bq // q.map qB=l }=>aM (Fb v x.1)
section
variable {A:AW} {L K K1 K2:List It} {v:Value}
theorem fX.open {l:List FO} (h:ah A L) (hp:aE L (.h (fX v l)) K):∃q,q.map qB=l/\ah A (Fb v q++K):=by
 obtain⟨⟨q,hq⟩,h⟩:=jV h hp;exact⟨q,hq,h⟩
theorem fX.dP {l:List FO} {q:List Bq} (hq:q.map qB=l) (h:ah A L) (e:aX L (Fb v q) K):ah A (.h (fX v l)::K):=iM (g:=λx:{ q:List Bq // q.map qB=l }=>Fb v x.1) ⟨q,hq⟩ h e
theorem fX.nil (h:ah A L):ah A (.h (fX (.slice none 0 0) [])::L):=by
 have h1:ah A (.h eZ::L):=ah.mw h;have h2:ah A (.h (dv 6 (.slice none 0 0) 0 [])::.h eZ::L):=dv.nil h1;exact fX.dP (q:=[]) rfl h2 (.s .z (.s .z .z))
theorem fX.aK {n:Nat} {e:FO} {r w:Value} (h:ah A L) (h1:aE L (.at n (.cells (zt e r w) true 6)) K) (h2:aE K (.h (av .i64 r e.reads)) K1) (h3:aE K1 (.h (av .i64 w e.bP)) K2):ah A (.h (fX (.slice (some ⟨n,0,none⟩) 1 1) [e])::K2):=by
 unfold ah at h;rw [h1.aM,h2.aM,h3.aM] at h;have h4:bB A (pt n (.cells (zt e r w) true 6)*(av .i64 r e.reads*(av .i64 w e.bP*aM K2))):=h;have e0:gz [(e,r,w)]=zt e r w:=by simp [gz]
 have h5:ah A (.h (dv 6 (.slice (some ⟨n,0,none⟩) 1 1) [(e,r,w)].length (gz [(e,r,w)]))::.h (ez [(e,r,w)])::K2):=by
  rw [e0];refine dv.mk (size:=6) (n:=1) (off:=0) (c:=1) (b8:=zt e r w) (Nat.le_refl _) (Nat.le_refl _) rfl ?_;refine h4.dZ ?_;show _=pt n (.cells (zt e r w) true 6)*(((av .i64 r e.reads*av .i64 w e.bP)*eZ)*aM K2);rw [dO]
  ac_rfl
 exact fX.dP (q:=[(e,r,w)]) rfl h5 (.s .z (.s .z .z))
end
def eb (s:eF):Value:=.agg #[.int .i64 s.aj,.int .i64 s.fe,.int .i64 s.Bc,.int .i64 s.gP.fI,.int .i64 s.gP.cell,.int .i64 s.gP.cL,.int .u64 s.gP.fi,.int .u64 s.gP.put,.bool s.gP.done]
end
section
abbrev oA:List (Nat×Nat):=[(0,0),(1,0),(2,0),(3,0),(4,0),(5,0),(6,0),(7,0),(8,0),(9,0),(10,0),(11,0),(12,3)]
open T2
variable [Gl]
theorem Jq (hF:FOK) (q:oh) (b pb:Nat) (t:aT) (s:aJ) (M:Mm) (dB:t.fL=some s) (dL:t.dM=none) (fa:t.dI=none) (hB:Ru t) (wE:JC s M) (hC:gL (bC s M).2.2.1) (hi:cg t.fz=0) (cD:t.pc<t.aC.length)
 (dy:t.aW=true->t.fz.op=12\/t.fz.op=13) (hwk:t.aW=false->d6 t.aC t.bN.toNat=7/\0<=t.bN) (up:∀x∈(bC s M).2.2.1.ay,x<2^62) (UC:(bC s M).2.2.1.ay.length<=8) (Di:CR q t.aC) :
 d7 qa 65 [pv b,pv pb] [.h (gF q b t),dN pb M] (λev v=>v=.tuple #[eb (t.vN M s).1,ev]) (λev=>[.h (gF q b (t.vN M s).2.2.1),dN pb (t.vN M s).2.2.2,.h (fX ev (t.vN M s).2.1)]):=by
 have jh:=λn=>PZ n pb s M wE;unfold gb at jh;unfold aT.vN;generalize bC s M=r at jh hC up UC ⊢;obtain⟨ac,ph,s',M'⟩:=r;dsimp only at jh hC up UC ⊢;have kO:0<=t.pc/\t.pc<2^40:=hB.pc;have oP:t.pc.toNat<t.aC.length:=by omega
 obtain⟨Lk,Mf⟩:=Di.at oP;have YZ:t.aC[t.pc.toNat]=t.fz:=by
  unfold aT.fz aT.wC;rw [List.getD_eq_getElem?_getD,List.getElem?_eq_getElem oP];rfl
 rw [YZ] at Mf;have Dg:q.off+t.d.pc.toNat*5+5<=q.b8.length:=Lk;have EZ:(q.b8.drop (q.off+t.d.pc.toNat*5)).take 5=az t.fz:=Mf;have IQ:0<=t.d.pc:=kO.1;have EO:t.d.pc<(t.aC.length:Int):=cD;have hB':Ru ({ t with fL:=some s' }:aT):=⟨hB.cf,hB.pc,hB.gH,hB.nS,hB.vX,hB.zK,hB.nB,hB.rU⟩;have VU:=GW hF q b { t with fL:=some s' } s' t.fz rfl dL fa hB' hi dy hwk up UC Di;by_cases h3:ph=3
 . rw [aA h3];subst h3;by_cases hb:s'.jN=true
   . rw [aA hb];have vV:=λn=>vK n s';simp only [hb] at vV;intro A F hw dA;refine aN Z0 λ_=>?_;dsimp only [aa,af] at dA;obtain⟨⟨cW,eD,kC,fm,vs,vo⟩,hS⟩:=gF.open dA .z;clear dA;dsimp only [jb,aa,af] at hS;rw [dB,dL,fa] at hS;dsimp only [dY,go,dX,gk,gq,lF] at hS;have hq:=gh hS hw;revert hq hS hw;refine W (J3 (Tg.mk (n:=10) (λ{A L K k}=>fp (A:=A) (L:=L) (K:=K) (k:=k) (vV cW))) (od oA) (jh cW)) (J3 bE @bk.eq_1 @aZ.v.eq_1) ?_<;>(unhygienic intros);refine⟨_,by first|rfl|(simp;rfl)|(simp [hq,AW.ab,aG];rfl),?_⟩;apply yw
     (·first|rfl|(simp [eb,aZ.v,aZ.zero];done)|(simp [eb,aZ.v,aZ.zero];rfl))
     apply gF.bS
     . skip
       apply fX.aK (e:=⟨0,t.id,3,0,[],[]⟩) (r:=.slice none 0 0) (w:=.slice none 0 0);apply ah.wy .i64;apply ah.wy .i64
       (·exact sA)
       (·repeat' (first|apply aE.z|apply aE.s))
       (·repeat' (first|apply aE.z|apply aE.s))
       (·repeat' (first|apply aE.z|apply aE.s))
     . dsimp only [jb,aT.pG,aT.to,aT.pz,aT.gy,aT.fi,aT.kw,aT.d]
       (try simp only [dB,dL,fa])
       (·first|exact pA|exact kA)
     (·first|exact pA|exact kA)
     all_goals(first|exact 0|exact undef)
   rw [aw hb];have kS:s'.jN=false:=by simpa using hb
   have vV:=λn=>vK n s';simp only [kS] at vV;intro A F hw dA;refine aN Z0 λ_=>?_;dsimp only [aa,af] at dA;obtain⟨⟨cW,eD,kC,fm,vs,vo⟩,hS⟩:=gF.open dA .z;clear dA;dsimp only [jb,aa,af] at hS;rw [dB,dL,fa] at hS;dsimp only [dY,go,dX,gk,gq,lF] at hS;have hq:=gh hS hw;revert hq hS hw;(repeat first|clear hq|clear hS|clear hw|revert hc|revert R|revert K);refine Wu (J4 (Tg.mk (n:=10) (λ{A L K k}=>fp (A:=A) (L:=L) (K:=K) (k:=k) (vV cW))) (Tg.mk (n:=34) @VU) (od oA) (jh cW)) (J7 Dg EZ IQ EO bE @bk.eq_1 @aZ.v.eq_1) ?_<;>(unhygienic intros);refine⟨_,by first|rfl|(simp;rfl)|(simp [hq,AW.ab,aG];rfl),?_⟩;apply yw
   (·first|rfl|(simp [eb,aZ.v,aZ.zero];done)|(simp [eb,aZ.v,aZ.zero];rfl))
   apply ah.bS
   . skip
     apply fX.aK (e:=⟨0,t.id,3,0,[],[]⟩) (r:=.slice none 0 0) (w:=.slice none 0 0);apply ah.wy .i64;apply ah.wy .i64
     (·exact sA)
     (·repeat' (first|apply aE.z|apply aE.s))
     (·repeat' (first|apply aE.z|apply aE.s))
     (·repeat' (first|apply aE.z|apply aE.s))
   (·first|exact pA|exact kA)
 rw [aw h3];by_cases FW:ph=16
 . subst FW;have Xk:=λn=>TS n s';by_cases vU:s'.am=true
   . rw [aA (⟨rfl,vU⟩:(16:Int)=16/\s'.am=true)];simp only [vU] at Xk;by_cases h1:s'.aC=1
     . rw [aA h1];have hcz:=λn=>vI n s';simp only [h1] at hcz;by_cases hb:s'.jN=true
       . rw [aA hb];have vV:=λn=>vK n s';simp only [hb] at vV;intro A F hw dA;refine aN Z0 λ_=>?_;dsimp only [aa,af] at dA;obtain⟨⟨cW,eD,kC,fm,vs,vo⟩,hS⟩:=gF.open dA .z;clear dA;dsimp only [jb,aa,af] at hS;rw [dB,dL,fa] at hS;dsimp only [dY,go,dX,gk,gq,lF] at hS;have hq:=gh hS hw;revert hq hS hw;(repeat first|clear hq|clear hS|clear hw|revert hc|revert R|revert K);refine W (J6 (Tg.mk (n:=10) (λ{A L K k}=>fp (A:=A) (L:=L) (K:=K) (k:=k) (vV cW))) (Tg.mk (n:=10) (λ{A L K k}=>fp (A:=A) (L:=L) (K:=K) (k:=k) (Xk cW))) (Tg.mk (n:=10) (λ{A L K k}=>fp (A:=A) (L:=L) (K:=K) (k:=k) (hcz cW))) (Tg.mk (n:=32) (HV cW s' hC)) (od oA) (jh cW)) (J3 bE @bk.eq_1 @aZ.v.eq_1) ?_<;>(unhygienic intros);refine⟨_,by first|rfl|(simp;rfl)|(simp [hq,AW.ab,aG];rfl),?_⟩;apply yw
         (·first|rfl|(simp [eb,aZ.v,aZ.zero];done)|(simp [eb,aZ.v,aZ.zero];rfl))
         apply gF.bS
         . skip
           apply fX.aK (e:=⟨0,t.id,4,0,s'.reads,mq s'⟩)
           (·exact sA)
           (·repeat' (first|apply aE.z|apply aE.s))
           (·repeat' (first|apply aE.z|apply aE.s))
           (·repeat' (first|apply aE.z|apply aE.s))
         . dsimp only [jb,aT.pG,aT.to,aT.pz,aT.gy,aT.fi,aT.kw,aT.d]
           (try simp only [dB,dL,fa])
           (·first|exact pA|exact kA)
         (·first|exact pA|exact kA)
         all_goals(first|exact 0|exact undef)
       rw [aw hb];have kS:s'.jN=false:=by simpa using hb
       have vV:=λn=>vK n s';simp only [kS] at vV;intro A F hw dA;refine aN Z0 λ_=>?_;dsimp only [aa,af] at dA;obtain⟨⟨cW,eD,kC,fm,vs,vo⟩,hS⟩:=gF.open dA .z;clear dA;dsimp only [jb,aa,af] at hS;rw [dB,dL,fa] at hS;dsimp only [dY,go,dX,gk,gq,lF] at hS;have hq:=gh hS hw;revert hq hS hw;(repeat first|clear hq|clear hS|clear hw|revert hc|revert R|revert K);refine Wu (J7 (Tg.mk (n:=10) (λ{A L K k}=>fp (A:=A) (L:=L) (K:=K) (k:=k) (vV cW))) (Tg.mk (n:=34) @VU) (Tg.mk (n:=10) (λ{A L K k}=>fp (A:=A) (L:=L) (K:=K) (k:=k) (Xk cW))) (Tg.mk (n:=10) (λ{A L K k}=>fp (A:=A) (L:=L) (K:=K) (k:=k) (hcz cW))) (Tg.mk (n:=32) (HV cW s' hC)) (od oA) (jh cW)) (J7 Dg EZ IQ EO bE @bk.eq_1 @aZ.v.eq_1) ?_<;>(unhygienic intros);refine⟨_,by first|rfl|(simp;rfl)|(simp [hq,AW.ab,aG];rfl),?_⟩;apply yw
       (·first|rfl|(simp [eb,aZ.v,aZ.zero];done)|(simp [eb,aZ.v,aZ.zero];rfl))
       apply ah.bS
       . skip
         apply fX.aK (e:=⟨0,t.id,4,0,s'.reads,mq s'⟩)
         (·exact sA)
         (·repeat' (first|apply aE.z|apply aE.s))
         (·repeat' (first|apply aE.z|apply aE.s))
         (·repeat' (first|apply aE.z|apply aE.s))
       (·first|exact pA|exact kA)
     rw [aw h1];by_cases hb:s'.jN=true
     . rw [aA hb];have vV:=λn=>vK n s';simp only [hb] at vV;intro A F hw dA;refine aN Z0 λ_=>?_;dsimp only [aa,af] at dA;obtain⟨⟨cW,eD,kC,fm,vs,vo⟩,hS⟩:=gF.open dA .z;clear dA;dsimp only [jb,aa,af] at hS;rw [dB,dL,fa] at hS;dsimp only [dY,go,dX,gk,gq,lF] at hS;have hq:=gh hS hw;revert hq hS hw;(repeat first|clear hq|clear hS|clear hw|revert hc|revert R|revert K);refine W (J6 (Tg.mk (n:=10) (λ{A L K k}=>fp (A:=A) (L:=L) (K:=K) (k:=k) (vV cW))) (Tg.mk (n:=10) (λ{A L K k}=>fp (A:=A) (L:=L) (K:=K) (k:=k) (Xk cW))) (Tg.mk (n:=10) (λ{A L K k}=>fp (A:=A) (L:=L) (K:=K) (k:=k) (vI cW s'))) (Tg.mk (n:=32) (HV cW s' hC)) (od oA) (jh cW)) (J4 h1 bE @bk.eq_1 @aZ.v.eq_1) ?_<;>(unhygienic intros);refine⟨_,by first|rfl|(simp;rfl)|(simp [hq,AW.ab,aG];rfl),?_⟩;apply yw
       (·first|rfl|(simp [eb,aZ.v,aZ.zero];done)|(simp [eb,aZ.v,aZ.zero];rfl))
       apply gF.bS
       . skip
         apply fX.aK (e:=⟨0,t.id,4,0,s'.reads,[]⟩) (w:=.slice none 0 0);apply ah.wy .i64
         (·exact sA)
         (·repeat' (first|apply aE.z|apply aE.s))
         (·repeat' (first|apply aE.z|apply aE.s))
         (·repeat' (first|apply aE.z|apply aE.s))
       . dsimp only [jb,aT.pG,aT.to,aT.pz,aT.gy,aT.fi,aT.kw,aT.d]
         (try simp only [dB,dL,fa])
         (·first|exact pA|exact kA)
       (·first|exact pA|exact kA)
       all_goals(first|exact 0|exact undef)
     rw [aw hb];have kS:s'.jN=false:=by simpa using hb
     have vV:=λn=>vK n s';simp only [kS] at vV;intro A F hw dA;refine aN Z0 λ_=>?_;dsimp only [aa,af] at dA;obtain⟨⟨cW,eD,kC,fm,vs,vo⟩,hS⟩:=gF.open dA .z;clear dA;dsimp only [jb,aa,af] at hS;rw [dB,dL,fa] at hS;dsimp only [dY,go,dX,gk,gq,lF] at hS;have hq:=gh hS hw;revert hq hS hw;(repeat first|clear hq|clear hS|clear hw|revert hc|revert R|revert K);refine Wu (J7 (Tg.mk (n:=10) (λ{A L K k}=>fp (A:=A) (L:=L) (K:=K) (k:=k) (vV cW))) (Tg.mk (n:=34) @VU) (Tg.mk (n:=10) (λ{A L K k}=>fp (A:=A) (L:=L) (K:=K) (k:=k) (Xk cW))) (Tg.mk (n:=10) (λ{A L K k}=>fp (A:=A) (L:=L) (K:=K) (k:=k) (vI cW s'))) (Tg.mk (n:=32) (HV cW s' hC)) (od oA) (jh cW)) (J8 h1 Dg EZ IQ EO bE @bk.eq_1 @aZ.v.eq_1) ?_<;>(unhygienic intros);refine⟨_,by first|rfl|(simp;rfl)|(simp [hq,AW.ab,aG];rfl),?_⟩;apply yw
     (·first|rfl|(simp [eb,aZ.v,aZ.zero];done)|(simp [eb,aZ.v,aZ.zero];rfl))
     apply ah.bS
     . skip
       apply fX.aK (e:=⟨0,t.id,4,0,s'.reads,[]⟩) (w:=.slice none 0 0);apply ah.wy .i64
       (·exact sA)
       (·repeat' (first|apply aE.z|apply aE.s))
       (·repeat' (first|apply aE.z|apply aE.s))
       (·repeat' (first|apply aE.z|apply aE.s))
     (·first|exact pA|exact kA)
   rw [aw (λhh:(16:Int)=16/\s'.am=true=>vU hh.2)];have hdc2:s'.am=false:=by simpa using vU
   simp only [hdc2] at Xk;by_cases hb:s'.jN=true
   . rw [aA hb];have vV:=λn=>vK n s';simp only [hb] at vV;intro A F hw dA;refine aN Z0 λ_=>?_;dsimp only [aa,af] at dA;obtain⟨⟨cW,eD,kC,fm,vs,vo⟩,hS⟩:=gF.open dA .z;clear dA;dsimp only [jb,aa,af] at hS;rw [dB,dL,fa] at hS;dsimp only [dY,go,dX,gk,gq,lF] at hS;have hq:=gh hS hw;revert hq hS hw;(repeat first|clear hq|clear hS|clear hw|revert hc|revert R|revert K);refine W (J4 (Tg.mk (n:=10) (λ{A L K k}=>fp (A:=A) (L:=L) (K:=K) (k:=k) (vV cW))) (Tg.mk (n:=10) (λ{A L K k}=>fp (A:=A) (L:=L) (K:=K) (k:=k) (Xk cW))) (od oA) (jh cW)) (J3 bE @bk.eq_1 @aZ.v.eq_1) ?_<;>(unhygienic intros);refine⟨_,by first|rfl|(simp;rfl)|(simp [hq,AW.ab,aG];rfl),?_⟩;apply yw
     (·first|rfl|(simp [eb,aZ.v,aZ.zero];done)|(simp [eb,aZ.v,aZ.zero];rfl))
     apply gF.bS
     . skip
       apply fX.nil
       (·exact sA)
     . dsimp only [jb,aT.pG,aT.to,aT.pz,aT.gy,aT.fi,aT.kw,aT.d]
       (try simp only [dB,dL,fa])
       (·first|exact pA|exact kA)
     (·first|exact pA|exact kA)
     all_goals(first|exact 0|exact undef)
   rw [aw hb];have kS:s'.jN=false:=by simpa using hb
   have vV:=λn=>vK n s';simp only [kS] at vV;intro A F hw dA;refine aN Z0 λ_=>?_;dsimp only [aa,af] at dA;obtain⟨⟨cW,eD,kC,fm,vs,vo⟩,hS⟩:=gF.open dA .z;clear dA;dsimp only [jb,aa,af] at hS;rw [dB,dL,fa] at hS;dsimp only [dY,go,dX,gk,gq,lF] at hS;have hq:=gh hS hw;revert hq hS hw;(repeat first|clear hq|clear hS|clear hw|revert hc|revert R|revert K);refine Wu (J5 (Tg.mk (n:=10) (λ{A L K k}=>fp (A:=A) (L:=L) (K:=K) (k:=k) (vV cW))) (Tg.mk (n:=34) @VU) (Tg.mk (n:=10) (λ{A L K k}=>fp (A:=A) (L:=L) (K:=K) (k:=k) (Xk cW))) (od oA) (jh cW)) (J7 Dg EZ IQ EO bE @bk.eq_1 @aZ.v.eq_1) ?_<;>(unhygienic intros);refine⟨_,by first|rfl|(simp;rfl)|(simp [hq,AW.ab,aG];rfl),?_⟩;apply yw
   (·first|rfl|(simp [eb,aZ.v,aZ.zero];done)|(simp [eb,aZ.v,aZ.zero];rfl))
   apply ah.bS
   . skip
     apply fX.nil
     (·exact sA)
   (·first|exact pA|exact kA)
 rw [aw (λhh:ph=16/\s'.am=true=>FW hh.1)];by_cases hb:s'.jN=true
 . rw [aA hb];have vV:=λn=>vK n s';simp only [hb] at vV;intro A F hw dA;refine aN Z0 λ_=>?_;dsimp only [aa,af] at dA;obtain⟨⟨cW,eD,kC,fm,vs,vo⟩,hS⟩:=gF.open dA .z;clear dA;dsimp only [jb,aa,af] at hS;rw [dB,dL,fa] at hS;dsimp only [dY,go,dX,gk,gq,lF] at hS;have hq:=gh hS hw;revert hq hS hw;(repeat first|clear hq|clear hS|clear hw|revert hc|revert R|revert K);refine W (J3 (Tg.mk (n:=10) (λ{A L K k}=>fp (A:=A) (L:=L) (K:=K) (k:=k) (vV cW))) (od oA) (jh cW)) (J5 h3 FW bE @bk.eq_1 @aZ.v.eq_1) ?_<;>(unhygienic intros);refine⟨_,by first|rfl|(simp;rfl)|(simp [hq,AW.ab,aG];rfl),?_⟩;apply yw
   (·first|rfl|(simp [eb,aZ.v,aZ.zero];done)|(simp [eb,aZ.v,aZ.zero];rfl))
   apply gF.bS
   . skip
     apply fX.nil
     (·exact sA)
   . dsimp only [jb,aT.pG,aT.to,aT.pz,aT.gy,aT.fi,aT.kw,aT.d]
     (try simp only [dB,dL,fa])
     (·first|exact pA|exact kA)
   (·first|exact pA|exact kA)
   all_goals(first|exact 0|exact undef)
 rw [aw hb];have kS:s'.jN=false:=by simpa using hb
 have vV:=λn=>vK n s';simp only [kS] at vV;intro A F hw dA;refine aN Z0 λ_=>?_;dsimp only [aa,af] at dA;obtain⟨⟨cW,eD,kC,fm,vs,vo⟩,hS⟩:=gF.open dA .z;clear dA;dsimp only [jb,aa,af] at hS;rw [dB,dL,fa] at hS;dsimp only [dY,go,dX,gk,gq,lF] at hS;have hq:=gh hS hw;revert hq hS hw;(repeat first|clear hq|clear hS|clear hw|revert hc|revert R|revert K);refine Wu (J4 (Tg.mk (n:=10) (λ{A L K k}=>fp (A:=A) (L:=L) (K:=K) (k:=k) (vV cW))) (Tg.mk (n:=34) @VU) (od oA) (jh cW)) (J9 h3 FW Dg EZ IQ EO bE @bk.eq_1 @aZ.v.eq_1) ?_<;>(unhygienic intros);refine⟨_,by first|rfl|(simp;rfl)|(simp [hq,AW.ab,aG];rfl),?_⟩;apply yw
 (·first|rfl|(simp [eb,aZ.v,aZ.zero];done)|(simp [eb,aZ.v,aZ.zero];rfl))
 apply ah.bS
 . skip
   apply fX.nil
   (·exact sA)
 (·first|exact pA|exact kA)
end
section
abbrev oy:List (Nat×Nat):=[(0,0),(1,0),(2,0),(3,0),(4,0),(5,0),(6,0),(7,0),(8,0),(9,0),(10,2),(11,3),(12,0),(13,0),(14,0),(15,3)]
open T24
variable [Gl]
theorem aE.pt {n:Nat} {o:dQ} {L:List It}:aE (.at n o::L) (.h (pt n o)) L:=.e rfl
theorem ah.Kw {A:AW} {L K:List It} {n:Nat} {o:dQ} (h:ah A L) (hp:aE L (.h (pt n o)) K):ah A (.at n o::K):=by
 unfold ah at h ⊢;rw [hp.aM] at h;exact h
theorem Kq (a:aZ) (A:AW):fh 83 [a.v] A (.int .i64 (hY a)):=by
 refine aD.tG (V:=.int .i64 (hY a)) (by simp) (λhw=>?_) (by kernel_rfl);refine aN Tryz.func83 λ_=>?_;unfold aZ.v hY;by_cases h1:a.cell=8
 . refine W cF (J2 h1 bE) ?_<;>intros;exact⟨_,by first|(simp;done)|(simp;rfl),by simp [h1],qb _ _⟩
 by_cases h2:a.fI=3
 . refine W cF (J3 h1 h2 bE) ?_<;>intros;exact⟨_,by first|(simp;done)|(simp;rfl),by simp [h1,h2],qb _ _⟩
 refine W cF (J3 h1 h2 bE) ?_<;>intros;exact⟨_,by first|(simp;done)|(simp;rfl),by simp [h1,h2],qb _ _⟩
theorem OH (a:aZ) {A:AW} {k:Value->AW->Prop} (hk:k (.int .i64 (hY a)) A):aD qa 83 [a.v] A k:=by
 refine bO (Kq a A) ?_;rintro _ _ ⟨rfl,rfl⟩ _ _;exact hk
theorem DE (p:Nat) (l:List fK) (r:Bool) (h:decide (l.length=0)=r):bn qa 84 [pv p] [.h (Br p l)] (λv=>v=.bool r) (λ_=>[.h (Br p l)]):=by
 subst h;exact LJ p l
theorem G9 (q:oh) (b pb:Nat) (t:aT) (M:Mm) (f:jC) (dB:t.fL=none) (dL:t.dM=some f) (hB:Ru t) (hn:0<=f.next/\f.next<2^39) (Ta:∀x∈t.gE,x.1<2^62) (hdl:∀l,t.dI=some l->l≠[]/\l.length<2^28) :
 bn qa 63 [pv b,pv pb] [.h (gF q b t),dN pb M] (λv=>v=eb (t.sZ M f).1) (λ_=>[.h (gF q b (t.sZ M f).2.1),dN pb (t.sZ M f).2.2]):=by
 have kO:0<=t.pc/\t.pc<2^40:=hB.pc;have xC:t.gH.length<2^30:=by have:=hB.gH;omega
 have hll:t.gE.length<2^28:=by have:=hB.nS;omega
 have pn:=hB.cf;unfold aT.sZ;cases fa:t.dI with
 | none=>
   dsimp only;have dy:=λn=>I0 n pb f M hn;have UD:=λn A hg=>nv n (fQ f M).2 A hg;have hli:=λn A hg=>GN n (fQ f M).2 A hg;generalize hr:fQ f M=r at dy UD hli ⊢;obtain⟨ac,f'⟩:=r;dsimp only at dy UD hli ⊢;by_cases lQ:f'.done=true
   . simp only [lQ] at UD;rw [aA lQ];cases mO:mm t.cf t.gE f'.nS with
     | nil=>
       have e:({ t with dM:=some f',dI:=some [],gE:=ko t.gE f'.nS }:aT).jP=(({ t with dM:=none,dI:=none,gE:=ko t.gE f'.nS }:aT).pz 6 0).pG:=rfl;rw [e];have Rl:=λn=>DE n [] true rfl;have IU:=λn=>mO▸yj n t.cf pn t.gE f'.nS Ta hll;by_cases h3:ac.cell=3
       . rw [aA h3];intro A F hw dA;refine aN kag λ_=>?_;dsimp only [aa,af] at dA;obtain⟨⟨cW,eD,kC,fm,vs,vo⟩,iY⟩:=gF.open dA .z;clear dA;dsimp only [jb,aa,af] at iY;rw [dB,dL,fa] at iY;dsimp only [dY,go,dX,gk,gq,lF] at iY;have hS:=ah.Kw iY (.s (.s (.s .z)));clear iY;have hq:=pI hS hw;revert hq hS hw;refine Wu (J8 (Tg.mk (n:=10) (λ{A L K k}=>mH (A:=A) (L:=L) (K:=K) (k:=k) (UD eD))) (Tg.mk (n:=10) (λ{A L K k}=>mH (A:=A) (L:=L) (K:=K) (k:=k) (hli eD))) (Tg.mk (n:=32) (IU fm)) (Tg.mk (n:=36) (λx1=>jw b t.d x1 t.gH 6 0 xC)) (Tg.mk (n:=37) (λx1 x2 x3 x4 x5 x6 x7 x8 x9=>lc b t.d x1 x2 x3 x4 x5 x6 x7 x8 x9 kO)) (od oy) (dy eD) @Rl) (J4 h3 bE @bk.eq_1 @aZ.v.eq_1) ?_<;>(unhygienic intros);refine⟨_,by first|rfl|(simp;rfl)|(simp [hq,AW.ab,aG];rfl),by first|trivial|rfl|(simp [eb,aZ.v,aZ.zero];done)|(simp [eb,aZ.v,aZ.zero,h3];done)|(simp [eb,aZ.v,aZ.zero];rfl),?_⟩;apply gF.bS;apply ah.mw
         apply ah.mw
         (·exact sA)
         . dsimp only [jb,aT.pG,aT.to,aT.pz,aT.gy,aT.fi,aT.kw,aT.d]
           (try simp only [dB,dL,fa])
           dsimp only [dY,go,dX,gk,gq,lF]
           (·repeat' (first|apply aX.z|apply aX.s|apply aE.z|apply aE.pt|apply aE.s))
         (·repeat' (first|apply aX.z|apply aX.s|apply aE.z|apply aE.pt|apply aE.s))
         all_goals(first|exact 0|exact undef)
       rw [aw h3];intro A F hw dA;refine aN kag λ_=>?_;dsimp only [aa,af] at dA;obtain⟨⟨cW,eD,kC,fm,vs,vo⟩,iY⟩:=gF.open dA .z;clear dA;dsimp only [jb,aa,af] at iY;rw [dB,dL,fa] at iY;dsimp only [dY,go,dX,gk,gq,lF] at iY;have hS:=ah.Kw iY (.s (.s (.s .z)));clear iY;have hq:=pI hS hw;revert hq hS hw;(repeat first|clear hq|clear hS|clear hw|revert hc|revert R|revert K);refine Wu (J8 (Tg.mk (n:=10) (λ{A L K k}=>mH (A:=A) (L:=L) (K:=K) (k:=k) (UD eD))) (Tg.mk (n:=10) (λ{A L K k}=>mH (A:=A) (L:=L) (K:=K) (k:=k) (hli eD))) (Tg.mk (n:=32) (IU fm)) (Tg.mk (n:=36) (λx1=>jw b t.d x1 t.gH 6 0 xC)) (Tg.mk (n:=37) (λx1 x2 x3 x4 x5 x6 x7 x8 x9=>lc b t.d x1 x2 x3 x4 x5 x6 x7 x8 x9 kO)) (od oy) (dy eD) @Rl) (J4 h3 bE @bk.eq_1 @aZ.v.eq_1) ?_<;>(unhygienic intros);refine⟨_,by first|rfl|(simp;rfl)|(simp [hq,AW.ab,aG];rfl),by first|trivial|rfl|(simp [eb,aZ.v,aZ.zero];done)|(simp [eb,aZ.v,aZ.zero,h3];done)|(simp [eb,aZ.v,aZ.zero];rfl),?_⟩
       apply gF.bS;apply ah.mw;apply ah.mw
       (·exact sA)
       . dsimp only [jb,aT.pG,aT.to,aT.pz,aT.gy,aT.fi,aT.kw,aT.d]
         (try simp only [dB,dL,fa])
         dsimp only [dY,go,dX,gk,gq,lF]
         (·repeat' (first|apply aX.z|apply aX.s|apply aE.z|apply aE.pt|apply aE.s))
       (·repeat' (first|apply aX.z|apply aX.s|apply aE.z|apply aE.pt|apply aE.s))
       all_goals(first|exact 0|exact undef)
     | cons x l=>
       have e:({ t with dM:=some f',dI:=some (x::l),gE:=ko t.gE f'.nS }:aT).jP={ t with dM:=some f',dI:=some (x::l),gE:=ko t.gE f'.nS }:=rfl;rw [e];have Rl:=λn=>DE n (x::l) false rfl;have IU:=λn=>mO▸yj n t.cf pn t.gE f'.nS Ta hll;by_cases h3:ac.cell=3
       . rw [aA h3];intro A F hw dA;refine aN kag λ_=>?_;dsimp only [aa,af] at dA;obtain⟨⟨cW,eD,kC,fm,vs,vo⟩,iY⟩:=gF.open dA .z;clear dA;dsimp only [jb,aa,af] at iY;rw [dB,dL,fa] at iY;dsimp only [dY,go,dX,gk,gq,lF] at iY;have hS:=ah.Kw iY (.s (.s (.s .z)));clear iY;have hq:=pI hS hw;revert hq hS hw;(repeat first|clear hq|clear hS|clear hw|revert hc|revert R|revert K);refine W (J6 (Tg.mk (n:=10) (λ{A L K k}=>mH (A:=A) (L:=L) (K:=K) (k:=k) (UD eD))) (Tg.mk (n:=10) (λ{A L K k}=>mH (A:=A) (L:=L) (K:=K) (k:=k) (hli eD))) (Tg.mk (n:=32) (IU fm)) (od oy) (dy eD) @Rl) (J4 h3 bE @bk.eq_1 @aZ.v.eq_1) ?_<;>(unhygienic intros);refine⟨_,by first|rfl|(simp;rfl)|(simp [hq,AW.ab,aG];rfl),by first|trivial|rfl|(simp [eb,aZ.v,aZ.zero];done)|(simp [eb,aZ.v,aZ.zero,h3];done)|(simp [eb,aZ.v,aZ.zero];rfl),?_⟩;apply gF.bS;apply ah.mw;apply ah.mw
         (·exact sA)
         . dsimp only [jb,aT.pG,aT.to,aT.pz,aT.gy,aT.fi,aT.kw,aT.d]
           (try simp only [dB,dL,fa])
           dsimp only [dY,go,dX,gk,gq,lF]
           (·repeat' (first|apply aX.z|apply aX.s|apply aE.z|apply aE.pt|apply aE.s))
         (·repeat' (first|apply aX.z|apply aX.s|apply aE.z|apply aE.pt|apply aE.s))
         all_goals(first|exact 0|exact undef)
       rw [aw h3];intro A F hw dA;refine aN kag λ_=>?_;dsimp only [aa,af] at dA;obtain⟨⟨cW,eD,kC,fm,vs,vo⟩,iY⟩:=gF.open dA .z;clear dA;dsimp only [jb,aa,af] at iY;rw [dB,dL,fa] at iY;dsimp only [dY,go,dX,gk,gq,lF] at iY;have hS:=ah.Kw iY (.s (.s (.s .z)));clear iY;have hq:=pI hS hw;revert hq hS hw;(repeat first|clear hq|clear hS|clear hw|revert hc|revert R|revert K);refine W (J6 (Tg.mk (n:=10) (λ{A L K k}=>mH (A:=A) (L:=L) (K:=K) (k:=k) (UD eD))) (Tg.mk (n:=10) (λ{A L K k}=>mH (A:=A) (L:=L) (K:=K) (k:=k) (hli eD))) (Tg.mk (n:=32) (IU fm)) (od oy) (dy eD) @Rl) (J4 h3 bE @bk.eq_1 @aZ.v.eq_1) ?_<;>(unhygienic intros);refine⟨_,by first|rfl|(simp;rfl)|(simp [hq,AW.ab,aG];rfl),by first|trivial|rfl|(simp [eb,aZ.v,aZ.zero];done)|(simp [eb,aZ.v,aZ.zero,h3];done)|(simp [eb,aZ.v,aZ.zero];rfl),?_⟩;apply gF.bS;apply ah.mw;apply ah.mw
       (·exact sA)
       . dsimp only [jb,aT.pG,aT.to,aT.pz,aT.gy,aT.fi,aT.kw,aT.d]
         (try simp only [dB,dL,fa])
         dsimp only [dY,go,dX,gk,gq,lF]
         (·repeat' (first|apply aX.z|apply aX.s|apply aE.z|apply aE.pt|apply aE.s))
       (·repeat' (first|apply aX.z|apply aX.s|apply aE.z|apply aE.pt|apply aE.s))
       all_goals(first|exact 0|exact undef)
   have hdn2:f'.done=false:=by simpa using lQ
   simp only [hdn2] at UD;rw [aw lQ];have e:({ t with dM:=some f',dI:=none }:aT).jP={ t with dM:=some f',dI:=none }:=rfl;rw [e];by_cases h3:ac.cell=3
   . rw [aA h3];intro A F hw dA;refine aN kag λ_=>?_;dsimp only [aa,af] at dA;obtain⟨⟨cW,eD,kC,fm,vs,vo⟩,iY⟩:=gF.open dA .z;clear dA;dsimp only [jb,aa,af] at iY;rw [dB,dL,fa] at iY;dsimp only [dY,go,dX,gk,gq,lF] at iY;have hS:=ah.Kw iY (.s (.s (.s .z)));clear iY;have hq:=pI hS hw;revert hq hS hw;(repeat first|clear hq|clear hS|clear hw|revert hc|revert R|revert K);refine W (J3 (Tg.mk (n:=10) (λ{A L K k}=>mH (A:=A) (L:=L) (K:=K) (k:=k) (UD eD))) (od oy) (dy eD)) (J4 h3 bE @bk.eq_1 @aZ.v.eq_1) ?_<;>(unhygienic intros);refine⟨_,by first|rfl|(simp;rfl)|(simp [hq,AW.ab,aG];rfl),by first|trivial|rfl|(simp [eb,aZ.v,aZ.zero];done)|(simp [eb,aZ.v,aZ.zero,h3];done)|(simp [eb,aZ.v,aZ.zero];rfl),?_⟩;apply gF.bS;apply ah.mw;apply ah.mw
     (·exact sA)
     . dsimp only [jb,aT.pG,aT.to,aT.pz,aT.gy,aT.fi,aT.kw,aT.d]
       (try simp only [dB,dL,fa])
       dsimp only [dY,go,dX,gk,gq,lF]
       (·repeat' (first|apply aX.z|apply aX.s|apply aE.z|apply aE.pt|apply aE.s))
     (·repeat' (first|apply aX.z|apply aX.s|apply aE.z|apply aE.pt|apply aE.s))
     all_goals(first|exact 0|exact undef)
   rw [aw h3];intro A F hw dA;refine aN kag λ_=>?_;dsimp only [aa,af] at dA;obtain⟨⟨cW,eD,kC,fm,vs,vo⟩,iY⟩:=gF.open dA .z;clear dA;dsimp only [jb,aa,af] at iY;rw [dB,dL,fa] at iY;dsimp only [dY,go,dX,gk,gq,lF] at iY;have hS:=ah.Kw iY (.s (.s (.s .z)));clear iY;have hq:=pI hS hw;revert hq hS hw;(repeat first|clear hq|clear hS|clear hw|revert hc|revert R|revert K);refine W (J3 (Tg.mk (n:=10) (λ{A L K k}=>mH (A:=A) (L:=L) (K:=K) (k:=k) (UD eD))) (od oy) (dy eD)) (J4 h3 bE @bk.eq_1 @aZ.v.eq_1) ?_<;>(unhygienic intros);refine⟨_,by first|rfl|(simp;rfl)|(simp [hq,AW.ab,aG];rfl),by first|trivial|rfl|(simp [eb,aZ.v,aZ.zero];done)|(simp [eb,aZ.v,aZ.zero,h3];done)|(simp [eb,aZ.v,aZ.zero];rfl),?_⟩;apply gF.bS;apply ah.mw;apply ah.mw
   (·exact sA)
   . dsimp only [jb,aT.pG,aT.to,aT.pz,aT.gy,aT.fi,aT.kw,aT.d]
     (try simp only [dB,dL,fa])
     dsimp only [dY,go,dX,gk,gq,lF]
     (·repeat' (first|apply aX.z|apply aX.s|apply aE.z|apply aE.pt|apply aE.s))
   (·repeat' (first|apply aX.z|apply aX.s|apply aE.z|apply aE.pt|apply aE.s))
   all_goals(first|exact 0|exact undef)
 | some l0=>
   obtain⟨gT,hln⟩:=hdl l0 fa;cases l0 with
   | nil=>exact absurd rfl gT
   | cons x l=>
     dsimp only;have hln2:l.length<2^29:=(by rw [List.length_cons] at hln;omega);have dy:=λn=>LI n pb x l M hln2;generalize hr:zz (x::l) M=r at dy ⊢;obtain⟨ac,l',M'⟩:=r;dsimp only at dy ⊢;cases l' with
     | nil=>
       have e:({ t with dI:=some [] }:aT).jP=(({ t with dM:=none,dI:=none }:aT).pz 6 0).pG:=rfl;rw [e];have Rl:=λn=>DE n [] true rfl;intro A F hw dA;refine aN kag λ_=>?_;dsimp only [aa,af] at dA;obtain⟨⟨cW,eD,kC,fm,vs,vo⟩,iY⟩:=gF.open dA .z;clear dA;dsimp only [jb,aa,af] at iY;rw [dB,dL,fa] at iY;dsimp only [dY,go,dX,gk,gq,lF] at iY;have hS:=ah.Kw iY (.s (.s (.s .z)));clear iY;have hq:=pI hS hw
       repeat' (first|(refine kY λR hR=>?_;simp [ar,ax,hq,AW.ab,aG,bk,aZ.v];try simp (disch:=omega) only [aA,aw,ar,ax])|(refine hR _ _ ?_;clear hR R)|(refine hK _ _ ?_;clear hK K)|refine nx ?_|refine wn λK hK=>?_|simp only [wS,oy]|refine wl qj oy (by decide +kernel) λK hK=>?_|(refine OH ac ?_)|(apply bn.ft (dy kC);(·exact wA);(·exact sA);(·first|exact pA|exact kA);rintro _ _ rfl hS hw _;have hS:=lA hS;have hq:=pI hS hw)|(apply bn.ft (Rl _);(·exact wA);(·exact sA);(·first|exact pA|exact kA);rintro _ _ rfl hS hw _;have hS:=lA hS;have hq:=pI hS hw)|(apply d7.ft (jw b t.d _ t.gH 6 0 xC);(·exact wA);(·exact sA);(·first|exact pA|exact kA);(rintro xw _ _ _ hS hw _;have hS:=lA hS;(try (have hq:=pI hS hw))))|(apply bn.ft (lc b t.d _ _ _ _ _ _ _ _ _ kO);(·exact wA);(·exact sA);(·first|exact pA|exact kA);rintro _ _ _ hS hw _;have hS:=lA hS;have hq:=pI hS hw)|(show c8 _ _ _ _ _ _;refine nx ?_)|(refine wc rfl (λhc=>?_) (λhc=>?_)<;>(try simp at hc)<;>(try omega))|(refine ib (λhc=>?_) (λhc=>?_)<;>(try omega)<;>(try simp (disch:=omega) only [aA,aw])))
       refine⟨_,by first|rfl|(simp;rfl)|(simp [hq,AW.ab,aG];rfl),by first|trivial|rfl|(simp [eb,aZ.v,aZ.zero];done)|(simp [eb,aZ.v,aZ.zero,h3];done)|(simp [eb,aZ.v,aZ.zero];rfl),?_⟩;apply gF.bS;apply ah.mw;apply ah.mw
       (·exact sA)
       . dsimp only [jb,aT.pG,aT.to,aT.pz,aT.gy,aT.fi,aT.kw,aT.d]
         (try simp only [dB,dL,fa])
         dsimp only [dY,go,dX,gk,gq,lF]
         (·repeat' (first|apply aX.z|apply aX.s|apply aE.z|apply aE.pt|apply aE.s))
       (·repeat' (first|apply aX.z|apply aX.s|apply aE.z|apply aE.pt|apply aE.s))
       all_goals(first|exact 0|exact undef)
     | cons y l'=>
       have e:({ t with dI:=some (y::l') }:aT).jP={ t with dI:=some (y::l') }:=rfl;rw [e];have Rl:=λn=>DE n (y::l') false rfl;intro A F hw dA;refine aN kag λ_=>?_;dsimp only [aa,af] at dA;obtain⟨⟨cW,eD,kC,fm,vs,vo⟩,iY⟩:=gF.open dA .z;clear dA;dsimp only [jb,aa,af] at iY;rw [dB,dL,fa] at iY;dsimp only [dY,go,dX,gk,gq,lF] at iY;have hS:=ah.Kw iY (.s (.s (.s .z)));clear iY;have hq:=pI hS hw
       repeat' (first|(refine kY λR hR=>?_;simp [ar,ax,hq,AW.ab,aG,bk,aZ.v];try simp (disch:=omega) only [aA,aw,ar,ax])|(refine hR _ _ ?_;clear hR R)|(refine hK _ _ ?_;clear hK K)|refine nx ?_|refine wn λK hK=>?_|simp only [wS,oy]|refine wl qj oy (by decide +kernel) λK hK=>?_|(refine OH ac ?_)|(apply bn.ft (dy kC);(·exact wA);(·exact sA);(·first|exact pA|exact kA);rintro _ _ rfl hS hw _;have hS:=lA hS;have hq:=pI hS hw)|(apply bn.ft (Rl _);(·exact wA);(·exact sA);(·first|exact pA|exact kA);rintro _ _ rfl hS hw _;have hS:=lA hS;have hq:=pI hS hw)|(show c8 _ _ _ _ _ _;refine nx ?_)|(refine wc rfl (λhc=>?_) (λhc=>?_)<;>(try simp at hc)<;>(try omega))|(refine ib (λhc=>?_) (λhc=>?_)<;>(try omega)<;>(try simp (disch:=omega) only [aA,aw])))
       refine⟨_,by first|rfl|(simp;rfl)|(simp [hq,AW.ab,aG];rfl),by first|trivial|rfl|(simp [eb,aZ.v,aZ.zero];done)|(simp [eb,aZ.v,aZ.zero,h3];done)|(simp [eb,aZ.v,aZ.zero];rfl),?_⟩;apply gF.bS;apply ah.mw;apply ah.mw
       (·exact sA)
       . dsimp only [jb,aT.pG,aT.to,aT.pz,aT.gy,aT.fi,aT.kw,aT.d]
         (try simp only [dB,dL,fa])
         dsimp only [dY,go,dX,gk,gq,lF]
         (·repeat' (first|apply aX.z|apply aX.s|apply aE.z|apply aE.pt|apply aE.s))
       (·repeat' (first|apply aX.z|apply aX.s|apply aE.z|apply aE.pt|apply aE.s))
       all_goals(first|exact 0|exact undef)
theorem pe [Gl] {L G K:List It} (h':aX L G K:=by first|((repeat' (first|apply aX.z|apply aX.s|apply aE.z|apply aE.pt|apply aE.s));done)|fail):aX L G K:=h'
theorem pj [Gl] {L K:List It} {x:It} (h':aE L x K:=by first|((repeat' (first|apply aX.z|apply aX.s|apply aE.z|apply aE.pt|apply aE.s));done)|fail):aE L x K:=h'
end
section
abbrev uN:List (Nat×Nat):=[(0,0),(1,0),(2,0),(3,0),(4,0),(5,0),(6,0),(7,3)]
abbrev uM:List (Nat×Nat):=[(0,0),(1,0),(2,0),(3,0),(4,0),(5,0),(6,0),(7,0),(8,0),(9,0),(10,0),(11,3),(12,0),(13,0),(14,0),(15,0),(16,3)]
open T2
variable [Gl]
structure FP (t:aT) (s:aJ) (M:Mm):Prop where
 hB:Ru t
 wE:JC s M
 hC:gL (bC s M).2.2.1
 hi:cg t.fz=0
 cD:t.pc<t.aC.length
 dy:t.aW=true->t.fz.op=12\/t.fz.op=13
 hwk:t.aW=false->d6 t.aC t.bN.toNat=7/\0<=t.bN
 up:∀x∈(bC s M).2.2.1.ay,x<2^62
 UC:(bC s M).2.2.1.ay.length<=8
theorem w8 (hF:FOK) {t:aT} {s:aJ} {M:Mm} (h:FP t s M) (q:oh) (b pb:Nat) (dB:t.fL=some s) (dL:t.dM=none) (fa:t.dI=none) (Di:CR q t.aC) :
 d7 qa 65 [pv b,pv pb] [.h (gF q b t),dN pb M] (λev v=>v=.tuple #[eb (t.vN M s).1,ev]) (λev=>[.h (gF q b (t.vN M s).2.2.1),dN pb (t.vN M s).2.2.2,.h (fX ev (t.vN M s).2.1)]):=
 Jq hF q b pb t s M dB dL fa h.hB h.wE h.hC h.hi h.cD h.dy h.hwk h.up h.UC Di
theorem MT (hF:FOK) (q:oh) (b pb:Nat) (t:aT) (M:Mm) (i:bm) (dB:t.fL=none) (dL:t.dM=none) (fa:t.dI=none) (hB:Ru t) (mg:i.op=12\/i.op=13) (hi:cg i=0) (Di:CR q t.aC)
 (hadv:t.cf.aW=true->FP ({ t with aW:=true,fC:=0 }:aT).sy (fU (eP t.cf t.id)).2 M) :
 d7 qa 98 [pv b,pv pb,j4 i] [.h (gF q b t),dN pb M] (λev v=>v=.tuple #[eb (t.plain M i).1,ev]) (λev=>[.h (gF q b (t.plain M i).2.2.1),dN pb (t.plain M i).2.2.2,.h (fX ev (t.plain M i).2.1)]):=by
 have kO:0<=t.pc/\t.pc<2^40:=hB.pc;have xC:t.gH.length<2^30:=by have:=hB.gH;omega
 have pn:=hB.cf;have UA:=pn.be;have hct:=hB.vX;have jx:qd.wrap t.d.cf.be=t.d.cf.be:=(ax (by omega) (by omega):qd.wrap t.cf.be=t.cf.be);have htg:t.nU i=pN t.d i:=by
  unfold aT.nU pN;rfl
 have htn:=RO t.d i;unfold aT.plain;dsimp only;rw [htg];by_cases h1:t.d.cf.be<=pN t.d i
 . rw [aA (show t.cf.be<=pN t.d i from h1)];rcases mg with h2|h2
   . obtain⟨op,i1,i2,i3,bR⟩:=i;dsimp only at h2;subst h2;have ha:=(mY hi).1 rfl;dsimp only at ha;have Dy:=λx w=>yK (d:=t.d) (w:=w) (x:=x) ha;rw [aA rfl];unfold j4;intro A F hw dA;refine aN kaP λ_=>?_;dsimp only [aa,af] at dA;obtain⟨⟨cW,eD,kC,fm,vs,vo⟩,hS⟩:=gF.open dA .z;clear dA;dsimp only [jb,aa,af] at hS;rw [dB,dL,fa] at hS;dsimp only [dY,go,dX,gk,gq,lF] at hS;have hq:=gh hS hw;have Tr:b<A.next:=hw.lt (hS.g 0 rfl);have Uz:(b=A.next+1+1)=False:=eq_false (by omega);have nY:(b=A.next+1+1+1)=False:=eq_false (by omega);have xJ:(A.next+1+1=b)=False:=eq_false (by omega);have yZ:(A.next+1+1+1=b)=False:=eq_false (by omega);revert hq hS hw;refine Wu (J5 (Tg.mk (n:=10) (λ{A L K k} x1=>DY (A:=A) (L:=L) (K:=K) (k:=k) b t.d x1 ⟨12,i1,i2,i3,bR⟩ (.inl rfl) hi)) (Tg.mk (n:=36) (λx1=>jw b { t.d with dE:=t.d.dE.set i1 0 } x1 t.gH 7 7 xC)) (Tg.mk (n:=37) (λx1 x2 x3 x4 x5 x6 x7 x8 x9=>lc b { t.d with dE:=t.d.dE.set i1 0 } x1 x2 x3 x4 x5 x6 x7 x8 x9 kO)) (od uN) (od uM)) (J6 jx h1 Dy ha.1 ha.2 bE) ?_<;>(unhygienic intros)
     refine⟨_,by first|rfl|(simp;rfl)|(simp [hq,AW.ab,aG];rfl),?_⟩;apply yw
     (·first|rfl|(simp [eb,eF.zero,aZ.v,aZ.zero];done)|(simp [eb,eF.zero,aZ.v,aZ.zero];rfl))
     apply gF.bS;apply fX.nil
     (·exact sA)
     . dsimp only [jb,aT.pG,aT.to,aT.pz,aT.gy,aT.fi,aT.kw,aT.d]
       (try simp only [dB,dL,fa])
       dsimp only [dY,go,dX,gk,gq,lF]
       (·first|exact pe|exact pj)
     (·first|exact pe|exact pj)
     all_goals(first|exact 0|exact undef)
   obtain⟨op,i1,i2,i3,bR⟩:=i;dsimp only at h2;subst h2;rw [aw (show ¬(13:Int)=12 by decide)];unfold j4;intro A F hw dA;refine aN kaP λ_=>?_;dsimp only [aa,af] at dA;obtain⟨⟨cW,eD,kC,fm,vs,vo⟩,hS⟩:=gF.open dA .z;clear dA;dsimp only [jb,aa,af] at hS;rw [dB,dL,fa] at hS;dsimp only [dY,go,dX,gk,gq,lF] at hS;have hq:=gh hS hw;have Tr:b<A.next:=hw.lt (hS.g 0 rfl);have Uz:(b=A.next+1+1)=False:=eq_false (by omega);have nY:(b=A.next+1+1+1)=False:=eq_false (by omega);have xJ:(A.next+1+1=b)=False:=eq_false (by omega);have yZ:(A.next+1+1+1=b)=False:=eq_false (by omega);revert hq hS hw;(repeat first|clear hq|clear hS|clear hw|revert hc|revert R|revert K);refine Wu (J5 (Tg.mk (n:=10) (λ{A L K k} x1=>DY (A:=A) (L:=L) (K:=K) (k:=k) b t.d x1 ⟨13,i1,i2,i3,bR⟩ (.inr rfl) hi)) (Tg.mk (n:=36) (λx1=>jw b t.d x1 t.gH 7 7 xC)) (Tg.mk (n:=37) (λx1 x2 x3 x4 x5 x6 x7 x8 x9=>lc b t.d x1 x2 x3 x4 x5 x6 x7 x8 x9 kO)) (od uN) (od uM)) (J3 jx h1 bE) ?_<;>(unhygienic intros)
   refine⟨_,by first|rfl|(simp;rfl)|(simp [hq,AW.ab,aG];rfl),?_⟩;apply yw
   (·first|rfl|(simp [eb,eF.zero,aZ.v,aZ.zero];done)|(simp [eb,eF.zero,aZ.v,aZ.zero];rfl))
   apply gF.bS;apply fX.nil
   (·exact sA)
   . dsimp only [jb,aT.pG,aT.to,aT.pz,aT.gy,aT.fi,aT.kw,aT.d]
     (try simp only [dB,dL,fa])
     dsimp only [dY,go,dX,gk,gq,lF]
     (·first|exact pe|exact pj)
   (·first|exact pe|exact pj)
   all_goals(first|exact 0|exact undef)
 rw [aw (show ¬t.cf.be<=pN t.d i from h1)];by_cases h3:t.d.cf.aW=true
 . rw [aA (show t.cf.aW=true from h3)];have QE:=w8 hF (hadv h3) q b pb rfl dL fa Di;have hcf2:cX t.d.cf:=pn;rcases mg with h2|h2
   all_goals
    obtain⟨op,i1,i2,i3,bR⟩:=i;dsimp only at h2;subst h2;unfold j4;intro A F hw dA;refine aN kaP λ_=>?_;dsimp only [aa,af] at dA;obtain⟨⟨cW,eD,kC,fm,vs,vo⟩,hS⟩:=gF.open dA .z;clear dA;dsimp only [jb,aa,af] at hS;rw [dB,dL,fa] at hS;dsimp only [dY,go,dX,gk,gq,lF] at hS;have hq:=gh hS hw;have Tr:b<A.next:=hw.lt (hS.g 0 rfl);have Uz:(b=A.next+1+1)=False:=eq_false (by omega);have nY:(b=A.next+1+1+1)=False:=eq_false (by omega);have xJ:(A.next+1+1=b)=False:=eq_false (by omega);have yZ:(A.next+1+1+1=b)=False:=eq_false (by omega)
    all_goals(revert hq hS hw;(repeat first|clear hq|clear hS|clear hw|revert hc|revert R|revert K);refine Wu (J5 (Tg.mk (n:=10) (λ{A L K k} x1=>DY (A:=A) (L:=L) (K:=K) (k:=k) b t.d x1 ⟨_,i1,i2,i3,bR⟩ (by first|exact .inl rfl|exact .inr rfl) hi)) (Tg.mk (n:=36) (λx1=>Co b { t.d with aW:=true,fC:=0 } x1 hcf2 hct)) (Tg.mk (n:=35) @QE) (od uN) (od uM)) (J5 jx h1 h3 @eb.eq_1 bE) ?_<;>unhygienic intros)
    refine⟨_,by first|rfl|(simp;rfl)|(simp [hq,AW.ab,aG];rfl),?_⟩;apply yw
    (·first|rfl|(simp [eb,eF.zero,aZ.v,aZ.zero];done)|(simp [eb,eF.zero,aZ.v,aZ.zero];rfl))
    apply ah.bS
    (·exact sA)
    (·first|exact pe|exact pj)
 rw [aw (show ¬t.cf.aW=true from h3)];have hwd2:t.d.cf.be<=64:=UA.2;have kc:qg.wrap (pN t.d i)=pN t.d i:=ar (by omega) (by omega);rcases mg with h2|h2
 . obtain⟨op,i1,i2,i3,bR⟩:=i;dsimp only at h2;subst h2;rw [aA rfl];have e:t.Ch ⟨12,i1,i2,i3,bR⟩ (iA M 1 (pN t.d ⟨12,i1,i2,i3,bR⟩)).put=((t.gy i1 (iA M 1 (pN t.d ⟨12,i1,i2,i3,bR⟩)).put).pz 4 (iA M 1 (pN t.d ⟨12,i1,i2,i3,bR⟩)).put).pG:=aA rfl;rw [e];have W8:=λw {A L K} {k:Value->AW->Prop}=>DY (A:=A) (L:=L) (K:=K) (k:=k) b t.d w ⟨12,i1,i2,i3,bR⟩ (.inl rfl) hi;generalize BY:pN t.d ⟨12,i1,i2,i3,bR⟩=HN at *;unfold j4;unfold j4 at W8;intro A F hw dA;refine aN kaP λ_=>?_;dsimp only [aa,af] at dA;obtain⟨⟨cW,eD,kC,fm,vs,vo⟩,hS⟩:=gF.open dA .z;clear dA;dsimp only [jb,aa,af] at hS;rw [dB,dL,fa] at hS;dsimp only [dY,go,dX,gk,gq,lF] at hS;have hq:=gh hS hw;have Tr:b<A.next:=hw.lt (hS.g 0 rfl);have Uz:(b=A.next+1+1)=False:=eq_false (by omega);have nY:(b=A.next+1+1+1)=False:=eq_false (by omega);have xJ:(A.next+1+1=b)=False:=eq_false (by omega);have yZ:(A.next+1+1+1=b)=False:=eq_false (by omega)
   repeat' (first|(refine kY λR hR=>?_;simp [ar,ax,hq,Uz,nY,xJ,yZ,jx,kc,h1,h3,AW.ab,aG,bk,aZ.v];try simp (disch:=omega) only [aA,aw,ar,ax])|(refine hR _ _ ?_;clear hR R)|(refine hK _ _ ?_;clear hK K)|refine nx ?_|(refine PK λR hR=>?_;simp [ar,ax,hq,Uz,nY,xJ,yZ,jx,kc,h1,h3,AW.ab,aG,bk,aZ.v];try simp (disch:=omega) only [aA,aw,ar,ax])|(refine Ma (λR hR=>?_) (λR hR=>?_)<;>(simp [ar,ax,hq,Uz,nY,xJ,yZ,jx,kc,h1,h3,AW.ab,aG,bk,aZ.v];try simp (disch:=omega) only [aA,aw,ar,ax]))|refine PI ?_|refine wn λK hK=>?_|simp only [wS,uN,uM]|simp only [bG,tK,lG,ZQ,qR,Zn,ZB,ZC,ZK,ZE,Zq]|refine wl qj uN (by decide +kernel) λK hK=>?_|refine wl qj uM (by decide +kernel) λK hK=>?_|(refine ⟨λA' g=>by simp [AW.ab,g],?_⟩)|(refine ⟨by simp [hq],?_⟩)|(refine wt (λA'=>A'.bp (A.next+1+1+1)=some (.cells [.int .i64 0,.int .i64 t.d.id,.int .i64 1,.int .i64 HN,.slice none 0 0,.slice none 0 0] true 1)) qj [0,1,2,3,0] (.aK 0 (.aK 1 (.tC 2 (.aK 3 (.aK 4 .nil)) 3 (.aK 2 (.aK 4 .nil))))) (by decide +kernel) λK hK=>?_)|(apply W8 _;(·exact wA);(·exact sA);(·first|exact pA|exact kA);)|(apply bn.ft (SN pb M 1 HN);(·exact wA);(·exact sA);(·first|exact pA|exact kA);rintro _ _ rfl hS hw _;have hS:=lA hS;have hq:=gh hS hw)|(apply d7.ft (C2 b t.d _ _ _ _ _ _ _ _ _ i1 i2 i3 bR _ t.gH hi kO xC);(·exact wA);(·exact sA);(·first|exact pA|exact kA);(rintro xw _ _ _ hS hw _;have hS:=lA hS;(try (have hq:=gh hS hw))))|(show c8 _ _ _ _ _ _;refine nx ?_)|(refine wc rfl (λhc=>?_) (λhc=>?_)<;>(try simp at hc)<;>(try omega))|(refine ib (λhc=>?_) (λhc=>?_)<;>(try omega)<;>(try simp (disch:=omega) only [aA,aw])))
   all_goals(
    refine⟨_,by first|rfl|(simp;rfl)|(simp [hq,AW.ab,aG];rfl),?_⟩;apply yw
    (·first|rfl|(simp [eb,eF.zero,aZ.v,aZ.zero];done)|(simp [eb,eF.zero,aZ.v,aZ.zero];rfl))
    apply gF.bS
    . apply fX.aK (e:=⟨0,t.id,1,HN,[],[]⟩) (r:=.slice none 0 0) (w:=.slice none 0 0);apply ah.wy .i64;apply ah.wy .i64
      (·exact sA)
      (·repeat' (first|apply aE.z|apply aE.s))
      (·repeat' (first|apply aE.z|apply aE.s))
      (·repeat' (first|apply aE.z|apply aE.s))
    . dsimp only [jb,aT.pG,aT.to,aT.pz,aT.gy,aT.fi,aT.kw,aT.d]
      (try simp only [dB,dL,fa])
      dsimp only [dY,go,dX,gk,gq,lF]
      (·first|exact pe|exact pj)
    (·first|exact pe|exact pj)
    all_goals(first|exact 0|exact undef))
 obtain⟨op,i1,i2,i3,bR⟩:=i;dsimp only at h2;subst h2;rw [aw (show ¬(13:Int)=12 by decide)];have hb:=(mY hi).2.1 rfl;dsimp only at hb;have xR:=λw=>ry (d:=t.d) (w:=w) hb;have e:t.Ch ⟨13,i1,i2,i3,bR⟩ (Do M 1 (pN t.d ⟨13,i1,i2,i3,bR⟩) (t.d.dE.bp i2)).put=(t.pz 5 (Do M 1 (pN t.d ⟨13,i1,i2,i3,bR⟩) (t.d.dE.bp i2)).put).pG:=aw (show ¬(13:Int)=12 by decide);have e0:t.dE.bp i2=t.d.dE.bp i2:=rfl;dsimp only;rw [e0,e];have W8:=λw {A L K} {k:Value->AW->Prop}=>DY (A:=A) (L:=L) (K:=K) (k:=k) b t.d w ⟨13,i1,i2,i3,bR⟩ (.inr rfl) hi;generalize BY:pN t.d ⟨13,i1,i2,i3,bR⟩=HN at *;unfold j4;unfold j4 at W8;intro A F hw dA;refine aN kaP λ_=>?_;dsimp only [aa,af] at dA;obtain⟨⟨cW,eD,kC,fm,vs,vo⟩,hS⟩:=gF.open dA .z;clear dA;dsimp only [jb,aa,af] at hS;rw [dB,dL,fa] at hS;dsimp only [dY,go,dX,gk,gq,lF] at hS;have hq:=gh hS hw;have Tr:b<A.next:=hw.lt (hS.g 0 rfl);have Uz:(b=A.next+1+1)=False:=eq_false (by omega)
 have nY:(b=A.next+1+1+1)=False:=eq_false (by omega);have xJ:(A.next+1+1=b)=False:=eq_false (by omega);have yZ:(A.next+1+1+1=b)=False:=eq_false (by omega)
 repeat' (first|(refine kY λR hR=>?_;simp [ar,ax,hq,Uz,nY,xJ,yZ,jx,kc,h1,h3,xR,hb.1,hb.2,AW.ab,aG,bk,aZ.v];try simp (disch:=omega) only [aA,aw,ar,ax])|(refine hR _ _ ?_;clear hR R)|(refine hK _ _ ?_;clear hK K)|refine nx ?_|(refine PK λR hR=>?_;simp [ar,ax,hq,Uz,nY,xJ,yZ,jx,kc,h1,h3,xR,hb.1,hb.2,AW.ab,aG,bk,aZ.v];try simp (disch:=omega) only [aA,aw,ar,ax])|(refine Ma (λR hR=>?_) (λR hR=>?_)<;>(simp [ar,ax,hq,Uz,nY,xJ,yZ,jx,kc,h1,h3,xR,hb.1,hb.2,AW.ab,aG,bk,aZ.v];try simp (disch:=omega) only [aA,aw,ar,ax]))|refine PI ?_|refine wn λK hK=>?_|simp only [wS,uN,uM]|simp only [bG,tK,lG,ZQ,qR,Zn,ZB,ZC,ZK,ZE,Zq]|refine wl qj uN (by decide +kernel) λK hK=>?_|refine wl qj uM (by decide +kernel) λK hK=>?_|(refine ⟨λA' g=>by simp [AW.ab,g],?_⟩)|(refine ⟨by simp [hq],?_⟩)|(refine wt (λA'=>A'.bp (A.next+1+1+1)=some (.cells [.int .i64 0,.int .i64 t.d.id,.int .i64 2,.int .i64 HN,.slice none 0 0,.slice none 0 0] true 1)) qj [0,1,2,3,0] (.aK 0 (.aK 1 (.tC 2 (.aK 3 (.aK 4 .nil)) 3 (.aK 2 (.aK 4 .nil))))) (by decide +kernel) λK hK=>?_)|(apply W8 _;(·exact wA);(·exact sA);(·first|exact pA|exact kA);)|(apply bn.ft (stL pb M 1 HN _);(·exact wA);(·exact sA);(·first|exact pA|exact kA);rintro _ _ rfl hS hw _;have hS:=lA hS;have hq:=gh hS hw)|(apply d7.ft (C1 b t.d _ _ _ _ _ _ _ _ _ i1 i2 i3 bR _ t.gH hi kO xC);(·exact wA);(·exact sA);(·first|exact pA|exact kA);(rintro xw _ _ _ hS hw _;have hS:=lA hS;(try (have hq:=gh hS hw))))|(show c8 _ _ _ _ _ _;refine nx ?_)|(refine wc rfl (λhc=>?_) (λhc=>?_)<;>(try simp at hc)<;>(try omega))|(refine ib (λhc=>?_) (λhc=>?_)<;>(try omega)<;>(try simp (disch:=omega) only [aA,aw])))
 all_goals(
  refine⟨_,by first|rfl|(simp;rfl)|(simp [hq,AW.ab,aG];rfl),?_⟩;apply yw
  (·first|rfl|(simp [eb,eF.zero,aZ.v,aZ.zero];done)|(simp [eb,eF.zero,aZ.v,aZ.zero];rfl))
  apply gF.bS
  . apply fX.aK (e:=⟨0,t.id,2,HN,[],[]⟩) (r:=.slice none 0 0) (w:=.slice none 0 0);apply ah.wy .i64;apply ah.wy .i64
    (·exact sA)
    (·repeat' (first|apply aE.z|apply aE.s))
    (·repeat' (first|apply aE.z|apply aE.s))
    (·repeat' (first|apply aE.z|apply aE.s))
  . dsimp only [jb,aT.pG,aT.to,aT.pz,aT.gy,aT.fi,aT.kw,aT.d]
    (try simp only [dB,dL,fa])
    dsimp only [dY,go,dX,gk,gq,lF]
    (·first|exact pe|exact pj)
  (·first|exact pe|exact pj)
  all_goals(first|exact 0|exact undef))
end
section
abbrev sH:List (Nat×Nat):=[(0,0),(1,0),(2,0),(3,0),(4,0),(5,0),(6,0),(7,0),(8,0),(9,0),(10,0),(11,0),(12,0),(13,0),(14,0),(15,3),(16,0),(17,0),(18,0),(19,3)]
abbrev sG:List (Nat×Nat):=[(0,0),(1,0),(2,0),(3,0),(4,0),(5,0),(6,0),(7,0),(8,0),(9,2),(10,0),(11,0),(12,0),(13,3)]
open T2
variable [Gl]
variable [AF]
structure ExN (d8:Int->Int->Int->Int) (t:aT) (M:Mm) (i:bm):Prop where
 hA:xf d8
 hB:Ru t
 hi:cg i=0
 pY:i.op=3->FE i.bR
 IR:i.op≠8/\i.op≠9/\i.op≠10/\i.op≠11/\i.op≠14/\i.op≠15
 hb:i.op=7->FP ({ t with bN:=t.pc,lH:=t.dE,iR:=t.iR+1 }:aT).sy (fU (eP t.cf t.id)).2 M
 hp:t.cf.aW=true->i.op=12\/i.op=13->FP ({ t with aW:=true,fC:=0 }:aT).sy (fU (eP t.cf t.id)).2 M
 Ta:∀x∈t.gE,x.1<2^62
theorem AC (d8:Int->Int->Int->Int) (t:aT) (i:bm):(t.iP d8 i).fL=t.fL/\(t.iP d8 i).dM=t.dM/\(t.iP d8 i).dI=t.dI/\(t.iP d8 i).aC=t.aC/\(t.iP d8 i).dF=t.dF/\(t.iP d8 i).cf=t.cf/\(t.iP d8 i).gE=t.gE/\(t.iP d8 i).gH=t.gH:=by
 unfold aT.iP;split;exact⟨rfl,rfl,rfl,rfl,rfl,rfl,rfl,rfl⟩;split;exact⟨rfl,rfl,rfl,rfl,rfl,rfl,rfl,rfl⟩;split;exact⟨rfl,rfl,rfl,rfl,rfl,rfl,rfl,rfl⟩;split;exact⟨rfl,rfl,rfl,rfl,rfl,rfl,rfl,rfl⟩;exact⟨rfl,rfl,rfl,rfl,rfl,rfl,rfl,rfl⟩
theorem Qi (d8:Int->Int->Int->Int) (t:aT) (i:bm):(t.iP d8 i).d.jB=t.d.jB:=by
 unfold aT.iP;split;rfl;split;rfl;split;rfl;split<;>rfl
theorem TM {d8:Int->Int->Int->Int} (hF:FOK) (q:oh) (b pb:Nat) (t:aT) (M:Mm) (i:bm) (dB:t.fL=none) (dL:t.dM=none) (fa:t.dI=none) (hE:ExN d8 t M i) (Di:CR q t.aC) :
 d7 qa 67 [pv b,pv pb,j4 i] [.h (gF q b t),dN pb M] (λev v=>v=.tuple #[eb (t.k7 d8 M i).1,ev]) (λev=>[.h (gF q b (t.k7 d8 M i).2.2.1),dN pb (t.k7 d8 M i).2.2.2,.h (fX ev (t.k7 d8 M i).2.1)]):=by
 have hB:=hE.hB;have kO:0<=t.pc/\t.pc<2^40:=hB.pc;have pn:cX t.d.cf:=hB.cf;have hct:=hB.vX;have htr:=hB.zK;have jx:qg.wrap (t.d.iR+1)=t.d.iR+1:=(ar (by omega) (by omega):qg.wrap (t.iR+1)=t.iR+1);have IR:=hE.IR;obtain⟨_,_,_,YJ,_⟩:=mY hE.hi;unfold aT.k7;rw [dB];dsimp only;by_cases h7:i.op=7
 . rw [aA h7];have QE:=w8 hF (hE.hb h7) q b pb rfl dL fa Di;obtain⟨op,i1,i2,i3,bR⟩:=i;dsimp only at h7;subst h7;unfold j4;intro A F hw dA;refine aN kav λ_=>?_;dsimp only [aa,af] at dA;obtain⟨⟨cW,eD,kC,fm,vs,vo⟩,hS⟩:=gF.open dA .z;clear dA;dsimp only [jb,aa,af] at hS;rw [dB,dL,fa] at hS;dsimp only [dY,go,dX,gk,gq,lF] at hS;have hq:=gh hS hw;revert hq hS hw;refine Wu (J4 (Tg.mk (n:=36) (λx1=>Co b { t.d with bN:=t.pc,lH:=t.dE,iR:=t.iR+1 } x1 pn hct)) (Tg.mk (n:=35) @QE) (od sH) (od sG)) (J3 jx @eb.eq_1 bE) ?_<;>(unhygienic intros);refine⟨_,by first|rfl|(simp;rfl)|(simp [hq,AW.ab,aG];rfl),?_⟩;apply yw
   (·first|rfl|(simp [eb,eF.zero,aZ.v,aZ.zero];done)|(simp [eb,eF.zero,aZ.v,aZ.zero];rfl))
   apply ah.bS
   (·exact sA)
   (·first|exact pe|exact pj)
 rw [aw h7];by_cases hp:i.op=12\/i.op=13
 . rw [aA hp];have mO:=MT hF q b pb t M i dB dL fa hB hp hE.hi Di (λh=>hE.hp h hp);rcases hp with h2|h2
   all_goals
    obtain⟨op,i1,i2,i3,bR⟩:=i;dsimp only at h2;subst h2;unfold j4 at mO;unfold j4;intro A F hw dA;refine aN kav λ_=>?_;dsimp only [aa,af] at dA;obtain⟨⟨cW,eD,kC,fm,vs,vo⟩,hS⟩:=gF.open dA .z;clear dA;dsimp only [jb,aa,af] at hS;rw [dB,dL,fa] at hS;dsimp only [dY,go,dX,gk,gq,lF] at hS;have hq:=gh hS hw
    all_goals(revert hq hS hw;(repeat first|clear hq|clear hS|clear hw|revert hc|revert R|revert K);refine Wu (J3 (Tg.mk (n:=35) @mO) (od sH) (od sG)) (J2 @eb.eq_1 bE) ?_<;>unhygienic intros)
    refine⟨_,by first|rfl|(simp;rfl)|(simp [hq,AW.ab,aG];rfl),?_⟩;apply yw
    (·first|rfl|(simp [eb,eF.zero,aZ.v,aZ.zero];done)|(simp [eb,eF.zero,aZ.v,aZ.zero];rfl))
    apply ah.bS
    (·exact sA)
    (·first|exact pe|exact pj)
 rw [aw hp];by_cases FW:i.op=16
 . rw [aA FW];dsimp only;have EL:=G9 q b pb ({ t with dM:=some ⟨t.id,t.nt,false,0,0⟩ }:aT) M ⟨t.id,t.nt,false,0,0⟩ dB rfl ⟨hB.cf,hB.pc,hB.gH,hB.nS,hB.vX,hB.zK,hB.nB,hB.rU⟩ (by dsimp only;omega) hE.Ta (λl e=>by have e2:t.dI=some l:=e;rw [fa] at e2;cases e2);rw [dB] at EL;generalize aT.sZ ({ t with fL:=none,dM:=some ⟨t.id,t.nt,false,0,0⟩ }:aT) M ⟨t.id,t.nt,false,0,0⟩=r at EL ⊢;obtain⟨op,i1,i2,i3,bR⟩:=i;dsimp only at FW;subst FW;unfold j4;intro A F hw dA;refine aN kav λ_=>?_;dsimp only [aa,af] at dA;obtain⟨⟨cW,eD,kC,fm,vs,vo⟩,hS⟩:=gF.open dA .z;clear dA;dsimp only [jb,aa,af] at hS;rw [dB,dL,fa] at hS;dsimp only [dY,go,dX,gk,gq,lF] at hS;have hq:=gh hS hw;have kS:∀k l,(b=A.next+k+l)=False:=λk l=>by simp [hq,Nat.add_assoc]
   revert hq hS hw;(repeat first|clear hq|clear hS|clear hw|revert hc|revert R|revert K);refine Wu (J4 (Tg.mk (n:=34) @EL) (od sH) (od sG) @Gw) (J3 kS @eb.eq_1 bE) ?_<;>(unhygienic intros);refine⟨_,by first|rfl|(simp;rfl)|(simp [hq,AW.ab,aG];rfl),?_⟩;apply yw
   (·first|rfl|(simp [eb,eF.zero,aZ.v,aZ.zero];done)|(simp [eb,eF.zero,aZ.v,aZ.zero];rfl))
   apply ah.bS;apply fX.nil
   (·exact sA)
   (·first|exact pe|exact pj)
 rw [aw FW];have mg:(0<=i.op/\i.op<=6)\/i.op=17:=by omega
 have Qx:=λva vs vf vd vl vo o cc=>EC hE.hA b t va vs vf vd vl vo o cc i mg hE.hi hE.pY kO;obtain⟨l1,l2,l3,l4,l5,l6,l7,l8⟩:=AC d8 t i;rw [dB] at l1;rw [dL] at l2;rw [fa] at l3;obtain⟨n8,n9,n10,n11,n14,n15⟩:=IR;have Sy:¬i.op=12:=λe=>hp (.inl e);have WU:¬i.op=13:=λe=>hp (.inr e);unfold j4 at Qx;unfold j4;intro A F hw dA;refine aN kav λ_=>?_;dsimp only [aa,af] at dA;obtain⟨⟨cW,eD,kC,fm,vs,vo⟩,hS⟩:=gF.open dA .z;clear dA;dsimp only [jb,aa,af] at hS;rw [dB,dL,fa] at hS;dsimp only [dY,go,dX,gk,gq,lF] at hS;have hq:=gh hS hw
 repeat' (first|(refine kY λR hR=>?_;simp [ar,ax,hq,h7,n8,n9,n10,n11,Sy,WU,n14,n15,FW,AW.ab,aG];try simp (disch:=omega) only [aA,aw,ar,ax])|(refine hR _ _ ?_;clear hR R)|(refine hK _ _ ?_;clear hK K)|refine nx ?_|refine wn λK hK=>?_|simp only [wS,sH,sG]|refine wl qj sH (by decide +kernel) λK hK=>?_|refine wl qj sG (by decide +kernel) λK hK=>?_|(apply bn.ft (Qx _ _ _ _ _ _ _ _);(·exact wA);(·exact sA);(·first|exact pA|exact kA);rintro _ _ _ hS hw _;have hS:=lA hS;have hq:=gh hS hw)|(show c8 _ _ _ _ _ _;refine nx ?_)|(refine wc rfl (λhc=>?_) (λhc=>?_)<;>(try simp at hc)<;>(try omega))|(refine ib (λhc=>?_) (λhc=>?_)<;>(try omega)<;>(try simp (disch:=omega) only [aA,aw])))
 refine⟨_,by first|rfl|(simp;rfl)|(simp [hq,AW.ab,aG];rfl),?_⟩;apply yw
 (·first|rfl|(simp [eb,eF.zero,aZ.v,aZ.zero];done)|(simp [eb,eF.zero,aZ.v,aZ.zero];rfl))
 apply gF.bS;apply fX.nil
 (·exact sA)
 dsimp only [jb];simp only [l1,l2,l3,l4,l5,l6,l7,l8];dsimp only [dY,go,dX,gk,gq,lF]
 (·first|exact pe|exact pj)
 (·first|exact pe|exact pj)
 all_goals(first|exact 0|exact undef)
structure ExS (d8:Int->Int->Int->Int) (t:aT) (s:aJ) (M:Mm) (i:bm):Prop where
 hA:xf d8
 hB:Ru t
 hC:gL s
 hi:cg i=0
 pY:i.op=3->FE i.bR
 xQ:i.op≠7/\i.op≠12/\i.op≠13/\i.op≠16/\i.op≠17
 hr:i.op=10\/i.op=11\/i.op=14\/i.op=15\/i.op=8\/i.op=9->FP ({ t with fL:=some (t.Gn i s) }:aT) (t.Gn i s) M
theorem TK {d8:Int->Int->Int->Int} (hF:FOK) (q:oh) (b pb:Nat) (t:aT) (s:aJ) (M:Mm) (i:bm) (dB:t.fL=some s) (dL:t.dM=none) (fa:t.dI=none) (hE:ExS d8 t s M i) (Di:CR q t.aC) :
 d7 qa 67 [pv b,pv pb,j4 i] [.h (gF q b t),dN pb M] (λev v=>v=.tuple #[eb (t.k7 d8 M i).1,ev]) (λev=>[.h (gF q b (t.k7 d8 M i).2.2.1),dN pb (t.k7 d8 M i).2.2.2,.h (fX ev (t.k7 d8 M i).2.1)]):=by
 have hB:=hE.hB;have kO:0<=t.pc/\t.pc<2^40:=hB.pc;have xQ:=hE.xQ;obtain⟨_,_,_,YJ,_⟩:=mY hE.hi;unfold aT.k7;rw [aw xQ.1,dB];dsimp only;by_cases hp:i.op=10\/i.op=11\/i.op=14\/i.op=15\/i.op=8\/i.op=9
 . rw [aA hp];have QE:=w8 hF (hE.hr hp) q b pb rfl dL fa Di;have hrq:=λvs vf vd vc vl vo n=>Iq b n t.d vs vf vd vc vl vo i s hE.hC hp hE.hi;have er:BJ t.d i s=t.Gn i s:=rfl;rw [er] at hrq;generalize t.Gn i s=s2 at QE hrq ⊢;rcases hp with h|h|h|h|h|h
   all_goals
    obtain⟨op,i1,i2,i3,bR⟩:=i;dsimp only at h;subst h;unfold j4 at hrq;unfold j4;intro A F hw dA;refine aN kav λ_=>?_;dsimp only [aa,af] at dA;obtain⟨⟨cW,eD,kC,fm,vs,vo⟩,hS⟩:=gF.open dA .z;clear dA;dsimp only [jb,aa,af] at hS;rw [dB,dL,fa] at hS;dsimp only [dY,go,dX,gk,gq,lF] at hS;have hq:=gh hS hw
    all_goals(revert hq hS hw;refine Wu (J4 (Tg.mk (n:=37) (λx1 x2 x3 x4 x5 x6=>hrq x1 x2 x3 x4 x5 x6 cW)) (Tg.mk (n:=35) @QE) (od sH) (od sG)) (J2 @eb.eq_1 bE) ?_<;>unhygienic intros)
    refine⟨_,by first|rfl|(simp;rfl)|(simp [hq,AW.ab,aG];rfl),?_⟩;apply yw
    (·first|rfl|(simp [eb,eF.zero,aZ.v,aZ.zero];done)|(simp [eb,eF.zero,aZ.v,aZ.zero];rfl))
    apply ah.bS
    (·exact sA)
    (·first|exact pe|exact pj)
 rw [aw hp];have mg:(0<=i.op/\i.op<=6)\/i.op=17:=by omega
 have Qx:=λva vs vf vd vl vo o cc=>EC hE.hA b t va vs vf vd vl vo o cc i mg hE.hi hE.pY kO;obtain⟨l1,l2,l3,l4,l5,l6,l7,l8⟩:=AC d8 t i;have l9:(t.iP d8 i).d.jB=t.d.jB:=Qi d8 t i;rw [dB] at l1;rw [dL] at l2;rw [fa] at l3;obtain⟨n7,Sy,WU,n16,n17⟩:=xQ;have n8:¬i.op=8:=by omega
 have n9:¬i.op=9:=by omega
 have n10:¬i.op=10:=by omega
 have n11:¬i.op=11:=by omega
 have n14:¬i.op=14:=by omega
 have n15:¬i.op=15:=by omega
 unfold j4 at Qx;unfold j4;intro A F hw dA;refine aN kav λ_=>?_;dsimp only [aa,af] at dA;obtain⟨⟨cW,eD,kC,fm,vs,vo⟩,hS⟩:=gF.open dA .z;clear dA;dsimp only [jb,aa,af] at hS;rw [dB,dL,fa] at hS;dsimp only [dY,go,dX,gk,gq,lF] at hS;have hq:=gh hS hw
 repeat' (first|(refine kY λR hR=>?_;simp [ar,ax,hq,n7,n8,n9,n10,n11,Sy,WU,n14,n15,n16,l9,AW.ab,aG];try simp (disch:=omega) only [aA,aw,ar,ax])|(refine hR _ _ ?_;clear hR R)|(refine hK _ _ ?_;clear hK K)|refine nx ?_|refine wn λK hK=>?_|simp only [wS,sH,sG]|refine wl qj sH (by decide +kernel) λK hK=>?_|refine wl qj sG (by decide +kernel) λK hK=>?_|(apply bn.ft (Qx _ _ _ _ _ _ _ _);(·exact wA);(·exact sA);(·first|exact pA|exact kA);rintro _ _ _ hS hw _;have hS:=lA hS;have hq:=gh hS hw)|(show c8 _ _ _ _ _ _;refine nx ?_)|(refine wc rfl (λhc=>?_) (λhc=>?_)<;>(try simp at hc)<;>(try omega))|(refine ib (λhc=>?_) (λhc=>?_)<;>(try omega)<;>(try simp (disch:=omega) only [aA,aw])))
 refine⟨_,by first|rfl|(simp;rfl)|(simp [hq,AW.ab,aG];rfl),?_⟩;apply yw
 (·first|rfl|(simp [eb,eF.zero,aZ.v,aZ.zero];done)|(simp [eb,eF.zero,aZ.v,aZ.zero];rfl))
 apply gF.bS;apply fX.nil
 (·exact sA)
 dsimp only [jb];simp only [l1,l2,l3,l4,l5,l6,l7,l8];dsimp only [dY,go,dX,gk,gq,lF]
 (·first|exact pe|exact pj)
 (·first|exact pe|exact pj)
 all_goals(first|exact 0|exact undef)
end
end Go.Stx
