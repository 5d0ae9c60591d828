/-
 The program's thread: a step of its attempt.
-/
import Derived.Test.YtpealkdhmnomhaaGreatDoorG25
set_option linter.unusedVariables false
set_option linter.unusedSimpArgs false
set_option linter.unusedSectionVars false
set_option maxRecDepth 20000
set_option maxHeartbeats 4000000
open Go.IntKind renaming u64->q8
open Go.Proofs.Tryz renaming func132->kbn,func89->kaQ,func91->kay,prog->qV
open Go.Stx.AW.le renaming alloc->qW
open List renaming getElem?_toArray->kaK
open Bool renaming false->qk,true->qg
open Go.IntKind renaming i64->qa
open Go.Value renaming int->qb,slice->qf,tuple->qA
open Option renaming none->qh,some->qc
namespace Go.Stx
open Go Go.Proofs
attribute [local irreducible] TW bI cM aV aB aL cU dh
section
abbrev pM:List (Nat×Nat):=[(0,0),(1,0),(2,0),(3,0),(4,0),(5,0),(6,0),(7,0),(8,0),(9,0),(10,0),(11,0),(12,3)]
open T2
variable [Gl]
theorem L1 (hF:FOK) (q:pI) (b pb:Nat) (t:aU) (s:aI) (M:Mm) (dO:t.fR=qc s) (ef:t.ee=qh) (fz:t.dY=qh) (hB:Ux t) (um:Mf s M) (hC:iu (ba s M).2.2.1) (hi:cW t.fW=0) (bY:t.pc<t.aD.length)
 (dw:t.bd=qg->t.fW.op=12\/t.fW.op=13) (hwk:t.bd=qk->eH t.aD t.b9.toNat=7/\0<=t.b9) (tE:∀x∈(ba s M).2.2.1.aA,x<2^62) (Qa:(ba s M).2.2.1.aA.length<=8) (E0:CR q t.aD) :
 eI qV 91 [pv b,pv pb] [.h (ik q b t),ei pb M] (λev v=>v=qA #[eK (t.xJ M s).1,ev]) (λev=>[.h (ik q b (t.xJ M s).2.2.1),ei pb (t.xJ M s).2.2.2,.h (gA ev (t.xJ M s).2.1)]):=by
 have jV:=λn=>SD n pb s M um;unfold gF at jV;unfold aU.xJ;generalize ba s M=r at jV hC tE Qa ⊢;obtain⟨ac,ph,s',M'⟩:=r;dsimp only at jV hC tE Qa ⊢;have lp:0<=t.pc/\t.pc<2^40:=hB.pc;have pe:t.pc.toNat<t.aD.length:=Ya
 obtain⟨GT,Mu⟩:=E0.at pe;have hins:t.aD[t.pc.toNat]=t.fW:=by
  unfold aU.fW aU.yp;rw [List.getD_eq_getElem?_getD,List.getElem?_eq_getElem pe];rfl
 rw [hins] at Mu;have ET:q.off+t.d.pc.toNat*5+5<=q.bS.length:=GT;have G3:(q.bS.drop (q.off+t.d.pc.toNat*5)).take 5=az t.fW:=Mu;have zV:0<=t.d.pc:=lp.1;have ER:t.d.pc<(t.aD.length:Int):=bY;have hB':Ux ({ t with fR:=qc s' }:aU):=⟨hB.cf,hB.pc,hB.io,hB.pn,hB.xT,hB.BE,hB.oN,hB.tt⟩;have han:=I7 hF q b { t with fR:=qc s' } s' t.fW rfl ef fz hB' hi dw hwk tE Qa E0;by_cases h3:ph=3
 . rw [ay h3];subst h3;by_cases hb:s'.kJ=qg
   . rw [ay hb];have xR:=λn=>xG n s';simp only [hb] at xR;intro A F hw dU;refine aK kay λ_=>?_;dsimp only [aa,ah] at dU;obtain⟨⟨di,fe,ly,fK,vs,vo⟩,hS⟩:=ik.open dU .z;clear dU;dsimp only [jP,aa,ah] at hS;rw [dO,ef,fz] at hS;dsimp only [eG,gM,eF,gJ,gO,mG] at hS;have hq:=gI hS hw;revert hq hS hw;refine W (J3 (Tg.mk (n:=10) (λ{A L K k}=>fQ (A:=A) (L:=L) (K:=K) (k:=k) (xR di))) (od pM) (jV di)) (J3 bC @bn.eq_1 @bh.v.eq_1) ?_<;>(unhygienic intros);refine⟨_,by (simp [AW.ab];rfl),?_⟩;apply Ay
     (·rfl)
     apply ik.bX
     . skip
       apply gA.aM (e:=⟨0,t.id,3,0,[],[]⟩) (r:=qf qh 0 0) (w:=qf qh 0 0);apply aj.vF qa;apply aj.vF qa
       (·exact sA)
       (·repeat' (first|apply aE.z|apply aE.s))
       (·repeat' (apply aE.z))
       (·repeat' (apply aE.z))
     . dsimp only [jP,aU.rT,aU.to,aU.rO,aU.gX,aU.eY,aU.lu,aU.d]
       (try simp only [ef,fz])
       (·exact pA)
     (·exact pA)
     all_goals(exact 0)
   rw [aw hb];have lF:s'.kJ=qk:=by simpa using hb
   have xR:=λn=>xG n s';simp only [lF] at xR;intro A F hw dU;refine aK kay λ_=>?_;dsimp only [aa,ah] at dU;obtain⟨⟨di,fe,ly,fK,vs,vo⟩,hS⟩:=ik.open dU .z;clear dU;dsimp only [jP,aa,ah] at hS;rw [dO,ef,fz] at hS;dsimp only [eG,gM,eF,gJ,gO,mG] at hS;have hq:=gI hS hw;revert hq hS hw;refine Wu (J4 (Tg.mk (n:=10) (λ{A L K k}=>fQ (A:=A) (L:=L) (K:=K) (k:=k) (xR di))) (Tg.mk (n:=34) @han) (od pM) (jV di)) (J7 ET G3 zV ER bC @bn.eq_1 @bh.v.eq_1) ?_<;>(unhygienic intros);refine⟨_,by (simp [AW.ab];rfl),?_⟩;apply Ay
   (·rfl)
   apply aj.bX
   . skip
     apply gA.aM (e:=⟨0,t.id,3,0,[],[]⟩) (r:=qf qh 0 0) (w:=qf qh 0 0);apply aj.vF qa;apply aj.vF qa
     (·exact sA)
     (·repeat' (first|apply aE.z|apply aE.s))
     (·repeat' (apply aE.z))
     (·repeat' (apply aE.z))
   (·exact pA)
 rw [aw h3];by_cases G6:ph=16
 . subst G6;have hdz:=λn=>WZ n s';by_cases xB:s'.ao=qg
   . rw [ay (⟨rfl,xB⟩:(16:Int)=16/\s'.ao=qg)];simp only [xB] at hdz;by_cases h1:s'.aD=1
     . rw [ay h1];have hcz:=λn=>xE n s';simp only [h1] at hcz;by_cases hb:s'.kJ=qg
       . rw [ay hb];have xR:=λn=>xG n s';simp only [hb] at xR;intro A F hw dU;refine aK kay λ_=>?_;dsimp only [aa,ah] at dU;obtain⟨⟨di,fe,ly,fK,vs,vo⟩,hS⟩:=ik.open dU .z;clear dU;dsimp only [jP,aa,ah] at hS;rw [dO,ef,fz] at hS;dsimp only [eG,gM,eF,gJ,gO,mG] at hS;have hq:=gI hS hw;revert hq hS hw;refine W (J6 (Tg.mk (n:=10) (λ{A L K k}=>fQ (A:=A) (L:=L) (K:=K) (k:=k) (xR di))) (Tg.mk (n:=10) (λ{A L K k}=>fQ (A:=A) (L:=L) (K:=K) (k:=k) (hdz di))) (Tg.mk (n:=10) (λ{A L K k}=>fQ (A:=A) (L:=L) (K:=K) (k:=k) (hcz di))) (Tg.mk (n:=32) (Kh di s' hC)) (od pM) (jV di)) (J3 bC @bn.eq_1 @bh.v.eq_1) ?_<;>(unhygienic intros);refine⟨_,by (simp [AW.ab];rfl),?_⟩;apply Ay
         (·rfl)
         apply ik.bX
         . skip
           apply gA.aM (e:=⟨0,t.id,4,0,s'.reads,nB s'⟩)
           (·exact sA)
           (·repeat' (first|apply aE.z|apply aE.s))
           (·repeat' (first|apply aE.z|apply aE.s))
           (·repeat' (first|apply aE.z|apply aE.s))
         . dsimp only [jP,aU.rT,aU.to,aU.rO,aU.gX,aU.eY,aU.lu,aU.d]
           (try simp only [ef,fz])
           (·exact pA)
         (·exact pA)
         all_goals(exact 0)
       rw [aw hb];have lF:s'.kJ=qk:=by simpa using hb
       have xR:=λn=>xG n s';simp only [lF] at xR;intro A F hw dU;refine aK kay λ_=>?_;dsimp only [aa,ah] at dU;obtain⟨⟨di,fe,ly,fK,vs,vo⟩,hS⟩:=ik.open dU .z;clear dU;dsimp only [jP,aa,ah] at hS;rw [dO,ef,fz] at hS;dsimp only [eG,gM,eF,gJ,gO,mG] at hS;have hq:=gI hS hw;revert hq hS hw;refine Wu (J7 (Tg.mk (n:=10) (λ{A L K k}=>fQ (A:=A) (L:=L) (K:=K) (k:=k) (xR di))) (Tg.mk (n:=34) @han) (Tg.mk (n:=10) (λ{A L K k}=>fQ (A:=A) (L:=L) (K:=K) (k:=k) (hdz di))) (Tg.mk (n:=10) (λ{A L K k}=>fQ (A:=A) (L:=L) (K:=K) (k:=k) (hcz di))) (Tg.mk (n:=32) (Kh di s' hC)) (od pM) (jV di)) (J7 ET G3 zV ER bC @bn.eq_1 @bh.v.eq_1) ?_<;>(unhygienic intros);refine⟨_,by (simp [AW.ab];rfl),?_⟩;apply Ay
       (·rfl)
       apply aj.bX
       . skip
         apply gA.aM (e:=⟨0,t.id,4,0,s'.reads,nB s'⟩)
         (·exact sA)
         (·repeat' (first|apply aE.z|apply aE.s))
         (·repeat' (first|apply aE.z|apply aE.s))
         (·repeat' (first|apply aE.z|apply aE.s))
       (·exact pA)
     rw [aw h1];by_cases hb:s'.kJ=qg
     . rw [ay hb];have xR:=λn=>xG n s';simp only [hb] at xR;intro A F hw dU;refine aK kay λ_=>?_;dsimp only [aa,ah] at dU;obtain⟨⟨di,fe,ly,fK,vs,vo⟩,hS⟩:=ik.open dU .z;clear dU;dsimp only [jP,aa,ah] at hS;rw [dO,ef,fz] at hS;dsimp only [eG,gM,eF,gJ,gO,mG] at hS;have hq:=gI hS hw;revert hq hS hw;refine W (J6 (Tg.mk (n:=10) (λ{A L K k}=>fQ (A:=A) (L:=L) (K:=K) (k:=k) (xR di))) (Tg.mk (n:=10) (λ{A L K k}=>fQ (A:=A) (L:=L) (K:=K) (k:=k) (hdz di))) (Tg.mk (n:=10) (λ{A L K k}=>fQ (A:=A) (L:=L) (K:=K) (k:=k) (xE di s'))) (Tg.mk (n:=32) (Kh di s' hC)) (od pM) (jV di)) (J4 h1 bC @bn.eq_1 @bh.v.eq_1) ?_<;>(unhygienic intros);refine⟨_,by (simp [AW.ab];rfl),?_⟩;apply Ay
       (·rfl)
       apply ik.bX
       . skip
         apply gA.aM (e:=⟨0,t.id,4,0,s'.reads,[]⟩) (w:=qf qh 0 0);apply aj.vF qa
         (·exact sA)
         (·repeat' (first|apply aE.z|apply aE.s))
         (·repeat' (first|apply aE.z|apply aE.s))
         (·repeat' (apply aE.z))
       . dsimp only [jP,aU.rT,aU.to,aU.rO,aU.gX,aU.eY,aU.lu,aU.d]
         (try simp only [ef,fz])
         (·exact pA)
       (·exact pA)
       all_goals(exact 0)
     rw [aw hb];have lF:s'.kJ=qk:=by simpa using hb
     have xR:=λn=>xG n s';simp only [lF] at xR;intro A F hw dU;refine aK kay λ_=>?_;dsimp only [aa,ah] at dU;obtain⟨⟨di,fe,ly,fK,vs,vo⟩,hS⟩:=ik.open dU .z;clear dU;dsimp only [jP,aa,ah] at hS;rw [dO,ef,fz] at hS;dsimp only [eG,gM,eF,gJ,gO,mG] at hS;have hq:=gI hS hw;revert hq hS hw;refine Wu (J7 (Tg.mk (n:=10) (λ{A L K k}=>fQ (A:=A) (L:=L) (K:=K) (k:=k) (xR di))) (Tg.mk (n:=34) @han) (Tg.mk (n:=10) (λ{A L K k}=>fQ (A:=A) (L:=L) (K:=K) (k:=k) (hdz di))) (Tg.mk (n:=10) (λ{A L K k}=>fQ (A:=A) (L:=L) (K:=K) (k:=k) (xE di s'))) (Tg.mk (n:=32) (Kh di s' hC)) (od pM) (jV di)) (J8 h1 ET G3 zV ER bC @bn.eq_1 @bh.v.eq_1) ?_<;>(unhygienic intros);refine⟨_,by (simp [AW.ab];rfl),?_⟩;apply Ay
     (·rfl)
     apply aj.bX
     . skip
       apply gA.aM (e:=⟨0,t.id,4,0,s'.reads,[]⟩) (w:=qf qh 0 0);apply aj.vF qa
       (·exact sA)
       (·repeat' (first|apply aE.z|apply aE.s))
       (·repeat' (first|apply aE.z|apply aE.s))
       (·repeat' (apply aE.z))
     (·exact pA)
   rw [aw (λhh:(16:Int)=16/\s'.ao=qg=>xB hh.2)];have hdc2:s'.ao=qk:=by simpa using xB
   simp only [hdc2] at hdz;by_cases hb:s'.kJ=qg
   . rw [ay hb];have xR:=λn=>xG n s';simp only [hb] at xR;intro A F hw dU;refine aK kay λ_=>?_;dsimp only [aa,ah] at dU;obtain⟨⟨di,fe,ly,fK,vs,vo⟩,hS⟩:=ik.open dU .z;clear dU;dsimp only [jP,aa,ah] at hS;rw [dO,ef,fz] at hS;dsimp only [eG,gM,eF,gJ,gO,mG] at hS;have hq:=gI hS hw;revert hq hS hw;refine W (J4 (Tg.mk (n:=10) (λ{A L K k}=>fQ (A:=A) (L:=L) (K:=K) (k:=k) (xR di))) (Tg.mk (n:=10) (λ{A L K k}=>fQ (A:=A) (L:=L) (K:=K) (k:=k) (hdz di))) (od pM) (jV di)) (J3 bC @bn.eq_1 @bh.v.eq_1) ?_<;>(unhygienic intros);refine⟨_,by (simp [AW.ab];rfl),?_⟩;apply Ay
     (·rfl)
     apply ik.bX
     . skip
       apply gA.nil
       (·exact sA)
     . dsimp only [jP,aU.rT,aU.to,aU.rO,aU.gX,aU.eY,aU.lu,aU.d]
       (try simp only [ef,fz])
       (·exact pA)
     (·exact pA)
     all_goals(exact 0)
   rw [aw hb];have lF:s'.kJ=qk:=by simpa using hb
   have xR:=λn=>xG n s';simp only [lF] at xR;intro A F hw dU;refine aK kay λ_=>?_;dsimp only [aa,ah] at dU;obtain⟨⟨di,fe,ly,fK,vs,vo⟩,hS⟩:=ik.open dU .z;clear dU;dsimp only [jP,aa,ah] at hS;rw [dO,ef,fz] at hS;dsimp only [eG,gM,eF,gJ,gO,mG] at hS;have hq:=gI hS hw;revert hq hS hw;refine Wu (J5 (Tg.mk (n:=10) (λ{A L K k}=>fQ (A:=A) (L:=L) (K:=K) (k:=k) (xR di))) (Tg.mk (n:=34) @han) (Tg.mk (n:=10) (λ{A L K k}=>fQ (A:=A) (L:=L) (K:=K) (k:=k) (hdz di))) (od pM) (jV di)) (J7 ET G3 zV ER bC @bn.eq_1 @bh.v.eq_1) ?_<;>(unhygienic intros);refine⟨_,by (simp [AW.ab];rfl),?_⟩;apply Ay
   (·rfl)
   apply aj.bX
   . skip
     apply gA.nil
     (·exact sA)
   (·exact pA)
 rw [aw (λhh:ph=16/\s'.ao=qg=>G6 hh.1)];by_cases hb:s'.kJ=qg
 . rw [ay hb];have xR:=λn=>xG n s';simp only [hb] at xR;intro A F hw dU;refine aK kay λ_=>?_;dsimp only [aa,ah] at dU;obtain⟨⟨di,fe,ly,fK,vs,vo⟩,hS⟩:=ik.open dU .z;clear dU;dsimp only [jP,aa,ah] at hS;rw [dO,ef,fz] at hS;dsimp only [eG,gM,eF,gJ,gO,mG] at hS;have hq:=gI hS hw;revert hq hS hw;refine W (J3 (Tg.mk (n:=10) (λ{A L K k}=>fQ (A:=A) (L:=L) (K:=K) (k:=k) (xR di))) (od pM) (jV di)) (J5 h3 G6 bC @bn.eq_1 @bh.v.eq_1) ?_<;>(unhygienic intros);refine⟨_,by (simp [AW.ab];rfl),?_⟩;apply Ay
   (·rfl)
   apply ik.bX
   . skip
     apply gA.nil
     (·exact sA)
   . dsimp only [jP,aU.rT,aU.to,aU.rO,aU.gX,aU.eY,aU.lu,aU.d]
     (try simp only [ef,fz])
     (·exact pA)
   (·exact pA)
   all_goals(exact 0)
 rw [aw hb];have lF:s'.kJ=qk:=by simpa using hb
 have xR:=λn=>xG n s';simp only [lF] at xR;intro A F hw dU;refine aK kay λ_=>?_;dsimp only [aa,ah] at dU;obtain⟨⟨di,fe,ly,fK,vs,vo⟩,hS⟩:=ik.open dU .z;clear dU;dsimp only [jP,aa,ah] at hS;rw [dO,ef,fz] at hS;dsimp only [eG,gM,eF,gJ,gO,mG] at hS;have hq:=gI hS hw;revert hq hS hw;refine Wu (J4 (Tg.mk (n:=10) (λ{A L K k}=>fQ (A:=A) (L:=L) (K:=K) (k:=k) (xR di))) (Tg.mk (n:=34) @han) (od pM) (jV di)) (J9 h3 G6 ET G3 zV ER bC @bn.eq_1 @bh.v.eq_1) ?_<;>(unhygienic intros);refine⟨_,by (simp [AW.ab];rfl),?_⟩;apply Ay
 (·rfl)
 apply aj.bX
 . skip
   apply gA.nil
   (·exact sA)
 (·exact pA)
end
section
abbrev pL:List (Nat×Nat):=[(0,0),(1,0),(2,0),(3,0),(4,0),(5,0),(6,0),(7,0),(8,0),(9,0),(10,2),(11,3),(12,0),(13,0),(14,0),(15,3)]
open T24
variable [Gl]
theorem aE.pt {n:Nat} {o:eh} {L:List It}:aE (.at n o::L) (.h (pt n o)) L:=.e rfl
theorem aj.Na {A:AW} {L K:List It} {n:Nat} {o:eh} (h:aj A L) (hp:aE L (.h (pt n o)) K):aj A (.at n o::K):=by
 unfold aj at h ⊢;rw [hp.aO] at h;exact h
theorem M4 (a:bh) (A:AW):fD 117 [a.v] A (qb qa (gn a)):=by
 refine aB.tF (V:=qb qa (gn a)) Yb (λhw=>?_) Ye;refine aK Tryz.func117 λ_=>?_;unfold bh.v gn;by_cases h1:a.cell=8
 . refine W cx (J2 h1 bC) ?_<;>intros;exact⟨_,by (simp;rfl),by simp [h1],qW _ _⟩
 by_cases h2:a.fx=3
 . refine W cx (J3 h1 h2 bC) ?_<;>intros;exact⟨_,by (simp;rfl),by simp [h1,h2],qW _ _⟩
 refine W cx (J3 h1 h2 bC) ?_<;>intros;exact⟨_,by (simp;rfl),by simp [h1,h2],qW _ _⟩
theorem Rj (a:bh) {A:AW} {k:Value->AW->Prop} (hk:k (qb qa (gn a)) A):aB qV 117 [a.v] A k:=by
 refine bD (M4 a A) ?_;rintro _ _ ⟨rfl,rfl⟩ _ _;exact hk
theorem Fo (p:Nat) (l:List gs) (r:Bool) (h:decide (l.length=0)=r):bx qV 118 [pv p] [.h (C5 p l)] (λv=>v=.bool r) (λ_=>[.h (C5 p l)]):=by
 subst h;exact Oi p l
theorem Jj (q:pI) (b pb:Nat) (t:aU) (M:Mm) (f:ko) (dO:t.fR=qh) (ef:t.ee=qc f) (hB:Ux t) (hn:0<=f.next/\f.next<2^39) (Wh:∀x∈t.ii,x.1<2^62) (hdl:∀l,t.dY=qc l->l≠[]/\l.length<2^28) :
 bx qV 89 [pv b,pv pb] [.h (ik q b t),ei pb M] (λv=>v=eK (t.uy M f).1) (λ_=>[.h (ik q b (t.uy M f).2.1),ei pb (t.uy M f).2.2]):=by
 have lp:0<=t.pc/\t.pc<2^40:=hB.pc;have zF:t.io.length<2^30:=by have:=hB.io;omega
 have hll:t.ii.length<2^28:=by have:=hB.pn;omega
 have rH:=hB.cf;unfold aU.uy;cases fz:t.dY with
 | none=>
   dsimp only;have dw:=λn=>LA n pb f M hn;have hdo:=λn A hg=>oL n (gy f M).2 A hg;have hli:=λn A hg=>IY n (gy f M).2 A hg;generalize hr:gy f M=r at dw hdo hli ⊢;obtain⟨ac,f'⟩:=r;dsimp only at dw hdo hli ⊢;by_cases mo:f'.done=qg
   . simp only [mo] at hdo;rw [ay mo];cases mV:nv t.cf t.ii f'.pn with
     | nil=>
       have e:({ t with ee:=qc f',dY:=qc [],ii:=lm t.ii f'.pn }:aU).kM=(({ t with ee:=qh,dY:=qh,ii:=lm t.ii f'.pn }:aU).rO 6 0).rT:=rfl;rw [e];have NW:=λn=>Fo n [] qg rfl;have IT:=λn=>mV▸Ar n t.cf rH t.ii f'.pn Wh hll;by_cases h3:ac.cell=3
       . rw [ay h3];intro A F hw dU;refine aK kaQ λ_=>?_;dsimp only [aa,ah] at dU;obtain⟨⟨di,fe,ly,fK,vs,vo⟩,js⟩:=ik.open dU .z;clear dU;dsimp only [jP,aa,ah] at js;rw [dO,ef,fz] at js;dsimp only [eG,gM,eF,gJ,gO,mG] at js;have hS:=aj.Na js (.s (.s (.s .z)));clear js;have hq:=rV hS hw;revert hq hS hw;refine Wu (J8 (Tg.mk (n:=10) (λ{A L K k}=>nM (A:=A) (L:=L) (K:=K) (k:=k) (hdo fe))) (Tg.mk (n:=10) (λ{A L K k}=>nM (A:=A) (L:=L) (K:=K) (k:=k) (hli fe))) (Tg.mk (n:=32) (IT fK)) (Tg.mk (n:=36) (λx1=>ki b t.d x1 t.io 6 0 zF)) (Tg.mk (n:=37) (λx1 x2 x3 x4 x5 x6 x7 x8 x9=>mh b t.d x1 x2 x3 x4 x5 x6 x7 x8 x9 lp)) (od pL) (dw fe) @NW) (J4 h3 bC @bn.eq_1 @bh.v.eq_1) ?_<;>(unhygienic intros);refine⟨_,by (simp [AW.ab];rfl),by (simp [eK,h3];done),?_⟩;apply ik.bX;apply aj.nF
         apply aj.nF
         (·exact sA)
         . dsimp only [jP,aU.rT,aU.to,aU.rO,aU.gX,aU.eY,aU.lu,aU.d]
           (try simp only [dO])
           dsimp only [eG,gM,eF,gJ,gO,mG]
           (·repeat' (first|apply bf.z|apply bf.s|apply aE.z|apply aE.s))
         (·repeat' (first|apply bf.z|apply bf.s|apply aE.z|apply aE.s))
         all_goals(exact 0)
       rw [aw h3];intro A F hw dU;refine aK kaQ λ_=>?_;dsimp only [aa,ah] at dU;obtain⟨⟨di,fe,ly,fK,vs,vo⟩,js⟩:=ik.open dU .z;clear dU;dsimp only [jP,aa,ah] at js;rw [dO,ef,fz] at js;dsimp only [eG,gM,eF,gJ,gO,mG] at js;have hS:=aj.Na js (.s (.s (.s .z)));clear js;have hq:=rV hS hw;revert hq hS hw;refine Wu (J8 (Tg.mk (n:=10) (λ{A L K k}=>nM (A:=A) (L:=L) (K:=K) (k:=k) (hdo fe))) (Tg.mk (n:=10) (λ{A L K k}=>nM (A:=A) (L:=L) (K:=K) (k:=k) (hli fe))) (Tg.mk (n:=32) (IT fK)) (Tg.mk (n:=36) (λx1=>ki b t.d x1 t.io 6 0 zF)) (Tg.mk (n:=37) (λx1 x2 x3 x4 x5 x6 x7 x8 x9=>mh b t.d x1 x2 x3 x4 x5 x6 x7 x8 x9 lp)) (od pL) (dw fe) @NW) (J4 h3 bC @bn.eq_1 @bh.v.eq_1) ?_<;>(unhygienic intros);refine⟨_,by (simp [AW.ab];rfl),by trivial,?_⟩
       apply ik.bX;apply aj.nF;apply aj.nF
       (·exact sA)
       . dsimp only [jP,aU.rT,aU.to,aU.rO,aU.gX,aU.eY,aU.lu,aU.d]
         (try simp only [dO])
         dsimp only [eG,gM,eF,gJ,gO,mG]
         (·repeat' (first|apply bf.z|apply bf.s|apply aE.z|apply aE.s))
       (·repeat' (first|apply bf.z|apply bf.s|apply aE.z|apply aE.s))
       all_goals(exact 0)
     | cons x l=>
       have e:({ t with ee:=qc f',dY:=qc (x::l),ii:=lm t.ii f'.pn }:aU).kM={ t with ee:=qc f',dY:=qc (x::l),ii:=lm t.ii f'.pn }:=rfl;rw [e];have NW:=λn=>Fo n (x::l) qk rfl;have IT:=λn=>mV▸Ar n t.cf rH t.ii f'.pn Wh hll;by_cases h3:ac.cell=3
       . rw [ay h3];intro A F hw dU;refine aK kaQ λ_=>?_;dsimp only [aa,ah] at dU;obtain⟨⟨di,fe,ly,fK,vs,vo⟩,js⟩:=ik.open dU .z;clear dU;dsimp only [jP,aa,ah] at js;rw [dO,ef,fz] at js;dsimp only [eG,gM,eF,gJ,gO,mG] at js;have hS:=aj.Na js (.s (.s (.s .z)));clear js;have hq:=rV hS hw;revert hq hS hw;refine W (J6 (Tg.mk (n:=10) (λ{A L K k}=>nM (A:=A) (L:=L) (K:=K) (k:=k) (hdo fe))) (Tg.mk (n:=10) (λ{A L K k}=>nM (A:=A) (L:=L) (K:=K) (k:=k) (hli fe))) (Tg.mk (n:=32) (IT fK)) (od pL) (dw fe) @NW) (J4 h3 bC @bn.eq_1 @bh.v.eq_1) ?_<;>(unhygienic intros);refine⟨_,by (simp [AW.ab];rfl),by (simp [eK,h3];done),?_⟩;apply ik.bX;apply aj.nF;apply aj.nF
         (·exact sA)
         . dsimp only [jP,aU.rT,aU.to,aU.rO,aU.gX,aU.eY,aU.lu,aU.d]
           (try simp only [dO])
           dsimp only [eG,gM,eF,gJ,gO,mG]
           (·repeat' (first|apply bf.z|apply bf.s|apply aE.z|apply aE.pt|apply aE.s))
         (·repeat' (first|apply bf.z|apply bf.s|apply aE.z|apply aE.s))
         all_goals(exact 0)
       rw [aw h3];intro A F hw dU;refine aK kaQ λ_=>?_;dsimp only [aa,ah] at dU;obtain⟨⟨di,fe,ly,fK,vs,vo⟩,js⟩:=ik.open dU .z;clear dU;dsimp only [jP,aa,ah] at js;rw [dO,ef,fz] at js;dsimp only [eG,gM,eF,gJ,gO,mG] at js;have hS:=aj.Na js (.s (.s (.s .z)));clear js;have hq:=rV hS hw;revert hq hS hw;refine W (J6 (Tg.mk (n:=10) (λ{A L K k}=>nM (A:=A) (L:=L) (K:=K) (k:=k) (hdo fe))) (Tg.mk (n:=10) (λ{A L K k}=>nM (A:=A) (L:=L) (K:=K) (k:=k) (hli fe))) (Tg.mk (n:=32) (IT fK)) (od pL) (dw fe) @NW) (J4 h3 bC @bn.eq_1 @bh.v.eq_1) ?_<;>(unhygienic intros);refine⟨_,by (simp [AW.ab];rfl),by trivial,?_⟩;apply ik.bX;apply aj.nF;apply aj.nF
       (·exact sA)
       . dsimp only [jP,aU.rT,aU.to,aU.rO,aU.gX,aU.eY,aU.lu,aU.d]
         (try simp only [dO])
         dsimp only [eG,gM,eF,gJ,gO,mG]
         (·repeat' (first|apply bf.z|apply bf.s|apply aE.z|apply aE.pt|apply aE.s))
       (·repeat' (first|apply bf.z|apply bf.s|apply aE.z|apply aE.s))
       all_goals(exact 0)
   have hdn2:f'.done=qk:=by simpa using mo
   simp only [hdn2] at hdo;rw [aw mo];have e:({ t with ee:=qc f',dY:=qh }:aU).kM={ t with ee:=qc f',dY:=qh }:=rfl;rw [e];by_cases h3:ac.cell=3
   . rw [ay h3];intro A F hw dU;refine aK kaQ λ_=>?_;dsimp only [aa,ah] at dU;obtain⟨⟨di,fe,ly,fK,vs,vo⟩,js⟩:=ik.open dU .z;clear dU;dsimp only [jP,aa,ah] at js;rw [dO,ef,fz] at js;dsimp only [eG,gM,eF,gJ,gO,mG] at js;have hS:=aj.Na js (.s (.s (.s .z)));clear js;have hq:=rV hS hw;revert hq hS hw;refine W (J3 (Tg.mk (n:=10) (λ{A L K k}=>nM (A:=A) (L:=L) (K:=K) (k:=k) (hdo fe))) (od pL) (dw fe)) (J4 h3 bC @bn.eq_1 @bh.v.eq_1) ?_<;>(unhygienic intros);refine⟨_,by (simp [AW.ab];rfl),by (simp [eK,h3];done),?_⟩;apply ik.bX;apply aj.nF;apply aj.nF
     (·exact sA)
     . dsimp only [jP,aU.rT,aU.to,aU.rO,aU.gX,aU.eY,aU.lu,aU.d]
       (try simp only [dO])
       dsimp only [eG,gM,eF,gJ,gO,mG]
       (·repeat' (first|apply bf.z|apply bf.s|apply aE.z|apply aE.pt|apply aE.s))
     (·repeat' (first|apply bf.z|apply bf.s|apply aE.z|apply aE.s))
     all_goals(exact 0)
   rw [aw h3];intro A F hw dU;refine aK kaQ λ_=>?_;dsimp only [aa,ah] at dU;obtain⟨⟨di,fe,ly,fK,vs,vo⟩,js⟩:=ik.open dU .z;clear dU;dsimp only [jP,aa,ah] at js;rw [dO,ef,fz] at js;dsimp only [eG,gM,eF,gJ,gO,mG] at js;have hS:=aj.Na js (.s (.s (.s .z)));clear js;have hq:=rV hS hw;revert hq hS hw;refine W (J3 (Tg.mk (n:=10) (λ{A L K k}=>nM (A:=A) (L:=L) (K:=K) (k:=k) (hdo fe))) (od pL) (dw fe)) (J4 h3 bC @bn.eq_1 @bh.v.eq_1) ?_<;>(unhygienic intros);refine⟨_,by (simp [AW.ab];rfl),by trivial,?_⟩;apply ik.bX;apply aj.nF;apply aj.nF
   (·exact sA)
   . dsimp only [jP,aU.rT,aU.to,aU.rO,aU.gX,aU.eY,aU.lu,aU.d]
     (try simp only [dO])
     dsimp only [eG,gM,eF,gJ,gO,mG]
     (·repeat' (first|apply bf.z|apply bf.s|apply aE.z|apply aE.pt|apply aE.s))
   (·repeat' (first|apply bf.z|apply bf.s|apply aE.z|apply aE.s))
   all_goals(exact 0)
 | some l0=>
   obtain⟨gZ,hln⟩:=hdl l0 fz;cases l0 with
   | nil=>exact absurd rfl gZ
   | cons x l=>
     dsimp only;have hln2:l.length<2^29:=(by rw [List.length_cons] at hln;omega);have dw:=λn=>Oh n pb x l M hln2;generalize hr:Br (x::l) M=r at dw ⊢;obtain⟨ac,l',M'⟩:=r;dsimp only at dw ⊢;cases l' with
     | nil=>
       have e:({ t with dY:=qc [] }:aU).kM=(({ t with ee:=qh,dY:=qh }:aU).rO 6 0).rT:=rfl;rw [e];have NW:=λn=>Fo n [] qg rfl;intro A F hw dU;refine aK kaQ λ_=>?_;dsimp only [aa,ah] at dU;obtain⟨⟨di,fe,ly,fK,vs,vo⟩,js⟩:=ik.open dU .z;clear dU;dsimp only [jP,aa,ah] at js;rw [dO,ef,fz] at js;dsimp only [eG,gM,eF,gJ,gO,mG] at js;have hS:=aj.Na js (.s (.s (.s .z)));clear js;have hq:=rV hS hw
       repeat' (first|(refine iT λR hR=>?_;simp [hq,AW.ab,aG,bh.v];try simp (disch:=omega) only [ay,aw,af,an])|(refine hR _ _ ?_;clear hR R)|(refine hK _ _ ?_;clear hK K)|refine nx ?_|refine wn λK hK=>?_|simp only [wS]|(refine Rj ac ?_)|(apply bx.fM (dw ly);(·exact wA);(·exact sA);(·exact pA);rintro _ _ rfl hS hw _;have hS:=lA hS;have hq:=rV hS hw)|(apply bx.fM (NW _);(·exact wA);(·exact sA);(·exact pA);rintro _ _ rfl hS hw _;have hS:=lA hS;have hq:=rV hS hw)|(apply eI.fM (ki b t.d _ t.io 6 0 zF);(·exact wA);(·exact sA);(·exact pA);(rintro xw _ _ _ hS hw _;have hS:=lA hS;(try (have hq:=rV hS hw))))|(apply bx.fM (mh b t.d _ _ _ _ _ _ _ _ _ lp);(·exact wA);(·exact sA);(·exact pA);rintro _ _ _ hS hw _;have hS:=lA hS;have hq:=rV hS hw)|(show cM _ _ _ _ _ _;refine nx ?_)|(refine wc rfl (λhc=>?_) (λhc=>?_)<;>(try simp at hc)))
       refine⟨_,by (simp [AW.ab];rfl),by trivial,?_⟩;apply ik.bX;apply aj.nF;apply aj.nF
       (·exact sA)
       . dsimp only [jP,aU.rT,aU.to,aU.rO,aU.gX,aU.eY,aU.lu,aU.d]
         (try simp only [dO])
         dsimp only [eG,gM,eF,gJ,gO,mG]
         (·repeat' (first|apply bf.z|apply bf.s|apply aE.z|apply aE.s))
       (·repeat' (first|apply bf.z|apply bf.s|apply aE.z|apply aE.s))
       all_goals(exact 0)
     | cons y l'=>
       have e:({ t with dY:=qc (y::l') }:aU).kM={ t with dY:=qc (y::l') }:=rfl;rw [e];have NW:=λn=>Fo n (y::l') qk rfl;intro A F hw dU;refine aK kaQ λ_=>?_;dsimp only [aa,ah] at dU;obtain⟨⟨di,fe,ly,fK,vs,vo⟩,js⟩:=ik.open dU .z;clear dU;dsimp only [jP,aa,ah] at js;rw [dO,ef,fz] at js;dsimp only [eG,gM,eF,gJ,gO,mG] at js;have hS:=aj.Na js (.s (.s (.s .z)));clear js;have hq:=rV hS hw
       repeat' (first|(refine iT λR hR=>?_;simp [hq,AW.ab,aG,bh.v];try simp (disch:=omega) only [ay,aw,af,an])|(refine hR _ _ ?_;clear hR R)|(refine hK _ _ ?_;clear hK K)|refine nx ?_|refine wn λK hK=>?_|simp only [wS]|(refine Rj ac ?_)|(apply bx.fM (dw ly);(·exact wA);(·exact sA);(·exact pA);rintro _ _ rfl hS hw _;have hS:=lA hS;have hq:=rV hS hw)|(apply bx.fM (NW _);(·exact wA);(·exact sA);(·exact pA);rintro _ _ rfl hS hw _;have hS:=lA hS;have hq:=rV hS hw)|(show cM _ _ _ _ _ _;refine nx ?_)|(refine wc rfl (λhc=>?_) (λhc=>?_)<;>(try simp at hc)))
       refine⟨_,by (simp [AW.ab];rfl),by trivial,?_⟩;apply ik.bX;apply aj.nF;apply aj.nF
       (·exact sA)
       . dsimp only [jP,aU.rT,aU.to,aU.rO,aU.gX,aU.eY,aU.lu,aU.d]
         (try simp only [dO,ef])
         dsimp only [eG,gM,eF,gJ,gO,mG]
         (·repeat' (first|apply bf.z|apply bf.s|apply aE.z|apply aE.pt|apply aE.s))
       (·repeat' (first|apply bf.z|apply bf.s|apply aE.z|apply aE.s))
       all_goals(exact 0)
theorem pZ [Gl] {L G K:List It} (h':bf L G K:=by first|((repeat' (first|apply bf.z|apply bf.s|apply aE.z|apply aE.pt|apply aE.s));done)|fail):bf L G K:=h'
theorem rh [Gl] {L K:List It} {x:It} (h':aE L x K:=by first|((repeat' (first|apply bf.z|apply bf.s|apply aE.z|apply aE.pt|apply aE.s));done)|fail):aE L x K:=h'
end
section
abbrev wM:List (Nat×Nat):=[(0,0),(1,0),(2,0),(3,0),(4,0),(5,0),(6,0),(7,3)]
abbrev wL:List (Nat×Nat):=[(0,0),(1,0),(2,0),(3,0),(4,0),(5,0),(6,0),(7,0),(8,0),(9,0),(10,0),(11,3),(12,0),(13,0),(14,0),(15,0),(16,3)]
open T2
variable [Gl]
structure HV (t:aU) (s:aI) (M:Mm):Prop where
 hB:Ux t
 um:Mf s M
 hC:iu (ba s M).2.2.1
 hi:cW t.fW=0
 bY:t.pc<t.aD.length
 dw:t.bd=true->t.fW.op=12\/t.fW.op=13
 hwk:t.bd=false->eH t.aD t.b9.toNat=7/\0<=t.b9
 tE:∀x∈(ba s M).2.2.1.aA,x<2^62
 Qa:(ba s M).2.2.1.aA.length<=8
theorem yZ (hF:FOK) {t:aU} {s:aI} {M:Mm} (h:HV t s M) (q:pI) (b pb:Nat) (dO:t.fR=qc s) (ef:t.ee=qh) (fz:t.dY=qh) (E0:CR q t.aD) :
 eI qV 91 [pv b,pv pb] [.h (ik q b t),ei pb M] (λev v=>v=qA #[eK (t.xJ M s).1,ev]) (λev=>[.h (ik q b (t.xJ M s).2.2.1),ei pb (t.xJ M s).2.2.2,.h (gA ev (t.xJ M s).2.1)]):=
 L1 hF q b pb t s M dO ef fz h.hB h.um h.hC h.hi h.bY h.dw h.hwk h.tE h.Qa E0
theorem Po (hF:FOK) (q:pI) (b pb:Nat) (t:aU) (M:Mm) (i:bq) (dO:t.fR=qh) (ef:t.ee=qh) (fz:t.dY=qh) (hB:Ux t) (nq:i.op=12\/i.op=13) (hi:cW i=0) (E0:CR q t.aD)
 (hadv:t.cf.bd=qg->HV ({ t with bd:=qg,gf:=0 }:aU).tS (gv (fh t.cf t.id)).2 M) :
 eI qV 132 [pv b,pv pb,k8 i] [.h (ik q b t),ei pb M] (λev v=>v=qA #[eK (t.plain M i).1,ev]) (λev=>[.h (ik q b (t.plain M i).2.2.1),ei pb (t.plain M i).2.2.2,.h (gA ev (t.plain M i).2.1)]):=by
 have lp:0<=t.pc/\t.pc<2^40:=hB.pc;have zF:t.io.length<2^30:=by have:=hB.io;omega
 have rH:=hB.cf;have hwd:=rH.bg;have hct:=hB.xT;have iZ:q8.wrap t.d.cf.bg=t.d.cf.bg:=(an Ya Ya:q8.wrap t.cf.bg=t.cf.bg);have htg:t.py i=rZ t.d i:=by
  unfold aU.py rZ;rfl
 have htn:=UR t.d i;unfold aU.plain;dsimp only;rw [htg];by_cases h1:t.d.cf.bg<=rZ t.d i
 . rw [ay (show t.cf.bg<=rZ t.d i from h1)];rcases nq with h2|h2
   . obtain⟨op,i1,i2,i3,cy⟩:=i;dsimp only at h2;subst h2;have ha:=(ox hi).1 rfl;dsimp only at ha;have Fg:=λx w=>AP (d:=t.d) (w:=w) (x:=x) ha;rw [ay rfl];unfold k8;intro A F hw dU;refine aK kbn λ_=>?_;dsimp only [aa,ah] at dU;obtain⟨⟨di,fe,ly,fK,vs,vo⟩,hS⟩:=ik.open dU .z;clear dU;dsimp only [jP,aa,ah] at hS;rw [dO,ef,fz] at hS;dsimp only [eG,gM,eF,gJ,gO,mG] at hS;have hq:=gI hS hw;have Qe:b<A.next:=hw.lt (hS.g 0 rfl);have nb1:(b=A.next+1+1)=False:=eq_false Ya;have pE:(b=A.next+1+1+1)=False:=eq_false Ya;have zN:(A.next+1+1=b)=False:=eq_false Ya;have Bb:(A.next+1+1+1=b)=False:=eq_false Ya;revert hq hS hw;refine Wu (J5 (Tg.mk (n:=10) (λ{A L K k} x1=>FI (A:=A) (L:=L) (K:=K) (k:=k) b t.d x1 ⟨12,i1,i2,i3,cy⟩ (.inl rfl) hi)) (Tg.mk (n:=36) (λx1=>ki b { t.d with dX:=t.d.dX.set i1 0 } x1 t.io 7 7 zF)) (Tg.mk (n:=37) (λx1 x2 x3 x4 x5 x6 x7 x8 x9=>mh b { t.d with dX:=t.d.dX.set i1 0 } x1 x2 x3 x4 x5 x6 x7 x8 x9 lp)) (od wM) (od wL)) (J6 iZ h1 Fg ha.1 ha.2 bC) ?_<;>(unhygienic intros)
     refine⟨_,by (simp [AW.ab];rfl),?_⟩;apply Ay
     (·rfl)
     apply ik.bX;apply gA.nil
     (·exact sA)
     . dsimp only [jP,aU.rT,aU.to,aU.rO,aU.gX,aU.eY,aU.lu,aU.d]
       (try simp only [dO,ef,fz])
       dsimp only [eG,gM,eF,gJ,gO,mG]
       (·exact pZ)
     (·exact pZ)
     all_goals(exact 0)
   obtain⟨op,i1,i2,i3,cy⟩:=i;dsimp only at h2;subst h2;rw [aw (show ¬(13:Int)=12 by decide)];unfold k8;intro A F hw dU;refine aK kbn λ_=>?_;dsimp only [aa,ah] at dU;obtain⟨⟨di,fe,ly,fK,vs,vo⟩,hS⟩:=ik.open dU .z;clear dU;dsimp only [jP,aa,ah] at hS;rw [dO,ef,fz] at hS;dsimp only [eG,gM,eF,gJ,gO,mG] at hS;have hq:=gI hS hw;have Qe:b<A.next:=hw.lt (hS.g 0 rfl);have nb1:(b=A.next+1+1)=False:=eq_false Ya;have pE:(b=A.next+1+1+1)=False:=eq_false Ya;have zN:(A.next+1+1=b)=False:=eq_false Ya;have Bb:(A.next+1+1+1=b)=False:=eq_false Ya;revert hq hS hw;refine Wu (J5 (Tg.mk (n:=10) (λ{A L K k} x1=>FI (A:=A) (L:=L) (K:=K) (k:=k) b t.d x1 ⟨13,i1,i2,i3,cy⟩ (.inr rfl) hi)) (Tg.mk (n:=36) (λx1=>ki b t.d x1 t.io 7 7 zF)) (Tg.mk (n:=37) (λx1 x2 x3 x4 x5 x6 x7 x8 x9=>mh b t.d x1 x2 x3 x4 x5 x6 x7 x8 x9 lp)) (od wM) (od wL)) (J3 iZ h1 bC) ?_<;>(unhygienic intros)
   refine⟨_,by (simp [AW.ab];rfl),?_⟩;apply Ay
   (·rfl)
   apply ik.bX;apply gA.nil
   (·exact sA)
   . dsimp only [jP,aU.rT,aU.to,aU.rO,aU.gX,aU.eY,aU.lu,aU.d]
     (try simp only [dO,ef,fz])
     dsimp only [eG,gM,eF,gJ,gO,mG]
     (·exact pZ)
   (·exact pZ)
   all_goals(exact 0)
 rw [aw (show ¬t.cf.bg<=rZ t.d i from h1)];by_cases h3:t.d.cf.bd=qg
 . rw [ay (show t.cf.bd=qg from h3)];have Tw:=yZ hF (hadv h3) q b pb rfl ef fz E0;have hcf2:da t.d.cf:=rH;rcases nq with h2|h2
   all_goals
    obtain⟨op,i1,i2,i3,cy⟩:=i;dsimp only at h2;subst h2;unfold k8;intro A F hw dU;refine aK kbn λ_=>?_;dsimp only [aa,ah] at dU;obtain⟨⟨di,fe,ly,fK,vs,vo⟩,hS⟩:=ik.open dU .z;clear dU;dsimp only [jP,aa,ah] at hS;rw [dO,ef,fz] at hS;dsimp only [eG,gM,eF,gJ,gO,mG] at hS;have hq:=gI hS hw;have Qe:b<A.next:=hw.lt (hS.g 0 rfl);have nb1:(b=A.next+1+1)=False:=eq_false Ya;have pE:(b=A.next+1+1+1)=False:=eq_false Ya;have zN:(A.next+1+1=b)=False:=eq_false Ya;have Bb:(A.next+1+1+1=b)=False:=eq_false Ya
    all_goals(revert hq hS hw;refine Wu (J5 (Tg.mk (n:=10) (λ{A L K k} x1=>FI (A:=A) (L:=L) (K:=K) (k:=k) b t.d x1 ⟨_,i1,i2,i3,cy⟩ (by first|exact .inl rfl|exact .inr rfl) hi)) (Tg.mk (n:=36) (λx1=>D2 b { t.d with bd:=qg,gf:=0 } x1 hcf2 hct)) (Tg.mk (n:=35) @Tw) (od wM) (od wL)) (J5 iZ h1 h3 @eK.eq_1 bC) ?_<;>unhygienic intros)
    refine⟨_,by (simp [AW.ab];rfl),?_⟩;apply Ay
    (·rfl)
    apply aj.bX
    (·exact sA)
    (·exact pZ)
 rw [aw (show ¬t.cf.bd=qg from h3)];have hwd2:t.d.cf.bg<=64:=hwd.2;have jE:IntKind.i64.wrap (rZ t.d i)=rZ t.d i:=af Ya Ya;rcases nq with h2|h2
 . obtain⟨op,i1,i2,i3,cy⟩:=i;dsimp only at h2;subst h2;rw [ay rfl];have e:t.DV ⟨12,i1,i2,i3,cy⟩ (iL M 1 (rZ t.d ⟨12,i1,i2,i3,cy⟩)).put=((t.gX i1 (iL M 1 (rZ t.d ⟨12,i1,i2,i3,cy⟩)).put).rO 4 (iL M 1 (rZ t.d ⟨12,i1,i2,i3,cy⟩)).put).rT:=ay rfl;rw [e];have V0:=λw {A L K} {k:Value->AW->Prop}=>FI (A:=A) (L:=L) (K:=K) (k:=k) b t.d w ⟨12,i1,i2,i3,cy⟩ (.inl rfl) hi;generalize DG:rZ t.d ⟨12,i1,i2,i3,cy⟩=Ka at *;unfold k8;unfold k8 at V0;intro A F hw dU;refine aK kbn λ_=>?_;dsimp only [aa,ah] at dU;obtain⟨⟨di,fe,ly,fK,vs,vo⟩,hS⟩:=ik.open dU .z;clear dU;dsimp only [jP,aa,ah] at hS;rw [dO,ef,fz] at hS;dsimp only [eG,gM,eF,gJ,gO,mG] at hS;have hq:=gI hS hw;have Qe:b<A.next:=hw.lt (hS.g 0 rfl);have nb1:(b=A.next+1+1)=False:=eq_false Ya;have pE:(b=A.next+1+1+1)=False:=eq_false Ya;have zN:(A.next+1+1=b)=False:=eq_false Ya;have Bb:(A.next+1+1+1=b)=False:=eq_false Ya
   repeat' (first|(refine iT λR hR=>?_;simp [hq,nb1,iZ,jE,h1,h3,AW.ab,aG,bh.v];try simp (disch:=omega) only [aw])|(refine hR _ _ ?_;clear hR R)|(refine hK _ _ ?_;clear hK K)|refine nx ?_|(refine Sp λR hR=>?_;simp [hq,AW.ab,aG];try simp (disch:=omega) only [ay,aw,af,an])|(refine OM (λR hR=>?_) (λR hR=>?_)<;>(simp [hq,aG];try simp (disch:=omega) only [ay,aw,af,an]))|refine So ?_|refine wn λK hK=>?_|simp only [wS]|simp only [bI,u6,mJ,Option.map_none,kaK,List.getElem?_cons_zero,List.getElem?_cons_succ,List.getD_cons_zero,List.getD_cons_succ]|(refine ⟨λA' g=>by simp [g],?_⟩)|(refine wt (λA'=>A'.bk (A.next+1+1+1)=qc (.cells [qb qa 0,qb qa t.d.id,qb qa 1,qb qa Ka,qf qh 0 0,qf qh 0 0] qg 1)) Tryz.mx [0,1,2,3,0] (.aM 0 (.aM 1 (.uW 2 (.aM 3 (.aM 4 .nil)) 3 (.aM 2 (.aM 4 .nil))))) Yc λK hK=>?_)|(apply V0 _;(·exact wA);(·exact sA);(·exact kA);)|(apply bx.fM (VT pb M 1 Ka);(·exact wA);(·exact sA);(·exact pA);rintro _ _ rfl hS hw _;have hS:=lA hS;have hq:=gI hS hw)|(apply eI.fM (EE b t.d _ _ _ _ _ _ _ _ _ i1 i2 i3 cy _ t.io hi lp zF);(·exact wA);(·exact sA);(·exact pA);(rintro xw _ _ _ hS hw _;have hS:=lA hS;(try (have hq:=gI hS hw))))|(show cM _ _ _ _ _ _;refine nx ?_)|(refine wc rfl (λhc=>?_) (λhc=>?_)<;>(try simp at hc)))
   all_goals(
    refine⟨_,by (simp [hq,AW.ab];rfl),?_⟩;apply Ay
    (·rfl)
    apply ik.bX
    . apply gA.aM (e:=⟨0,t.id,1,Ka,[],[]⟩) (r:=qf qh 0 0) (w:=qf qh 0 0);apply aj.vF qa;apply aj.vF qa
      (·exact sA)
      (·repeat' (first|apply aE.z|apply aE.s))
      (·repeat' (apply aE.z))
      (·repeat' (apply aE.z))
    . dsimp only [jP,aU.rT,aU.to,aU.rO,aU.gX,aU.eY,aU.lu,aU.d]
      (try simp only [dO,ef,fz])
      dsimp only [eG,gM,eF,gJ,gO,mG]
      (·exact pZ)
    (·exact pZ)
    all_goals(exact 0))
 obtain⟨op,i1,i2,i3,cy⟩:=i;dsimp only at h2;subst h2;rw [aw (show ¬(13:Int)=12 by decide)];have hb:=(ox hi).2.1 rfl;dsimp only at hb;have zY:=λw=>sR (d:=t.d) (w:=w) hb;have e:t.DV ⟨13,i1,i2,i3,cy⟩ (EM M 1 (rZ t.d ⟨13,i1,i2,i3,cy⟩) (t.d.dX.bk i2)).put=(t.rO 5 (EM M 1 (rZ t.d ⟨13,i1,i2,i3,cy⟩) (t.d.dX.bk i2)).put).rT:=aw (show ¬(13:Int)=12 by decide);have e0:t.dX.bk i2=t.d.dX.bk i2:=rfl;dsimp only;rw [e0,e];have V0:=λw {A L K} {k:Value->AW->Prop}=>FI (A:=A) (L:=L) (K:=K) (k:=k) b t.d w ⟨13,i1,i2,i3,cy⟩ (.inr rfl) hi;generalize DG:rZ t.d ⟨13,i1,i2,i3,cy⟩=Ka at *;unfold k8;unfold k8 at V0;intro A F hw dU;refine aK kbn λ_=>?_;dsimp only [aa,ah] at dU;obtain⟨⟨di,fe,ly,fK,vs,vo⟩,hS⟩:=ik.open dU .z;clear dU;dsimp only [jP,aa,ah] at hS;rw [dO,ef,fz] at hS;dsimp only [eG,gM,eF,gJ,gO,mG] at hS;have hq:=gI hS hw;have Qe:b<A.next:=hw.lt (hS.g 0 rfl);have nb1:(b=A.next+1+1)=False:=eq_false Ya
 have pE:(b=A.next+1+1+1)=False:=eq_false Ya;have zN:(A.next+1+1=b)=False:=eq_false Ya;have Bb:(A.next+1+1+1=b)=False:=eq_false Ya
 repeat' (first|(refine iT λR hR=>?_;simp [hq,nb1,pE,iZ,jE,h1,h3,zY,hb.1,hb.2,AW.ab,aG,bh.v];try simp (disch:=omega) only [aw])|(refine hR _ _ ?_;clear hR R)|(refine hK _ _ ?_;clear hK K)|refine nx ?_|(refine Sp λR hR=>?_;simp [hq,AW.ab,aG];try simp (disch:=omega) only [ay,aw,af,an])|(refine OM (λR hR=>?_) (λR hR=>?_)<;>(simp [hq,aG];try simp (disch:=omega) only [ay,aw,af,an]))|refine So ?_|refine wn λK hK=>?_|simp only [wS,wL]|simp only [bI,u6,mJ,Option.map_none,kaK,List.getElem?_cons_zero,List.getElem?_cons_succ,List.getD_cons_zero,List.getD_cons_succ]|refine wl Tryz.mx wL Yc λK hK=>?_|(refine ⟨λA' g=>by simp [g],?_⟩)|(refine wt (λA'=>A'.bk (A.next+1+1+1)=qc (.cells [qb qa 0,qb qa t.d.id,qb qa 2,qb qa Ka,qf qh 0 0,qf qh 0 0] qg 1)) Tryz.mx [0,1,2,3,0] (.aM 0 (.aM 1 (.uW 2 (.aM 3 (.aM 4 .nil)) 3 (.aM 2 (.aM 4 .nil))))) Yc λK hK=>?_)|(apply V0 _;(·exact wA);(·exact sA);(·exact kA);)|(apply bx.fM (stL pb M 1 Ka _);(·exact wA);(·exact sA);(·exact pA);rintro _ _ rfl hS hw _;have hS:=lA hS;have hq:=gI hS hw)|(apply eI.fM (ED b t.d _ _ _ _ _ _ _ _ _ i1 i2 i3 cy _ t.io hi lp zF);(·exact wA);(·exact sA);(·exact pA);(rintro xw _ _ _ hS hw _;have hS:=lA hS;(try (have hq:=gI hS hw))))|(show cM _ _ _ _ _ _;refine nx ?_)|(refine wc rfl (λhc=>?_) (λhc=>?_)<;>(try simp at hc)))
 all_goals(
  refine⟨_,by (simp [hq,AW.ab];rfl),?_⟩;apply Ay
  (·rfl)
  apply ik.bX
  . apply gA.aM (e:=⟨0,t.id,2,Ka,[],[]⟩) (r:=qf qh 0 0) (w:=qf qh 0 0);apply aj.vF qa;apply aj.vF qa
    (·exact sA)
    (·repeat' (first|apply aE.z|apply aE.s))
    (·repeat' (apply aE.z))
    (·repeat' (apply aE.z))
  . dsimp only [jP,aU.rT,aU.to,aU.rO,aU.gX,aU.eY,aU.lu,aU.d]
    (try simp only [dO,ef,fz])
    dsimp only [eG,gM,eF,gJ,gO,mG]
    (·exact pZ)
  (·exact pZ)
  all_goals(exact 0))
end
end Go.Stx
