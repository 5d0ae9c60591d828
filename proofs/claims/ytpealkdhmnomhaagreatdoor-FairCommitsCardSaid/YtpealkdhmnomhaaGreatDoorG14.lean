/-
 The program's attempt: its steps, second part.
-/
import Derived.Test.YtpealkdhmnomhaaGreatDoorG13
set_option linter.unusedVariables false
set_option linter.unusedSimpArgs false
set_option linter.unusedSectionVars false
set_option maxRecDepth 20000
set_option maxHeartbeats 4000000
open Go.Proofs.Tryz renaming func154->kbN,func155->ka3,prog->qV
open Go.Value renaming int->Zb
open List renaming replicate->qX,replicate_succ->ka0
open Bool renaming false->qk,true->qg
open Go renaming undef->qz
open Go.IntKind renaming i64->qa
open Go.Stx.eh renaming cells->qi
open Go.Value renaming int->qb,slice->qf,tuple->qA
open Option renaming none->qh,some->qc
namespace Go.Stx
open Go Go.Proofs
attribute [local irreducible] TW bI cM aV aB aL cU dh
section
abbrev Rx:List (Nat×Nat):=[(0,0),(1,0),(2,2),(3,3),(4,0)]
open T17 T13
variable [Gl]
theorem KC (b pb:Nat) (s:aI) (p:rM) (M:Mm) (hd:s.aH=.eP p) (hC:iu s) (rj:s.ar.length<8) (lh:0<=p.eZ/\p.eZ<=3) (IR:(gH p M).2.1.block<s.cf.nb) (lp:(gH p M).2.1.eZ=p.eZ) :
 bx qV 153 [pv b,pv pb] [.h (bp b s),ei pb M] (λv=>v=qA #[(lD s M p).1.v,qb qa (lD s M p).2.1])
  (λ_=>[.h (bp b (lD s M p).2.2.1),ei pb (lD s M p).2.2.2]):=by
 (unhygienic cases s);dsimp only at hd;subst hd;dsimp only at rj IR;obtain⟨x,p',M',hr⟩:∃x e' M',gH p M=(x,e',M'):=⟨_,_,_,rfl⟩;have dT:=λn=>KS n pb p M;rw [hr] at dT IR lp;dsimp only at IR lp;by_cases h:p'.cr=3
 . have e:lD ⟨cf,am,aF,aD,value,bT,ao,reads,ar,aA,set,bG,aC,av,aP,aN,ax,.eP p⟩ M p=(x,kg x,fq ⟨cf,am,aF,aD,value,bT,ao,reads,ar,aA,set,bG,aC,av,aP,aN,ax,.bL⟩ p.eZ p'.block,M'):=by
    unfold lD;rw [hr];dsimp only;rw [ay h]
   rw [e];have V0:=λm c c'=>FG b m c c' ⟨cf,am,aF,aD,value,bT,ao,reads,ar,aA,set,bG,aC,av,aP,aN,ax,.bL⟩ p' ⟨hC.cf,hC.Mn,hC.bG,hC.eV,hC.cg,hC.Ka,hC.Uw,hC.oO,hC.push,hC.set,hC.iJ,hC.E1⟩ rj IR (by rw [lp];exact lh);rw [lp] at V0;intro A F hw hS;refine aK Tryz.func153 λ_=>?_;dsimp only [aa,ah] at hS;obtain⟨x0,hS⟩:=bp.open hS .z;(unhygienic cases x0);dsimp only [cX,jk,dk,fi,bJ.gB,aa,ah] at hS;have hq:=fv hS hw;revert hq hS hw;clear hS;refine Wp (J5 (Tg.mk (n:=10) @Ea) (Tg.mk (n:=22) (V0 m c0 c1)) (Tg.mk (n:=19) (λ{A L k}=>B9 (A:=A) (L:=L) (k:=k) (a:=x))) (od Rx) (dT m)) (J4 h bC @bn.eq_1 @bh.v.eq_1) ?_<;>(unhygienic intros);refine⟨_,by simp [AW.ab];rfl,by (simp [bh.v];done),?_⟩;apply aj.bX
   (·exact sA)
   (·exact pP)
 have e:lD ⟨cf,am,aF,aD,value,bT,ao,reads,ar,aA,set,bG,aC,av,aP,aN,ax,.eP p⟩ M p=(x,kg x,⟨cf,am,aF,aD,value,bT,ao,reads,ar,aA,set,bG,aC,av,aP,aN,ax,.eP p'⟩,M'):=by
  unfold lD;rw [hr];dsimp only;rw [aw h]
 rw [e];intro A F hw hS;refine aK Tryz.func153 λ_=>?_;dsimp only [aa,ah] at hS;obtain⟨x0,hS⟩:=bp.open hS .z;(unhygienic cases x0);dsimp only [cX,jk,dk,fi,bJ.gB,aa,ah] at hS;rw [<-lp] at hS;have hq:=fv hS hw;revert hq hS hw;(repeat clear hS);refine Wp (J4 (Tg.mk (n:=10) @Ea) (Tg.mk (n:=19) (λ{A L k}=>B9 (A:=A) (L:=L) (k:=k) (a:=x))) (od Rx) (dT m)) (J4 h bC @bn.eq_1 @bh.v.eq_1) ?_<;>(unhygienic intros);refine⟨_,by simp [AW.ab];rfl,by (simp [bh.v];done),?_⟩;apply bp.bX
 (·exact sA)
 exact fP
 (·exact pP)
 all_goals(first|exact 0|exact qz)
theorem Ip (b pb:Nat) (s:aI) (l:iI) (M:Mm) (hd:s.aH=.eg) (hl:s.aP=qc l) (bW:l.ey.length<=l.av.length) (NR:l.av.length<2^38) :
 bx qV 154 [pv b,pv pb] [.h (bp b s),ei pb M] (λv=>v=qA #[(iy s M l).1.v,qb qa (iy s M l).2.1])
  (λ_=>[.h (bp b (iy s M l).2.2.1),ei pb (iy s M l).2.2.2]):=by
 (unhygienic cases s);dsimp only at hd;subst hd;dsimp only at hl;subst hl;obtain⟨x,l',M',hr⟩:∃x e' M',dI l M=(x,e',M'):=⟨_,_,_,rfl⟩;have dT:=λn=>PH n pb l M bW NR;rw [hr] at dT;by_cases h:x.fx=3<;>cases h2:l'.done
 . have e:iy ⟨cf,am,aF,aD,value,bT,ao,reads,ar,aA,set,bG,aC,av,qc l,aN,ax,.eg⟩ M l=(x,12,⟨cf,am,aF,aD,value,bT,ao,reads,ar,aA,set,bG,aC,av,qc l',aN,ax,.eg⟩,M'):=by
    unfold iy;rw [hr];dsimp only;rw [h2];simp [h]
   rw [e];intro A F hw hS;refine aK kbN λ_=>?_;dsimp only [aa,ah] at hS;obtain⟨x0,hS⟩:=bp.open hS .z;(unhygienic cases x0);dsimp only [cX,jk,dk,fi,bJ.gB,aa,ah] at hS;have hS:=xm.op hS (.s (.s .z));have hq:=fv hS hw;revert hq hS hw;clear hS;clear hS;refine Wp (J3 (Tg.mk (n:=10) @sf) @oG (dT dz)) (J7 h h2 @kF.eq_1 @kF.eq_2 bC @bn.eq_1 @bh.v.eq_1) ?_<;>(unhygienic intros);refine⟨_,by simp [AW.ab];rfl,by (simp [bh.v,h];done),?_⟩;apply bp.bX
   (·exact sA)
   exact fP
   (·exact pP)
   all_goals(exact 0)
 . have e:iy ⟨cf,am,aF,aD,value,bT,ao,reads,ar,aA,set,bG,aC,av,qc l,aN,ax,.eg⟩ M l=(x,12,⟨cf,am,aF,aD,value,bT,ao,reads,ar,aA,set,bG,aC,av,qc l',qc ⟨qk,0,qk⟩,ax,.cY⟩,M'):=by
    unfold iy;rw [hr];dsimp only;rw [h2];simp [h]
   rw [e];intro A F hw hS;refine aK kbN λ_=>?_;dsimp only [aa,ah] at hS;obtain⟨x0,hS⟩:=bp.open hS .z;(unhygienic cases x0);dsimp only [cX,jk,dk,fi,bJ.gB,aa,ah] at hS;have hS:=xm.op hS (.s (.s .z));have hq:=fv hS hw;revert hq hS hw;(repeat clear hS);refine Wp (J3 (Tg.mk (n:=10) @sf) @oG (dT dz)) (J7 h h2 @kF.eq_1 @kF.eq_2 bC @bn.eq_1 @bh.v.eq_1) ?_<;>(unhygienic intros);refine⟨_,by simp [AW.ab];rfl,by (simp [bh.v,h];done),?_⟩;apply bp.bX
   (·exact sA)
   exact fP
   (·exact pP)
   all_goals(exact 0)
 . have e:iy ⟨cf,am,aF,aD,value,bT,ao,reads,ar,aA,set,bG,aC,av,qc l,aN,ax,.eg⟩ M l=(x,11,⟨cf,am,aF,aD,value,bT,ao,reads,ar,aA,set,bG,aC,av,qc l',aN,ax,.eg⟩,M'):=by
    unfold iy;rw [hr];dsimp only;rw [h2];simp [h]
   rw [e];intro A F hw hS;refine aK kbN λ_=>?_;dsimp only [aa,ah] at hS;obtain⟨x0,hS⟩:=bp.open hS .z;(unhygienic cases x0);dsimp only [cX,jk,dk,fi,bJ.gB,aa,ah] at hS;have hS:=xm.op hS (.s (.s .z));have hq:=fv hS hw;revert hq hS hw;(repeat clear hS);refine Wp (J3 (Tg.mk (n:=10) @sf) @oG (dT dz)) (J7 h h2 @kF.eq_1 @kF.eq_2 bC @bn.eq_1 @bh.v.eq_1) ?_<;>(unhygienic intros);refine⟨_,by simp [AW.ab];rfl,by (simp [bh.v];done),?_⟩;apply bp.bX
   (·exact sA)
   exact fP
   (·exact pP)
   all_goals(exact 0)
 have e:iy ⟨cf,am,aF,aD,value,bT,ao,reads,ar,aA,set,bG,aC,av,qc l,aN,ax,.eg⟩ M l=(x,11,⟨cf,am,aF,aD,value,bT,ao,reads,ar,aA,set,bG,aC,av,qc l',qc ⟨qk,0,qk⟩,ax,.cY⟩,M'):=by
  unfold iy;rw [hr];dsimp only;rw [h2];simp [h]
 rw [e];intro A F hw hS;refine aK kbN λ_=>?_;dsimp only [aa,ah] at hS;obtain⟨x0,hS⟩:=bp.open hS .z;(unhygienic cases x0);dsimp only [cX,jk,dk,fi,bJ.gB,aa,ah] at hS;have hS:=xm.op hS (.s (.s .z));have hq:=fv hS hw;revert hq hS hw;(repeat clear hS);refine Wp (J3 (Tg.mk (n:=10) @sf) @oG (dT dz)) (J7 h h2 @kF.eq_1 @kF.eq_2 bC @bn.eq_1 @bh.v.eq_1) ?_<;>(unhygienic intros);refine⟨_,by simp [AW.ab];rfl,by (simp [bh.v];done),?_⟩;apply bp.bX
 (·exact sA)
 exact fP
 (·exact pP)
 all_goals(exact 0)
theorem ig {A:AW} {L K:List It} {k:Value->AW->Prop} {v:Value} {l:List Int} {x:Int} (hw:A.Wf) (hS:aj A L) (hp:aE L (.h (au qa v l)) K) (hl:l.length<2^38) (hk:k (.bool (decide (x∈l))) A) :
 aB qV 105 [v,qb qa x] A k:=by
 refine bD (AC v l x A (aj.tC hS hp) Ya) ?_;rintro _ _ ⟨rfl,rfl⟩ _ _;exact hk
end
section
open T17 T13
variable [Gl]
theorem Im (b pb:Nat) (s:aI) (t:jh) (M:Mm) (hd:s.aH=.cY) (hl:s.aN=qc t) (OO:s.set.length<2^38) :
 bx qV 155 [pv b,pv pb] [.h (bp b s),ei pb M] (λv=>v=qA #[(ij s M t).1.v,qb qa (ij s M t).2.1])
  (λ_=>[.h (bp b (ij s M t).2.2.1),ei pb (ij s M t).2.2.2]):=by
 (unhygienic cases s);dsimp only at hd;subst hd;dsimp only at hl OO;subst hl;obtain⟨x,t',M',hr⟩:∃x e' M',fX t M=(x,e',M'):=⟨_,_,_,rfl⟩;have dT:=λn=>Ib n pb t M;rw [hr] at dT;by_cases h:x.fx=4<;>cases h2:t'.done
 . have e:ij ⟨cf,am,aF,aD,value,bT,ao,reads,ar,aA,set,bG,aC,av,aP,qc t,ax,.cY⟩ M t=(x,13,⟨cf,am,aF,aD,value,bT,ao,reads,ar,aA,set,bG,aC,av,aP,qc t',ax,.cY⟩,M'):=by
    unfold ij;rw [hr];dsimp only;rw [h2];simp [h]
   rw [e];intro A F hw hS;refine aK ka3 λ_=>?_;dsimp only [aa,ah] at hS;obtain⟨x0,hS⟩:=bp.open hS .z;(unhygienic cases x0);dsimp only [cX,jk,dk,fi,bJ.gB,aa,ah] at hS;have hS:=y6.op hS (.s (.s (.s .z)));have hq:=fv hS hw;revert hq hS hw;clear hS;clear hS;refine Wp (J2 (Tg.mk (n:=10) @mB) (dT dv)) (J7 h h2 @ju.eq_1 @ju.eq_2 bC @bn.eq_1 @bh.v.eq_1) ?_<;>(unhygienic intros);refine⟨_,by simp [AW.ab];rfl,by (simp [bh.v,h];done),?_⟩;apply bp.bX
   (·exact sA)
   exact fP
   (·exact pP)
   all_goals(exact 0)
 . by_cases h3:set.length=0
   . have e:ij ⟨cf,am,aF,aD,value,bT,ao,reads,ar,aA,set,bG,aC,av,aP,qc t,ax,.cY⟩ M t=(x,13,⟨cf,am,aF,aD,value,bT,ao,reads,ar,aA,set,bG,aC,av,aP,qc t',ax,.bM⟩,M'):=by
      unfold ij;rw [hr];dsimp only;rw [h2];simp [h,h3]
     rw [e];intro A F hw hS;refine aK ka3 λ_=>?_;dsimp only [aa,ah] at hS;obtain⟨x0,hS⟩:=bp.open hS .z;(unhygienic cases x0);dsimp only [cX,jk,dk,fi,bJ.gB,aa,ah] at hS;have hS:=y6.op hS (.s (.s (.s .z)));have hq:=fv hS hw;have h4:∀rv,(iU.mk set rv qk).done=qg:=λrv=>by simp [iU.done,h3]
     revert hq hS hw;(repeat clear hS);refine Wp (J6 (Tg.mk (n:=10) @mB) (Tg.mk (n:=11) @tU) (Tg.mk (n:=11) @se) (Tg.mk (n:=30) (λA' h1 h2=>u9 b ⟨cf,am,aF,aD,value,bT,ao,reads,ar,aA,set,bG,aC,av,aP,qc t',ax,.cY⟩ 6 .cY A' h1 h2)) (Tg.mk (n:=10) @lP) (dT dv)) (J8 h h2 h4 @ju.eq_1 @ju.eq_2 bC @bn.eq_1 @bh.v.eq_1) ?_<;>(unhygienic intros);refine⟨_,by simp [AW.ab];rfl,by (simp [bh.v,h];done),?_⟩;apply bp.bX
     (·exact sA)
     exact fP
     (·exact pP)
     all_goals(exact 0)
   have e:ij ⟨cf,am,aF,aD,value,bT,ao,reads,ar,aA,set,bG,aC,av,aP,qc t,ax,.cY⟩ M t=(x,13,⟨cf,am,aF,aD,value,bT,ao,reads,ar,aA,set,bG,aC,av,aP,qc t',ax,.cG ⟨set,aI.rv ⟨cf,am,aF,aD,value,bT,ao,reads,ar,aA,set,bG,aC,av,aP,qc t',ax,.cY⟩,qk⟩⟩,M'):=by
    unfold ij;rw [hr];dsimp only;rw [h2];simp [h,h3,aI.rv]
   rw [e];intro A F hw hS;refine aK ka3 λ_=>?_;dsimp only [aa,ah] at hS;obtain⟨x0,hS⟩:=bp.open hS .z;(unhygienic cases x0);dsimp only [cX,jk,dk,fi,bJ.gB,aa,ah] at hS;have hS:=y6.op hS (.s (.s (.s .z)));have hq:=fv hS hw;have h4:∀rv,(iU.mk set rv qk).done=qk:=λrv=>by simp [iU.done];exact λh=>h3 Ys
   revert hq hS hw;(repeat clear hS);refine Wp (J6 (Tg.mk (n:=10) @mB) (Tg.mk (n:=11) @tU) (Tg.mk (n:=11) @se) (Tg.mk (n:=30) (λA' h1 h2=>u9 b ⟨cf,am,aF,aD,value,bT,ao,reads,ar,aA,set,bG,aC,av,aP,qc t',ax,.cY⟩ 6 .cY A' h1 h2)) (Tg.mk (n:=10) @lP) (dT dv)) (J8 h h2 h4 @ju.eq_1 @ju.eq_2 bC @bn.eq_1 @bh.v.eq_1) ?_<;>(unhygienic intros);refine⟨_,by simp [AW.ab];rfl,by (simp [bh.v,h];done),?_⟩;apply bp.bX
   (·exact sA)
   exact fP
   (·exact pP)
   all_goals(first|exact 0|exact qz)
 . have e:ij ⟨cf,am,aF,aD,value,bT,ao,reads,ar,aA,set,bG,aC,av,aP,qc t,ax,.cY⟩ M t=(x,14,⟨cf,am,aF,aD,value,bT,ao,reads,ar,aA,set,bG,aC,av,aP,qc t',ax,.cY⟩,M'):=by
    unfold ij;rw [hr];dsimp only;rw [h2];simp [h]
   rw [e];intro A F hw hS;refine aK ka3 λ_=>?_;dsimp only [aa,ah] at hS;obtain⟨x0,hS⟩:=bp.open hS .z;(unhygienic cases x0);dsimp only [cX,jk,dk,fi,bJ.gB,aa,ah] at hS;have hS:=y6.op hS (.s (.s (.s .z)));have hq:=fv hS hw;revert hq hS hw;(repeat clear hS);refine Wp (J2 (Tg.mk (n:=10) @mB) (dT dv)) (J7 h h2 @ju.eq_1 @ju.eq_2 bC @bn.eq_1 @bh.v.eq_1) ?_<;>(unhygienic intros);refine⟨_,by simp [AW.ab];rfl,by (simp [bh.v];done),?_⟩;apply bp.bX
   (·exact sA)
   exact fP
   (·exact pP)
   all_goals(exact 0)
 by_cases h3:set.length=0
 . have e:ij ⟨cf,am,aF,aD,value,bT,ao,reads,ar,aA,set,bG,aC,av,aP,qc t,ax,.cY⟩ M t=(x,14,⟨cf,am,aF,aD,value,bT,ao,reads,ar,aA,set,bG,aC,av,aP,qc t',ax,.bM⟩,M'):=by
    unfold ij;rw [hr];dsimp only;rw [h2];simp [h,h3]
   rw [e];intro A F hw hS;refine aK ka3 λ_=>?_;dsimp only [aa,ah] at hS;obtain⟨x0,hS⟩:=bp.open hS .z;(unhygienic cases x0);dsimp only [cX,jk,dk,fi,bJ.gB,aa,ah] at hS;have hS:=y6.op hS (.s (.s (.s .z)));have hq:=fv hS hw;have h4:∀rv,(iU.mk set rv qk).done=qg:=λrv=>by simp [iU.done,h3]
   revert hq hS hw;(repeat clear hS);refine Wp (J6 (Tg.mk (n:=10) @mB) (Tg.mk (n:=11) @tU) (Tg.mk (n:=11) @se) (Tg.mk (n:=30) (λA' h1 h2=>u9 b ⟨cf,am,aF,aD,value,bT,ao,reads,ar,aA,set,bG,aC,av,aP,qc t',ax,.cY⟩ 6 .cY A' h1 h2)) (Tg.mk (n:=10) @lP) (dT dv)) (J8 h h2 h4 @ju.eq_1 @ju.eq_2 bC @bn.eq_1 @bh.v.eq_1) ?_<;>(unhygienic intros);refine⟨_,by simp [AW.ab];rfl,by (simp [bh.v];done),?_⟩;apply bp.bX
   (·exact sA)
   exact fP
   (·exact pP)
   all_goals(exact 0)
 have e:ij ⟨cf,am,aF,aD,value,bT,ao,reads,ar,aA,set,bG,aC,av,aP,qc t,ax,.cY⟩ M t=(x,14,⟨cf,am,aF,aD,value,bT,ao,reads,ar,aA,set,bG,aC,av,aP,qc t',ax,.cG ⟨set,aI.rv ⟨cf,am,aF,aD,value,bT,ao,reads,ar,aA,set,bG,aC,av,aP,qc t',ax,.cY⟩,qk⟩⟩,M'):=by
  unfold ij;rw [hr];dsimp only;rw [h2];simp [h,h3,aI.rv]
 rw [e];intro A F hw hS;refine aK ka3 λ_=>?_;dsimp only [aa,ah] at hS;obtain⟨x0,hS⟩:=bp.open hS .z;(unhygienic cases x0);dsimp only [cX,jk,dk,fi,bJ.gB,aa,ah] at hS;have hS:=y6.op hS (.s (.s (.s .z)));have hq:=fv hS hw;have h4:∀rv,(iU.mk set rv qk).done=qk:=λrv=>by simp [iU.done];exact λh=>h3 Ys
 revert hq hS hw;(repeat clear hS);refine Wp (J6 (Tg.mk (n:=10) @mB) (Tg.mk (n:=11) @tU) (Tg.mk (n:=11) @se) (Tg.mk (n:=30) (λA' h1 h2=>u9 b ⟨cf,am,aF,aD,value,bT,ao,reads,ar,aA,set,bG,aC,av,aP,qc t',ax,.cY⟩ 6 .cY A' h1 h2)) (Tg.mk (n:=10) @lP) (dT dv)) (J8 h h2 h4 @ju.eq_1 @ju.eq_2 bC @bn.eq_1 @bh.v.eq_1) ?_<;>(unhygienic intros);refine⟨_,by simp [AW.ab];rfl,by (simp [bh.v];done),?_⟩;apply bp.bX
 (·exact sA)
 exact fP
 (·exact pP)
 all_goals(first|exact 0|exact qz)
theorem FQ (b pb:Nat) (s:aI) (c:iU) (M:Mm) (hd:s.aH=.cG c) (hol:s.av.length<2^20) (Wi:s.av.length=0\/∃l,s.aP=qc l/\s.av.length=l.ey.length) :
 bx qV 156 [pv b,pv pb] [.h (bp b s),ei pb M] (λv=>v=qA #[(gr s M c).1.v,qb qa (gr s M c).2.1])
  (λ_=>[.h (bp b (gr s M c).2.2.1),ei pb (gr s M c).2.2.2]):=by
 (unhygienic cases s);dsimp only at hd;subst hd;dsimp only at hol Wi;obtain⟨x,c',M',hr⟩:∃x e' M',eD c M=(x,e',M'):=⟨_,_,_,rfl⟩;have dT:=λn=>Hs n pb c M;rw [hr] at dT;cases h2:c'.kB
 . cases h3:c'.done
   . have e:gr ⟨cf,am,aF,aD,value,bT,ao,reads,ar,aA,set,bG,aC,av,aP,aN,ax,.cG c⟩ M c=(x,15,⟨cf,am,aF,aD,value,bT,ao,reads,ar,aA,set,bG,aC,av,aP,aN,ax,.cG c'⟩,M'):=by
      unfold gr;rw [hr];dsimp only;rw [h2,h3];simp
     rw [e];intro A F hw hS;refine aK Tryz.func156 λ_=>?_;dsimp only [aa,ah] at hS;obtain⟨x0,hS⟩:=bp.open hS .z;(unhygienic cases x0);dsimp only [cX,jk,dk,fi,bJ.gB,aa,ah] at hS;have hq:=fv hS hw;revert hq hS hw;clear hS;refine Wp (J3 (Tg.mk (n:=10) @rK) (Tg.mk (n:=10) @lP) (dT m)) (J5 h2 h3 bC @bn.eq_1 @bh.v.eq_1) ?_<;>(unhygienic intros);refine⟨_,by simp [AW.ab];rfl,by (simp [bh.v];done),?_⟩;apply bp.bX
     (·exact sA)
     exact fP
     (·exact pP)
     all_goals(first|exact 0|exact qz)
   have e:gr ⟨cf,am,aF,aD,value,bT,ao,reads,ar,aA,set,bG,aC,av,aP,aN,ax,.cG c⟩ M c=(x,15,⟨cf,am,aF,aD,value,bT,ao,reads,ar,aA,set,bG,aC,av,aP,aN,ax,.bM⟩,M'):=by
    unfold gr;rw [hr];dsimp only;rw [h2,h3];simp
   rw [e];intro A F hw hS;refine aK Tryz.func156 λ_=>?_;dsimp only [aa,ah] at hS;obtain⟨x0,hS⟩:=bp.open hS .z;(unhygienic cases x0);dsimp only [cX,jk,dk,fi,bJ.gB,aa,ah] at hS;have hq:=fv hS hw;revert hq hS hw;(repeat clear hS);refine Wp (J3 (Tg.mk (n:=10) @rK) (Tg.mk (n:=10) @lP) (dT m)) (J5 h2 h3 bC @bn.eq_1 @bh.v.eq_1) ?_<;>(unhygienic intros);refine⟨_,by simp [AW.ab];rfl,by (simp [bh.v];done),?_⟩;apply bp.bX
   (·exact sA)
   exact fP
   (·exact pP)
   all_goals(exact 0)
 have e:gr ⟨cf,am,aF,aD,value,bT,ao,reads,ar,aA,set,bG,aC,av,aP,aN,ax,.cG c⟩ M c=(x,15,fO ⟨cf,am,aF,9,value,bT,ao,reads,ar,aA,set,bG,aC,av,aP,aN,ax,.cG c'⟩,M'):=by
  unfold gr;rw [hr];dsimp only;rw [h2];simp
 rw [e];intro A F hw hS;refine aK Tryz.func156 λ_=>?_;dsimp only [aa,ah] at hS;obtain⟨x0,hS⟩:=bp.open hS .z;(unhygienic cases x0);dsimp only [cX,jk,dk,fi,bJ.gB,aa,ah] at hS;have hq:=fv hS hw
 repeat' (first|(refine iT λR hR=>?_;simp [hq,h2,AW.ab,aG,bh.v];try simp (disch:=omega) only [ay,aw,af,an])|(refine hR _ _ ?_;clear hR R)|(refine hK _ _ ?_;clear hK K)|refine nx ?_|refine wn λK hK=>?_|simp only [wS]|(apply bx.fM (dT m);(·exact wA);(·exact sA);(·exact pP);rintro _ _ rfl hS hw _;have hS:=lA hS;have hq:=El hS hw)|(apply rK;(·exact wA);(·exact sA);(·exact kP);)|(apply bx.lj (wu b ⟨cf,am,aF,9,value,bT,ao,reads,ar,aA,set,bG,aC,av,aP,aN,ax,.cG c'⟩ 7 (.cG c') (by exact hol) (by exact Wi));(·exact wA);(·exact sA);(·exact fP);(·exact pP);(rintro _ _ _ hS hw _;have hS:=lA hS);(try (have hq:=El hS hw));all_goals(try (first|exact 0|exact qz)))|(show cM _ _ _ _ _ _;refine nx ?_)|(refine wc rfl (λhc=>?_) (λhc=>?_)<;>(try simp at hc)))
 refine⟨_,by simp [AW.ab];rfl,by (simp [bh.v];done),?_⟩;apply aj.bX
 (·exact sA)
 (·exact pP)
end
section
abbrev Cg:List (Nat×Nat):=[(0,0),(1,2),(2,0),(3,0),(4,0),(5,0),(6,0),(7,0),(8,0),(9,0),(10,0),(11,0),(12,0),(13,0),(14,0)]
abbrev Cf:List (Nat×Nat):=[(0,0),(1,0),(2,0),(3,0),(4,0),(5,0),(6,0),(8,0),(9,0),(10,0),(11,0),(12,0),(7,2),(13,2),(14,2),(15,0),(16,0),(17,3),(18,0),(19,0),(20,0),(21,3)]
open T17 T13
variable [Gl]
theorem Dc (b pb:Nat) (s:aI) (w:jO) (M:Mm) (hd:s.aH=.bE w) (bW:w.os.length=w.ws.length) :
 bx qV 159 [pv b,pv pb] [.h (bp b s),ei pb M] (λv=>v=qA #[(nK s M w).1.v,qb qa (nK s M w).2.1])
  (λ_=>[.h (bp b (nK s M w).2.2.1),ei pb (nK s M w).2.2.2]):=by
 (unhygienic cases s);dsimp only at hd;subst hd;obtain⟨x,w',M',hr⟩:∃x e' M',fF w M=(x,e',M'):=⟨_,_,_,rfl⟩;have dT:=λn=>SL n pb w M bW;rw [hr] at dT;have hvv:∀dd,aI.oX ⟨cf,am,aF,aD,value,bT,ao,reads,ar,aA,set,bG,aC,av,aP,aN,ax,dd⟩=aI.oX ⟨cf,am,aF,aD,value,bT,ao,reads,ar,aA,set,bG,aC,av,aP,aN,ax,.bE w⟩:=λdd=>rfl;obtain⟨vr,hvr⟩:∃vr,aI.oX ⟨cf,am,aF,aD,value,bT,ao,reads,ar,aA,set,bG,aC,av,aP,aN,ax,.bE w⟩=vr:=⟨_,rfl⟩;rw [hvr] at hvv;cases h2:w'.done
 . have e:nK ⟨cf,am,aF,aD,value,bT,ao,reads,ar,aA,set,bG,aC,av,aP,aN,ax,.bE w⟩ M w=(x,18,⟨cf,am,aF,aD,value,bT,ao,reads,ar,aA,set,bG,aC,av,aP,aN,ax,.bE w'⟩,M'):=by
    unfold nK;rw [hr];dsimp only;rw [h2];simp
   rw [e];intro A F hw hS;refine aK Tryz.func159 λ_=>?_;dsimp only [aa,ah] at hS;obtain⟨x0,hS⟩:=bp.open hS .z;(unhygienic cases x0);dsimp only [cX,jk,dk,fi,bJ.gB,aa,ah] at hS;have hq:=fv hS hw;revert hq hS hw;clear hS;refine Wp (J2 (Tg.mk (n:=10) @yg) (dT m)) (J4 h2 bC @bn.eq_1 @bh.v.eq_1) ?_<;>(unhygienic intros);refine⟨_,by simp [AW.ab];rfl,by (simp [bh.v];done),?_⟩;apply bp.bX
   (·exact sA)
   exact fP
   (·exact pP)
   all_goals(first|exact 0|exact qz)
 by_cases h:0<=vr
 . have e:nK ⟨cf,am,aF,aD,value,bT,ao,reads,ar,aA,set,bG,aC,av,aP,aN,ax,.bE w⟩ M w=(x,18,⟨cf,am,aF,aD,value,bT,ao,reads,ar,aA,set,bG,aC,av,aP,aN,ax,.eA⟩,M'):=by
    unfold nK;rw [hr];dsimp only;rw [h2,hvr,ay rfl,ay h]
   rw [e];intro A F hw hS;refine aK Tryz.func159 λ_=>?_;dsimp only [aa,ah] at hS;obtain⟨x0,hS⟩:=bp.open hS .z;(unhygienic cases x0);dsimp only [cX,jk,dk,fi,bJ.gB,aa,ah] at hS;have hq:=fv hS hw;revert hq hS hw;(repeat clear hS);refine Wp (J3 (Tg.mk (n:=10) @yg) (Tg.mk (n:=30) (λA' h1 h2=>rX b ⟨cf,am,aF,aD,value,bT,ao,reads,ar,aA,set,bG,aC,av,aP,aN,ax,.bE w'⟩ 12 (.bE w') A' h1 h2)) (dT m)) (J6 h h2 hvv bC @bn.eq_1 @bh.v.eq_1) ?_<;>(unhygienic intros);refine⟨_,by simp [AW.ab];rfl,by (simp [bh.v];done),?_⟩;apply bp.bX
   (·exact sA)
   exact fP
   (·exact pP)
   all_goals(exact 0)
 have e:nK ⟨cf,am,aF,aD,value,bT,ao,reads,ar,aA,set,bG,aC,av,aP,aN,ax,.bE w⟩ M w=(x,18,⟨cf,am,aF,aD,value,bT,ao,reads,ar,aA,set,bG,aC,av,aP,aN,ax,.eb⟩,M'):=by
  unfold nK;rw [hr];dsimp only;rw [h2,hvr,ay rfl,aw h]
 rw [e];intro A F hw hS;refine aK Tryz.func159 λ_=>?_;dsimp only [aa,ah] at hS;obtain⟨x0,hS⟩:=bp.open hS .z;(unhygienic cases x0);dsimp only [cX,jk,dk,fi,bJ.gB,aa,ah] at hS;have hq:=fv hS hw;revert hq hS hw;(repeat clear hS);refine Wp (J3 (Tg.mk (n:=10) @yg) (Tg.mk (n:=30) (λA' h1 h2=>rX b ⟨cf,am,aF,aD,value,bT,ao,reads,ar,aA,set,bG,aC,av,aP,aN,ax,.bE w'⟩ 12 (.bE w') A' h1 h2)) (dT m)) (J6 h h2 hvv bC @bn.eq_1 @bh.v.eq_1) ?_<;>(unhygienic intros);refine⟨_,by simp [AW.ab];rfl,by (simp [bh.v];done),?_⟩;apply bp.bX
 (·exact sA)
 exact fP
 (·exact pP)
 all_goals(exact 0)
theorem EL (b pb:Nat) (s:aI)  (M:Mm) (hd:s.aH=.bM) (hC:iu s) (hol:s.av.length<2^20) (Wi:s.av.length=0\/∃l,s.aP=qc l/\s.av.length=l.ey.length) :
 bx qV 157 [pv b,pv pb] [.h (bp b s),ei pb M] (λv=>v=qA #[(fm s M).1.v,qb qa (fm s M).2.1])
  (λ_=>[.h (bp b (fm s M).2.2.1),ei pb (fm s M).2.2.2]):=by
 (unhygienic cases s);dsimp only at hd;subst hd;dsimp only at hol Wi;have bW:=hC.len;have hvl:=hC.bG.PN;dsimp only at bW hvl;obtain⟨x,hx⟩:∃x,iL M 3 0=x:=⟨_,rfl⟩;have dT:=VT pb M 3 0;rw [hx] at dT;obtain⟨t0,t1⟩:=hC.cf.aC;dsimp only at t0 t1;have hwc:IntKind.u64.wrap cf.aC=cf.aC:=an Ya Ya;cases h3:aI.iO ⟨cf,am,aF,aD,value,bT,ao,reads,ar,aA,set,bG,aC,av,aP,aN,ax,.bM⟩
 . have h4:∀ck dc,aI.iO ⟨cf,am,aF,aD,value,bT,dc,reads,ar,aA,set,bG,ck,av,aP,aN,ax,.bM⟩=qk:=λ_ _=>h3;have e:fm ⟨cf,am,aF,aD,value,bT,ao,reads,ar,aA,set,bG,aC,av,aP,aN,ax,.bM⟩ M=(x,16,fO ⟨cf,am,aF,aD,value,bT,qg,reads,ar,aA,set,bG,x.eY,av,aP,aN,ax,.bM⟩,M):=by
    unfold fm;rw [hx,h3];simp
   rw [e];intro A F hw hS;refine aK Tryz.func157 λ_=>?_;dsimp only [aa,ah] at hS;obtain⟨x0,hS⟩:=bp.open hS .z;(unhygienic cases x0);dsimp only [cX,jk,dk,fi,bJ.gB,aa,ah] at hS;have hq:=fv hS hw
   repeat' (first|(refine iT λR hR=>?_;simp [hq,h4,AW.ab,aG,bh.v];try simp (disch:=omega) only [ay,aw,af,an])|(refine hR _ _ ?_;clear hR R)|(refine hK _ _ ?_;clear hK K)|refine nx ?_|refine wn λK hK=>?_|simp only [wS,Cg]|refine wl Tryz.mx Cg Yc λK hK=>?_|(apply bx.fM (dT);(·exact wA);(·exact sA);(·exact pP);rintro _ _ rfl hS hw _;have hS:=lA hS;have hq:=El hS hw)|(apply Es (λA' h1 h2=>mi b ⟨cf,am,aF,aD,value,bT,ao,reads,ar,aA,set,bG,x.eY,av,aP,aN,ax,.bM⟩ 8 .bM A' h1 h2);(·exact wA);(·exact sA);(·exact fP);all_goals(try (exact 0)))|(apply Es (λA' h1 h2=>mi b ⟨cf,am,aF,aD,value,bT,qg,reads,ar,aA,set,bG,x.eY,av,aP,aN,ax,.bM⟩ 8 .bM A' h1 h2);(·exact wA);(·exact sA);(·exact fP);all_goals(try (exact 0)))|(apply bx.lj (wu b ⟨cf,am,aF,aD,value,bT,qg,reads,ar,aA,set,bG,x.eY,av,aP,aN,ax,.bM⟩ 8 .bM hol Wi);(·exact wA);(·exact sA);(·exact fP);(·exact pP);(rintro _ _ _ hS hw _;have hS:=lA hS);(try (have hq:=El hS hw));all_goals(try (exact 0)))|(show cM _ _ _ _ _ _;refine nx ?_)|(refine wc rfl (λhc=>?_) (λhc=>?_)<;>(try simp at hc)<;>(try (simp [h4] at hc;done))))
   refine⟨_,by simp [AW.ab];rfl,by (simp [bh.v];done),?_⟩;apply aj.bX
   (·exact sA)
   (·exact pP)
 have h4:∀ck dc,aI.iO ⟨cf,am,aF,aD,value,bT,dc,reads,ar,aA,set,bG,ck,av,aP,aN,ax,.bM⟩=qg:=λ_ _=>h3;by_cases h:cf.aC<=x.eY
 . have e:fm ⟨cf,am,aF,aD,value,bT,ao,reads,ar,aA,set,bG,aC,av,aP,aN,ax,.bM⟩ M=(x,16,fO ⟨cf,am,aF,6,value,bT,ao,reads,ar,aA,set,bG,x.eY,av,aP,aN,ax,.bM⟩,M):=by
    unfold fm;rw [hx,h3,hwc];simp [h]
   rw [e];intro A F hw hS;refine aK Tryz.func157 λ_=>?_;dsimp only [aa,ah] at hS;obtain⟨x0,hS⟩:=bp.open hS .z;(unhygienic cases x0);dsimp only [cX,jk,dk,fi,bJ.gB,aa,ah] at hS;have hq:=fv hS hw;revert hq hS hw;(repeat clear hS);refine Wp (J5 (Tg.mk (n:=30) (λA' h1 h2=>mi b ⟨cf,am,aF,aD,value,bT,ao,reads,ar,aA,set,bG,x.eY,av,aP,aN,ax,.bM⟩ 8 .bM A' h1 h2)) (Tg.mk (n:=20) (wu b ⟨cf,am,aF,6,value,bT,ao,reads,ar,aA,set,bG,x.eY,av,aP,aN,ax,.bM⟩ 8 .bM hol Wi)) (od Cg) (od Cf) @dT) (J6 h h4 hwc bC @bn.eq_1 @bh.v.eq_1) ?_<;>(unhygienic intros);refine⟨_,by simp [AW.ab];rfl,by (simp [bh.v];done),?_⟩;apply aj.bX
   (·exact sA)
   (·exact pP)
 have e:fm ⟨cf,am,aF,aD,value,bT,ao,reads,ar,aA,set,bG,aC,av,aP,aN,ax,.bM⟩ M=(x,16,⟨cf,am,aF,aD,value,bT,qg,reads,ar,aA,set,bG,x.eY,av,aP,aN,ax,.dt ⟨bG.bZ,bG.fU⟩⟩,M):=by
  unfold fm;rw [hx,h3,hwc];simp [h]
 rw [e];intro A F hw hS;refine aK Tryz.func157 λ_=>?_;dsimp only [aa,ah] at hS;obtain⟨x0,hS⟩:=bp.open hS .z;(unhygienic cases x0);dsimp only [cX,jk,dk,fi,bJ.gB,aa,ah] at hS;have hq:=fv hS hw
 repeat' (first|(refine iT λR hR=>?_;simp [hq,h,h4,hwc,AW.ab,aG,bh.v];try simp (disch:=omega) only [ay,aw,af,an])|(refine hR _ _ ?_;clear hR R)|(refine hK _ _ ?_;clear hK K)|refine nx ?_|refine wn λK hK=>?_|simp only [wS,Cg,Cf]|refine wl Tryz.mx Cg Yc λK hK=>?_|refine wl Tryz.mx Cf Yc λK hK=>?_|(apply bx.fM (dT);(·exact wA);(·exact sA);(·exact pP);rintro _ _ rfl hS hw _;have hS:=lA hS;have hq:=El hS hw)|(apply Es (λA' h1 h2=>mi b ⟨cf,am,aF,aD,value,bT,ao,reads,ar,aA,set,bG,x.eY,av,aP,aN,ax,.bM⟩ 8 .bM A' h1 h2);(·exact wA);(·exact sA);(·exact fP);all_goals(try (exact 0)))|(apply Es (λA' h1 h2=>mi b ⟨cf,am,aF,aD,value,bT,qg,reads,ar,aA,set,bG,x.eY,av,aP,aN,ax,.bM⟩ 8 .bM A' h1 h2);(·exact wA);(·exact sA);(·exact fP);all_goals(try (exact 0)))|(apply wT;(·exact wA);(·exact sA);(·exact kP);(·omega);((rintro _ _ _ hS hw fA);(try refine⟨fA,?_⟩);have hq:=El hS hw))|(apply II;(·exact wA);(·exact sA);(·exact kP);(·omega);((rintro _ _ _ hS hw fA);(try refine⟨fA,?_⟩);have hq:=El hS hw))|(apply Lc;(·exact wA);(·exact sA);(·exact kP);(·exact kP);(·omega);(·omega);((rintro _ _ hS hw fA);(try refine⟨fA,?_⟩);have hq:=El hS hw))|(show cM _ _ _ _ _ _;refine nx ?_)|(refine wc rfl (λhc=>?_) (λhc=>?_)<;>(try simp at hc)<;>(try (simp [h4] at hc;done))))
 refine⟨_,by simp [AW.ab];rfl,by (simp [bh.v];done),?_⟩;apply bp.bX
 (·exact sA)
 exact fP
 (·exact pP)
 all_goals(first|exact 0|exact qz)
end
section
open T17 T13
variable [Gl]
theorem au.VH {A:AW} {F:HP} (kk:IntKind) (n:Nat) (h:bB A F) (hw:A.Wf):bB (A.alloc (qi (fB [qb kk 0] n) qg 1)) (au kk (qf (qc ⟨A.next,0,qh⟩) n n) (qX n 0)*F):=by
 have bW:(fB [Zb kk 0] n).length=n:=by simp [kw]
 have hcs:(qX n (0:Int)).map (Zb kk)=fB [Zb kk 0] n:=by
  clear bW
  induction n with
  | zero=>rfl
  | succ n ih=>rw [ka0,List.map_cons,ih];rfl
 refine au.mk Yb Yb YE ?_ (h.alloc hw _);rw [hcs,List.drop_zero,List.take_of_length_le YE]
theorem aj.VH {A:AW} {L:List It} (kk:IntKind) (n:Nat) (h:aj A L) (hw:A.Wf):aj (A.alloc (qi (fB [qb kk 0] n) qg 1)) (.h (au kk (qf (qc ⟨A.next,0,qh⟩) n n) (qX n 0))::L):=au.VH kk n h hw
theorem FM (b pb:Nat) (s:aI) (w:jO) (M:Mm) (hd:s.aH=.dt w) (bW:w.os.length=w.ws.length) (hol:s.av.length<2^20) :
 bx qV 158 [pv b,pv pb] [.h (bp b s),ei pb M] (λv=>v=qA #[(go s M w).1.v,qb qa (go s M w).2.1])
  (λ_=>[.h (bp b (go s M w).2.2.1),ei pb (go s M w).2.2.2]):=by
 (unhygienic cases s);dsimp only at hd;subst hd;dsimp only at hol;obtain⟨x,w',M',hr⟩:∃x e' M',kr w M=(x,e',M'):=⟨_,_,_,rfl⟩;have dT:=λn=>UC n pb w M bW;rw [hr] at dT;obtain⟨vr,hvr⟩:∃vr,aI.oX ⟨cf,am,aF,aD,value,bT,ao,reads,ar,aA,set,bG,aC,av,aP,aN,ax,.dt w⟩=vr:=⟨_,rfl⟩;have hvv:aI.oX ⟨cf,am,aF,aD,value,bT,ao,reads,ar,aA,set,bG,aC,av,aP,aN,ax,.dt w'⟩=vr:=hvr;cases h2:w'.done
 . have e:go ⟨cf,am,aF,aD,value,bT,ao,reads,ar,aA,set,bG,aC,av,aP,aN,ax,.dt w⟩ M w=(x,17,⟨cf,am,aF,aD,value,bT,ao,reads,ar,aA,set,bG,aC,av,aP,aN,ax,.dt w'⟩,M'):=by
    unfold go;rw [hr];dsimp only;rw [h2];simp
   rw [e];intro A F hw hS;refine aK Tryz.func158 λ_=>?_;dsimp only [aa,ah] at hS;obtain⟨x0,hS⟩:=bp.open hS .z;(unhygienic cases x0);dsimp only [cX,jk,dk,fi,bJ.gB,aa,ah] at hS;have hq:=gD hS hw;revert hq hS hw;clear hS;refine Wp (J2 (Tg.mk (n:=10) @Fz) (dT m)) (J4 h2 bC @bn.eq_1 @bh.v.eq_1) ?_<;>(unhygienic intros);refine⟨_,by simp [AW.ab];rfl,by (simp [bh.v];done),?_⟩;apply bp.bX
   (·exact sA)
   exact fP
   (·exact pP)
   all_goals(first|exact 0|exact qz)
 have e:go ⟨cf,am,aF,aD,value,bT,ao,reads,ar,aA,set,bG,aC,av,aP,aN,ax,.dt w⟩ M w=(x,17,⟨cf,am,aF,aD,value,bT,ao,reads,ar,aA,set,bG,aC,av,aP,aN,ax,.bE ⟨av,qX av.length (lH vr)⟩⟩,M'):=by
  unfold go;rw [hr];dsimp only;rw [h2,ay rfl,hvr]
 rw [e];intro A F hw hS;refine aK Tryz.func158 λ_=>?_;dsimp only [aa,ah] at hS;obtain⟨x0,hS⟩:=bp.open hS .z;(unhygienic cases x0);dsimp only [cX,jk,dk,fi,bJ.gB,aa,ah] at hS;obtain⟨oo,co,rfl,_⟩:=(aj.tC hS (.s (.s (.s (.s (.s (.s (.s (.s (.s .z)))))))))).bR;have hq:=gD hS hw;revert hq hS hw;(repeat clear hS);refine Wp cx (J3 bC @bn.eq_1 @bh.v.eq_1) ?_<;>(unhygienic intros);apply bx.fM (dT m)
 (·exact wA)
 (·exact sA)
 (·exact pP)
 rintro _ A1 rfl hS hw _;have hS:=lA hS;have hq:=gD hS hw;revert hq hS hw;(repeat first|clear hq|clear hS|clear hw|revert R|revert K);refine Wp (J1 (Tg.mk (n:=10) @Fz)) (J4 h2 bC @bn.eq_1 @bh.v.eq_1) ?_<;>(unhygienic intros);obtain⟨n,hn⟩:∃n,av.length=n:=⟨_,rfl⟩;have hinv:∀i,i<=n->qX i (lH vr)++qX (n-i) 0=(qX i (lH vr)++qX (n-i) (0:Int)):=λ_ _=>rfl
 refine df (λk fr A'=>A'.Wf/\∃i:Nat,k=n-i/\i<=n/\fr 0=pv b/\fr 4=.pointer (qc ⟨A.next,0,qh⟩)/\fr 6=.pointer (qc ⟨A1.next,0,qh⟩)/\fr 7=qf (qc ⟨A1.next+1,0,qh⟩) n n/\fr 29=qb qa n/\fr 30=qb qa i/\
  aj A' (.h (au .u64 (qf (qc ⟨A1.next+1,0,qh⟩) n n) (qX i (lH vr)++qX (n-i) 0))::.at A1.next (qi [qb qa x.fx,qb qa x.cell,qb qa x.cg,qb .u64 x.eY,qb .u64 x.put,.bool x.done] qg 1)::.at A.next (qi bn qg 1)::.h (ji m w')::ei pb M'::(cX b ⟨cf,am,aF,aD,value,bT,ao,reads,ar,aA,set,bG,aC,av,aP,aN,ax,.dt w'⟩ 9 (.dt w') ⟨eT,fp,b8,dz,dv,m,c0,c1,c2,dE,bF,cF,qf oo av.length co,fa,dF,fJ,cK,cH,br,dG,dP,iw,fb⟩++[.h F]))) n ?_ ?_
 refine⟨?_,0,by simp,by simp,by simp,by simp,by simp,by simp [hn],by simp [hn],by simp,?_⟩
 (·exact wA)
 simp only [List.replicate_zero,ah,Nat.sub_zero];rw [<-hn];apply aj.bX;apply aj.VH
 (·exact sA)
 (·exact wA)
 (dsimp only [cX,jk,dk,fi,bJ.gB,sX,nD,tz,AV,nG,nA,jQ,sY,sP,AK,sQ,aa,ah])
 (·exact pP)
 rintro k fr A' ⟨hw,i,rfl,hi,h0,h4',h6,h7,h29,h30,hS⟩;dsimp only [cX,jk,dk,fi,bJ.gB,sX,nD,tz,AV,nG,nA,jQ,sY,sP,AK,sQ,aa,ah] at hS;refine aT ?_;by_cases bY:i<n
 . have fo:(i:Int)<n:=Ya;have gC:=zd (i:=i);have hll:(qX i (lH vr)++qX (n-i) (0:Int)).length=n:=Yg;obtain⟨bv,offv,cv,rowv,hv,hbv,bO,jx,js⟩:=aj.Rm hS .z (j:=i) Ya;rw [hll] at hv hbv;injection hv with Ui VZ hv3;injection Ui with Ui;injection Ui with Ui hv4 _;subst Ui;subst hv4;have rk:=hS;have hS:=js;have hq:=gD hS hw;have P8:i<rowv.length:=Ya;simp only [Nat.zero_add] at bO jx;revert hq hS hw;(repeat first|clear hq|clear hS|clear hw|revert hc);refine Wp (J2 (Tg.mk (n:=30) (λA' h1 h2=>rX b ⟨cf,am,aF,aD,value,bT,ao,reads,ar,aA,set,bG,aC,av,aP,aN,ax,.dt w'⟩ 9 (.dt w') A' h1 h2)) @Pp) (mW h0 h4' h6 h7 h29 h30 hvv bY fo gC bO P8 bC) ?_<;>(unhygienic intros);refine⟨n-(i+1),by omega,hw.set _ (aj.ltR hS hw .z (Nat.le_refl _)),i+1,rfl,by omega,by simp [h0],by simp [h4'],by simp [h6],by simp [h7],by simp [h29],by simp,?_⟩
   have h9:=jx (lH vr) _ _ (aj.gX hS .z);have e9:(qX i (lH vr)++qX (n-i) (0:Int)).set i (lH vr)=qX (i+1) (lH vr)++qX (n-(i+1)) 0:=by
    rw [List.set_append_right _ _ Yb];simp only [List.length_replicate,Nat.sub_self];rw [show n-i=(n-(i+1))+1 by omega,ka0,List.set_cons_zero,List.replicate_succ',List.append_assoc];rfl
   rw [e9] at h9;exact h9
 have Lu:i=n:=Ya
 subst Lu;simp only [Nat.sub_self,List.replicate_zero,List.append_nil] at hS;have hq:=gD hS hw;revert hq hS hw;(repeat first|clear hq|clear hS|clear hw|revert hc);refine Wp (J1 (Tg.mk (n:=12) @yl)) (J7 h0 h4' h6 h7 h29 h30 bC) ?_<;>(unhygienic intros);rw [show qX av.length (lH vr)=qX i (lH vr) by rw [hn]];refine⟨_,by simp [h4',AW.ab];rfl,by simp [bh.v,bn],?_⟩;apply bp.bX
 (·exact sA)
 exact fP
 (·exact pP)
 all_goals(first|exact 0|exact qz)
end
end Go.Stx
