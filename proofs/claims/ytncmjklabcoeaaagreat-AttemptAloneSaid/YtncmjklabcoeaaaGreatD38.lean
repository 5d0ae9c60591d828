/-
 The reference's attempt: steps.
-/
import Derived.Test.YtncmjklabcoeaaaGreatD27
import Derived.Test.YtncmjklabcoeaaaGreatD28
import Derived.Test.YtncmjklabcoeaaaGreatD35
set_option linter.unusedVariables false
set_option linter.unusedSimpArgs false
set_option maxRecDepth 20000
set_option maxHeartbeats 4000000
namespace Go.Stx
open Go Go.Proofs
attribute [local irreducible] fj cm aH bB dK ei
abbrev jg:List (Nat×Nat):=[(0,0),(1,0),(2,0),(3,0),(4,0),(5,0),(6,0),(7,0),(8,0),(9,0),(10,0),(11,0),(12,2),(13,0),(14,0),(15,3)]
open T28 T16
def fQ (b mb:Nat) (s:aD) (M:Mm):Prop:=
 aP Tryz.prog 33 [pv b,pv mb] [.h (bF b s),fw s.cf mb M] (fun v=>v=.tuple #[(cD s M).1.v,.int .i64 (cD s M).2.1])
  (fun _=>[.h (bF b (cD s M).2.2.1),fw s.cf mb (cD s M).2.2.2])
theorem A8 (b mb:Nat) (s:aD) (M:Mm) (hM:fE M) (hd:s.aA=.fm) (hc:dt s.cf) (hp:s.am=0) (t:fL) (ht:s.aE=some t):fQ b mb s M:=by
 have Gd:=hd
 obtain⟨cf,ag,av,ax,value,br,ai,ah,ac,ap,set,aM,ao,aj,aG,aE,am,aA⟩:=s
 dsimp only at hd
 subst hd
 unfold fQ
 dsimp only at hc hp ht
 subst hp ht
 rw [show cD ⟨cf,ag,av,ax,value,br,ai,ah,ac,ap,set,aM,ao,aj,aG,some t,0,.fm⟩ M=(wx M 5 0 (pg t.eo),20,gg ⟨cf,ag,av,ax,value,br,ai,ah,ac,ap,set,aM,ao,aj,aG,some t,0,.fm⟩,ww M 5 0 (pg t.eo)) from rfl]
 by_cases h1:ax=1
 · subst h1
   rw [show gg ⟨cf,ag,av,1,value,br,ai,ah,ac,ap,set,aM,ao,aj,aG,some t,0,.fm⟩=⟨cf,ag,av,1,value,br,ai,ah,ac,ap,set,aM,ao,aj,aG,some t,0,.fW⟩ from if_pos (.inl rfl)]
   intro A F hw hS
   refine ab Tryz.func33 rfl (by kernel_rfl) fun _=>?_
   dsimp only [na,zo] at hS
   obtain⟨⟨bh,aY,az,aJ,aK,m,dy,k,ja,dr,bS,aw,aB,va,vv,vi,fA,fk,dD,dL,cI,jv,dO,dP,cG,cx,dv,cH,dN,bU,bt,dM,bT⟩,hS⟩:=bF.open hS .z
   dsimp only [bE,bH,cJ,bj,cR,eQ,cO,bf,ff,bO,bP,bd,be,bL,bc,bN,aO,aI,bM,aN,bJ,aT,aQ,aD.rv,na,zo] at hS
   try simp only [cV] at hS
   have hq:=ZL hS hw
   have hS:=qY.op hS (.s (.s (.s .z)))
   have hq:=ZL hS hw
   revert hq hS hw hc;clear hq;clear hS;clear hS;refine Wr (J2 (od jg) (yC cf mb t.eo M hM)) (J4 @AW.aa @af.eq_1 @aS.eq_1 @bq.v.eq_1) (J1 ?_)<;>unhygienic intros
   refine⟨_,by simp [hq,AW.aa,af];rfl,by first|(simp [bq.v,bq.zero];done)|(simp [bq.v,bq.zero,h];done),?_⟩
   apply bF.cC
   (·exact sA)
   (dsimp only [bE,bH,cJ,bj,cR,eQ,cO,bf,ff,bO,bP,bd,be,bL,bc,bN,aO,aI,bM,aN,bJ,aT,aQ,aD.rv,na,zo])
   (try simp only [cV])
   (try simp only [h])
   (·first|exact pR|exact kR)
   (·first|exact pR|exact kR)
   all_goals(first|exact 0|exact undef)
 · have Ox:=yr b ⟨cf,ag,av,ax,value,br,ai,ah,ac,ap,set,aM,ao,aj,aG,some t,0,.fm⟩ 14 hc h1 rfl
   intro A F hw hS
   refine ab Tryz.func33 rfl (by kernel_rfl) fun _=>?_
   dsimp only [na,zo] at hS
   obtain⟨⟨bh,aY,az,aJ,aK,m,dy,k,ja,dr,bS,aw,aB,va,vv,vi,fA,fk,dD,dL,cI,jv,dO,dP,cG,cx,dv,cH,dN,bU,bt,dM,bT⟩,hS⟩:=bF.open hS .z
   dsimp only [bE,bH,cJ,bj,cR,eQ,cO,bf,ff,bO,bP,bd,be,bL,bc,bN,aO,aI,bM,aN,bJ,aT,aQ,aD.rv,na,zo] at hS
   try simp only [cV] at hS
   have hq:=ZL hS hw
   have hS:=qY.op hS (.s (.s (.s .z)))
   have hq:=ZL hS hw
   revert hq hS hw;(repeat first|clear hq|clear hS|clear hw|revert hc|revert zn|revert zA|revert R|revert K);refine Wr (J3 (Tg.mk (n:=24) @Ox) (od jg) (yC cf mb t.eo M hM)) (J5 h1 @AW.aa @af.eq_1 @aS.eq_1 @bq.v.eq_1) (J1 ?_)<;>unhygienic intros
   refine⟨_,by simp [hq,AW.aa,af];rfl,by first|(simp [bq.v,bq.zero];done)|(simp [bq.v,bq.zero,h];done),?_⟩
   apply an.cC
   (·exact sA)
   (·first|exact pR|exact kR)
end Go.Stx
