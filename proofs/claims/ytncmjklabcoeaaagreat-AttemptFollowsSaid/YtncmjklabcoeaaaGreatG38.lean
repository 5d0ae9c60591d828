/-
 The reference's attempt: steps.
-/
import Derived.Test.YtncmjklabcoeaaaGreatG29
import Derived.Test.YtncmjklabcoeaaaGreatG35
set_option linter.unusedVariables false
set_option linter.unusedSimpArgs false
set_option maxRecDepth 20000
set_option maxHeartbeats 4000000
namespace Go.Stx
open Go Go.Proofs
attribute [local irreducible] fj cm aH bB dK ei
abbrev jg:List (Nat×Nat):=[(0,0),(1,0),(2,0),(3,0),(4,0),(5,0),(6,0),(7,0),(8,0),(9,0),(10,0),(11,0),(12,2),(13,0),(14,0),(15,3)]
open T28 T16
def fQ (b mb:Nat) (s:aD) (M:Mm):Prop:=
 aP Tryz.prog 33 [pv b,pv mb] [.h (bF b s),fw s.cf mb M] (fun v=>v=.tuple #[(cD s M).1.v,.int .i64 (cD s M).2.1])
  (fun _=>[.h (bF b (cD s M).2.2.1),fw s.cf mb (cD s M).2.2.2])
theorem Hc (b mb:Nat) (s:aD) (M:Mm) (hd:s.aA=.bm):fQ b mb s M:=by
 have Gd:=hd
 obtain⟨cf,ag,av,ax,value,br,ai,ah,ac,ap,set,aM,ao,aj,aG,aE,am,aA⟩:=s
 dsimp only at hd
 subst hd
 unfold fQ
 rw [show cD ⟨cf,ag,av,ax,value,br,ai,ah,ac,ap,set,aM,ao,aj,aG,aE,am,.bm⟩ M=(bq.zero,0,⟨cf,ag,av,ax,value,br,ai,ah,ac,ap,set,aM,ao,aj,aG,aE,am,.bm⟩,M) from rfl]
 intro A F hw hS
 refine ab Tryz.func33 rfl (by kernel_rfl) fun _=>?_
 dsimp only [na,zo] at hS
 obtain⟨⟨bh,aY,az,aJ,aK,m,dy,k,ja,dr,bS,aw,aB,va,vv,vi,fA,fk,dD,dL,cI,jv,dO,dP,cG,cx,dv,cH,dN,bU,bt,dM,bT⟩,tq⟩:=bF.open hS .z
 dsimp only [bE,bH,cJ,bj,cR,eQ,cO,bf,ff,bO,bP,bd,be,bL,bc,bN,aO,aI,bM,aN,bJ,aT,aQ,aD.rv,na,zo] at tq
 try simp only [cV] at tq
 have hq:=tq.eA hw
 dsimp only [na,zo,fw,eb,bp,bY,cS,eN,ko,bE,bH,cJ,bj,cR,eQ,cO,bf,ff,bO,bP,bd,be,bL,bc,bN,aO,aI,bM,aN,bJ,aT,aQ,aD.rv,na,zo] at hq
 clear tq
 revert hq hS hw;refine Wr (J1 (od jg)) (J4 @AW.aa @af.eq_1 @aS.eq_1 @bq.v.eq_1) (J1 ?_)<;>unhygienic intros
 refine⟨_,by simp [hq,AW.aa,af];rfl,by first|(simp [bq.v,bq.zero];done)|(simp [bq.v,bq.zero,h];done),?_⟩
 apply an.cC
 (·exact sA)
 (·first|exact pR|exact kR)
theorem Jm (b mb:Nat) (s:aD) (M:Mm) (l:vu) (hd:s.aA=.jV l) (hC:ep s) (hE:fe s) (hf:(s.ap.length:Int)≤s.cf.ap) (hL:Ob s.cf l):fQ b mb s M:=by
 have OH:=Fc b s l hd hC hE hf hL
 unfold nz at OH
 have Gd:=hd
 obtain⟨cf,ag,av,ax,value,br,ai,ah,ac,ap,set,aM,ao,aj,aG,aE,am,aA⟩:=s
 dsimp only at hd
 subst hd
 unfold fQ
 rw [show cD ⟨cf,ag,av,ax,value,br,ai,ah,ac,ap,set,aM,ao,aj,aG,aE,am,.jV l⟩ M=(bq.zero,0,nK ⟨cf,ag,av,ax,value,br,ai,ah,ac,ap,set,aM,ao,aj,aG,aE,am,.bm⟩ l,M) from rfl]
 intro A F hw hS
 refine ab Tryz.func33 rfl (by kernel_rfl) fun _=>?_
 dsimp only [na,zo] at hS
 obtain⟨⟨bh,aY,az,aJ,aK,m,dy,k,ja,dr,bS,aw,aB,va,vv,vi,fA,fk,dD,dL,cI,jv,dO,dP,cG,cx,dv,cH,dN,bU,bt,dM,bT⟩,tq⟩:=bF.open hS .z
 dsimp only [bE,bH,cJ,bj,cR,eQ,cO,bf,ff,bO,bP,bd,be,bL,bc,bN,aO,aI,bM,aN,bJ,aT,aQ,aD.rv,na,zo] at tq
 try simp only [cV] at tq
 have hq:=tq.eA hw
 dsimp only [na,zo,fw,eb,bp,bY,cS,eN,ko,bE,bH,cJ,bj,cR,eQ,cO,bf,ff,bO,bP,bd,be,bL,bc,bN,aO,aI,bM,aN,bJ,aT,aQ,aD.rv,na,zo] at hq
 clear tq
 revert hq hS hw;refine Wr (J2 (od jg) @OH) (J4 @AW.aa @af.eq_1 @aS.eq_1 @bq.v.eq_1) (J1 ?_)<;>unhygienic intros
 refine⟨_,by simp [hq,AW.aa,af];rfl,by first|(simp [bq.v,bq.zero];done)|(simp [bq.v,bq.zero,h];done),?_⟩
 apply an.cC
 (·exact sA)
 (·first|exact pR|exact kR)
theorem yw (b mb:Nat) (s:aD) (M:Mm) (hM:fE M) (hd:s.aA=.ij):fQ b mb s M:=by
 have Gd:=hd
 obtain⟨cf,ag,av,ax,value,br,ai,ah,ac,ap,set,aM,ao,aj,aG,aE,am,aA⟩:=s
 dsimp only at hd
 subst hd
 unfold fQ
 rw [show cD ⟨cf,ag,av,ax,value,br,ai,ah,ac,ap,set,aM,ao,aj,aG,aE,am,.ij⟩ M=(wx M 3 0 (IntKind.u64.wrap (ao+1)),19,⟨cf,ag,av,ax,value,br,ai,ah,ac,ap,set,aM,ao,aj,aG,aE,am,.fm⟩,ww M 3 0 (IntKind.u64.wrap (ao+1))) from rfl]
 intro A F hw hS
 refine ab Tryz.func33 rfl (by kernel_rfl) fun _=>?_
 dsimp only [na,zo] at hS
 obtain⟨⟨bh,aY,az,aJ,aK,m,dy,k,ja,dr,bS,aw,aB,va,vv,vi,fA,fk,dD,dL,cI,jv,dO,dP,cG,cx,dv,cH,dN,bU,bt,dM,bT⟩,hS⟩:=bF.open hS .z
 dsimp only [bE,bH,cJ,bj,cR,eQ,cO,bf,ff,bO,bP,bd,be,bL,bc,bN,aO,aI,bM,aN,bJ,aT,aQ,aD.rv,na,zo] at hS
 try simp only [cV] at hS
 have hq:=ZL hS hw
 revert hq hS hw;clear hS;refine Wr (J2 (od jg) (E7 cf mb M hM 3 0)) (J4 @AW.aa @af.eq_1 @aS.eq_1 @bq.v.eq_1) (J1 ?_)<;>unhygienic intros
 refine⟨_,by simp [hq,AW.aa,af];rfl,by first|(simp [bq.v,bq.zero];done)|(simp [bq.v,bq.zero,h];done),?_⟩
 apply bF.cC
 (·exact sA)
 (dsimp only [bE,bH,cJ,bj,cR,eQ,cO,bf,ff,bO,bP,bd,be,bL,bc,bN,aO,aI,bM,aN,bJ,aT,aQ,aD.rv,na,zo])
 (try simp only [cV])
 (try simp only [h])
 (·first|exact pR|exact kR)
 (·first|exact pR|exact kR)
 all_goals(first|exact 0|exact undef)
theorem Ba (b mb:Nat) (s:aD) (M:Mm) (hM:fE M) (hd:s.aA=.fW):fQ b mb s M:=by
 have Gd:=hd
 obtain⟨cf,ag,av,ax,value,br,ai,ah,ac,ap,set,aM,ao,aj,aG,aE,am,aA⟩:=s
 dsimp only at hd
 subst hd
 unfold fQ
 rw [show cD ⟨cf,ag,av,ax,value,br,ai,ah,ac,ap,set,aM,ao,aj,aG,aE,am,.fW⟩ M=(wx M 6 ag 0,24,⟨cf,ag,2,ax,value,br,ai,ah,ac,ap,set,aM,ao,aj,aG,aE,am,.bm⟩,ww M 6 ag 0) from rfl]
 intro A F hw hS
 refine ab Tryz.func33 rfl (by kernel_rfl) fun _=>?_
 dsimp only [na,zo] at hS
 obtain⟨⟨bh,aY,az,aJ,aK,m,dy,k,ja,dr,bS,aw,aB,va,vv,vi,fA,fk,dD,dL,cI,jv,dO,dP,cG,cx,dv,cH,dN,bU,bt,dM,bT⟩,hS⟩:=bF.open hS .z
 dsimp only [bE,bH,cJ,bj,cR,eQ,cO,bf,ff,bO,bP,bd,be,bL,bc,bN,aO,aI,bM,aN,bJ,aT,aQ,aD.rv,na,zo] at hS
 try simp only [cV] at hS
 have hq:=ZL hS hw
 revert hq hS hw;clear hS;refine Wr (J2 (od jg) (Fd cf mb ag M hM)) (J4 @AW.aa @af.eq_1 @aS.eq_1 @bq.v.eq_1) (J1 ?_)<;>unhygienic intros
 refine⟨_,by simp [hq,AW.aa,af];rfl,by first|(simp [bq.v,bq.zero];done)|(simp [bq.v,bq.zero,h];done),?_⟩
 apply bF.cC
 (·exact sA)
 (dsimp only [bE,bH,cJ,bj,cR,eQ,cO,bf,ff,bO,bP,bd,be,bL,bc,bN,aO,aI,bM,aN,bJ,aT,aQ,aD.rv,na,zo])
 (try simp only [cV])
 (try simp only [h])
 simp only [P8]
 (·first|exact pR|exact kR)
 (·first|exact pR|exact kR)
 all_goals(first|exact 0|exact undef)
theorem A8 (b mb:Nat) (s:aD) (M:Mm) (hM:fE M) (hd:s.aA=.fm) (hc:dt s.cf) (hp:s.am=0) (t:fL) (ht:s.aE=some t):fQ b mb s M:=by
 have Gd:=hd
 obtain⟨cf,ag,av,ax,value,br,ai,ah,ac,ap,set,aM,ao,aj,aG,aE,am,aA⟩:=s
 dsimp only at hd
 subst hd
 unfold fQ
 dsimp only at hc hp ht
 subst hp ht
 rw [show cD ⟨cf,ag,av,ax,value,br,ai,ah,ac,ap,set,aM,ao,aj,aG,some t,0,.fm⟩ M=(wx M 5 0 (pg t.eo),20,gg ⟨cf,ag,av,ax,value,br,ai,ah,ac,ap,set,aM,ao,aj,aG,some t,0,.fm⟩,ww M 5 0 (pg t.eo)) from rfl]
 by_cases h1:ax=1
 · subst h1
   rw [show gg ⟨cf,ag,av,1,value,br,ai,ah,ac,ap,set,aM,ao,aj,aG,some t,0,.fm⟩=⟨cf,ag,av,1,value,br,ai,ah,ac,ap,set,aM,ao,aj,aG,some t,0,.fW⟩ from if_pos (.inl rfl)]
   intro A F hw hS
   refine ab Tryz.func33 rfl (by kernel_rfl) fun _=>?_
   dsimp only [na,zo] at hS
   obtain⟨⟨bh,aY,az,aJ,aK,m,dy,k,ja,dr,bS,aw,aB,va,vv,vi,fA,fk,dD,dL,cI,jv,dO,dP,cG,cx,dv,cH,dN,bU,bt,dM,bT⟩,hS⟩:=bF.open hS .z
   dsimp only [bE,bH,cJ,bj,cR,eQ,cO,bf,ff,bO,bP,bd,be,bL,bc,bN,aO,aI,bM,aN,bJ,aT,aQ,aD.rv,na,zo] at hS
   try simp only [cV] at hS
   have hq:=ZL hS hw
   have hS:=qY.op hS (.s (.s (.s .z)))
   have hq:=ZL hS hw
   revert hq hS hw hc;clear hq;clear hS;clear hS;refine Wr (J2 (od jg) (yC cf mb t.eo M hM)) (J4 @AW.aa @af.eq_1 @aS.eq_1 @bq.v.eq_1) (J1 ?_)<;>unhygienic intros
   refine⟨_,by simp [hq,AW.aa,af];rfl,by first|(simp [bq.v,bq.zero];done)|(simp [bq.v,bq.zero,h];done),?_⟩
   apply bF.cC
   (·exact sA)
   (dsimp only [bE,bH,cJ,bj,cR,eQ,cO,bf,ff,bO,bP,bd,be,bL,bc,bN,aO,aI,bM,aN,bJ,aT,aQ,aD.rv,na,zo])
   (try simp only [cV])
   (try simp only [h])
   (·first|exact pR|exact kR)
   (·first|exact pR|exact kR)
   all_goals(first|exact 0|exact undef)
 · have Ox:=yr b ⟨cf,ag,av,ax,value,br,ai,ah,ac,ap,set,aM,ao,aj,aG,some t,0,.fm⟩ 14 hc h1 rfl
   intro A F hw hS
   refine ab Tryz.func33 rfl (by kernel_rfl) fun _=>?_
   dsimp only [na,zo] at hS
   obtain⟨⟨bh,aY,az,aJ,aK,m,dy,k,ja,dr,bS,aw,aB,va,vv,vi,fA,fk,dD,dL,cI,jv,dO,dP,cG,cx,dv,cH,dN,bU,bt,dM,bT⟩,hS⟩:=bF.open hS .z
   dsimp only [bE,bH,cJ,bj,cR,eQ,cO,bf,ff,bO,bP,bd,be,bL,bc,bN,aO,aI,bM,aN,bJ,aT,aQ,aD.rv,na,zo] at hS
   try simp only [cV] at hS
   have hq:=ZL hS hw
   have hS:=qY.op hS (.s (.s (.s .z)))
   have hq:=ZL hS hw
   revert hq hS hw;(repeat first|clear hq|clear hS|clear hw|revert hc|revert zn|revert zA|revert R|revert K);refine Wr (J3 (Tg.mk (n:=24) @Ox) (od jg) (yC cf mb t.eo M hM)) (J5 h1 @AW.aa @af.eq_1 @aS.eq_1 @bq.v.eq_1) (J1 ?_)<;>unhygienic intros
   refine⟨_,by simp [hq,AW.aa,af];rfl,by first|(simp [bq.v,bq.zero];done)|(simp [bq.v,bq.zero,h];done),?_⟩
   apply an.cC
   (·exact sA)
   (·first|exact pR|exact kR)
theorem yy (b mb k:Nat) (s:aD) (M:Mm) (hd:s.aA=.cN) (hC:ep s) (s9:s.ai=false) (hL:kJ k s) (ho:s.aj.length≤64) (hk:k<2^40) (hM:fE M) (pN:0≤(gX M 3 0).fI∧(gX M 3 0).fI≤k):fQ b mb s M:=by
 have mf:=Dj b mb k s M hd hC s9 hL ho hk hM pN
 have e:cD s M=fb s M:=by unfold cD;rw [hd]
 have e2:(fb s M).2.2.2=M:=by unfold fb;rfl
 have e3:(fb s M).2.1=16:=by unfold fb;rfl
 unfold fQ
 rw [e,e2,e3]
 clear e e2 e3
 obtain⟨x,ph,s',M',hr⟩:∃x ph s' M',fb s M=(x,ph,s',M'):=⟨_,_,_,_,rfl⟩
 rw [hr] at mf ⊢
 obtain⟨cf,ag,av,ax,value,br,ai,ah,ac,ap,set,aM,ao,aj,aG,aE,am,aA⟩:=s
 dsimp only at hd
 subst hd
 intro A F hw hS
 refine ab Tryz.func33 rfl (by kernel_rfl) fun _=>?_
 dsimp only [na,zo] at hS
 obtain⟨⟨bh,aY,az,aJ,aK,m,dy,k,ja,dr,bS,aw,aB,va,vv,vi,fA,fk,dD,dL,cI,jv,dO,dP,cG,cx,dv,cH,dN,bU,bt,dM,bT⟩,tq⟩:=bF.open hS .z
 dsimp only [bE,bH,cJ,bj,cR,eQ,cO,bf,ff,bO,bP,bd,be,bL,bc,bN,aO,aI,bM,aN,bJ,aT,aQ,aD.rv,na,zo] at tq
 try simp only [cV] at tq
 have hq:=tq.eA hw
 dsimp only [na,zo,fw,eb,bp,bY,cS,eN,ko,bE,bH,cJ,bj,cR,eQ,cO,bf,ff,bO,bP,bd,be,bL,bc,bN,aO,aI,bM,aN,bJ,aT,aQ,aD.rv,na,zo] at hq
 clear tq
 revert hq hS hw;refine Wr (J2 (od jg) @mf) (J4 @AW.aa @af.eq_1 @aS.eq_1 @bq.v.eq_1) (J1 ?_)<;>unhygienic intros
 refine⟨_,by simp [hq,AW.aa,af];rfl,by first|(simp [bq.v,bq.zero];done)|(simp [bq.v,bq.zero,h];done),?_⟩
 apply an.cC
 (·exact sA)
 (·first|exact pR|exact kR)
theorem Id {k:Nat} (hk:k<2^40) {c:Int} (h:0≤c∧c≤k):qW (IntKind.i64.wrap c)=IntKind.u64.wrap (c+2):=by
 rw [ak (x:=c) (by omega) (by omega),au (by omega) (by omega)]
 unfold qW
 rw [if_pos (by omega)]
theorem yx (b mb k:Nat) (s:aD) (M:Mm) (hM:fE M) (hd:s.aA=.ej) (hk:k<2^40) (en:dC) (he:s.br=some en) (zJ:0≤en.ao∧en.ao≤k) (pE:0≤en.cj∧en.cj≤2) (pN:0≤(gX M 3 0).fI∧(gX M 3 0).fI≤k):fQ b mb s M:=by
 have Gd:=hd
 obtain⟨cf,ag,av,ax,value,br,ai,ah,ac,ap,set,aM,ao,aj,aG,aE,am,aA⟩:=s
 dsimp only at hd
 subst hd
 unfold fQ
 dsimp only at he
 subst he
 obtain⟨rh,Ws,sT⟩:=en
 dsimp only at zJ pE
 have UJ:Ws=2→qW (IntKind.i64.wrap sT)=IntKind.u64.wrap (sT+2):=fun _=>Id hk zJ
 rcases u9 ⟨rh,Ws,sT⟩ M pE with ⟨h0,e0⟩|⟨h0,e0⟩|⟨h0,e0⟩
 · dsimp only at h0
   subst h0
   have dn:=fun pe=>mV cf pe mb ⟨rh,0,sT⟩ M hM (by dsimp only;omega) UJ
   rw [e0] at dn
   have e:cD ⟨cf,ag,av,ax,value,some ⟨rh,0,sT⟩,ai,ah,ac,ap,set,aM,ao,aj,aG,aE,am,.ej⟩ M=(wx M 6 rh 1,2,⟨cf,ag,av,ax,value,some ⟨rh,1,sT⟩,ai,ah,ac,ap,set,aM,ao,aj,aG,aE,am,.ej⟩,ww M 6 rh 1):=by
    show gD _ M ⟨rh,0,sT⟩=_
    unfold gD
    rw [e0]
    rfl
   rw [e]
   intro A F hw hS
   refine ab Tryz.func33 rfl (by kernel_rfl) fun _=>?_
   dsimp only [na,zo] at hS
   obtain⟨⟨bh,aY,az,aJ,aK,m,dy,k,ja,dr,bS,aw,aB,va,vv,vi,fA,fk,dD,dL,cI,jv,dO,dP,cG,cx,dv,cH,dN,bU,bt,dM,bT⟩,hS⟩:=bF.open hS .z
   dsimp only [bE,bH,cJ,bj,cR,eQ,cO,bf,ff,bO,bP,bd,be,bL,bc,bN,aO,aI,bM,aN,bJ,aT,aQ,aD.rv,na,zo] at hS
   try simp only [cV] at hS
   have hq:=ZL hS hw
   have hS:=xh.op hS (.s .z)
   have hq:=ZL hS hw
   have F4:dC.kc ⟨rh,0,sT⟩ = -1:=rfl
   have HK:dC.kc ⟨rh,1,sT⟩ = -1:=rfl
   have jx:∀A':AW,A'.cy az=some (eY ⟨rh,1,sT⟩)→eF 86 [pv az] A' (.bool false):=fun A' h=>mW az ⟨rh,1,sT⟩ A' h
   repeat' (first
   | (refine il fun R hR=>?_;simp [ak,au,hq,F4,HK,AW.aa,af,aS,bq.v];try simp (disch:=omega) only [if_pos,if_neg,ak,au])
   | (refine hR _ _ ?_;clear hR R)|(refine hK _ _ ?_;clear hK K)|refine nx ?_
   | refine wn fun K hK=>?_
   | simp only [wS,jg]
   | refine wl Tryz.mx jg (by decide +kernel) fun K hK=>?_
   | (refine bD (jx _ (by simp [hq,eY])) ?_;rintro _ _ ⟨rfl,rfl⟩ _ _)
   | (refine ⟨fun A' x g1 g2 g3=>by simp [AW.aa,g1,g2,g3],?_⟩)
   | (refine AC (fun A'=>(∃r,A'.cy b=some (.cells r true 1)∧r[34]? = some (pv az))∧A'.cy az=some (.cells [.int .i64 rh,.int .i64 1,.int .i64 (-1)] true 1)) Tryz.mx [(0,0),(1,0),(2,0),(3,0),(4,1),(5,0),(6,0),(7,1),(8,0),(9,0),(10,3),(11,0)] (by decide +kernel) fun K hK=>?_)
   | (apply aP.el (dn _);(·exact wA);(·exact sA);(·first|exact pR|exact kR);rintro _ _ rfl hS hw _;have hS:=lA hS;have hq:=ZM hS hw)
   | refine wb ?_|refine wr ?_|refine wk ?_|refine we ?_|refine ws ?_|refine wq ?_
   | (refine wc rfl (fun hc=>?_) (fun hc=>?_)<;>(try simp at hc)<;>(try omega)<;>(try (simp [h2] at hc;done))<;>(try (simp [h3] at hc;done))<;>(try (simp [h4] at hc;done)))
   | (refine ib (fun hc=>?_) (fun hc=>?_)<;>(try omega)<;>(try simp (disch:=omega) only [if_pos,if_neg])))
   refine⟨_,by simp [hq,AW.aa,af];rfl,by first|(simp [bq.v,bq.zero];done)|(simp [bq.v,bq.zero,h];done),?_⟩
   have h:dC.kc ⟨rh,0,sT⟩ = -1∧dC.kc ⟨rh,1,sT⟩ = -1:=⟨rfl,rfl⟩
   apply bF.cC
   (·exact sA)
   (dsimp only [bE,bH,cJ,bj,cR,eQ,cO,bf,ff,bO,bP,bd,be,bL,bc,bN,aO,aI,bM,aN,bJ,aT,aQ,aD.rv,na,zo])
   (try simp only [cV])
   (try simp only [h])
   (·first|exact pR|exact kR)
   (·first|exact pR|exact kR)
   all_goals(first|exact 0|exact undef)
 · dsimp only at h0
   subst h0
   have dn:=fun pe=>mV cf pe mb ⟨rh,1,sT⟩ M hM (by dsimp only;omega) UJ
   rw [e0] at dn
   obtain⟨a,ha⟩:∃a,gX M 3 0=a:=⟨_,rfl⟩
   rw [ha] at dn pN e0
   have F4:dC.kc ⟨rh,1,sT⟩ = -1:=rfl
   have HK:dC.kc ⟨rh,2,a.fI⟩=a.fI:=ak (by dsimp only;omega) (by dsimp only;omega)
   have e:cD ⟨cf,ag,av,ax,value,some ⟨rh,1,sT⟩,ai,ah,ac,ap,set,aM,ao,aj,aG,aE,am,.ej⟩ M=(a,3,⟨cf,ag,av,ax,value,some ⟨rh,2,a.fI⟩,ai,ah,ac,ap,set,aM,ao,aj,aG,aE,am,.ej⟩,M):=by
    show gD _ M ⟨rh,1,sT⟩=_
    unfold gD
    rw [e0]
    dsimp only
    rw [if_neg (by decide),if_pos (by rw [F4,HK];omega)]
   rw [e]
   intro A F hw hS
   refine ab Tryz.func33 rfl (by kernel_rfl) fun _=>?_
   dsimp only [na,zo] at hS
   obtain⟨⟨bh,aY,az,aJ,aK,m,dy,k,ja,dr,bS,aw,aB,va,vv,vi,fA,fk,dD,dL,cI,jv,dO,dP,cG,cx,dv,cH,dN,bU,bt,dM,bT⟩,hS⟩:=bF.open hS .z
   dsimp only [bE,bH,cJ,bj,cR,eQ,cO,bf,ff,bO,bP,bd,be,bL,bc,bN,aO,aI,bM,aN,bJ,aT,aQ,aD.rv,na,zo] at hS
   try simp only [cV] at hS
   have hq:=ZL hS hw
   have hS:=xh.op hS (.s .z)
   have hq:=ZL hS hw
   have jx:∀A':AW,A'.cy az=some (eY ⟨rh,2,a.fI⟩)→eF 86 [pv az] A' (.bool false):=fun A' h=>mW az ⟨rh,2,a.fI⟩ A' h
   repeat' (first
   | (refine il fun R hR=>?_;simp [ak,au,hq,F4,HK,AW.aa,af,aS,bq.v];try simp (disch:=omega) only [if_pos,if_neg,ak,au])
   | (refine hR _ _ ?_;clear hR R)|(refine hK _ _ ?_;clear hK K)|refine nx ?_
   | refine wn fun K hK=>?_
   | simp only [wS,jg]
   | refine wl Tryz.mx jg (by decide +kernel) fun K hK=>?_
   | (refine bD (jx _ (by simp [hq,eY,HK])) ?_;rintro _ _ ⟨rfl,rfl⟩ _ _)
   | (refine ⟨fun A' x g1 g2 g3=>by simp [AW.aa,g1,g2,g3],?_⟩)
   | (refine AC (fun A'=>(∃r,A'.cy b=some (.cells r true 1)∧r[34]? = some (pv az))∧A'.cy az=some (.cells [.int .i64 rh,.int .i64 2,.int .i64 a.fI] true 1)) Tryz.mx [(0,0),(1,0),(2,0),(3,0),(4,1),(5,0),(6,0),(7,1),(8,0),(9,0),(10,3),(11,0)] (by decide +kernel) fun K hK=>?_)
   | (apply aP.el (dn _);(·exact wA);(·exact sA);(·first|exact pR|exact kR);rintro _ _ rfl hS hw _;have hS:=lA hS;have hq:=ZM hS hw)
   | refine wb ?_|refine wr ?_|refine wk ?_|refine we ?_|refine ws ?_|refine wq ?_
   | (refine wc rfl (fun hc=>?_) (fun hc=>?_)<;>(try simp at hc)<;>(try omega)<;>(try (simp [h2] at hc;done))<;>(try (simp [h3] at hc;done))<;>(try (simp [h4] at hc;done)))
   | (refine ib (fun hc=>?_) (fun hc=>?_)<;>(try omega)<;>(try simp (disch:=omega) only [if_pos,if_neg])))
   refine⟨_,by simp [hq,AW.aa,af];rfl,by first|(simp [bq.v,bq.zero];done)|(simp [bq.v,bq.zero,h];done),?_⟩
   have h:dC.kc ⟨rh,1,sT⟩ = -1∧dC.kc ⟨rh,2,a.fI⟩=a.fI:=⟨F4,HK⟩
   apply bF.cC
   (·exact sA)
   (dsimp only [bE,bH,cJ,bj,cR,eQ,cO,bf,ff,bO,bP,bd,be,bL,bc,bN,aO,aI,bM,aN,bJ,aT,aQ,aD.rv,na,zo])
   (try simp only [cV])
   (try simp only [h])
   (·first|exact pR|exact kR)
   (·first|exact pR|exact kR)
   all_goals(first|exact 0|exact undef)
 · dsimp only at h0
   subst h0
   have dn:=fun pe=>mV cf pe mb ⟨rh,2,sT⟩ M hM (by dsimp only;omega) UJ
   obtain⟨wv,Xp⟩:∃wv,IntKind.u64.wrap (sT+2)=wv:=⟨_,rfl⟩
   dsimp only at e0
   rw [Xp] at e0
   rw [e0] at dn
   have F4:dC.kc ⟨rh,2,sT⟩=sT:=ak (by dsimp only;omega) (by dsimp only;omega)
   have HK:dC.kc ⟨rh,3,sT⟩=sT:=ak (by dsimp only;omega) (by dsimp only;omega)
   have e:cD ⟨cf,ag,av,ax,value,some ⟨rh,2,sT⟩,ai,ah,ac,ap,set,aM,ao,aj,aG,aE,am,.ej⟩ M=(wx M 6 rh wv,4,⟨cf,ag,av,ax,value,some ⟨rh,3,sT⟩,ai,ah,ac,ap,set,aM,ao,aj,aG,aE,am,.bm⟩,ww M 6 rh wv):=by
    show gD _ M ⟨rh,2,sT⟩=_
    unfold gD
    rw [e0]
    dsimp only
    rw [if_pos rfl]
   rw [e]
   intro A F hw hS
   refine ab Tryz.func33 rfl (by kernel_rfl) fun _=>?_
   dsimp only [na,zo] at hS
   obtain⟨⟨bh,aY,az,aJ,aK,m,dy,k,ja,dr,bS,aw,aB,va,vv,vi,fA,fk,dD,dL,cI,jv,dO,dP,cG,cx,dv,cH,dN,bU,bt,dM,bT⟩,hS⟩:=bF.open hS .z
   dsimp only [bE,bH,cJ,bj,cR,eQ,cO,bf,ff,bO,bP,bd,be,bL,bc,bN,aO,aI,bM,aN,bJ,aT,aQ,aD.rv,na,zo] at hS
   try simp only [cV] at hS
   have hq:=ZL hS hw
   have hS:=xh.op hS (.s .z)
   have hq:=ZL hS hw
   have jx:∀A':AW,A'.cy az=some (eY ⟨rh,3,sT⟩)→eF 86 [pv az] A' (.bool true):=fun A' h=>mW az ⟨rh,3,sT⟩ A' h
   repeat' (first
   | (refine il fun R hR=>?_;simp [ak,au,hq,F4,HK,AW.aa,af,aS,bq.v];try simp (disch:=omega) only [if_pos,if_neg,ak,au])
   | (refine hR _ _ ?_;clear hR R)|(refine hK _ _ ?_;clear hK K)|refine nx ?_
   | refine wn fun K hK=>?_
   | simp only [wS,jg]
   | refine wl Tryz.mx jg (by decide +kernel) fun K hK=>?_
   | (refine bD (jx _ (by simp [hq,eY,HK])) ?_;rintro _ _ ⟨rfl,rfl⟩ _ _)
   | (refine ⟨fun A' x g1 g2 g3=>by simp [AW.aa,g1,g2,g3],?_⟩)
   | (refine AC (fun A'=>(∃r,A'.cy b=some (.cells r true 1)∧r[34]? = some (pv az))∧A'.cy az=some (.cells [.int .i64 rh,.int .i64 3,.int .i64 sT] true 1)) Tryz.mx [(0,0),(1,0),(2,0),(3,0),(4,1),(5,0),(6,0),(7,1),(8,0),(9,0),(10,3),(11,0)] (by decide +kernel) fun K hK=>?_)
   | (apply aP.el (dn _);(·exact wA);(·exact sA);(·first|exact pR|exact kR);rintro _ _ rfl hS hw _;have hS:=lA hS;have hq:=ZM hS hw)
   | refine wb ?_|refine wr ?_|refine wk ?_|refine we ?_|refine ws ?_|refine wq ?_
   | (refine wc rfl (fun hc=>?_) (fun hc=>?_)<;>(try simp at hc)<;>(try omega)<;>(try (simp [h2] at hc;done))<;>(try (simp [h3] at hc;done))<;>(try (simp [h4] at hc;done)))
   | (refine ib (fun hc=>?_) (fun hc=>?_)<;>(try omega)<;>(try simp (disch:=omega) only [if_pos,if_neg])))
   refine⟨_,by simp [hq,AW.aa,af];rfl,by first|(simp [bq.v,bq.zero];done)|(simp [bq.v,bq.zero,h];done),?_⟩
   have h:dC.kc ⟨rh,2,sT⟩=sT∧dC.kc ⟨rh,3,sT⟩=sT:=⟨F4,HK⟩
   apply bF.cC (cx:=.bool false) (dv:=.bool false)
   (·exact sA)
   (dsimp only [bE,bH,cJ,bj,cR,eQ,cO,bf,ff,bO,bP,bd,be,bL,bc,bN,aO,aI,bM,aN,bJ,aT,aQ,aD.rv,na,zo])
   (try simp only [cV])
   (try simp only [h])
   (try simp only [m8,gK,ms])
   (·first|exact pR|exact kR)
   (·first|exact pR|exact kR)
   all_goals(first|exact 0|exact undef)
end Go.Stx
