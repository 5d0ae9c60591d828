/-
 The reference's attempt: what follows a local step.
-/
import Derived.Test.YtncmjklabcoeaaaGreatG27
import Derived.Test.YtncmjklabcoeaaaGreatG28
set_option linter.unusedVariables false
set_option linter.unusedSimpArgs false
set_option maxRecDepth 20000
set_option maxHeartbeats 4000000
namespace Go.Stx
open Go Go.Proofs
attribute [local irreducible] fj cm aH bB dK ei
abbrev uF:List (Nat×Nat):=[(0,0),(1,0),(2,0),(3,0),(4,0),(5,0),(6,0),(7,0),(8,0),(9,2),(10,0),(11,0),(12,0),(13,0)]
abbrev uE:List (Nat×Nat):=[(0,0),(1,0),(2,0),(3,0),(4,0),(5,0),(6,0),(7,0),(8,0),(9,0),(10,0),(11,0),(12,0),(13,0),(14,0),(15,0),(16,0),(17,0),(18,0),(19,0),(20,0),(21,0),(22,0),(23,0),(24,0),(25,0),(26,3),(27,0),(28,0),(29,0)]
abbrev uD:List (Nat×Nat):=[(0,0),(1,0),(2,0),(3,0),(4,0),(5,0),(6,0),(7,0),(8,0),(9,2),(10,3),(11,0),(12,0),(13,3)]
abbrev lG:List (Nat×Nat):=[(0,0),(1,0),(2,0),(3,0),(4,0),(5,0),(6,0),(7,0),(8,0),(9,0),(10,2),(11,0),(12,0),(13,0),(14,0),(15,0),(16,3)]
abbrev lF:List (Nat×Nat):=[(0,0),(1,0),(2,0),(3,0),(4,0),(5,0),(6,0),(7,0),(8,0),(9,0),(10,0),(11,0),(12,0),(13,3)]
abbrev lE:List (Nat×Nat):=[(0,0),(1,0),(2,0),(3,0),(4,0),(5,0),(6,0),(7,0),(8,0),(9,0),(10,0),(11,0),(12,0),(13,0),(14,2),(15,0),(16,0),(17,0),(18,0),(19,0)]
open T28 T16
theorem vM {s:ln} {a v:Int} (h:(di s a v).1=false):(di s a v).2=s:=by
 revert h
 unfold di
 split
 · simp
 · split<;>simp
theorem oZ (b:Nat) (s:aD) (n kb sv:Int) (hd:s.aA=.bm) (hC:ep s) (hE:fe s) (hf:(s.ap.length:Int)≤s.cf.ap) (hk:0≤kb∧kb<s.cf.nb) (hn:n=0) :
 aP Tryz.prog 191 [pv b,.int .u64 sv] [.h (jz b s n (.jV (.cM kb 0)))] (fun _=>True) (fun _=>[.h (bF b (jX s kb sv))]):=by
 have pO:=wT s kb sv
 have gt:=hC.cf
 have iz:=o8 s.cf gt kb
 have AA:=nL gt kb hk
 have xv:=gt.nb
 have TQ:=gt.aF
 have ma:=hE
 obtain⟨nu,ns,nq,nk,nj⟩:=ma
 obtain⟨cf,ag,av,ax,value,br,ai,ah,ac,ap,set,aM,ao,aj,aG,aE,am,aA⟩:=s
 dsimp only at pO gt nu ns nq nk nj hd hf hk iz AA xv TQ
 subst nj nu ns nq nk hd hn
 dsimp only [bG.v] at iz
 have gJ:IntKind.i64.wrap (ds cf kb+1)=ds cf kb+1:=ak (by omega) (by omega)
 have it:IntKind.u64.wrap (ds cf kb)=ds cf kb:=au (by omega) (by omega)
 have Ow:IntKind.i64.wrap (cf.aF+kb)=cf.aF+kb:=ak (by omega) (by omega)
 have mJ:=hC.aM
 have k6:=hC.dA
 have mn:=hC.cc
 dsimp only at mJ k6 mn
 have jM:=fun pl=>nE pl aM (cf.aF+kb) 0 mJ (by omega) k6 mn
 rcases pO with ⟨h1,e⟩|⟨⟨h1,h2⟩,e⟩|⟨⟨⟨h1,h2⟩,h3⟩,e⟩|⟨⟨⟨h1,h2⟩,h3⟩,e⟩
 all_goals(rw [it] at h1;rw [e])
 · skip
   intro A F hw hS
   refine ab Tryz.func191 rfl (by kernel_rfl) fun _=>?_
   dsimp only [na,zo] at hS
   obtain⟨⟨bh,aY,az,aJ,aK,m,dy,k,ja,dr,bS,aw,aB,va,vv,vi,fA,fk,dD,dL,cI,jv,dO,dP,cG,cx,dv,cH,dN,bU,bt,dM,bT⟩,hS⟩:=jz.open hS .z
   dsimp only [bE,bH,cJ,bj,cR,eQ,cO,bf,ff,bO,bP,bd,be,bL,bc,bN,aO,aI,bM,aN,bJ,aT,aQ,aD.rv,na,zo] at hS
   try simp only [cV] at hS
   have hq:=ZL hS hw
   generalize hg:IntKind.u64.wrap (ds cf kb+1)=w at *
   revert hq hS hw;clear hS;refine Wr (J5 (Tg.mk (n:=24) (lz b ⟨cf,ag,av,ax,value,br,false,ah,ac,ap,set,aM,ao,[],none,none,0,.bm⟩ 0 8 hC hE)) (od uF) (od uE) (od uD) @iz) (J5 gJ hg h1 @AW.aa @af.eq_1) (J1 ?_)<;>unhygienic intros
   refine⟨_,by first|rfl|(simp;rfl),trivial,?_⟩
   apply an.cC
   (·exact sA)
   (·first|exact pR|exact kR)
 · skip
   intro A F hw hS
   refine ab Tryz.func191 rfl (by kernel_rfl) fun _=>?_
   dsimp only [na,zo] at hS
   obtain⟨⟨bh,aY,az,aJ,aK,m,dy,k,ja,dr,bS,aw,aB,va,vv,vi,fA,fk,dD,dL,cI,jv,dO,dP,cG,cx,dv,cH,dN,bU,bt,dM,bT⟩,hS⟩:=jz.open hS .z
   dsimp only [bE,bH,cJ,bj,cR,eQ,cO,bf,ff,bO,bP,bd,be,bL,bc,bN,aO,aI,bM,aN,bJ,aT,aQ,aD.rv,na,zo] at hS
   try simp only [cV] at hS
   have hq:=ZL hS hw
   obtain⟨Tx,U1,rfl,_⟩:=(an.gM hS (.s (.s (.s (.s (.s (.s (.s (.s .z))))))))).cL
   have hq:=ZL hS hw
   have s8:(ap.length:Int)=cf.ap:=by omega
   generalize hg:IntKind.u64.wrap (ds cf kb+1)=w at *
   subst h1
   revert hq hS hw;(repeat first|clear hq|clear hS|clear hw|revert hc|revert zn|revert zA|revert R|revert K);refine Wr (J5 (Tg.mk (n:=24) (fO b ⟨cf,ag,av,ax,value,br,false,ah,ac,ap,set,aM,ao,[],none,none,0,.bm⟩ 0 3 gt (by decide) rfl rfl)) (od uF) (od uE) (od uD) @iz) (J5 gJ hg s8 @AW.aa @af.eq_1) (J1 ?_)<;>unhygienic intros
   refine⟨_,by first|rfl|(simp;rfl),trivial,?_⟩
   apply an.cC
   (·exact sA)
   (·first|exact pR|exact kR)
 · skip
   intro A F hw hS
   refine ab Tryz.func191 rfl (by kernel_rfl) fun _=>?_
   dsimp only [na,zo] at hS
   obtain⟨⟨bh,aY,az,aJ,aK,m,dy,k,ja,dr,bS,aw,aB,va,vv,vi,fA,fk,dD,dL,cI,jv,dO,dP,cG,cx,dv,cH,dN,bU,bt,dM,bT⟩,hS⟩:=jz.open hS .z
   dsimp only [bE,bH,cJ,bj,cR,eQ,cO,bf,ff,bO,bP,bd,be,bL,bc,bN,aO,aI,bM,aN,bJ,aT,aQ,aD.rv,na,zo] at hS
   try simp only [cV] at hS
   have hq:=ZL hS hw
   obtain⟨Tx,U1,rfl,_⟩:=(an.gM hS (.s (.s (.s (.s (.s (.s (.s (.s .z))))))))).cL
   have hq:=ZL hS hw
   have s8:¬(ap.length:Int)=cf.ap:=by omega
   have hfz:=gt.ap
   generalize hg:IntKind.u64.wrap (ds cf kb+1)=w at *
   subst h1
   simp only [h3] at jM
   revert hq hS hw;(repeat first|clear hq|clear hS|clear hw|revert hc|revert zn|revert zA|revert R|revert K);refine Qk (J5 (od uF) (od uE) (od uD) @iz @jM) (J6 gJ hg s8 Ow @AW.aa @af.eq_1) (J1 ?_)<;>unhygienic intros
   refine⟨_,by first|rfl|(simp;rfl),trivial,?_⟩
   apply bF.cC (cx:=.bool false) (dv:=.bool false)
   (·exact sA)
   (dsimp only [bE,bH,cJ,bj,cR,eQ,cO,bf,ff,bO,bP,bd,be,bL,bc,bN,aO,aI,bM,aN,bJ,aT,aQ,aD.rv,na,zo])
   (try simp only [cV])
   (try simp only [h])
   (try simp only [m8,gK,ms])
   (·first|exact pR|exact kR)
   (·first|exact pR|exact kR)
   all_goals(first|exact 0|exact undef)
 · skip
   intro A F hw hS
   refine ab Tryz.func191 rfl (by kernel_rfl) fun _=>?_
   dsimp only [na,zo] at hS
   obtain⟨⟨bh,aY,az,aJ,aK,m,dy,k,ja,dr,bS,aw,aB,va,vv,vi,fA,fk,dD,dL,cI,jv,dO,dP,cG,cx,dv,cH,dN,bU,bt,dM,bT⟩,hS⟩:=jz.open hS .z
   dsimp only [bE,bH,cJ,bj,cR,eQ,cO,bf,ff,bO,bP,bd,be,bL,bc,bN,aO,aI,bM,aN,bJ,aT,aQ,aD.rv,na,zo] at hS
   try simp only [cV] at hS
   have hq:=ZL hS hw
   obtain⟨Tx,U1,rfl,_⟩:=(an.gM hS (.s (.s (.s (.s (.s (.s (.s (.s .z))))))))).cL
   have hq:=ZL hS hw
   have s8:¬(ap.length:Int)=cf.ap:=by omega
   generalize hg:IntKind.u64.wrap (ds cf kb+1)=w at *
   subst h1
   simp only [h3,vM h3] at jM
   revert hq hS hw;(repeat first|clear hq|clear hS|clear hw|revert hc|revert zn|revert zA|revert R|revert K);refine Wr (J6 (Tg.mk (n:=24) (fO b ⟨cf,ag,av,ax,value,br,false,ah,ac,ap,set,aM,ao,[],none,none,0,.bm⟩ 0 3 gt (by decide) rfl rfl)) (od uF) (od uE) (od uD) @iz @jM) (J6 gJ hg s8 Ow @AW.aa @af.eq_1) (J1 ?_)<;>unhygienic intros
   refine⟨_,by first|rfl|(simp;rfl),trivial,?_⟩
   apply an.cC
   (·exact sA)
   (·first|exact pR|exact kR)
theorem LU {s:aD} {a:Int} (iK:jq s.aM) (v:Int):wU s a=(di s.aM a v).1:=by
 rw [NS iK]
 unfold di
 split
 · rfl
 · split<;>rfl
def nz (b:Nat) (s:aD) (k:vu):Prop:=
 aP Tryz.prog 87 [pv b] [.h (bF b s)] (fun _=>True) (fun _=>[.h (bF b (nK { s with aA:=.bm } k))])
theorem Hg (b:Nat) (s:aD) (hd:s.aA=.jV .fy) (hC:ep s) (hE:fe s):nz b s .fy:=by
 obtain⟨cf,ag,av,ax,value,br,ai,ah,ac,ap,set,aM,ao,aj,aG,aE,am,aA⟩:=s
 dsimp only at hd
 subst hd
 have ma:=hE
 obtain⟨nu,ns,nq,nk,nj⟩:=ma
 have gt:=hC.cf
 have mJ:=hC.aM
 have k6:=hC.dA
 have mn:=hC.cc
 have cU:=hC.len
 dsimp only at nu ns nq nk nj gt mJ k6 mn cU
 subst nj nu ns nq nk
 have wR:ep ⟨cf,ag,av,ax,value,br,false,ah,ac,ap,set,aM,ao,[],none,none,0,.bm⟩:=hC.to rfl rfl rfl rfl rfl rfl rfl rfl
 have ma:fe ⟨cf,ag,av,ax,value,br,false,ah,ac,ap,set,aM,ao,[],none,none,0,.bm⟩:=⟨rfl,rfl,rfl,rfl,rfl⟩
 unfold nz
 rw [show nK ⟨cf,ag,av,ax,value,br,false,ah,ac,ap,set,aM,ao,[],none,none,0,.bm⟩ .fy=nN ⟨cf,ag,av,ax,value,br,false,ah,ac,ap,set,aM,ao,[],none,none,0,.bm⟩ 7 from rfl]
 intro A F hw hS
 refine ab Tryz.func87 rfl (by kernel_rfl) fun _=>?_
 dsimp only [na,zo] at hS
 obtain⟨⟨bh,aY,az,aJ,aK,m,dy,k,ja,dr,bS,aw,aB,va,vv,vi,fA,fk,dD,dL,cI,jv,dO,dP,cG,cx,dv,cH,dN,bU,bt,dM,bT⟩,hS⟩:=bF.open hS .z
 dsimp only [bE,bH,cJ,bj,cR,eQ,cO,bf,ff,bO,bP,bd,be,bL,bc,bN,aO,aI,bM,aN,bJ,aT,aQ,aD.rv,na,zo] at hS
 try simp only [cV] at hS
 have hq:=ZL hS hw
 revert hq hS hw;clear hS;refine Wr (J4 (Tg.mk (n:=24) (lz b ⟨cf,ag,av,ax,value,br,false,ah,ac,ap,set,aM,ao,[],none,none,0,.bm⟩ 0 7 wR ma)) (od lG) (od lF) (od lE)) (pw @eS.eq_1 @eS.eq_2 @eS.eq_3 @eS.eq_4 @eS.eq_5 @jH.eq_1 @jH.eq_2 @jH.eq_3 @ez.eq_1 @ez.eq_2 @ez.eq_3 @ez.eq_4 @ez.eq_5 (J3 @ez.eq_6 @AW.aa @af.eq_1)) (J1 ?_)<;>unhygienic intros
 refine⟨_,by first|rfl|(simp;rfl),trivial,?_⟩
 apply an.cC
 (·exact sA)
 (·first|exact pR|exact kR)
theorem Hi (b:Nat) (s:aD) (hd:s.aA=.jV .Gw) (hC:ep s) (hE:fe s):nz b s .Gw:=by
 obtain⟨cf,ag,av,ax,value,br,ai,ah,ac,ap,set,aM,ao,aj,aG,aE,am,aA⟩:=s
 dsimp only at hd
 subst hd
 have ma:=hE
 obtain⟨nu,ns,nq,nk,nj⟩:=ma
 have gt:=hC.cf
 have mJ:=hC.aM
 have k6:=hC.dA
 have mn:=hC.cc
 have cU:=hC.len
 dsimp only at nu ns nq nk nj gt mJ k6 mn cU
 subst nj nu ns nq nk
 have wR:ep ⟨cf,ag,av,ax,value,br,false,ah,ac,ap,set,aM,ao,[],none,none,0,.bm⟩:=hC.to rfl rfl rfl rfl rfl rfl rfl rfl
 have ma:fe ⟨cf,ag,av,ax,value,br,false,ah,ac,ap,set,aM,ao,[],none,none,0,.bm⟩:=⟨rfl,rfl,rfl,rfl,rfl⟩
 unfold nz
 rw [show nK ⟨cf,ag,av,ax,value,br,false,ah,ac,ap,set,aM,ao,[],none,none,0,.bm⟩ .Gw=nN ⟨cf,ag,av,ax,value,br,false,ah,ac,ap,set,aM,ao,[],none,none,0,.bm⟩ 8 from rfl]
 intro A F hw hS
 refine ab Tryz.func87 rfl (by kernel_rfl) fun _=>?_
 dsimp only [na,zo] at hS
 obtain⟨⟨bh,aY,az,aJ,aK,m,dy,k,ja,dr,bS,aw,aB,va,vv,vi,fA,fk,dD,dL,cI,jv,dO,dP,cG,cx,dv,cH,dN,bU,bt,dM,bT⟩,hS⟩:=bF.open hS .z
 dsimp only [bE,bH,cJ,bj,cR,eQ,cO,bf,ff,bO,bP,bd,be,bL,bc,bN,aO,aI,bM,aN,bJ,aT,aQ,aD.rv,na,zo] at hS
 try simp only [cV] at hS
 have hq:=ZL hS hw
 revert hq hS hw;clear hS;refine Wr (J4 (Tg.mk (n:=24) (lz b ⟨cf,ag,av,ax,value,br,false,ah,ac,ap,set,aM,ao,[],none,none,0,.bm⟩ 0 8 wR ma)) (od lG) (od lF) (od lE)) (pw @eS.eq_1 @eS.eq_2 @eS.eq_3 @eS.eq_4 @eS.eq_5 @jH.eq_1 @jH.eq_2 @jH.eq_3 @ez.eq_1 @ez.eq_2 @ez.eq_3 @ez.eq_4 @ez.eq_5 (J3 @ez.eq_6 @AW.aa @af.eq_1)) (J1 ?_)<;>unhygienic intros
 refine⟨_,by first|rfl|(simp;rfl),trivial,?_⟩
 apply an.cC
 (·exact sA)
 (·first|exact pR|exact kR)
theorem Hh (b:Nat) (s:aD) (ec:Int) (hd:s.aA=.jV (.cC ec)) (hC:ep s) (hE:fe s):nz b s (.cC ec):=by
 obtain⟨cf,ag,av,ax,value,br,ai,ah,ac,ap,set,aM,ao,aj,aG,aE,am,aA⟩:=s
 dsimp only at hd
 subst hd
 have ma:=hE
 obtain⟨nu,ns,nq,nk,nj⟩:=ma
 have gt:=hC.cf
 have mJ:=hC.aM
 have k6:=hC.dA
 have mn:=hC.cc
 have cU:=hC.len
 dsimp only at nu ns nq nk nj gt mJ k6 mn cU
 subst nj nu ns nq nk
 have wR:ep ⟨cf,ag,av,ax,value,br,false,ah,ac,ap,set,aM,ao,[],none,none,0,.bm⟩:=hC.to rfl rfl rfl rfl rfl rfl rfl rfl
 have ma:fe ⟨cf,ag,av,ax,value,br,false,ah,ac,ap,set,aM,ao,[],none,none,0,.bm⟩:=⟨rfl,rfl,rfl,rfl,rfl⟩
 unfold nz
 rw [show nK ⟨cf,ag,av,ax,value,br,false,ah,ac,ap,set,aM,ao,[],none,none,0,.bm⟩ (.cC ec)=nN ⟨cf,ag,av,ax,value,br,false,ah,ac,ap,set,aM,ao,[],none,none,0,.bm⟩ ec from rfl]
 intro A F hw hS
 refine ab Tryz.func87 rfl (by kernel_rfl) fun _=>?_
 dsimp only [na,zo] at hS
 obtain⟨⟨bh,aY,az,aJ,aK,m,dy,k,ja,dr,bS,aw,aB,va,vv,vi,fA,fk,dD,dL,cI,jv,dO,dP,cG,cx,dv,cH,dN,bU,bt,dM,bT⟩,hS⟩:=bF.open hS .z
 dsimp only [bE,bH,cJ,bj,cR,eQ,cO,bf,ff,bO,bP,bd,be,bL,bc,bN,aO,aI,bM,aN,bJ,aT,aQ,aD.rv,na,zo] at hS
 try simp only [cV] at hS
 have hq:=ZL hS hw
 revert hq hS hw;clear hS;refine Wr (J4 (Tg.mk (n:=24) (lz b ⟨cf,ag,av,ax,value,br,false,ah,ac,ap,set,aM,ao,[],none,none,0,.bm⟩ 0 ec wR ma)) (od lG) (od lF) (od lE)) (pw @eS.eq_1 @eS.eq_2 @eS.eq_3 @eS.eq_4 @eS.eq_5 @jH.eq_1 @jH.eq_2 @jH.eq_3 @ez.eq_1 @ez.eq_2 @ez.eq_3 @ez.eq_4 @ez.eq_5 (J3 @ez.eq_6 @AW.aa @af.eq_1)) (J1 ?_)<;>unhygienic intros
 refine⟨_,by first|rfl|(simp;rfl),trivial,?_⟩
 apply an.cC
 (·exact sA)
 (·first|exact pR|exact kR)
theorem Fb (b:Nat) (s:aD) (hd:s.aA=.jV .r9) (hC:ep s) (hE:fe s):nz b s .r9:=by
 obtain⟨cf,ag,av,ax,value,br,ai,ah,ac,ap,set,aM,ao,aj,aG,aE,am,aA⟩:=s
 dsimp only at hd
 subst hd
 have ma:=hE
 obtain⟨nu,ns,nq,nk,nj⟩:=ma
 have gt:=hC.cf
 have mJ:=hC.aM
 have k6:=hC.dA
 have mn:=hC.cc
 have cU:=hC.len
 dsimp only at nu ns nq nk nj gt mJ k6 mn cU
 subst nj nu ns nq nk
 have wR:ep ⟨cf,ag,av,ax,value,br,false,ah,ac,ap,set,aM,ao,[],none,none,0,.bm⟩:=hC.to rfl rfl rfl rfl rfl rfl rfl rfl
 have ma:fe ⟨cf,ag,av,ax,value,br,false,ah,ac,ap,set,aM,ao,[],none,none,0,.bm⟩:=⟨rfl,rfl,rfl,rfl,rfl⟩
 unfold nz
 rw [show nK ⟨cf,ag,av,ax,value,br,false,ah,ac,ap,set,aM,ao,[],none,none,0,.bm⟩ .r9=gy ⟨cf,ag,av,ax,value,br,false,ah,ac,ap,set,aM,ao,[],none,none,0,.bm⟩ 3 from rfl]
 intro A F hw hS
 refine ab Tryz.func87 rfl (by kernel_rfl) fun _=>?_
 dsimp only [na,zo] at hS
 obtain⟨⟨bh,aY,az,aJ,aK,m,dy,k,ja,dr,bS,aw,aB,va,vv,vi,fA,fk,dD,dL,cI,jv,dO,dP,cG,cx,dv,cH,dN,bU,bt,dM,bT⟩,hS⟩:=bF.open hS .z
 dsimp only [bE,bH,cJ,bj,cR,eQ,cO,bf,ff,bO,bP,bd,be,bL,bc,bN,aO,aI,bM,aN,bJ,aT,aQ,aD.rv,na,zo] at hS
 try simp only [cV] at hS
 have hq:=ZL hS hw
 revert hq hS hw;clear hS;refine Wr (J4 (Tg.mk (n:=24) (fO b ⟨cf,ag,av,ax,value,br,false,ah,ac,ap,set,aM,ao,[],none,none,0,.bm⟩ 0 3 gt (by decide) rfl rfl)) (od lG) (od lF) (od lE)) (pw @eS.eq_1 @eS.eq_2 @eS.eq_3 @eS.eq_4 @eS.eq_5 @jH.eq_1 @jH.eq_2 @jH.eq_3 @ez.eq_1 @ez.eq_2 @ez.eq_3 @ez.eq_4 @ez.eq_5 (J3 @ez.eq_6 @AW.aa @af.eq_1)) (J1 ?_)<;>unhygienic intros
 refine⟨_,by first|rfl|(simp;rfl),trivial,?_⟩
 apply an.cC
 (·exact sA)
 (·first|exact pR|exact kR)
theorem Fa (b:Nat) (s:aD) (v:Int) (hd:s.aA=.jV (.take v)) (hC:ep s) (hE:fe s):nz b s (.take v):=by
 obtain⟨cf,ag,av,ax,value,br,ai,ah,ac,ap,set,aM,ao,aj,aG,aE,am,aA⟩:=s
 dsimp only at hd
 subst hd
 have ma:=hE
 obtain⟨nu,ns,nq,nk,nj⟩:=ma
 have gt:=hC.cf
 have mJ:=hC.aM
 have k6:=hC.dA
 have mn:=hC.cc
 have cU:=hC.len
 dsimp only at nu ns nq nk nj gt mJ k6 mn cU
 subst nj nu ns nq nk
 have wR:ep ⟨cf,ag,av,ax,value,br,false,ah,ac,ap,set,aM,ao,[],none,none,0,.bm⟩:=hC.to rfl rfl rfl rfl rfl rfl rfl rfl
 have ma:fe ⟨cf,ag,av,ax,value,br,false,ah,ac,ap,set,aM,ao,[],none,none,0,.bm⟩:=⟨rfl,rfl,rfl,rfl,rfl⟩
 unfold nz
 rw [show nK ⟨cf,ag,av,ax,value,br,false,ah,ac,ap,set,aM,ao,[],none,none,0,.bm⟩ (.take v)=⟨cf,ag,av,ax,v,br,false,ah,ac,ap,set,aM,ao,[],none,none,0,.bm⟩ from rfl]
 intro A F hw hS
 refine ab Tryz.func87 rfl (by kernel_rfl) fun _=>?_
 dsimp only [na,zo] at hS
 obtain⟨⟨bh,aY,az,aJ,aK,m,dy,k,ja,dr,bS,aw,aB,va,vv,vi,fA,fk,dD,dL,cI,jv,dO,dP,cG,cx,dv,cH,dN,bU,bt,dM,bT⟩,hS⟩:=bF.open hS .z
 dsimp only [bE,bH,cJ,bj,cR,eQ,cO,bf,ff,bO,bP,bd,be,bL,bc,bN,aO,aI,bM,aN,bJ,aT,aQ,aD.rv,na,zo] at hS
 try simp only [cV] at hS
 have hq:=ZL hS hw
 obtain⟨⟨EM,EL,Np⟩,hS⟩:=an.Oj hS (.s (.s (.s (.s (.s (.s (.s (.s (.s (.s .z))))))))))
 have hq:=ZL hS hw
 have X1:IntKind.i64.wrap ja=ja:=ak (by omega) (by omega)
 revert hq hS hw;clear hq;clear hS;clear hS;refine Wr (J4 (Tg.mk (n:=10) (fun {A L K k n}=>mC (A:=A) (L:=L) (K:=K) (k:=k) (n:=n) mJ cU)) (od lG) (od lF) (od lE)) (pw EM X1 @eS.eq_1 @eS.eq_2 @eS.eq_3 @eS.eq_4 @eS.eq_5 @jH.eq_1 @jH.eq_2 @jH.eq_3 @ez.eq_1 @ez.eq_2 @ez.eq_3 (J5 @ez.eq_4 @ez.eq_5 @ez.eq_6 @AW.aa @af.eq_1)) (J1 ?_)<;>unhygienic intros
 refine⟨_,by first|rfl|(simp;rfl),trivial,?_⟩
 apply bF.cC (cx:=.bool false) (dv:=.bool false)
 (·exact sA)
 (dsimp only [bE,bH,cJ,bj,cR,eQ,cO,bf,ff,bO,bP,bd,be,bL,bc,bN,aO,aI,bM,aN,bJ,aT,aQ,aD.rv,na,zo])
 (try simp only [cV])
 (try simp only [h])
 (try simp only [m8,gK,ms])
 (·first|exact pR|exact kR)
 (·first|exact pR|exact kR)
 all_goals(first|exact 0|exact undef)
theorem De (b:Nat) (s:aD) (a v:Int) (hd:s.aA=.jV (.fu a v)) (hC:ep s) (hE:fe s) (ha:0≤a):nz b s (.fu a v):=by
 obtain⟨cf,ag,av,ax,value,br,ai,ah,ac,ap,set,aM,ao,aj,aG,aE,am,aA⟩:=s
 dsimp only at hd
 subst hd
 have ma:=hE
 obtain⟨nu,ns,nq,nk,nj⟩:=ma
 have gt:=hC.cf
 have mJ:=hC.aM
 have k6:=hC.dA
 have mn:=hC.cc
 have cU:=hC.len
 dsimp only at nu ns nq nk nj gt mJ k6 mn cU
 subst nj nu ns nq nk
 have wR:ep ⟨cf,ag,av,ax,value,br,false,ah,ac,ap,set,aM,ao,[],none,none,0,.bm⟩:=hC.to rfl rfl rfl rfl rfl rfl rfl rfl
 have ma:fe ⟨cf,ag,av,ax,value,br,false,ah,ac,ap,set,aM,ao,[],none,none,0,.bm⟩:=⟨rfl,rfl,rfl,rfl,rfl⟩
 have TQ:=gt.aF
 have PU:=LU (s:=⟨cf,ag,av,ax,value,br,false,ah,ac,ap,set,aM,ao,[],none,none,0,.jV (.fu a v)⟩) (a:=a) mJ v
 dsimp only at PU
 unfold nz
 by_cases r5:cf.aF≤a
 · rw [show nK ⟨cf,ag,av,ax,value,br,false,ah,ac,ap,set,aM,ao,[],none,none,0,.bm⟩ (.fu a v)=nN ⟨cf,ag,av,ax,value,br,false,ah,ac,ap,set,aM,ao,[],none,none,0,.bm⟩ 7 from if_pos r5]
   intro A F hw hS
   refine ab Tryz.func87 rfl (by kernel_rfl) fun _=>?_
   dsimp only [na,zo] at hS
   obtain⟨⟨bh,aY,az,aJ,aK,m,dy,k,ja,dr,bS,aw,aB,va,vv,vi,fA,fk,dD,dL,cI,jv,dO,dP,cG,cx,dv,cH,dN,bU,bt,dM,bT⟩,hS⟩:=bF.open hS .z
   dsimp only [bE,bH,cJ,bj,cR,eQ,cO,bf,ff,bO,bP,bd,be,bL,bc,bN,aO,aI,bM,aN,bJ,aT,aQ,aD.rv,na,zo] at hS
   try simp only [cV] at hS
   have hq:=ZL hS hw
   revert hq hS hw;clear hS;refine Wr (J4 (Tg.mk (n:=24) (lz b ⟨cf,ag,av,ax,value,br,false,ah,ac,ap,set,aM,ao,[],none,none,0,.bm⟩ 0 7 wR ma)) (od lG) (od lF) (od lE)) (pw r5 @eS.eq_1 @eS.eq_2 @eS.eq_3 @eS.eq_4 @eS.eq_5 @jH.eq_1 @jH.eq_2 @jH.eq_3 @ez.eq_1 @ez.eq_2 @ez.eq_3 @ez.eq_4 (J4 @ez.eq_5 @ez.eq_6 @AW.aa @af.eq_1)) (J1 ?_)<;>unhygienic intros
   refine⟨_,by first|rfl|(simp;rfl),trivial,?_⟩
   apply an.cC
   (·exact sA)
   (·first|exact pR|exact kR)
 · rw [show nK ⟨cf,ag,av,ax,value,br,false,ah,ac,ap,set,aM,ao,[],none,none,0,.bm⟩ (.fu a v)=(iI ⟨cf,ag,av,ax,value,br,false,ah,ac,ap,set,aM,ao,[],none,none,0,.bm⟩ a v).2 from if_neg r5]
   have MC:IntKind.i64.wrap a=a:=ak (by omega) (by omega)
   have jM:=fun pl=>nE pl aM a v mJ ha k6 mn
   cases hft:(di aM a v).1 with
   | true=>
     rw [hft] at PU
     have e:iI ⟨cf,ag,av,ax,value,br,false,ah,ac,ap,set,aM,ao,[],none,none,0,.bm⟩ a v=(true,⟨cf,ag,av,ax,value,br,false,ah,ac,ap,set,(di aM a v).2,ao,[],none,none,0,.bm⟩):=by unfold iI;rw [if_pos hft]
     rw [e]
     simp only [hft] at jM
     intro A F hw hS
     refine ab Tryz.func87 rfl (by kernel_rfl) fun _=>?_
     dsimp only [na,zo] at hS
     obtain⟨⟨bh,aY,az,aJ,aK,m,dy,k,ja,dr,bS,aw,aB,va,vv,vi,fA,fk,dD,dL,cI,jv,dO,dP,cG,cx,dv,cH,dN,bU,bt,dM,bT⟩,hS⟩:=bF.open hS .z
     dsimp only [bE,bH,cJ,bj,cR,eQ,cO,bf,ff,bO,bP,bd,be,bL,bc,bN,aO,aI,bM,aN,bJ,aT,aQ,aD.rv,na,zo] at hS
     try simp only [cV] at hS
     have hq:=ZL hS hw
     revert hq hS hw;(repeat first|clear hq|clear hS|clear hw|revert hc|revert zn|revert zA|revert R|revert K);refine Wr (J4 (od lG) (od lF) (od lE) @jM) (pw r5 PU MC @eS.eq_1 @eS.eq_2 @eS.eq_3 @eS.eq_4 @eS.eq_5 @jH.eq_1 @jH.eq_2 @jH.eq_3 @ez.eq_1 @ez.eq_2 (J6 @ez.eq_3 @ez.eq_4 @ez.eq_5 @ez.eq_6 @AW.aa @af.eq_1)) (J1 ?_)<;>unhygienic intros
     refine⟨_,by first|rfl|(simp;rfl),trivial,?_⟩
     apply bF.cC (cx:=.bool false) (dv:=.bool false)
     (·exact sA)
     (dsimp only [bE,bH,cJ,bj,cR,eQ,cO,bf,ff,bO,bP,bd,be,bL,bc,bN,aO,aI,bM,aN,bJ,aT,aQ,aD.rv,na,zo])
     (try simp only [cV])
     (try simp only [h])
     (try simp only [m8,gK,ms])
     (·first|exact pR|exact kR)
     (·first|exact pR|exact kR)
     all_goals(first|exact 0|exact undef)
   | false=>
     rw [hft] at PU
     have e:iI ⟨cf,ag,av,ax,value,br,false,ah,ac,ap,set,aM,ao,[],none,none,0,.bm⟩ a v=(false,gy ⟨cf,ag,av,ax,value,br,false,ah,ac,ap,set,aM,ao,[],none,none,0,.bm⟩ 3):=by unfold iI;rw [if_neg (by rw [hft];decide)]
     rw [e]
     intro A F hw hS
     refine ab Tryz.func87 rfl (by kernel_rfl) fun _=>?_
     dsimp only [na,zo] at hS
     obtain⟨⟨bh,aY,az,aJ,aK,m,dy,k,ja,dr,bS,aw,aB,va,vv,vi,fA,fk,dD,dL,cI,jv,dO,dP,cG,cx,dv,cH,dN,bU,bt,dM,bT⟩,hS⟩:=bF.open hS .z
     dsimp only [bE,bH,cJ,bj,cR,eQ,cO,bf,ff,bO,bP,bd,be,bL,bc,bN,aO,aI,bM,aN,bJ,aT,aQ,aD.rv,na,zo] at hS
     try simp only [cV] at hS
     have hq:=ZL hS hw
     revert hq hS hw;(repeat first|clear hq|clear hS|clear hw|revert hc|revert zn|revert zA|revert R|revert K);refine Wr (J4 (Tg.mk (n:=24) (fO b ⟨cf,ag,av,ax,value,br,false,ah,ac,ap,set,aM,ao,[],none,none,0,.bm⟩ 0 3 gt (by decide) rfl rfl)) (od lG) (od lF) (od lE)) (pw r5 PU @eS.eq_1 @eS.eq_2 @eS.eq_3 @eS.eq_4 @eS.eq_5 @jH.eq_1 @jH.eq_2 @jH.eq_3 @ez.eq_1 @ez.eq_2 @ez.eq_3 (J5 @ez.eq_4 @ez.eq_5 @ez.eq_6 @AW.aa @af.eq_1)) (J1 ?_)<;>unhygienic intros
     refine⟨_,by first|rfl|(simp;rfl),trivial,?_⟩
     apply an.cC
     (·exact sA)
     (·first|exact pR|exact kR)
theorem Dg (b:Nat) (s:aD) (kb v:Int) (hd:s.aA=.jV (.cM kb v)) (hC:ep s) (hE:fe s) (hf:(s.ap.length:Int)≤s.cf.ap) (hk:0≤kb∧kb<s.cf.nb):nz b s (.cM kb v):=by
 obtain⟨cf,ag,av,ax,value,br,ai,ah,ac,ap,set,aM,ao,aj,aG,aE,am,aA⟩:=s
 dsimp only at hd
 subst hd
 have ma:=hE
 obtain⟨nu,ns,nq,nk,nj⟩:=ma
 have gt:=hC.cf
 have mJ:=hC.aM
 have k6:=hC.dA
 have mn:=hC.cc
 have cU:=hC.len
 dsimp only at nu ns nq nk nj gt mJ k6 mn cU
 subst nj nu ns nq nk
 have wR:ep ⟨cf,ag,av,ax,value,br,false,ah,ac,ap,set,aM,ao,[],none,none,0,.bm⟩:=hC.to rfl rfl rfl rfl rfl rfl rfl rfl
 have ma:fe ⟨cf,ag,av,ax,value,br,false,ah,ac,ap,set,aM,ao,[],none,none,0,.bm⟩:=⟨rfl,rfl,rfl,rfl,rfl⟩
 dsimp only at hf hk
 have TQ:=gt.aF
 have xv:=gt.nb
 unfold nz
 rw [show nK ⟨cf,ag,av,ax,value,br,false,ah,ac,ap,set,aM,ao,[],none,none,0,.bm⟩ (.cM kb v)=jX ⟨cf,ag,av,ax,value,br,false,ah,ac,ap,set,aM,ao,[],none,none,0,.bm⟩ kb v from rfl]
 intro A F hw hS
 refine ab Tryz.func87 rfl (by kernel_rfl) fun _=>?_
 dsimp only [na,zo] at hS
 obtain⟨⟨bh,aY,az,aJ,aK,m,dy,k,ja,dr,bS,aw,aB,va,vv,vi,fA,fk,dD,dL,cI,jv,dO,dP,cG,cx,dv,cH,dN,bU,bt,dM,bT⟩,hS⟩:=bF.open hS .z
 dsimp only [bE,bH,cJ,bj,cR,eQ,cO,bf,ff,bO,bP,bd,be,bL,bc,bN,aO,aI,bM,aN,bJ,aT,aQ,aD.rv,na,zo] at hS
 try simp only [cV] at hS
 have hq:=ZL hS hw
 obtain⟨EM,hS⟩:=an.Oj hS (.s (.s (.s (.s (.s (.s (.s (.s (.s (.s .z))))))))))
 have hq:=ZL hS hw
 have Ow:IntKind.i64.wrap (cf.aF+kb)=cf.aF+kb:=ak (by omega) (by omega)
 have h:∀st,eS st (.cM kb 0)=false∧jH st (.cM kb 0)=false∧∀j,ez st j (.cM kb 0)=j:=fun st=>⟨rfl,rfl,fun j=>rfl⟩
 revert hq hS hw;clear hq;clear hS;clear hS;refine Wr (J5 (Tg.mk (n:=10) (fun {A L K k n}=>mC (A:=A) (L:=L) (K:=K) (k:=k) (n:=n) mJ cU)) (Tg.mk (n:=24) (oZ b ⟨cf,ag,av,ax,value,br,false,ah,ac,ap,set,aM,ao,[],none,none,0,.bm⟩ 0 kb v rfl wR ma hf hk rfl)) (od lG) (od lF) (od lE)) (pw EM Ow @eS.eq_1 @eS.eq_2 @eS.eq_3 @eS.eq_4 @eS.eq_5 @jH.eq_1 @jH.eq_2 @jH.eq_3 @ez.eq_1 @ez.eq_2 @ez.eq_3 (J5 @ez.eq_4 @ez.eq_5 @ez.eq_6 @AW.aa @af.eq_1)) (J1 ?_)<;>unhygienic intros
 refine⟨_,by first|rfl|(simp;rfl),trivial,?_⟩
 apply an.cC
 (·exact sA)
 (·first|exact pR|exact kR)
theorem Fc (b:Nat) (s:aD) (l:vu) (hd:s.aA=.jV l) (hC:ep s) (hE:fe s) (hf:(s.ap.length:Int)≤s.cf.ap) (hL:Ob s.cf l):nz b s l:=by
 cases l with
 | fy=>exact Hg b s hd hC hE
 | Gw=>exact Hi b s hd hC hE
 | cC ec=>exact Hh b s ec hd hC hE
 | take v=>exact Fa b s v hd hC hE
 | fu a v=>exact De b s a v hd hC hE hL
 | r9=>exact Fb b s hd hC hE
 | cM kb v=>exact Dg b s kb v hd hC hE hf hL
end Go.Stx
