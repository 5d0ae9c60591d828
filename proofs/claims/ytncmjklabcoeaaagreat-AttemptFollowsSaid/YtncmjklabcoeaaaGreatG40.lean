/-
 The reference's attempt: what follows a read, and what follows a pop.
-/
import Derived.Test.YtncmjklabcoeaaaGreatG29
set_option linter.unusedVariables false
set_option linter.unusedSimpArgs false
set_option maxRecDepth 20000
set_option maxHeartbeats 4000000
namespace Go.Stx
open Go Go.Proofs
attribute [local irreducible] fj cm aH bB dK ei TW hN
abbrev jj:List (Nat×Nat):=[(0,0),(1,0),(2,0),(3,0),(4,0),(5,0),(6,0),(7,0),(8,0),(9,0),(10,0),(11,0),(12,0),(13,0),(14,0),(15,0),(16,0),(17,0),(18,0),(19,0),(20,0),(21,0),(22,0),(23,0),(24,0),(25,2),(26,0),(27,0)]
abbrev ji:List (Nat×Nat):=[(0,0),(1,0),(2,0),(3,0),(4,0),(5,0),(6,0),(7,0),(8,0),(9,0),(10,0),(11,0),(12,2),(13,3),(14,0),(15,0),(16,3)]
abbrev jh:List (Nat×Nat):=[(0,0),(1,0),(2,0),(3,0),(4,0),(5,0),(6,0),(7,0),(8,0),(9,0),(10,0),(11,3),(12,0)]
open T28 T16
theorem kX {A:AW} {L K:List It} {k:Value→AW→Prop} {v:Value} {l:List Int} {x:Int} (hw:A.Wf) (hS:an A L) (hp:ay L (.h (ar .i64 v l)) K) (hl:l.length<2^38) (hk:k (.bool (decide (x∈l))) A):aH Tryz.prog 194 [v,.int .i64 x] A k:=by
 refine bD (IG v l x A (an.gM hS hp) (by omega)) ?_
 rintro _ _ ⟨rfl,rfl⟩ _ _
 exact hk
theorem jI (b dA:Nat) (v:Value) (l:List Int) (x:Int) (hc:l.length≤dA) (BG:dA≤32) :
 nA Tryz.prog 195 [pv b,.int .i64 x] [.at b (ko dA v),.h (ar .i64 v l)] (fun _ u=>u=.bool (cr dA l x).1) (fun v':Value=>[.at b (ko dA v'),.h (ar .i64 v' (cr dA l x).2)]):=by
 intro A F hw hS
 have h:=oV.eh (b:=b) (dA:=dA) (l:=l) (v:=v) (K:=[.h F]) hS (.s .z (.s .z .z))
 refine(C6 b dA l x hc BG A F hw h).mono ?_
 rintro u A' ⟨h1,h2⟩
 obtain⟨v',h3⟩:=oV.open h2 .z
 exact⟨v',h1,h3⟩
def ql (s:aD) (r:dY) (u:qX):aD:=
 let s2:=if r.cA<s.cf.aF∧¬r.cA∈s.ah then { s with ah:=s.ah++[r.cA] } else s
 if (cr s.cf.ah.toNat s.set r.dl).1=true then AD { s2 with set:=(cr s.cf.ah.toNat s.set r.dl).2 } r.value u else gy s2 3
theorem Bl (b:Nat) (s:aD) (r:dY) (u:qX) (hd:s.aA=.bm) (hC:ep s) (hE:fe s) (h3:r.cj=3) (hr:r.du=true) :
 aP Tryz.prog 90 [pv b] [.h (gz b s 3 (.bz r u))] (fun _=>True) (fun _=>[.h (bF b (gy s 9))]):=by
 obtain⟨cf,ag,av,ax,value,br,ai,ah,ac,ap,set,aM,ao,aj,aG,aE,am,aA⟩:=s
 dsimp only at hd
 subst hd
 have ma:=hE
 obtain⟨nu,ns,nq,nk,nj⟩:=ma
 have gt:=hC.cf
 have fz:=hC.set
 have tP:=hC.EG
 dsimp only at nu ns nq nk nj gt fz tP
 subst nj nu ns nq nk
 obtain⟨cA,dl,rv,cj,d8,mB,du⟩:=r
 dsimp only at h3 hr
 subst h3 hr
 have oT:dY.Bo ⟨cA,dl,rv,3,d8,mB,true⟩=4:=if_pos ⟨rfl,rfl⟩
 cases u
 all_goals(
  intro A F hw hS
  refine ab Tryz.func90 rfl (by kernel_rfl) fun _=>?_
  dsimp only [na,zo] at hS
  obtain⟨⟨bh,aY,az,aJ,aK,m,dy,k,ja,dr,bS,aw,aB,va,vv,vi,fA,fk,dD,dL,cI,jv,dO,dP,cG,cx,dv,cH,dN,bU,bt,dM,bT⟩,hS⟩:=gz.open hS .z
  dsimp only [bE,bH,cJ,bj,cR,eQ,cO,bf,ff,bO,bP,bd,be,bL,bc,bN,aO,aI,bM,aN,bJ,aT,aQ,aD.rv,na,zo] at hS
  try simp only [cV] at hS
  have hq:=ZL hS hw
  simp only [oT] at hq
  all_goals(revert hq hS hw;clear hS;have gR:=trivial;refine Wr (J4 (Tg.mk (n:=24) (fO b ⟨cf,ag,av,ax,value,br,false,ah,ac,ap,set,aM,ao,[],none,none,0,.bm⟩ 0 9 gt (by decide) rfl rfl)) (od jj) (od ji) (od jh)) (J2 @AW.aa @af.eq_1) (J1 ?_)<;>unhygienic intros)
  refine⟨_,by first|rfl|(simp;rfl),trivial,?_⟩
  apply an.cC
  (·exact sA)
  (·first|exact pR|exact kR))
theorem Bk (b:Nat) (s:aD) (r:dY) (u:qX) (hd:s.aA=.bm) (hC:ep s) (hE:fe s) (h3:r.cj=3) (hr:r.du=false) (hn:r.cA<s.cf.aF∧¬r.cA∈s.ah) (hs:(cr s.cf.ah.toNat s.set r.dl).1=false) :
 aP Tryz.prog 90 [pv b] [.h (gz b s 3 (.bz r u))] (fun _=>True) (fun _=>[.h (bF b (ql s r u))]):=by
 obtain⟨cf,ag,av,ax,value,br,ai,ah,ac,ap,set,aM,ao,aj,aG,aE,am,aA⟩:=s
 dsimp only at hd
 subst hd
 have ma:=hE
 obtain⟨nu,ns,nq,nk,nj⟩:=ma
 have gt:=hC.cf
 have fz:=hC.set
 have tP:=hC.EG
 dsimp only at nu ns nq nk nj gt fz tP
 subst nj nu ns nq nk
 have R0:=gt.ah
 obtain⟨cA,dl,rv,cj,d8,mB,du⟩:=r
 dsimp only at h3 hr hn hs
 subst h3 hr
 have oT:dY.Bo ⟨cA,dl,rv,3,d8,mB,false⟩=3:=if_neg (by simp)
 have e:ql ⟨cf,ag,av,ax,value,br,false,ah,ac,ap,set,aM,ao,[],none,none,0,.bm⟩ ⟨cA,dl,rv,3,d8,mB,false⟩ u=gy ⟨cf,ag,av,ax,value,br,false,(ah++[cA]),ac,ap,set,aM,ao,[],none,none,0,.bm⟩ 3:=by
  unfold ql
  dsimp only
  rw [if_pos hn,if_neg (by rw [hs];decide)]
 rw [e]
 cases u with
 | take=>
   obtain⟨qh,tR⟩:=hn
   intro A F hw hS
   refine ab Tryz.func90 rfl (by kernel_rfl) fun _=>?_
   dsimp only [na,zo] at hS
   obtain⟨⟨bh,aY,az,aJ,aK,m,dy,k,ja,dr,bS,aw,aB,va,vv,vi,fA,fk,dD,dL,cI,jv,dO,dP,cG,cx,dv,cH,dN,bU,bt,dM,bT⟩,hS⟩:=gz.open hS .z
   dsimp only [bE,bH,cJ,bj,cR,eQ,cO,bf,ff,bO,bP,bd,be,bL,bc,bN,aO,aI,bM,aN,bJ,aT,aQ,aD.rv,na,zo] at hS
   try simp only [cV] at hS
   have hq:=ZL hS hw
   obtain⟨l8,LZ,rfl,_⟩:=(an.gM hS (.s (.s (.s (.s (.s (.s .z))))))).cL
   have hq:=ZL hS hw
   simp only [oT] at hq
   have jl:=jI bh cf.ah.toNat dr set dl fz (by omega)
   rw [hs] at jl
   have Ay:(cr cf.ah.toNat set dl).2=set:=by
    revert hs
    unfold cr
    split
    · simp
    · split<;>simp
   rw [Ay] at jl
   revert hq hS hw;clear hq;clear hS;refine Qk (J6 (Tg.mk (n:=14) @kX) (Tg.mk (n:=32) @jl) (Tg.mk (n:=24) (fO b ⟨cf,ag,av,ax,value,br,false,(ah++[cA]),ac,ap,set,aM,ao,[],none,none,0,.bm⟩ 0 3 gt (by decide) rfl rfl)) (od jj) (od ji) (od jh)) (J4 qh tR @AW.aa @af.eq_1) (J1 ?_)<;>unhygienic intros
   refine⟨_,by first|rfl|(simp;rfl),trivial,?_⟩
   apply an.cC
   (·exact sA)
   (·first|exact pR|exact kR)
 | cM kb=>
   obtain⟨qh,tR⟩:=hn
   intro A F hw hS
   refine ab Tryz.func90 rfl (by kernel_rfl) fun _=>?_
   dsimp only [na,zo] at hS
   obtain⟨⟨bh,aY,az,aJ,aK,m,dy,k,ja,dr,bS,aw,aB,va,vv,vi,fA,fk,dD,dL,cI,jv,dO,dP,cG,cx,dv,cH,dN,bU,bt,dM,bT⟩,hS⟩:=gz.open hS .z
   dsimp only [bE,bH,cJ,bj,cR,eQ,cO,bf,ff,bO,bP,bd,be,bL,bc,bN,aO,aI,bM,aN,bJ,aT,aQ,aD.rv,na,zo] at hS
   try simp only [cV] at hS
   have hq:=ZL hS hw
   obtain⟨l8,LZ,rfl,_⟩:=(an.gM hS (.s (.s (.s (.s (.s (.s .z))))))).cL
   have hq:=ZL hS hw
   simp only [oT] at hq
   have jl:=jI bh cf.ah.toNat dr set dl fz (by omega)
   rw [hs] at jl
   have Ay:(cr cf.ah.toNat set dl).2=set:=by
    revert hs
    unfold cr
    split
    · simp
    · split<;>simp
   rw [Ay] at jl
   revert hq hS hw;(repeat first|clear hq|clear hS|clear hw|revert hc|revert zn|revert zA|revert xw|revert R|revert K);refine Qk (J6 (Tg.mk (n:=14) @kX) (Tg.mk (n:=32) @jl) (Tg.mk (n:=24) (fO b ⟨cf,ag,av,ax,value,br,false,(ah++[cA]),ac,ap,set,aM,ao,[],none,none,0,.bm⟩ 0 3 gt (by decide) rfl rfl)) (od jj) (od ji) (od jh)) (J4 qh tR @AW.aa @af.eq_1) (J1 ?_)<;>unhygienic intros
   refine⟨_,by first|rfl|(simp;rfl),trivial,?_⟩
   apply an.cC
   (·exact sA)
   (·first|exact pR|exact kR)
theorem Bj (b:Nat) (s:aD) (r:dY) (hd:s.aA=.bm) (hC:ep s) (hE:fe s) (h3:r.cj=3) (hr:r.du=false) (hn:r.cA<s.cf.aF∧¬r.cA∈s.ah) (hs:(cr s.cf.ah.toNat s.set r.dl).1=true) :
 aP Tryz.prog 90 [pv b] [.h (gz b s 3 (.bz r .take))] (fun _=>True) (fun _=>[.h (bF b (ql s r .take))]):=by
 obtain⟨cf,ag,av,ax,value,br,ai,ah,ac,ap,set,aM,ao,aj,aG,aE,am,aA⟩:=s
 dsimp only at hd
 subst hd
 have ma:=hE
 obtain⟨nu,ns,nq,nk,nj⟩:=ma
 have gt:=hC.cf
 have fz:=hC.set
 have tP:=hC.EG
 dsimp only at nu ns nq nk nj gt fz tP
 subst nj nu ns nq nk
 have R0:=gt.ah
 obtain⟨cA,dl,rv,cj,d8,mB,du⟩:=r
 dsimp only at h3 hr hn hs
 subst h3 hr
 have oT:dY.Bo ⟨cA,dl,rv,3,d8,mB,false⟩=3:=if_neg (by simp)
 have e:ql ⟨cf,ag,av,ax,value,br,false,ah,ac,ap,set,aM,ao,[],none,none,0,.bm⟩ ⟨cA,dl,rv,3,d8,mB,false⟩ .take=⟨cf,ag,av,ax,mB,br,false,(ah++[cA]),ac,ap,(cr cf.ah.toNat set dl).2,aM,ao,[],none,none,0,.bm⟩:=by
  unfold ql
  dsimp only
  rw [if_pos hn,if_pos hs]
  rfl
 rw [e]
 obtain⟨qh,tR⟩:=hn
 intro A F hw hS
 refine ab Tryz.func90 rfl (by kernel_rfl) fun _=>?_
 dsimp only [na,zo] at hS
 obtain⟨⟨bh,aY,az,aJ,aK,m,dy,k,ja,dr,bS,aw,aB,va,vv,vi,fA,fk,dD,dL,cI,jv,dO,dP,cG,cx,dv,cH,dN,bU,bt,dM,bT⟩,hS⟩:=gz.open hS .z
 dsimp only [bE,bH,cJ,bj,cR,eQ,cO,bf,ff,bO,bP,bd,be,bL,bc,bN,aO,aI,bM,aN,bJ,aT,aQ,aD.rv,na,zo] at hS
 try simp only [cV] at hS
 have hq:=ZL hS hw
 obtain⟨l8,LZ,rfl,_⟩:=(an.gM hS (.s (.s (.s (.s (.s (.s .z))))))).cL
 have hq:=ZL hS hw
 simp only [oT] at hq
 have jl:=jI bh cf.ah.toNat dr set dl fz (by omega)
 rw [hs] at jl
 revert hq hS hw;clear hq;clear hS;refine Qk (J5 (Tg.mk (n:=14) @kX) (Tg.mk (n:=32) @jl) (od jj) (od ji) (od jh)) (J4 qh tR @AW.aa @af.eq_1) (J1 ?_)<;>unhygienic intros
 refine⟨_,by first|rfl|(simp;rfl),trivial,?_⟩
 apply bF.cC (cx:=.bool false) (dv:=.bool false)
 (·exact sA)
 (dsimp only [bE,bH,cJ,bj,cR,eQ,cO,bf,ff,bO,bP,bd,be,bL,bc,bN,aO,aI,bM,aN,bJ,aT,aQ,aD.rv,na,zo])
 (try simp only [cV])
 (try simp only [h])
 (try simp only [m8,gK,ms])
 (·first|exact pR|exact kR)
 (·first|exact pR|exact kR)
 all_goals(first|exact 0|exact undef)
theorem yO (b:Nat) (s:aD) (r:dY) (kb:Int) (hd:s.aA=.bm) (hC:ep s) (hE:fe s) (h3:r.cj=3) (hr:r.du=false) (hn:r.cA<s.cf.aF∧¬r.cA∈s.ah) (hs:(cr s.cf.ah.toNat s.set r.dl).1=true) (hf:(s.ap.length:Int)≤s.cf.ap) (hk:0≤kb∧kb<s.cf.nb) (zM:ep (if r.cA<s.cf.aF∧¬r.cA∈s.ah then { s with ah:=s.ah++[r.cA],set:=(cr s.cf.ah.toNat s.set r.dl).2 } else { s with set:=(cr s.cf.ah.toNat s.set r.dl).2 })) :
 aP Tryz.prog 90 [pv b] [.h (gz b s 3 (.bz r (.cM kb)))] (fun _=>True) (fun _=>[.h (bF b (ql s r (.cM kb)))]):=by
 obtain⟨cf,ag,av,ax,value,br,ai,ah,ac,ap,set,aM,ao,aj,aG,aE,am,aA⟩:=s
 dsimp only at hd
 subst hd
 have ma:=hE
 obtain⟨nu,ns,nq,nk,nj⟩:=ma
 have gt:=hC.cf
 have fz:=hC.set
 have tP:=hC.EG
 dsimp only at nu ns nq nk nj gt fz tP
 subst nj nu ns nq nk
 have R0:=gt.ah
 obtain⟨cA,dl,rv,cj,d8,mB,du⟩:=r
 dsimp only at h3 hr hn hs hf hk zM
 subst h3 hr
 have oT:dY.Bo ⟨cA,dl,rv,3,d8,mB,false⟩=3:=if_neg (by simp)
 have e:ql ⟨cf,ag,av,ax,value,br,false,ah,ac,ap,set,aM,ao,[],none,none,0,.bm⟩ ⟨cA,dl,rv,3,d8,mB,false⟩ (.cM kb)=jX ⟨cf,ag,av,ax,value,br,false,(ah++[cA]),ac,ap,(cr cf.ah.toNat set dl).2,aM,ao,[],none,none,0,.bm⟩ kb mB:=by
  unfold ql
  dsimp only
  rw [if_pos hn,if_pos hs]
  rfl
 rw [e]
 rw [if_pos hn] at zM
 try dsimp only at zM
 obtain⟨qh,tR⟩:=hn
 intro A F hw hS
 refine ab Tryz.func90 rfl (by kernel_rfl) fun _=>?_
 dsimp only [na,zo] at hS
 obtain⟨⟨bh,aY,az,aJ,aK,m,dy,k,ja,dr,bS,aw,aB,va,vv,vi,fA,fk,dD,dL,cI,jv,dO,dP,cG,cx,dv,cH,dN,bU,bt,dM,bT⟩,hS⟩:=gz.open hS .z
 dsimp only [bE,bH,cJ,bj,cR,eQ,cO,bf,ff,bO,bP,bd,be,bL,bc,bN,aO,aI,bM,aN,bJ,aT,aQ,aD.rv,na,zo] at hS
 try simp only [cV] at hS
 have hq:=ZL hS hw
 obtain⟨l8,LZ,rfl,_⟩:=(an.gM hS (.s (.s (.s (.s (.s (.s .z))))))).cL
 have hq:=ZL hS hw
 simp only [oT] at hq
 have jl:=jI bh cf.ah.toNat dr set dl fz (by omega)
 rw [hs] at jl
 have h:∀st,eS st (.cM kb 0)=false∧jH st (.cM kb 0)=false∧∀j,ez st j (.cM kb 0)=j:=fun st=>⟨rfl,rfl,fun j=>rfl⟩
 revert hq hS hw;clear hq;clear hS;refine Qk (J6 (Tg.mk (n:=14) @kX) (Tg.mk (n:=32) @jl) (Tg.mk (n:=24) (oZ b ⟨cf,ag,av,ax,value,br,false,(ah++[cA]),ac,ap,(cr cf.ah.toNat set dl).2,aM,ao,[],none,none,0,.bm⟩ 0 kb mB rfl zM ⟨rfl,rfl,rfl,rfl,rfl⟩ hf hk rfl)) (od jj) (od ji) (od jh)) (J4 qh tR @AW.aa @af.eq_1) (J1 ?_)<;>unhygienic intros
 refine⟨_,by first|rfl|(simp;rfl),trivial,?_⟩
 apply an.cC
 (·exact sA)
 (·first|exact pR|exact kR)
theorem Bi (b:Nat) (s:aD) (r:dY) (u:qX) (hd:s.aA=.bm) (hC:ep s) (hE:fe s) (h3:r.cj=3) (hr:r.du=false) (hn:¬(r.cA<s.cf.aF∧¬r.cA∈s.ah)) (hs:(cr s.cf.ah.toNat s.set r.dl).1=false) :
 aP Tryz.prog 90 [pv b] [.h (gz b s 3 (.bz r u))] (fun _=>True) (fun _=>[.h (bF b (ql s r u))]):=by
 obtain⟨cf,ag,av,ax,value,br,ai,ah,ac,ap,set,aM,ao,aj,aG,aE,am,aA⟩:=s
 dsimp only at hd
 subst hd
 have ma:=hE
 obtain⟨nu,ns,nq,nk,nj⟩:=ma
 have gt:=hC.cf
 have fz:=hC.set
 have tP:=hC.EG
 dsimp only at nu ns nq nk nj gt fz tP
 subst nj nu ns nq nk
 have R0:=gt.ah
 obtain⟨cA,dl,rv,cj,d8,mB,du⟩:=r
 dsimp only at h3 hr hn hs
 subst h3 hr
 have oT:dY.Bo ⟨cA,dl,rv,3,d8,mB,false⟩=3:=if_neg (by simp)
 have e:ql ⟨cf,ag,av,ax,value,br,false,ah,ac,ap,set,aM,ao,[],none,none,0,.bm⟩ ⟨cA,dl,rv,3,d8,mB,false⟩ u=gy ⟨cf,ag,av,ax,value,br,false,ah,ac,ap,set,aM,ao,[],none,none,0,.bm⟩ 3:=by
  unfold ql
  dsimp only
  rw [if_neg hn,if_neg (by rw [hs];decide)]
 rw [e]
 cases u with
 | take=>
   by_cases qh:cA<cf.aF
   · have tR:cA∈ah:=by
      apply Classical.byContradiction
      intro h
      exact hn ⟨qh,h⟩
     intro A F hw hS
     refine ab Tryz.func90 rfl (by kernel_rfl) fun _=>?_
     dsimp only [na,zo] at hS
     obtain⟨⟨bh,aY,az,aJ,aK,m,dy,k,ja,dr,bS,aw,aB,va,vv,vi,fA,fk,dD,dL,cI,jv,dO,dP,cG,cx,dv,cH,dN,bU,bt,dM,bT⟩,hS⟩:=gz.open hS .z
     dsimp only [bE,bH,cJ,bj,cR,eQ,cO,bf,ff,bO,bP,bd,be,bL,bc,bN,aO,aI,bM,aN,bJ,aT,aQ,aD.rv,na,zo] at hS
     try simp only [cV] at hS
     have hq:=ZL hS hw
     obtain⟨l8,LZ,rfl,_⟩:=(an.gM hS (.s (.s (.s (.s (.s (.s .z))))))).cL
     have hq:=ZL hS hw
     simp only [oT] at hq
     have jl:=jI bh cf.ah.toNat dr set dl fz (by omega)
     rw [hs] at jl
     have Ay:(cr cf.ah.toNat set dl).2=set:=by
      revert hs
      unfold cr
      split
      · simp
      · split<;>simp
     rw [Ay] at jl
     revert hq hS hw;clear hq;clear hS;have gR:=trivial;refine Wr (J6 (Tg.mk (n:=14) @kX) (Tg.mk (n:=32) @jl) (Tg.mk (n:=24) (fO b ⟨cf,ag,av,ax,value,br,false,ah,ac,ap,set,aM,ao,[],none,none,0,.bm⟩ 0 3 gt (by decide) rfl rfl)) (od jj) (od ji) (od jh)) (J4 qh tR @AW.aa @af.eq_1) (J1 ?_)<;>unhygienic intros
     refine⟨_,by first|rfl|(simp;rfl),trivial,?_⟩
     apply an.cC
     (·exact sA)
     (·first|exact pR|exact kR)
   · skip
     intro A F hw hS
     refine ab Tryz.func90 rfl (by kernel_rfl) fun _=>?_
     dsimp only [na,zo] at hS
     obtain⟨⟨bh,aY,az,aJ,aK,m,dy,k,ja,dr,bS,aw,aB,va,vv,vi,fA,fk,dD,dL,cI,jv,dO,dP,cG,cx,dv,cH,dN,bU,bt,dM,bT⟩,hS⟩:=gz.open hS .z
     dsimp only [bE,bH,cJ,bj,cR,eQ,cO,bf,ff,bO,bP,bd,be,bL,bc,bN,aO,aI,bM,aN,bJ,aT,aQ,aD.rv,na,zo] at hS
     try simp only [cV] at hS
     have hq:=ZL hS hw
     obtain⟨l8,LZ,rfl,_⟩:=(an.gM hS (.s (.s (.s (.s (.s (.s .z))))))).cL
     have hq:=ZL hS hw
     simp only [oT] at hq
     have jl:=jI bh cf.ah.toNat dr set dl fz (by omega)
     rw [hs] at jl
     have Ay:(cr cf.ah.toNat set dl).2=set:=by
      revert hs
      unfold cr
      split
      · simp
      · split<;>simp
     rw [Ay] at jl
     revert hq hS hw;(repeat first|clear hq|clear hS|clear hw|revert hc|revert zn|revert zA|revert xw|revert R|revert K);have gR:=trivial;refine Wr (J6 (Tg.mk (n:=14) @kX) (Tg.mk (n:=32) @jl) (Tg.mk (n:=24) (fO b ⟨cf,ag,av,ax,value,br,false,ah,ac,ap,set,aM,ao,[],none,none,0,.bm⟩ 0 3 gt (by decide) rfl rfl)) (od jj) (od ji) (od jh)) (J3 qh @AW.aa @af.eq_1) (J1 ?_)<;>unhygienic intros
     refine⟨_,by first|rfl|(simp;rfl),trivial,?_⟩
     apply an.cC
     (·exact sA)
     (·first|exact pR|exact kR)
 | cM kb=>
   by_cases qh:cA<cf.aF
   · have tR:cA∈ah:=by
      apply Classical.byContradiction
      intro h
      exact hn ⟨qh,h⟩
     intro A F hw hS
     refine ab Tryz.func90 rfl (by kernel_rfl) fun _=>?_
     dsimp only [na,zo] at hS
     obtain⟨⟨bh,aY,az,aJ,aK,m,dy,k,ja,dr,bS,aw,aB,va,vv,vi,fA,fk,dD,dL,cI,jv,dO,dP,cG,cx,dv,cH,dN,bU,bt,dM,bT⟩,hS⟩:=gz.open hS .z
     dsimp only [bE,bH,cJ,bj,cR,eQ,cO,bf,ff,bO,bP,bd,be,bL,bc,bN,aO,aI,bM,aN,bJ,aT,aQ,aD.rv,na,zo] at hS
     try simp only [cV] at hS
     have hq:=ZL hS hw
     obtain⟨l8,LZ,rfl,_⟩:=(an.gM hS (.s (.s (.s (.s (.s (.s .z))))))).cL
     have hq:=ZL hS hw
     simp only [oT] at hq
     have jl:=jI bh cf.ah.toNat dr set dl fz (by omega)
     rw [hs] at jl
     have Ay:(cr cf.ah.toNat set dl).2=set:=by
      revert hs
      unfold cr
      split
      · simp
      · split<;>simp
     rw [Ay] at jl
     revert hq hS hw;(repeat first|clear hq|clear hS|clear hw|revert hc|revert zn|revert zA|revert xw|revert R|revert K);have gR:=trivial;refine Wr (J6 (Tg.mk (n:=14) @kX) (Tg.mk (n:=32) @jl) (Tg.mk (n:=24) (fO b ⟨cf,ag,av,ax,value,br,false,ah,ac,ap,set,aM,ao,[],none,none,0,.bm⟩ 0 3 gt (by decide) rfl rfl)) (od jj) (od ji) (od jh)) (J4 qh tR @AW.aa @af.eq_1) (J1 ?_)<;>unhygienic intros
     refine⟨_,by first|rfl|(simp;rfl),trivial,?_⟩
     apply an.cC
     (·exact sA)
     (·first|exact pR|exact kR)
   · skip
     intro A F hw hS
     refine ab Tryz.func90 rfl (by kernel_rfl) fun _=>?_
     dsimp only [na,zo] at hS
     obtain⟨⟨bh,aY,az,aJ,aK,m,dy,k,ja,dr,bS,aw,aB,va,vv,vi,fA,fk,dD,dL,cI,jv,dO,dP,cG,cx,dv,cH,dN,bU,bt,dM,bT⟩,hS⟩:=gz.open hS .z
     dsimp only [bE,bH,cJ,bj,cR,eQ,cO,bf,ff,bO,bP,bd,be,bL,bc,bN,aO,aI,bM,aN,bJ,aT,aQ,aD.rv,na,zo] at hS
     try simp only [cV] at hS
     have hq:=ZL hS hw
     obtain⟨l8,LZ,rfl,_⟩:=(an.gM hS (.s (.s (.s (.s (.s (.s .z))))))).cL
     have hq:=ZL hS hw
     simp only [oT] at hq
     have jl:=jI bh cf.ah.toNat dr set dl fz (by omega)
     rw [hs] at jl
     have Ay:(cr cf.ah.toNat set dl).2=set:=by
      revert hs
      unfold cr
      split
      · simp
      · split<;>simp
     rw [Ay] at jl
     revert hq hS hw;(repeat first|clear hq|clear hS|clear hw|revert hc|revert zn|revert zA|revert xw|revert R|revert K);have gR:=trivial;refine Wr (J6 (Tg.mk (n:=14) @kX) (Tg.mk (n:=32) @jl) (Tg.mk (n:=24) (fO b ⟨cf,ag,av,ax,value,br,false,ah,ac,ap,set,aM,ao,[],none,none,0,.bm⟩ 0 3 gt (by decide) rfl rfl)) (od jj) (od ji) (od jh)) (J3 qh @AW.aa @af.eq_1) (J1 ?_)<;>unhygienic intros
     refine⟨_,by first|rfl|(simp;rfl),trivial,?_⟩
     apply an.cC
     (·exact sA)
     (·first|exact pR|exact kR)
theorem Bh (b:Nat) (s:aD) (r:dY) (hd:s.aA=.bm) (hC:ep s) (hE:fe s) (h3:r.cj=3) (hr:r.du=false) (hn:¬(r.cA<s.cf.aF∧¬r.cA∈s.ah)) (hs:(cr s.cf.ah.toNat s.set r.dl).1=true) :
 aP Tryz.prog 90 [pv b] [.h (gz b s 3 (.bz r .take))] (fun _=>True) (fun _=>[.h (bF b (ql s r .take))]):=by
 obtain⟨cf,ag,av,ax,value,br,ai,ah,ac,ap,set,aM,ao,aj,aG,aE,am,aA⟩:=s
 dsimp only at hd
 subst hd
 have ma:=hE
 obtain⟨nu,ns,nq,nk,nj⟩:=ma
 have gt:=hC.cf
 have fz:=hC.set
 have tP:=hC.EG
 dsimp only at nu ns nq nk nj gt fz tP
 subst nj nu ns nq nk
 have R0:=gt.ah
 obtain⟨cA,dl,rv,cj,d8,mB,du⟩:=r
 dsimp only at h3 hr hn hs
 subst h3 hr
 have oT:dY.Bo ⟨cA,dl,rv,3,d8,mB,false⟩=3:=if_neg (by simp)
 have e:ql ⟨cf,ag,av,ax,value,br,false,ah,ac,ap,set,aM,ao,[],none,none,0,.bm⟩ ⟨cA,dl,rv,3,d8,mB,false⟩ .take=⟨cf,ag,av,ax,mB,br,false,ah,ac,ap,(cr cf.ah.toNat set dl).2,aM,ao,[],none,none,0,.bm⟩:=by
  unfold ql
  dsimp only
  rw [if_neg hn,if_pos hs]
  rfl
 rw [e]
 by_cases qh:cA<cf.aF
 · have tR:cA∈ah:=by
    apply Classical.byContradiction
    intro h
    exact hn ⟨qh,h⟩
   intro A F hw hS
   refine ab Tryz.func90 rfl (by kernel_rfl) fun _=>?_
   dsimp only [na,zo] at hS
   obtain⟨⟨bh,aY,az,aJ,aK,m,dy,k,ja,dr,bS,aw,aB,va,vv,vi,fA,fk,dD,dL,cI,jv,dO,dP,cG,cx,dv,cH,dN,bU,bt,dM,bT⟩,hS⟩:=gz.open hS .z
   dsimp only [bE,bH,cJ,bj,cR,eQ,cO,bf,ff,bO,bP,bd,be,bL,bc,bN,aO,aI,bM,aN,bJ,aT,aQ,aD.rv,na,zo] at hS
   try simp only [cV] at hS
   have hq:=ZL hS hw
   obtain⟨l8,LZ,rfl,_⟩:=(an.gM hS (.s (.s (.s (.s (.s (.s .z))))))).cL
   have hq:=ZL hS hw
   simp only [oT] at hq
   have jl:=jI bh cf.ah.toNat dr set dl fz (by omega)
   rw [hs] at jl
   revert hq hS hw;clear hq;clear hS;have gR:=trivial;refine Wr (J5 (Tg.mk (n:=14) @kX) (Tg.mk (n:=32) @jl) (od jj) (od ji) (od jh)) (J4 qh tR @AW.aa @af.eq_1) (J1 ?_)<;>unhygienic intros
   refine⟨_,by first|rfl|(simp;rfl),trivial,?_⟩
   apply bF.cC (cx:=.bool false) (dv:=.bool false)
   (·exact sA)
   (dsimp only [bE,bH,cJ,bj,cR,eQ,cO,bf,ff,bO,bP,bd,be,bL,bc,bN,aO,aI,bM,aN,bJ,aT,aQ,aD.rv,na,zo])
   (try simp only [cV])
   (try simp only [h])
   (try simp only [m8,gK,ms])
   (·first|exact pR|exact kR)
   (·first|exact pR|exact kR)
   all_goals(first|exact 0|exact undef)
 · skip
   intro A F hw hS
   refine ab Tryz.func90 rfl (by kernel_rfl) fun _=>?_
   dsimp only [na,zo] at hS
   obtain⟨⟨bh,aY,az,aJ,aK,m,dy,k,ja,dr,bS,aw,aB,va,vv,vi,fA,fk,dD,dL,cI,jv,dO,dP,cG,cx,dv,cH,dN,bU,bt,dM,bT⟩,hS⟩:=gz.open hS .z
   dsimp only [bE,bH,cJ,bj,cR,eQ,cO,bf,ff,bO,bP,bd,be,bL,bc,bN,aO,aI,bM,aN,bJ,aT,aQ,aD.rv,na,zo] at hS
   try simp only [cV] at hS
   have hq:=ZL hS hw
   obtain⟨l8,LZ,rfl,_⟩:=(an.gM hS (.s (.s (.s (.s (.s (.s .z))))))).cL
   have hq:=ZL hS hw
   simp only [oT] at hq
   have jl:=jI bh cf.ah.toNat dr set dl fz (by omega)
   rw [hs] at jl
   revert hq hS hw;(repeat first|clear hq|clear hS|clear hw|revert hc|revert zn|revert zA|revert xw|revert R|revert K);have gR:=trivial;refine Wr (J5 (Tg.mk (n:=14) @kX) (Tg.mk (n:=32) @jl) (od jj) (od ji) (od jh)) (J3 qh @AW.aa @af.eq_1) (J1 ?_)<;>unhygienic intros
   refine⟨_,by first|rfl|(simp;rfl),trivial,?_⟩
   apply bF.cC (cx:=.bool false) (dv:=.bool false)
   (·exact sA)
   (dsimp only [bE,bH,cJ,bj,cR,eQ,cO,bf,ff,bO,bP,bd,be,bL,bc,bN,aO,aI,bM,aN,bJ,aT,aQ,aD.rv,na,zo])
   (try simp only [cV])
   (try simp only [h])
   (try simp only [m8,gK,ms])
   (·first|exact pR|exact kR)
   (·first|exact pR|exact kR)
   all_goals(first|exact 0|exact undef)
theorem yN (b:Nat) (s:aD) (r:dY) (kb:Int) (hd:s.aA=.bm) (hC:ep s) (hE:fe s) (h3:r.cj=3) (hr:r.du=false) (hn:¬(r.cA<s.cf.aF∧¬r.cA∈s.ah)) (hs:(cr s.cf.ah.toNat s.set r.dl).1=true) (hf:(s.ap.length:Int)≤s.cf.ap) (hk:0≤kb∧kb<s.cf.nb) (zM:ep (if r.cA<s.cf.aF∧¬r.cA∈s.ah then { s with ah:=s.ah++[r.cA],set:=(cr s.cf.ah.toNat s.set r.dl).2 } else { s with set:=(cr s.cf.ah.toNat s.set r.dl).2 })) :
 aP Tryz.prog 90 [pv b] [.h (gz b s 3 (.bz r (.cM kb)))] (fun _=>True) (fun _=>[.h (bF b (ql s r (.cM kb)))]):=by
 obtain⟨cf,ag,av,ax,value,br,ai,ah,ac,ap,set,aM,ao,aj,aG,aE,am,aA⟩:=s
 dsimp only at hd
 subst hd
 have ma:=hE
 obtain⟨nu,ns,nq,nk,nj⟩:=ma
 have gt:=hC.cf
 have fz:=hC.set
 have tP:=hC.EG
 dsimp only at nu ns nq nk nj gt fz tP
 subst nj nu ns nq nk
 have R0:=gt.ah
 obtain⟨cA,dl,rv,cj,d8,mB,du⟩:=r
 dsimp only at h3 hr hn hs hf hk zM
 subst h3 hr
 have oT:dY.Bo ⟨cA,dl,rv,3,d8,mB,false⟩=3:=if_neg (by simp)
 have e:ql ⟨cf,ag,av,ax,value,br,false,ah,ac,ap,set,aM,ao,[],none,none,0,.bm⟩ ⟨cA,dl,rv,3,d8,mB,false⟩ (.cM kb)=jX ⟨cf,ag,av,ax,value,br,false,ah,ac,ap,(cr cf.ah.toNat set dl).2,aM,ao,[],none,none,0,.bm⟩ kb mB:=by
  unfold ql
  dsimp only
  rw [if_neg hn,if_pos hs]
  rfl
 rw [e]
 rw [if_neg hn] at zM
 try dsimp only at zM
 by_cases qh:cA<cf.aF
 · have tR:cA∈ah:=by
    apply Classical.byContradiction
    intro h
    exact hn ⟨qh,h⟩
   intro A F hw hS
   refine ab Tryz.func90 rfl (by kernel_rfl) fun _=>?_
   dsimp only [na,zo] at hS
   obtain⟨⟨bh,aY,az,aJ,aK,m,dy,k,ja,dr,bS,aw,aB,va,vv,vi,fA,fk,dD,dL,cI,jv,dO,dP,cG,cx,dv,cH,dN,bU,bt,dM,bT⟩,hS⟩:=gz.open hS .z
   dsimp only [bE,bH,cJ,bj,cR,eQ,cO,bf,ff,bO,bP,bd,be,bL,bc,bN,aO,aI,bM,aN,bJ,aT,aQ,aD.rv,na,zo] at hS
   try simp only [cV] at hS
   have hq:=ZL hS hw
   obtain⟨l8,LZ,rfl,_⟩:=(an.gM hS (.s (.s (.s (.s (.s (.s .z))))))).cL
   have hq:=ZL hS hw
   simp only [oT] at hq
   have jl:=jI bh cf.ah.toNat dr set dl fz (by omega)
   rw [hs] at jl
   have h:∀st,eS st (.cM kb 0)=false∧jH st (.cM kb 0)=false∧∀j,ez st j (.cM kb 0)=j:=fun st=>⟨rfl,rfl,fun j=>rfl⟩
   revert hq hS hw;clear hq;clear hS;have gR:=trivial;refine Wr (J6 (Tg.mk (n:=14) @kX) (Tg.mk (n:=32) @jl) (Tg.mk (n:=24) (oZ b ⟨cf,ag,av,ax,value,br,false,ah,ac,ap,(cr cf.ah.toNat set dl).2,aM,ao,[],none,none,0,.bm⟩ 0 kb mB rfl zM ⟨rfl,rfl,rfl,rfl,rfl⟩ hf hk rfl)) (od jj) (od ji) (od jh)) (J4 qh tR @AW.aa @af.eq_1) (J1 ?_)<;>unhygienic intros
   refine⟨_,by first|rfl|(simp;rfl),trivial,?_⟩
   apply an.cC
   (·exact sA)
   (·first|exact pR|exact kR)
 · skip
   intro A F hw hS
   refine ab Tryz.func90 rfl (by kernel_rfl) fun _=>?_
   dsimp only [na,zo] at hS
   obtain⟨⟨bh,aY,az,aJ,aK,m,dy,k,ja,dr,bS,aw,aB,va,vv,vi,fA,fk,dD,dL,cI,jv,dO,dP,cG,cx,dv,cH,dN,bU,bt,dM,bT⟩,hS⟩:=gz.open hS .z
   dsimp only [bE,bH,cJ,bj,cR,eQ,cO,bf,ff,bO,bP,bd,be,bL,bc,bN,aO,aI,bM,aN,bJ,aT,aQ,aD.rv,na,zo] at hS
   try simp only [cV] at hS
   have hq:=ZL hS hw
   obtain⟨l8,LZ,rfl,_⟩:=(an.gM hS (.s (.s (.s (.s (.s (.s .z))))))).cL
   have hq:=ZL hS hw
   simp only [oT] at hq
   have jl:=jI bh cf.ah.toNat dr set dl fz (by omega)
   rw [hs] at jl
   have h:∀st,eS st (.cM kb 0)=false∧jH st (.cM kb 0)=false∧∀j,ez st j (.cM kb 0)=j:=fun st=>⟨rfl,rfl,fun j=>rfl⟩
   revert hq hS hw;(repeat first|clear hq|clear hS|clear hw|revert hc|revert zn|revert zA|revert xw|revert R|revert K);have gR:=trivial;refine Wr (J6 (Tg.mk (n:=14) @kX) (Tg.mk (n:=32) @jl) (Tg.mk (n:=24) (oZ b ⟨cf,ag,av,ax,value,br,false,ah,ac,ap,(cr cf.ah.toNat set dl).2,aM,ao,[],none,none,0,.bm⟩ 0 kb mB rfl zM ⟨rfl,rfl,rfl,rfl,rfl⟩ hf hk rfl)) (od jj) (od ji) (od jh)) (J3 qh @AW.aa @af.eq_1) (J1 ?_)<;>unhygienic intros
   refine⟨_,by first|rfl|(simp;rfl),trivial,?_⟩
   apply an.cC
   (·exact sA)
   (·first|exact pR|exact kR)
end Go.Stx
