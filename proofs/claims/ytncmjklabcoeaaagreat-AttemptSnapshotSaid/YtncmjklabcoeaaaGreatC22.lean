/-
 The program's attempt: its requests.
-/
import Derived.Test.YtncmjklabcoeaaaGreatC19
import Derived.Test.YtncmjklabcoeaaaGreatC21
set_option linter.unusedVariables false
set_option linter.unusedSimpArgs false
set_option maxRecDepth 20000
set_option maxHeartbeats 4000000
namespace Go.Stx
open Go Go.Proofs
attribute [local irreducible] fj cm aH bB dK ei
abbrev uL:List (Nat×Nat):=[(0,0),(1,0),(2,0),(3,0),(4,0),(5,0),(6,0),(7,0),(8,0),(9,0),(10,0),(11,0)]
abbrev sJ:List (Nat×Nat):=[(0,0),(1,0),(2,0),(3,0),(4,0),(5,0),(6,0),(7,0)]
open T15 T16
theorem wX {f:FuncId} {args:List Value} {V:Value} {b:Nat} {s:aD} (hC:∀A':AW,A'.Wf→an A' [.h (bI b s)]→eF f args A' V)
 {A:AW} {L K:List It} {k:Value→AW→Prop} (hw:A.Wf) (hS:an A L) (hp:ay L (.h (bI b s)) K) (hk:k V A):aH Tryz.prog f args A k:=by
 refine bD (hC A hw (an.cC hS (.s hp .z))) ?_
 rintro _ _ ⟨rfl,rfl⟩ _ _
 exact hk
theorem iw (b:Nat) (s:aD) (st:Int) (h:s.jY st=true):∀A':AW,A'.Wf→an A' [.h (gW b s 0 .bm)]→eF 41 [pv b,.int .i64 st] A' (.int .i64 0):=by
 intro A' h1 h2
 have h3:s.aA.eo=0:=by
  unfold aD.jY at h
  simp at h
  exact h.1
 have:=yV b s st .bm A' h1 (by rw [h3];exact h2)
 rwa [if_pos h] at this
theorem pZ (b:Nat) (s:aD) (st:Int) (h:¬s.jY st=true):∀A':AW,A'.Wf→an A' [.h (bI b s)]→eF 41 [pv b,.int .i64 st] A' (.int .i64 1):=by
 intro A' h1 h2
 have:=yV b s st s.aA A' h1 (bI.Tk h2 .z)
 rwa [if_neg h] at this
theorem ip {s:aD} {st:Int} (h:s.jY st=true):s.aA=.bm∧s.av=st:=by
 unfold aD.jY at h
 simp at h
 refine⟨?_,h.2⟩
 have h1:=h.1
 revert h1
 cases s.aA<;>simp [ba.eo]
theorem Gn {c:bG} (hc:dt c) (a:Int):gT c a≤64:=by
 have:=hc.nb
 unfold gT
 split
 · rename_i b h
   have h1:=List.mem_range.1 (List.mem_of_find?_eq_some h)
   omega
 · omega
theorem Ae (b:Nat) (s:aD) :
 aP Tryz.prog 12 [pv b] [.h (bI b s)] (fun v=>v=.int .i64 (jG s).1) (fun _=>[.h (bI b (jG s).2)]):=by
 by_cases hf:s.jY 0=true
 · skip
   obtain⟨h1,h2⟩:=ip hf
   obtain⟨cf,ag,av,ax,value,br,ai,ah,ac,ap,set,aM,ao,aj,aG,aE,am,aA⟩:=s
   dsimp only at h1 h2
   subst h1 h2
   intro A F hw hS
   refine ab Tryz.func12 rfl (by kernel_rfl) fun _=>?_
   obtain⟨⟨bh,aY,az,aJ,aK,m,c0,c1,c2,bx,aw,aB,aV,bQ,bg,cE,aW,aU,aC,bA,bC,cP,bR⟩,hS⟩:=bI.open hS .z
   dsimp only [cg,fq,bW,da,ba.eo,na,zo] at hS
   have hq:=ZN hS hw
   have zF:=hw.lt (hS.g 0 rfl)
   have pm:(b=A.next+1+1)=False:=eq_false (by omega)
   have xH:(A.next+1+1=b)=False:=eq_false (by omega)
   have Ci:(A.next=A.next+1+1)=False:=eq_false (by omega)
   have e:jG ⟨cf,ag,0,ax,value,br,ai,ah,ac,ap,set,aM,ao,aj,aG,aE,am,.bm⟩=(0,_):=if_pos hf
   revert hq hS hw;clear hS;refine Wp (J2 (Tg.mk (n:=30) (iw b ⟨cf,ag,0,ax,value,br,ai,ah,ac,ap,set,aM,ao,aj,aG,aE,am,.bm⟩ 0 hf)) @Bv) (J5 pm xH Ci @AW.aa @af.eq_1) (J1 ?_)<;>unhygienic intros
   rw [e]
   refine⟨_,by first|rfl|(simp;rfl),rfl,?_⟩
   apply bI.cC
   (·exact sA)
   (dsimp only [cg,fi,fq,bW,da,ba.eo,bJ,aT,aQ,dT,cY,dV,fC,cZ,cW,bV,dU,dR,fB,dS,na,zo])
   try simp only [h]
   (·first|exact pP|exact kP)
   (·first|exact pP|exact kP)
   all_goals(first|exact 0|exact undef)
 · have e:jG s=(1,s):=if_neg hf
   intro A F hw hS
   refine ab Tryz.func12 rfl (by kernel_rfl) fun _=>?_
   try dsimp only [na,zo] at hS
   have hr:=pZ b s 0 hf
   revert hS hw;(repeat first|clear hS|clear hw|revert hc|revert zn|revert zA|revert R|revert K);refine Wp (J1 (Tg.mk (n:=10) (fun {A L K k}=>wX (A:=A) (L:=L) (K:=K) (k:=k) hr))) (J2 @AW.aa @af.eq_1) (J1 ?_)<;>unhygienic intros
   rw [e]
   refine⟨_,by first|rfl|(simp;rfl),rfl,?_⟩
   apply an.cC
   (·exact sA)
   (·first|exact pP|exact kP)
theorem xQ (b:Nat) (s:aD) (a v:Int) :
 aP Tryz.prog 17 [pv b,.int .u64 a,.int .u64 v] [.h (bI b s)] (fun u=>u=.int .i64 (CF s a v).1) (fun _=>[.h (bI b (CF s a v).2)]):=by
 by_cases hf:s.jY 1=true
 · skip
   obtain⟨h1,h2⟩:=ip hf
   obtain⟨cf,ag,av,ax,value,br,ai,ah,ac,ap,set,aM,ao,aj,aG,aE,am,aA⟩:=s
   dsimp only at h1 h2
   subst h1 h2
   intro A F hw hS
   refine ab Tryz.func17 rfl (by kernel_rfl) fun _=>?_
   obtain⟨⟨bh,aY,az,aJ,aK,m,c0,c1,c2,bx,aw,aB,aV,bQ,bg,cE,aW,aU,aC,bA,bC,cP,bR⟩,hS⟩:=bI.open hS .z
   dsimp only [cg,fq,bW,da,ba.eo,na,zo] at hS
   have hq:=ZN hS hw
   have zF:=hw.lt (hS.g 0 rfl)
   have pm:(b=A.next+1+1)=False:=eq_false (by omega)
   have xH:(A.next+1+1=b)=False:=eq_false (by omega)
   have Ci:(A.next=A.next+1+1)=False:=eq_false (by omega)
   have e:CF ⟨cf,ag,1,ax,value,br,ai,ah,ac,ap,set,aM,ao,aj,aG,aE,am,.bm⟩ a v=(0,_):=if_pos hf
   revert hq hS hw;clear hS;refine Wp (J2 (Tg.mk (n:=30) (iw b ⟨cf,ag,1,ax,value,br,ai,ah,ac,ap,set,aM,ao,aj,aG,aE,am,.bm⟩ 1 hf)) (Tg.mk (n:=31) (fun {A L K k fn cs bh aY az aJ aK m c0 c1 c2 bx aw aB aV bQ bg cE aW aU aC bA bC cP bR}=>jw (A:=A) (L:=L) (K:=K) (k:=k) (fn:=fn) (cs:=cs) (bh:=bh) (aY:=aY) (az:=az) (aJ:=aJ) (aK:=aK) (m:=m) (c0:=c0) (c1:=c1) (c2:=c2) (bx:=bx) (aw:=aw) (aB:=aB) (aV:=aV) (bQ:=bQ) (bg:=bg) (cE:=cE) (aW:=aW) (aU:=aU) (aC:=aC) (bA:=bA) (bC:=bC) (cP:=cP) (bR:=bR) (s:=⟨cf,ag,1,ax,value,br,ai,ah,ac,ap,set,aM,ao,aj,aG,aE,am,.bm⟩) (cj:=0)))) (J5 pm xH Ci @AW.aa @af.eq_1) (J1 ?_)<;>unhygienic intros
   rw [e]
   refine⟨_,by first|rfl|(simp;rfl),rfl,?_⟩
   apply bI.cC
   (·exact sA)
   (dsimp only [cg,fi,fq,bW,da,ba.eo,bJ,aT,aQ,dT,cY,dV,fC,cZ,cW,bV,dU,dR,fB,dS,na,zo])
   try simp only [h]
   (·first|exact pP|exact kP)
   (·first|exact pP|exact kP)
   all_goals(first|exact 0|exact undef)
 · have e:CF s a v=(1,s):=if_neg hf
   intro A F hw hS
   refine ab Tryz.func17 rfl (by kernel_rfl) fun _=>?_
   try dsimp only [na,zo] at hS
   have hr:=pZ b s 1 hf
   revert hS hw;(repeat first|clear hS|clear hw|revert hc|revert zn|revert zA|revert R|revert K);refine Wp (J1 (Tg.mk (n:=10) (fun {A L K k}=>wX (A:=A) (L:=L) (K:=K) (k:=k) hr))) (J2 @AW.aa @af.eq_1) (J1 ?_)<;>unhygienic intros
   rw [e]
   refine⟨_,by first|rfl|(simp;rfl),rfl,?_⟩
   apply an.cC
   (·exact sA)
   (·first|exact pP|exact kP)
theorem pp (b:Nat) (s:aD) (mL:Int) :
 aP Tryz.prog 19 [pv b,.int .i64 mL] [.h (bI b s)] (fun u=>u=.int .i64 (xN s mL).1) (fun _=>[.h (bI b (xN s mL).2)]):=by
 by_cases hf:s.jY 1=true
 · skip
   obtain⟨h1,h2⟩:=ip hf
   obtain⟨cf,ag,av,ax,value,br,ai,ah,ac,ap,set,aM,ao,aj,aG,aE,am,aA⟩:=s
   dsimp only at h1 h2
   subst h1 h2
   intro A F hw hS
   refine ab Tryz.func19 rfl (by kernel_rfl) fun _=>?_
   obtain⟨⟨bh,aY,az,aJ,aK,m,c0,c1,c2,bx,aw,aB,aV,bQ,bg,cE,aW,aU,aC,bA,bC,cP,bR⟩,hS⟩:=bI.open hS .z
   dsimp only [cg,fq,bW,da,ba.eo,na,zo] at hS
   have hq:=ZN hS hw
   have zF:=hw.lt (hS.g 0 rfl)
   have pm:(b=A.next+1+1)=False:=eq_false (by omega)
   have xH:(A.next+1+1=b)=False:=eq_false (by omega)
   have Ci:(A.next=A.next+1+1)=False:=eq_false (by omega)
   have e0:xN ⟨cf,ag,1,ax,value,br,ai,ah,ac,ap,set,aM,ao,aj,aG,aE,am,.bm⟩ mL=_:=if_pos hf
   dsimp only at e0
   by_cases g1:mL=1
   · have e:=e0.trans (if_neg (by omega))
     revert hq hS hw;clear hS;refine Wp (J2 (Tg.mk (n:=30) (iw b ⟨cf,ag,1,ax,value,br,ai,ah,ac,ap,set,aM,ao,aj,aG,aE,am,.bm⟩ 1 hf)) (Tg.mk (n:=31) (fun {A L K k fn cs bh aY az aJ aK m c0 c1 c2 bx aw aB aV bQ bg cE aW aU aC bA bC cP bR}=>jw (A:=A) (L:=L) (K:=K) (k:=k) (fn:=fn) (cs:=cs) (bh:=bh) (aY:=aY) (az:=az) (aJ:=aJ) (aK:=aK) (m:=m) (c0:=c0) (c1:=c1) (c2:=c2) (bx:=bx) (aw:=aw) (aB:=aB) (aV:=aV) (bQ:=bQ) (bg:=bg) (cE:=cE) (aW:=aW) (aU:=aU) (aC:=aC) (bA:=bA) (bC:=bC) (cP:=cP) (bR:=bR) (s:=⟨cf,ag,1,ax,value,br,ai,ah,ac,ap,set,aM,ao,aj,aG,aE,am,.bm⟩) (cj:=0)))) (J6 pm xH Ci g1 @AW.aa @af.eq_1) (J1 ?_)<;>unhygienic intros
     subst g1
     rw [e]
     refine⟨_,by first|rfl|(simp;rfl),rfl,?_⟩
     apply bI.cC
     (·exact sA)
     (dsimp only [cg,fi,fq,bW,da,ba.eo,bJ,aT,aQ,dT,cY,dV,fC,cZ,cW,bV,dU,dR,fB,dS,na,zo])
     try simp only [h]
     (·first|exact pP|exact kP)
     (·first|exact pP|exact kP)
     all_goals(first|exact 0|exact undef)
   · by_cases g2:mL=2
     · have e:=e0.trans (if_neg (by omega))
       revert hq hS hw;(repeat first|clear hq|clear hS|clear hw|revert hc|revert zn|revert zA|revert R|revert K);refine Wp (J2 (Tg.mk (n:=30) (iw b ⟨cf,ag,1,ax,value,br,ai,ah,ac,ap,set,aM,ao,aj,aG,aE,am,.bm⟩ 1 hf)) (Tg.mk (n:=31) (fun {A L K k fn cs bh aY az aJ aK m c0 c1 c2 bx aw aB aV bQ bg cE aW aU aC bA bC cP bR}=>jw (A:=A) (L:=L) (K:=K) (k:=k) (fn:=fn) (cs:=cs) (bh:=bh) (aY:=aY) (az:=az) (aJ:=aJ) (aK:=aK) (m:=m) (c0:=c0) (c1:=c1) (c2:=c2) (bx:=bx) (aw:=aw) (aB:=aB) (aV:=aV) (bQ:=bQ) (bg:=bg) (cE:=cE) (aW:=aW) (aU:=aU) (aC:=aC) (bA:=bA) (bC:=bC) (cP:=cP) (bR:=bR) (s:=⟨cf,ag,1,ax,value,br,ai,ah,ac,ap,set,aM,ao,aj,aG,aE,am,.bm⟩) (cj:=0)))) (J7 pm xH Ci g1 g2 @AW.aa @af.eq_1) (J1 ?_)<;>unhygienic intros
       subst g2
       rw [e]
       refine⟨_,by first|rfl|(simp;rfl),rfl,?_⟩
       apply bI.cC
       (·exact sA)
       (dsimp only [cg,fi,fq,bW,da,ba.eo,bJ,aT,aQ,dT,cY,dV,fC,cZ,cW,bV,dU,dR,fB,dS,na,zo])
       try simp only [h]
       (·first|exact pP|exact kP)
       (·first|exact pP|exact kP)
       all_goals(first|exact 0|exact undef)
     · have e:=e0.trans (if_pos ⟨g1,g2⟩)
       revert hq hS hw;(repeat first|clear hq|clear hS|clear hw|revert hc|revert zn|revert zA|revert R|revert K);refine Wp (J1 (Tg.mk (n:=30) (iw b ⟨cf,ag,1,ax,value,br,ai,ah,ac,ap,set,aM,ao,aj,aG,aE,am,.bm⟩ 1 hf))) (J7 pm xH Ci g1 g2 @AW.aa @af.eq_1) (J1 ?_)<;>unhygienic intros
       rw [e]
       refine⟨_,by first|rfl|(simp;rfl),rfl,?_⟩
       apply bI.cC
       (·exact sA)
       (dsimp only [cg,fi,fq,bW,da,ba.eo,bJ,aT,aQ,dT,cY,dV,fC,cZ,cW,bV,dU,dR,fB,dS,na,zo])
       try simp only [h]
       (·first|exact pP|exact kP)
       (·first|exact pP|exact kP)
       all_goals(first|exact 0|exact undef)
 · have e:xN s mL=(1,s):=if_neg hf
   intro A F hw hS
   refine ab Tryz.func19 rfl (by kernel_rfl) fun _=>?_
   try dsimp only [na,zo] at hS
   have hr:=pZ b s 1 hf
   revert hS hw;(repeat first|clear hS|clear hw|revert hc|revert zn|revert zA|revert R|revert K);refine Wp (J1 (Tg.mk (n:=10) (fun {A L K k}=>wX (A:=A) (L:=L) (K:=K) (k:=k) hr))) (J2 @AW.aa @af.eq_1) (J1 ?_)<;>unhygienic intros
   rw [e]
   refine⟨_,by first|rfl|(simp;rfl),rfl,?_⟩
   apply an.cC
   (·exact sA)
   (·first|exact pP|exact kP)
theorem Jt (b:Nat) (s:aD) (a:Int) (hC:ep s) (ha:0≤a) :
 aP Tryz.prog 68 [pv b,.int .u64 a] [.h (bI b s)] (fun u=>u=.int .i64 (Bn s a).1) (fun _=>[.h (bI b (Bn s a).2)]):=by
 by_cases hf:s.jY 1=true
 · skip
   obtain⟨h1,h2⟩:=ip hf
   obtain⟨cf,ag,av,ax,value,br,ai,ah,ac,ap,set,aM,ao,aj,aG,aE,am,aA⟩:=s
   dsimp only at h1 h2
   subst h1 h2
   intro A F hw hS
   refine ab Tryz.func68 rfl (by kernel_rfl) fun _=>?_
   obtain⟨⟨bh,aY,az,aJ,aK,m,c0,c1,c2,bx,aw,aB,aV,bQ,bg,cE,aW,aU,aC,bA,bC,cP,bR⟩,hS⟩:=bI.open hS .z
   dsimp only [cg,fq,bW,da,ba.eo,na,zo] at hS
   have hq:=ZN hS hw
   have zF:=hw.lt (hS.g 0 rfl)
   have pm:(b=A.next+1+1)=False:=eq_false (by omega)
   have xH:(A.next+1+1=b)=False:=eq_false (by omega)
   have Ci:(A.next=A.next+1+1)=False:=eq_false (by omega)
   have Nc:=hC.cf.aF
   dsimp only at Nc
   have e0:Bn ⟨cf,ag,1,ax,value,br,ai,ah,ac,ap,set,aM,ao,aj,aG,aE,am,.bm⟩ a=_:=if_pos hf
   dsimp only at e0
   by_cases g1:cf.aF≤a
   · have e:=e0.trans (if_pos g1)
     revert hq hS hw;clear hS;refine Wp (J3 (Tg.mk (n:=30) (iw b ⟨cf,ag,1,ax,value,br,ai,ah,ac,ap,set,aM,ao,aj,aG,aE,am,.bm⟩ 1 hf)) (Tg.mk (n:=30) (nF b ⟨cf,ag,1,ax,value,br,ai,ah,ac,ap,set,aM,ao,aj,aG,aE,am,.bm⟩ 0 a .bm hC.cf)) (Tg.mk (n:=31) (fun {A L K k fn cs bh aY az aJ aK m c0 c1 c2 bx aw aB aV bQ bg cE aW aU aC bA bC cP bR}=>jw (A:=A) (L:=L) (K:=K) (k:=k) (fn:=fn) (cs:=cs) (bh:=bh) (aY:=aY) (az:=az) (aJ:=aJ) (aK:=aK) (m:=m) (c0:=c0) (c1:=c1) (c2:=c2) (bx:=bx) (aw:=aw) (aB:=aB) (aV:=aV) (bQ:=bQ) (bg:=bg) (cE:=cE) (aW:=aW) (aU:=aU) (aC:=aC) (bA:=bA) (bC:=bC) (cP:=cP) (bR:=bR) (s:=⟨cf,ag,1,ax,value,br,ai,ah,ac,ap,set,aM,ao,aj,aG,aE,am,.bm⟩) (cj:=0)))) (J6 pm xH Ci g1 @AW.aa @af.eq_1) (J1 ?_)<;>unhygienic intros
     rw [e]
     refine⟨_,by first|rfl|(simp;rfl),rfl,?_⟩
     apply bI.cC
     (·exact sA)
     (dsimp only [cg,fi,fq,bW,da,ba.eo,bJ,aT,aQ,dT,cY,dV,fC,cZ,cW,bV,dU,dR,fB,dS,na,zo])
     try simp only [h]
     (·first|exact pP|exact kP)
     (·first|exact pP|exact kP)
     all_goals(first|exact 0|exact undef)
   · have Nd:IntKind.i64.wrap a=a:=ak (by omega) (by omega)
     have Zn:∀x y,eC aM a=(x,y)→(eC aM a).1=x∧(eC aM a).2=y:=fun x y h=>by rw [h];exact⟨rfl,rfl⟩
     cases g2:(eC aM a).2
     · have e:=e0.trans ((if_neg g1).trans (if_neg (by rw [g2];simp)))
       revert hq hS hw;(repeat first|clear hq|clear hS|clear hw|revert hc|revert zn|revert zA|revert R|revert K);refine Wp (J4 (Tg.mk (n:=30) (iw b ⟨cf,ag,1,ax,value,br,ai,ah,ac,ap,set,aM,ao,aj,aG,aE,am,.bm⟩ 1 hf)) (Tg.mk (n:=30) (nF b ⟨cf,ag,1,ax,value,br,ai,ah,ac,ap,set,aM,ao,aj,aG,aE,am,.bm⟩ 0 a .bm hC.cf)) (Tg.mk (n:=10) (fun {A L K k n}=>qJ (A:=A) (L:=L) (K:=K) (k:=k) (n:=n) hC.aM hC.dA hC.cc ha)) (Tg.mk (n:=31) (fun {A L K k fn cs bh aY az aJ aK m c0 c1 c2 bx aw aB aV bQ bg cE aW aU aC bA bC cP bR}=>yn (A:=A) (L:=L) (K:=K) (k:=k) (fn:=fn) (cs:=cs) (bh:=bh) (aY:=aY) (az:=az) (aJ:=aJ) (aK:=aK) (m:=m) (c0:=c0) (c1:=c1) (c2:=c2) (bx:=bx) (aw:=aw) (aB:=aB) (aV:=aV) (bQ:=bQ) (bg:=bg) (cE:=cE) (aW:=aW) (aU:=aU) (aC:=aC) (bA:=bA) (bC:=bC) (cP:=cP) (bR:=bR) (s:=⟨cf,ag,1,ax,value,br,ai,ah,ac,ap,set,aM,ao,aj,aG,aE,am,.bm⟩) (cj:=0) hC.cf))) (J8 pm xH Ci g1 g2 Nd @AW.aa @af.eq_1) (J1 ?_)<;>unhygienic intros
       rw [e]
       refine⟨_,by first|rfl|(simp;rfl),rfl,?_⟩
       apply bI.cC
       (·exact sA)
       (dsimp only [cg,fi,fq,bW,da,ba.eo,bJ,aT,aQ,dT,cY,dV,fC,cZ,cW,bV,dU,dR,fB,dS,na,zo])
       try simp only [h]
       (·first|exact pP|exact kP)
       (·first|exact pP|exact kP)
       all_goals(first|exact 0|exact undef)
     · have e:=e0.trans ((if_neg g1).trans (if_pos g2))
       revert hq hS hw;(repeat first|clear hq|clear hS|clear hw|revert hc|revert zn|revert zA|revert R|revert K);refine Wp (J4 (Tg.mk (n:=30) (iw b ⟨cf,ag,1,ax,value,br,ai,ah,ac,ap,set,aM,ao,aj,aG,aE,am,.bm⟩ 1 hf)) (Tg.mk (n:=30) (nF b ⟨cf,ag,1,ax,value,br,ai,ah,ac,ap,set,aM,ao,aj,aG,aE,am,.bm⟩ 0 a .bm hC.cf)) (Tg.mk (n:=10) (fun {A L K k n}=>qJ (A:=A) (L:=L) (K:=K) (k:=k) (n:=n) hC.aM hC.dA hC.cc ha)) (Tg.mk (n:=31) (fun {A L K k fn cs bh aY az aJ aK m c0 c1 c2 bx aw aB aV bQ bg cE aW aU aC bA bC cP bR}=>jw (A:=A) (L:=L) (K:=K) (k:=k) (fn:=fn) (cs:=cs) (bh:=bh) (aY:=aY) (az:=az) (aJ:=aJ) (aK:=aK) (m:=m) (c0:=c0) (c1:=c1) (c2:=c2) (bx:=bx) (aw:=aw) (aB:=aB) (aV:=aV) (bQ:=bQ) (bg:=bg) (cE:=cE) (aW:=aW) (aU:=aU) (aC:=aC) (bA:=bA) (bC:=bC) (cP:=cP) (bR:=bR) (s:=⟨cf,ag,1,ax,value,br,ai,ah,ac,ap,set,aM,ao,aj,aG,aE,am,.bm⟩) (cj:=0)))) (J8 pm xH Ci g1 g2 Nd @AW.aa @af.eq_1) (J1 ?_)<;>unhygienic intros
       rw [e]
       refine⟨_,by first|rfl|(simp;rfl),rfl,?_⟩
       apply bI.cC
       (·exact sA)
       (dsimp only [cg,fi,fq,bW,da,ba.eo,bJ,aT,aQ,dT,cY,dV,fC,cZ,cW,bV,dU,dR,fB,dS,na,zo])
       try simp only [h]
       (·first|exact pP|exact kP)
       (·first|exact pP|exact kP)
       all_goals(first|exact 0|exact undef)
 · have e:Bn s a=(1,s):=if_neg hf
   intro A F hw hS
   refine ab Tryz.func68 rfl (by kernel_rfl) fun _=>?_
   try dsimp only [na,zo] at hS
   have hr:=pZ b s 1 hf
   revert hS hw;(repeat first|clear hS|clear hw|revert hc|revert zn|revert zA|revert R|revert K);refine Wp (J1 (Tg.mk (n:=10) (fun {A L K k}=>wX (A:=A) (L:=L) (K:=K) (k:=k) hr))) (J2 @AW.aa @af.eq_1) (J1 ?_)<;>unhygienic intros
   rw [e]
   refine⟨_,by first|rfl|(simp;rfl),rfl,?_⟩
   apply an.cC
   (·exact sA)
   (·first|exact pP|exact kP)
theorem Am (b:Nat) (s:aD) (dB:Int) (hC:ep s) :
 aP Tryz.prog 30 [pv b,.int .i64 dB] [.h (bI b s)] (fun u=>u=.int .i64 (An s dB).1) (fun _=>[.h (bI b (An s dB).2)]):=by
 by_cases hf:s.jY 1=true
 · skip
   obtain⟨h1,h2⟩:=ip hf
   obtain⟨cf,ag,av,ax,value,br,ai,ah,ac,ap,set,aM,ao,aj,aG,aE,am,aA⟩:=s
   dsimp only at h1 h2
   subst h1 h2
   intro A F hw hS
   refine ab Tryz.func30 rfl (by kernel_rfl) fun _=>?_
   obtain⟨⟨bh,aY,az,aJ,aK,m,c0,c1,c2,bx,aw,aB,aV,bQ,bg,cE,aW,aU,aC,bA,bC,cP,bR⟩,hS⟩:=bI.open hS .z
   dsimp only [cg,fq,bW,da,ba.eo,na,zo] at hS
   have hq:=ZN hS hw
   have zF:=hw.lt (hS.g 0 rfl)
   have pm:(b=A.next+1+1)=False:=eq_false (by omega)
   have xH:(A.next+1+1=b)=False:=eq_false (by omega)
   have Ci:(A.next=A.next+1+1)=False:=eq_false (by omega)
   have uZ:=hC.kN
   dsimp only at uZ
   obtain⟨oa,ca,rfl,_⟩:=(an.gM hS (.s (.s (.s (.s (.s (.s (.s .z)))))))).cL
   have e0:An ⟨cf,ag,1,ax,value,br,ai,ah,ac,ap,set,aM,ao,aj,aG,aE,am,.bm⟩ dB=_:=if_pos hf
   dsimp only at e0
   by_cases g1:dB<0
   · have e:=e0.trans (if_pos (.inl g1))
     revert hq hS hw;clear hS;refine Wp (J2 (Tg.mk (n:=30) (iw b ⟨cf,ag,1,ax,value,br,ai,ah,ac,ap,set,aM,ao,aj,aG,aE,am,.bm⟩ 1 hf)) (od uL)) (J6 pm xH Ci g1 @AW.aa @af.eq_1) (J1 ?_)<;>unhygienic intros
     rw [e]
     refine⟨_,by first|rfl|(simp;rfl),rfl,?_⟩
     apply bI.cC
     (·exact sA)
     (dsimp only [cg,fi,fq,bW,da,ba.eo,bJ,aT,aQ,dT,cY,dV,fC,cZ,cW,bV,dU,dR,fB,dS,na,zo])
     try simp only [h]
     (·first|exact pP|exact kP)
     (·first|exact pP|exact kP)
     all_goals(first|exact 0|exact undef)
   · by_cases g2:4≤dB
     · have e:=e0.trans (if_pos (.inr g2))
       revert hq hS hw;(repeat first|clear hq|clear hS|clear hw|revert hc|revert zn|revert zA|revert R|revert K);refine Wp (J2 (Tg.mk (n:=30) (iw b ⟨cf,ag,1,ax,value,br,ai,ah,ac,ap,set,aM,ao,aj,aG,aE,am,.bm⟩ 1 hf)) (od uL)) (J7 pm xH Ci g1 g2 @AW.aa @af.eq_1) (J1 ?_)<;>unhygienic intros
       rw [e]
       refine⟨_,by first|rfl|(simp;rfl),rfl,?_⟩
       apply bI.cC
       (·exact sA)
       (dsimp only [cg,fi,fq,bW,da,ba.eo,bJ,aT,aQ,dT,cY,dV,fC,cZ,cW,bV,dU,dR,fB,dS,na,zo])
       try simp only [h]
       (·first|exact pP|exact kP)
       (·first|exact pP|exact kP)
       all_goals(first|exact 0|exact undef)
     · by_cases g3:cf.ac≤ac.length
       · have e:=e0.trans ((if_neg (by omega)).trans (if_pos g3))
         revert hq hS hw;(repeat first|clear hq|clear hS|clear hw|revert hc|revert zn|revert zA|revert R|revert K);refine Wp (J3 (Tg.mk (n:=30) (iw b ⟨cf,ag,1,ax,value,br,ai,ah,ac,ap,set,aM,ao,aj,aG,aE,am,.bm⟩ 1 hf)) (Tg.mk (n:=31) (fun {A L K k fn cs bh aY az aJ aK m c0 c1 c2 bx aw aB aV bQ bg cE aW aU aC bA bC cP bR}=>jw (A:=A) (L:=L) (K:=K) (k:=k) (fn:=fn) (cs:=cs) (bh:=bh) (aY:=aY) (az:=az) (aJ:=aJ) (aK:=aK) (m:=m) (c0:=c0) (c1:=c1) (c2:=c2) (bx:=bx) (aw:=aw) (aB:=aB) (aV:=aV) (bQ:=bQ) (bg:=bg) (cE:=cE) (aW:=aW) (aU:=aU) (aC:=aC) (bA:=bA) (bC:=bC) (cP:=cP) (bR:=bR) (s:=⟨cf,ag,1,ax,value,br,ai,ah,ac,ap,set,aM,ao,aj,aG,aE,am,.bm⟩) (cj:=0))) (od uL)) (J8 pm xH Ci g1 g2 g3 @AW.aa @af.eq_1) (J1 ?_)<;>unhygienic intros
         rw [e]
         refine⟨_,by first|rfl|(simp;rfl),rfl,?_⟩
         apply bI.cC
         (·exact sA)
         (dsimp only [cg,fi,fq,bW,da,ba.eo,bJ,aT,aQ,dT,cY,dV,fC,cZ,cW,bV,dU,dR,fB,dS,na,zo])
         try simp only [h]
         (·first|exact pP|exact kP)
         (·first|exact pP|exact kP)
         all_goals(first|exact 0|exact undef)
       · have e:=e0.trans ((if_neg (by omega)).trans (if_neg g3))
         revert hq hS hw;(repeat first|clear hq|clear hS|clear hw|revert hc|revert zn|revert zA|revert R|revert K);refine Kv (J4 (Tg.mk (n:=30) (iw b ⟨cf,ag,1,ax,value,br,ai,ah,ac,ap,set,aM,ao,aj,aG,aE,am,.bm⟩ 1 hf)) (od uL) @FK (⟨⟩:Os (fun A'=>A'.cy A.next=some (bu (pv b))) [(0,0),(1,1),(2,0),(3,2),(4,0),(5,0),(6,3),(7,0),(8,0),(9,0),(10,3)])) (J8 pm xH Ci g1 g2 g3 @AW.aa @af.eq_1) (J1 ?_)<;>unhygienic intros
         rw [e]
         refine⟨_,by first|rfl|(simp;rfl),rfl,?_⟩
         apply bI.cC
         (·exact sA)
         (dsimp only [cg,fi,fq,bW,da,ba.eo,bJ,aT,aQ,dT,cY,dV,fC,cZ,cW,bV,dU,dR,fB,dS,na,zo])
         try simp only [h]
         (·first|exact pP|exact kP)
         (·first|exact pP|exact kP)
         all_goals(first|exact 0|exact undef)
 · have e:An s dB=(1,s):=if_neg hf
   intro A F hw hS
   refine ab Tryz.func30 rfl (by kernel_rfl) fun _=>?_
   try dsimp only [na,zo] at hS
   have hr:=pZ b s 1 hf
   revert hS hw;(repeat first|clear hS|clear hw|revert hc|revert zn|revert zA|revert R|revert K);refine Wp (J2 (Tg.mk (n:=10) (fun {A L K k}=>wX (A:=A) (L:=L) (K:=K) (k:=k) hr)) (od uL)) (J2 @AW.aa @af.eq_1) (J1 ?_)<;>unhygienic intros
   rw [e]
   refine⟨_,by first|rfl|(simp;rfl),rfl,?_⟩
   apply an.cC
   (·exact sA)
   (·first|exact pP|exact kP)
theorem Cs (b:Nat) (s:aD) (a:Int) (hC:ep s) :
 aP Tryz.prog 72 [pv b,.int .u64 a] [.h (bI b s)] (fun u=>u=.int .i64 (AB s a).1) (fun _=>[.h (bI b (AB s a).2)]):=by
 by_cases hf:s.jY 1=true
 · skip
   obtain⟨h1,h2⟩:=ip hf
   obtain⟨cf,ag,av,ax,value,br,ai,ah,ac,ap,set,aM,ao,aj,aG,aE,am,aA⟩:=s
   dsimp only at h1 h2
   subst h1 h2
   intro A F hw hS
   refine ab Tryz.func72 rfl (by kernel_rfl) fun _=>?_
   obtain⟨⟨bh,aY,az,aJ,aK,m,c0,c1,c2,bx,aw,aB,aV,bQ,bg,cE,aW,aU,aC,bA,bC,cP,bR⟩,hS⟩:=bI.open hS .z
   dsimp only [cg,fq,bW,da,ba.eo,na,zo] at hS
   have hq:=ZN hS hw
   have zF:=hw.lt (hS.g 0 rfl)
   have pm:(b=A.next+1+1)=False:=eq_false (by omega)
   have xH:(A.next+1+1=b)=False:=eq_false (by omega)
   have Ci:(A.next=A.next+1+1)=False:=eq_false (by omega)
   have Nc:=hC.cf.aF
   have xv:=hC.cf.nb
   dsimp only at Nc xv
   have Kq:=JQ cf hC.cf a
   dsimp only [bG.v] at Kq
   have Zr:gT cf a≤64:=Gn hC.cf a
   have e0:AB ⟨cf,ag,1,ax,value,br,ai,ah,ac,ap,set,aM,ao,aj,aG,aE,am,.bm⟩ a=_:=if_pos hf
   dsimp only at e0
   generalize gT cf a=q at *
   by_cases g1:q<0
   · have e:=e0.trans (if_pos g1)
     revert hq hS hw;clear hS;refine Wp (J4 (Tg.mk (n:=30) (iw b ⟨cf,ag,1,ax,value,br,ai,ah,ac,ap,set,aM,ao,aj,aG,aE,am,.bm⟩ 1 hf)) (Tg.mk (n:=31) (fun {A L K k fn cs bh aY az aJ aK m c0 c1 c2 bx aw aB aV bQ bg cE aW aU aC bA bC cP bR}=>jw (A:=A) (L:=L) (K:=K) (k:=k) (fn:=fn) (cs:=cs) (bh:=bh) (aY:=aY) (az:=az) (aJ:=aJ) (aK:=aK) (m:=m) (c0:=c0) (c1:=c1) (c2:=c2) (bx:=bx) (aw:=aw) (aB:=aB) (aV:=aV) (bQ:=bQ) (bg:=bg) (cE:=cE) (aW:=aW) (aU:=aU) (aC:=aC) (bA:=bA) (bC:=bC) (cP:=cP) (bR:=bR) (s:=⟨cf,ag,1,ax,value,br,ai,ah,ac,ap,set,aM,ao,aj,aG,aE,am,.bm⟩) (cj:=0))) (od sJ) @Kq) (J6 pm xH Ci g1 @AW.aa @af.eq_1) (J1 ?_)<;>unhygienic intros
     rw [e]
     refine⟨_,by first|rfl|(simp;rfl),rfl,?_⟩
     apply bI.cC
     (·exact sA)
     (dsimp only [cg,fi,fq,bW,da,ba.eo,bJ,aT,aQ,dT,cY,dV,fC,cZ,cW,bV,dU,dR,fB,dS,na,zo])
     try simp only [h]
     (·first|exact pP|exact kP)
     (·first|exact pP|exact kP)
     all_goals(first|exact 0|exact undef)
   · have Nd:IntKind.i64.wrap (cf.aF+q)=cf.aF+q:=ak (by omega) (by omega)
     cases g2:(eC aM (cf.aF+q)).2
     · have e:=e0.trans ((if_neg g1).trans (if_neg (by rw [g2];simp)))
       repeat' (first
       | (refine il fun R hR=>?_;simp [ak,au,hq,pm,xH,Ci,g1,g2,Nd,AW.aa,af];try simp (disch:=omega) only [if_pos,if_neg,ak,au])
       | (refine hR _ _ ?_;clear hR R)|(refine hK _ _ ?_;clear hK K)|refine nx ?_
       | refine wn fun K hK=>?_
       | simp only [wS,sJ]
       | refine wl Tryz.mx sJ (by decide +kernel) fun K hK=>?_
       | (refine bD (Kq _) ?_;rintro _ _ ⟨rfl,rfl⟩ _ _)
       | (apply wW (iw b ⟨cf,ag,1,ax,value,br,ai,ah,ac,ap,set,aM,ao,aj,aG,aE,am,.bm⟩ 1 hf);(·exact wA);(·exact sA);(·exact fP);all_goals(try (first|exact 0|exact undef)))
       | (apply qJ hC.aM hC.dA hC.cc (by omega);(·exact wA);(·exact sA);(·first|exact pP|exact kP);)
       | (apply yn (s:=⟨cf,ag,1,ax,value,br,ai,ah,ac,ap,set,aM,ao,aj,aG,aE,am,.bm⟩) (cj:=0) hC.cf;(·exact wA);(·exact sA);(·exact fP);((first|rintro _ _ _ hS hw|rintro _ _ hS hw);(try dsimp only [cg,AW.aZ,na,zo] at hS);have hq:=ZN hS hw);all_goals(try (first|exact 0|exact undef)))
       | refine wb ?_|refine wr ?_|refine wk ?_|refine we ?_|refine ws ?_|refine wq ?_
       | (refine wc rfl (fun hc=>?_) (fun hc=>?_)<;>(try simp at hc)<;>(try omega)<;>(try (simp [h2] at hc;done))<;>(try (simp [h3] at hc;done))<;>(try (simp [h4] at hc;done)))
       | (refine ib (fun hc=>?_) (fun hc=>?_)<;>(try omega)<;>(try simp (disch:=omega) only [if_pos,if_neg])))
       rw [e]
       refine⟨_,by first|rfl|(simp;rfl),rfl,?_⟩
       apply bI.cC
       (·exact sA)
       (dsimp only [cg,fi,fq,bW,da,ba.eo,bJ,aT,aQ,dT,cY,dV,fC,cZ,cW,bV,dU,dR,fB,dS,na,zo])
       try simp only [h]
       (·first|exact pP|exact kP)
       (·first|exact pP|exact kP)
       all_goals(first|exact 0|exact undef)
     · have e:=e0.trans ((if_neg g1).trans (if_pos g2))
       repeat' (first
       | (refine il fun R hR=>?_;simp [ak,au,hq,pm,xH,Ci,g1,g2,Nd,AW.aa,af];try simp (disch:=omega) only [if_pos,if_neg,ak,au])
       | (refine hR _ _ ?_;clear hR R)|(refine hK _ _ ?_;clear hK K)|refine nx ?_
       | refine wn fun K hK=>?_
       | simp only [wS,sJ]
       | refine wl Tryz.mx sJ (by decide +kernel) fun K hK=>?_
       | (refine bD (Kq _) ?_;rintro _ _ ⟨rfl,rfl⟩ _ _)
       | (apply wW (iw b ⟨cf,ag,1,ax,value,br,ai,ah,ac,ap,set,aM,ao,aj,aG,aE,am,.bm⟩ 1 hf);(·exact wA);(·exact sA);(·exact fP);all_goals(try (first|exact 0|exact undef)))
       | (apply qJ hC.aM hC.dA hC.cc (by omega);(·exact wA);(·exact sA);(·first|exact pP|exact kP);)
       | (apply jw (s:=⟨cf,ag,1,ax,value,br,ai,ah,ac,ap,set,aM,ao,aj,aG,aE,am,.bm⟩) (cj:=0);(·exact wA);(·exact sA);(·exact fP);((first|rintro _ _ _ hS hw|rintro _ _ hS hw);(try dsimp only [cg,AW.aZ,na,zo] at hS);have hq:=ZN hS hw);all_goals(try (first|exact 0|exact undef)))
       | refine wb ?_|refine wr ?_|refine wk ?_|refine we ?_|refine ws ?_|refine wq ?_
       | (refine wc rfl (fun hc=>?_) (fun hc=>?_)<;>(try simp at hc)<;>(try omega)<;>(try (simp [h2] at hc;done))<;>(try (simp [h3] at hc;done))<;>(try (simp [h4] at hc;done)))
       | (refine ib (fun hc=>?_) (fun hc=>?_)<;>(try omega)<;>(try simp (disch:=omega) only [if_pos,if_neg])))
       rw [e]
       refine⟨_,by first|rfl|(simp;rfl),rfl,?_⟩
       apply bI.cC
       (·exact sA)
       (dsimp only [cg,fi,fq,bW,da,ba.eo,bJ,aT,aQ,dT,cY,dV,fC,cZ,cW,bV,dU,dR,fB,dS,na,zo])
       try simp only [h]
       (·first|exact pP|exact kP)
       (·first|exact pP|exact kP)
       all_goals(first|exact 0|exact undef)
 · have e:AB s a=(1,s):=if_neg hf
   intro A F hw hS
   refine ab Tryz.func72 rfl (by kernel_rfl) fun _=>?_
   try dsimp only [na,zo] at hS
   have hr:=pZ b s 1 hf
   revert hS hw;(repeat first|clear hS|clear hw|revert hc|revert zn|revert zA|revert R|revert K);refine Wp (J2 (Tg.mk (n:=10) (fun {A L K k}=>wX (A:=A) (L:=L) (K:=K) (k:=k) hr)) (od sJ)) (J2 @AW.aa @af.eq_1) (J1 ?_)<;>unhygienic intros
   rw [e]
   refine⟨_,by first|rfl|(simp;rfl),rfl,?_⟩
   apply an.cC
   (·exact sA)
   (·first|exact pP|exact kP)
end Go.Stx
