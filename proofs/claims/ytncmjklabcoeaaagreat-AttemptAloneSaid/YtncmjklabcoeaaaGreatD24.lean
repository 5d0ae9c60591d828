/-
 The program's attempt: its steps, second part.
-/
import Derived.Test.YtncmjklabcoeaaaGreatD23
set_option linter.unusedVariables false
set_option linter.unusedSimpArgs false
set_option maxRecDepth 20000
set_option maxHeartbeats 4000000
namespace Go.Stx
open Go Go.Proofs
attribute [local irreducible] fj cm aH bB dK ei
abbrev Iy:List (Nat×Nat):=[(0,0),(1,0),(2,2),(3,3),(4,0)]
open T20 T16
theorem CX (b pb:Nat) (s:aD) (p:mN) (M:Mm) (hd:s.aA=.eE p) (hC:ep s) (uZ:s.ac.length<8) (iz:0≤p.dB∧p.dB≤3) (DH:(fx p M).2.1.block<s.cf.nb) (GP:(fx p M).2.1.dB=p.dB) :
 aP Tryz.prog 45 [pv b,pv pb] [.h (bI b s),eb pb M] (fun v=>v=.tuple #[(mE s M p).1.v,.int .i64 (mE s M p).2.1])
  (fun _=>[.h (bI b (mE s M p).2.2.1),eb pb (mE s M p).2.2.2]):=by
 obtain⟨cf,ag,av,ax,value,br,ai,ah,ac,ap,set,aM,ao,aj,aG,aE,am,aA⟩:=s
 dsimp only at hd
 subst hd
 dsimp only at uZ DH
 obtain⟨x,p',M',hr⟩:∃x e' M',fx p M=(x,e',M'):=⟨_,_,_,rfl⟩
 have dz:=fun n=>Dm n pb p M
 rw [hr] at dz DH GP
 dsimp only at DH GP
 by_cases h:p'.cj=3
 · have e:mE ⟨cf,ag,av,ax,value,br,ai,ah,ac,ap,set,aM,ao,aj,aG,aE,am,.eE p⟩ M p=(x,gZ x,fV ⟨cf,ag,av,ax,value,br,ai,ah,ac,ap,set,aM,ao,aj,aG,aE,am,.bm⟩ p.dB p'.block,M'):=by
    unfold mE;rw [hr];dsimp only;rw [if_pos h]
   rw [e]
   have VE:=fun m c c'=>yb b m c c' ⟨cf,ag,av,ax,value,br,ai,ah,ac,ap,set,aM,ao,aj,aG,aE,am,.bm⟩ p' ⟨hC.cf,hC.G2,hC.aM,hC.dA,hC.cc,hC.I6,hC.GU,hC.kN,hC.push,hC.set,hC.EG,hC.EQ⟩ uZ DH (by rw [GP];exact iz)
   rw [GP] at VE
   intro A F hw hS
   refine ab Tryz.func45 rfl (by kernel_rfl) fun _=>?_
   dsimp only [na,zo] at hS
   obtain⟨⟨bh,aY,az,aJ,aK,m,c0,c1,c2,bx,aw,aB,aV,bQ,bg,cE,aW,aU,aC,bA,bC,cP,bR⟩,hS⟩:=bI.open hS .z
   dsimp only [cg,fq,bW,da,ba.eo,na,zo] at hS
   have hq:=ZN hS hw
   revert hq hS hw;clear hS;refine Wp (J5 (Tg.mk (n:=10) @wJ) (Tg.mk (n:=22) (VE m c0 c1)) (Tg.mk (n:=19) (fun {A L k}=>ux (A:=A) (L:=L) (k:=k) (a:=x))) (od Iy) (dz m)) (J5 h @AW.aa @af.eq_1 @aS.eq_1 @bq.v.eq_1) (J1 ?_)<;>unhygienic intros
   refine⟨_,by simp [hq,AW.aa,af];rfl,by first|(simp [bq.v];done)|(simp [bq.v,h];done),?_⟩
   apply an.cC
   (·exact sA)
   (·first|exact pP|exact kP)
 · have e:mE ⟨cf,ag,av,ax,value,br,ai,ah,ac,ap,set,aM,ao,aj,aG,aE,am,.eE p⟩ M p=(x,gZ x,⟨cf,ag,av,ax,value,br,ai,ah,ac,ap,set,aM,ao,aj,aG,aE,am,.eE p'⟩,M'):=by
    unfold mE;rw [hr];dsimp only;rw [if_neg h]
   rw [e]
   intro A F hw hS
   refine ab Tryz.func45 rfl (by kernel_rfl) fun _=>?_
   dsimp only [na,zo] at hS
   obtain⟨⟨bh,aY,az,aJ,aK,m,c0,c1,c2,bx,aw,aB,aV,bQ,bg,cE,aW,aU,aC,bA,bC,cP,bR⟩,hS⟩:=bI.open hS .z
   dsimp only [cg,fq,bW,da,ba.eo,na,zo] at hS
   rw [←GP] at hS
   have hq:=ZN hS hw
   revert hq hS hw;(repeat first|clear hq|clear hS|clear hw|revert hc|revert zn|revert zA|revert R|revert K);refine Wp (J4 (Tg.mk (n:=10) @wJ) (Tg.mk (n:=19) (fun {A L k}=>ux (A:=A) (L:=L) (k:=k) (a:=x))) (od Iy) (dz m)) (J5 h @AW.aa @af.eq_1 @aS.eq_1 @bq.v.eq_1) (J1 ?_)<;>unhygienic intros
   refine⟨_,by simp [hq,AW.aa,af];rfl,by first|(simp [bq.v];done)|(simp [bq.v,h];done),?_⟩
   apply bI.cC
   (·exact sA)
   (dsimp only [cg,fi,fq,bW,da,ba.eo,bJ,aT,aQ,dT,cY,dV,fC,cZ,cW,bV,dU,dR,fB,dS,na,zo])
   try simp only [h]
   (·first|exact pP|exact kP)
   (·first|exact pP|exact kP)
   all_goals(first|exact 0|exact undef)
theorem AR (b pb:Nat) (s:aD) (l:eM) (M:Mm) (hd:s.aA=.fF) (hl:s.aG=some l) (cU:l.dH.length≤l.aj.length) (DJ:l.aj.length<2^38) :
 aP Tryz.prog 46 [pv b,pv pb] [.h (bI b s),eb pb M] (fun v=>v=.tuple #[(jk s M l).1.v,.int .i64 (jk s M l).2.1])
  (fun _=>[.h (bI b (jk s M l).2.2.1),eb pb (jk s M l).2.2.2]):=by
 obtain⟨cf,ag,av,ax,value,br,ai,ah,ac,ap,set,aM,ao,aj,aG,aE,am,aA⟩:=s
 dsimp only at hd
 subst hd
 dsimp only at hl
 subst hl
 obtain⟨x,l',M',hr⟩:∃x e' M',dF l M=(x,e',M'):=⟨_,_,_,rfl⟩
 have dz:=fun n=>HB n pb l M cU DJ
 rw [hr] at dz
 by_cases h:x.eV=3<;>cases h2:l'.done
 · have e:jk ⟨cf,ag,av,ax,value,br,ai,ah,ac,ap,set,aM,ao,aj,some l,aE,am,.fF⟩ M l=(x,12,⟨cf,ag,av,ax,value,br,ai,ah,ac,ap,set,aM,ao,aj,some l',aE,am,.fF⟩,M'):=by
    unfold jk;rw [hr];dsimp only;rw [h2];simp [h]
   rw [e]
   intro A F hw hS
   refine ab Tryz.func46 rfl (by kernel_rfl) fun _=>?_
   dsimp only [na,zo] at hS
   obtain⟨⟨bh,aY,az,aJ,aK,m,c0,c1,c2,bx,aw,aB,aV,bQ,bg,cE,aW,aU,aC,bA,bC,cP,bR⟩,hS⟩:=bI.open hS .z
   dsimp only [cg,fq,bW,da,ba.eo,na,zo] at hS
   have hS:=oO.op hS (.s (.s .z))
   have hq:=ZN hS hw
   revert hq hS hw;clear hS;clear hS;refine Wp (J3 (Tg.mk (n:=10) @nJ) @lP (dz aJ)) (J8 h h2 @aT.eq_1 @aT.eq_2 @AW.aa @af.eq_1 @aS.eq_1 @bq.v.eq_1) (J1 ?_)<;>unhygienic intros
   refine⟨_,by simp [hq,AW.aa,af];rfl,by first|(simp [bq.v];done)|(simp [bq.v,h];done),?_⟩
   apply bI.cC
   (·exact sA)
   (dsimp only [cg,fi,fq,bW,da,ba.eo,bJ,aT,aQ,dT,cY,dV,fC,cZ,cW,bV,dU,dR,fB,dS,na,zo])
   try simp only [h]
   (·first|exact pP|exact kP)
   (·first|exact pP|exact kP)
   all_goals(first|exact 0|exact undef)
 · have e:jk ⟨cf,ag,av,ax,value,br,ai,ah,ac,ap,set,aM,ao,aj,some l,aE,am,.fF⟩ M l=(x,12,⟨cf,ag,av,ax,value,br,ai,ah,ac,ap,set,aM,ao,aj,some l',some ⟨false,0,false⟩,am,.dI⟩,M'):=by
    unfold jk;rw [hr];dsimp only;rw [h2];simp [h]
   rw [e]
   intro A F hw hS
   refine ab Tryz.func46 rfl (by kernel_rfl) fun _=>?_
   dsimp only [na,zo] at hS
   obtain⟨⟨bh,aY,az,aJ,aK,m,c0,c1,c2,bx,aw,aB,aV,bQ,bg,cE,aW,aU,aC,bA,bC,cP,bR⟩,hS⟩:=bI.open hS .z
   dsimp only [cg,fq,bW,da,ba.eo,na,zo] at hS
   have hS:=oO.op hS (.s (.s .z))
   have hq:=ZN hS hw
   revert hq hS hw;(repeat first|clear hq|clear hS|clear hw|revert hc|revert zn|revert zA|revert R|revert K);refine Wp (J3 (Tg.mk (n:=10) @nJ) @lP (dz aJ)) (J8 h h2 @aT.eq_1 @aT.eq_2 @AW.aa @af.eq_1 @aS.eq_1 @bq.v.eq_1) (J1 ?_)<;>unhygienic intros
   refine⟨_,by simp [hq,AW.aa,af];rfl,by first|(simp [bq.v];done)|(simp [bq.v,h];done),?_⟩
   apply bI.cC
   (·exact sA)
   (dsimp only [cg,fi,fq,bW,da,ba.eo,bJ,aT,aQ,dT,cY,dV,fC,cZ,cW,bV,dU,dR,fB,dS,na,zo])
   try simp only [h]
   (·first|exact pP|exact kP)
   (·first|exact pP|exact kP)
   all_goals(first|exact 0|exact undef)
 · have e:jk ⟨cf,ag,av,ax,value,br,ai,ah,ac,ap,set,aM,ao,aj,some l,aE,am,.fF⟩ M l=(x,11,⟨cf,ag,av,ax,value,br,ai,ah,ac,ap,set,aM,ao,aj,some l',aE,am,.fF⟩,M'):=by
    unfold jk;rw [hr];dsimp only;rw [h2];simp [h]
   rw [e]
   intro A F hw hS
   refine ab Tryz.func46 rfl (by kernel_rfl) fun _=>?_
   dsimp only [na,zo] at hS
   obtain⟨⟨bh,aY,az,aJ,aK,m,c0,c1,c2,bx,aw,aB,aV,bQ,bg,cE,aW,aU,aC,bA,bC,cP,bR⟩,hS⟩:=bI.open hS .z
   dsimp only [cg,fq,bW,da,ba.eo,na,zo] at hS
   have hS:=oO.op hS (.s (.s .z))
   have hq:=ZN hS hw
   revert hq hS hw;(repeat first|clear hq|clear hS|clear hw|revert hc|revert zn|revert zA|revert R|revert K);refine Wp (J3 (Tg.mk (n:=10) @nJ) @lP (dz aJ)) (J8 h h2 @aT.eq_1 @aT.eq_2 @AW.aa @af.eq_1 @aS.eq_1 @bq.v.eq_1) (J1 ?_)<;>unhygienic intros
   refine⟨_,by simp [hq,AW.aa,af];rfl,by first|(simp [bq.v];done)|(simp [bq.v,h];done),?_⟩
   apply bI.cC
   (·exact sA)
   (dsimp only [cg,fi,fq,bW,da,ba.eo,bJ,aT,aQ,dT,cY,dV,fC,cZ,cW,bV,dU,dR,fB,dS,na,zo])
   try simp only [h]
   (·first|exact pP|exact kP)
   (·first|exact pP|exact kP)
   all_goals(first|exact 0|exact undef)
 · have e:jk ⟨cf,ag,av,ax,value,br,ai,ah,ac,ap,set,aM,ao,aj,some l,aE,am,.fF⟩ M l=(x,11,⟨cf,ag,av,ax,value,br,ai,ah,ac,ap,set,aM,ao,aj,some l',some ⟨false,0,false⟩,am,.dI⟩,M'):=by
    unfold jk;rw [hr];dsimp only;rw [h2];simp [h]
   rw [e]
   intro A F hw hS
   refine ab Tryz.func46 rfl (by kernel_rfl) fun _=>?_
   dsimp only [na,zo] at hS
   obtain⟨⟨bh,aY,az,aJ,aK,m,c0,c1,c2,bx,aw,aB,aV,bQ,bg,cE,aW,aU,aC,bA,bC,cP,bR⟩,hS⟩:=bI.open hS .z
   dsimp only [cg,fq,bW,da,ba.eo,na,zo] at hS
   have hS:=oO.op hS (.s (.s .z))
   have hq:=ZN hS hw
   revert hq hS hw;(repeat first|clear hq|clear hS|clear hw|revert hc|revert zn|revert zA|revert R|revert K);refine Wp (J3 (Tg.mk (n:=10) @nJ) @lP (dz aJ)) (J8 h h2 @aT.eq_1 @aT.eq_2 @AW.aa @af.eq_1 @aS.eq_1 @bq.v.eq_1) (J1 ?_)<;>unhygienic intros
   refine⟨_,by simp [hq,AW.aa,af];rfl,by first|(simp [bq.v];done)|(simp [bq.v,h];done),?_⟩
   apply bI.cC
   (·exact sA)
   (dsimp only [cg,fi,fq,bW,da,ba.eo,bJ,aT,aQ,dT,cY,dV,fC,cZ,cW,bV,dU,dR,fB,dS,na,zo])
   try simp only [h]
   (·first|exact pP|exact kP)
   (·first|exact pP|exact kP)
   all_goals(first|exact 0|exact undef)
theorem gh {A:AW} {L K:List It} {k:Value→AW→Prop} {v:Value} {l:List Int} {x:Int} (hw:A.Wf) (hS:an A L) (hp:ay L (.h (ar .i64 v l)) K) (hl:l.length<2^38) (hk:k (.bool (decide (x∈l))) A) :
 aH Tryz.prog 130 [v,.int .i64 x] A k:=by
 refine bD (tv v l x A (an.gM hS hp) (by omega)) ?_
 rintro _ _ ⟨rfl,rfl⟩ _ _
 exact hk
end Go.Stx
