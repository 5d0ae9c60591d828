/-
 The program's attempt: its steps, third part.
-/
import Derived.Test.YtncmjklabcoeaaaGreatG29
set_option linter.unusedVariables false
set_option linter.unusedSimpArgs false
set_option maxRecDepth 20000
set_option maxHeartbeats 4000000
namespace Go.Stx
open Go Go.Proofs
attribute [local irreducible] fj cm aH bB dK ei
section
open T20 T16
theorem AP (b pb:Nat) (s:aD) (t:fL) (M:Mm) (hd:s.aA=.dI) (hl:s.aE=some t) (vP:s.set.length<2^38) :
 aP Tryz.prog 47 [pv b,pv pb] [.h (bI b s),eb pb M] (fun v=>v=.tuple #[(im s M t).1.v,.int .i64 (im s M t).2.1])
  (fun _=>[.h (bI b (im s M t).2.2.1),eb pb (im s M t).2.2.2]):=by
 obtain⟨cf,ag,av,ax,value,br,ai,ah,ac,ap,set,aM,ao,aj,aG,aE,am,aA⟩:=s
 dsimp only at hd
 subst hd
 dsimp only at hl vP
 subst hl
 obtain⟨x,t',M',hr⟩:∃x e' M',gn t M=(x,e',M'):=⟨_,_,_,rfl⟩
 have dz:=fun n=>AE n pb t M
 rw [hr] at dz
 by_cases h:x.eV=4<;>cases h2:t'.done
 · have e:im ⟨cf,ag,av,ax,value,br,ai,ah,ac,ap,set,aM,ao,aj,aG,some t,am,.dI⟩ M t=(x,13,⟨cf,ag,av,ax,value,br,ai,ah,ac,ap,set,aM,ao,aj,aG,some t',am,.dI⟩,M'):=by
    unfold im;rw [hr];dsimp only;rw [h2];simp [h]
   rw [e]
   intro A F hw hS
   refine ab Tryz.func47 rfl (by kernel_rfl) fun _=>?_
   dsimp only [na,zo] at hS
   obtain⟨⟨bh,aY,az,aJ,aK,m,c0,c1,c2,bx,aw,aB,aV,bQ,bg,cE,aW,aU,aC,bA,bC,cP,bR⟩,hS⟩:=bI.open hS .z
   dsimp only [cg,fq,bW,da,ba.eo,na,zo] at hS
   have hS:=qq.op hS (.s (.s (.s .z)))
   have hq:=ZN hS hw
   revert hq hS hw;clear hS;clear hS;refine Wp (J2 (Tg.mk (n:=10) @kH) (dz aK)) (J8 h h2 @aQ.eq_1 @aQ.eq_2 @AW.aa @af.eq_1 @aS.eq_1 @bq.v.eq_1) (J1 ?_)<;>unhygienic intros
   refine⟨_,by simp [hq,AW.aa,af];rfl,by first|(simp [bq.v];done)|(simp [bq.v,h];done),?_⟩
   apply bI.cC
   (·exact sA)
   (dsimp only [cg,fi,fq,bW,da,ba.eo,bJ,aT,aQ,dT,cY,dV,fC,cZ,cW,bV,dU,dR,fB,dS,na,zo])
   try simp only [h]
   (·first|exact pP|exact kP)
   (·first|exact pP|exact kP)
   all_goals(first|exact 0|exact undef)
 · by_cases h3:set.length=0
   · have e:im ⟨cf,ag,av,ax,value,br,ai,ah,ac,ap,set,aM,ao,aj,aG,some t,am,.dI⟩ M t=(x,13,⟨cf,ag,av,ax,value,br,ai,ah,ac,ap,set,aM,ao,aj,aG,some t',am,.cN⟩,M'):=by
      unfold im;rw [hr];dsimp only;rw [h2];simp [h,h3]
     rw [e]
     intro A F hw hS
     refine ab Tryz.func47 rfl (by kernel_rfl) fun _=>?_
     dsimp only [na,zo] at hS
     obtain⟨⟨bh,aY,az,aJ,aK,m,c0,c1,c2,bx,aw,aB,aV,bQ,bg,cE,aW,aU,aC,bA,bC,cP,bR⟩,hS⟩:=bI.open hS .z
     dsimp only [cg,fq,bW,da,ba.eo,na,zo] at hS
     have hS:=qq.op hS (.s (.s (.s .z)))
     have hq:=ZN hS hw
     have h4:∀rv,(ft.mk set rv false).done=true:=fun rv=>by simp [ft.done,h3]
     revert hq hS hw;(repeat first|clear hq|clear hS|clear hw|revert hc|revert zn|revert zA|revert R|revert K);refine Wp (J6 (Tg.mk (n:=10) @kH) (Tg.mk (n:=11) @oY) (Tg.mk (n:=11) @nI) (Tg.mk (n:=30) (fun A' h1 h2=>nS b ⟨cf,ag,av,ax,value,br,ai,ah,ac,ap,set,aM,ao,aj,aG,some t',am,.dI⟩ 6 .dI A' h1 h2)) (Tg.mk (n:=10) @jR) (dz aK)) (J9 h h2 h4 @aQ.eq_1 @aQ.eq_2 @AW.aa @af.eq_1 @aS.eq_1 @bq.v.eq_1) (J1 ?_)<;>unhygienic intros
     refine⟨_,by simp [hq,AW.aa,af];rfl,by first|(simp [bq.v];done)|(simp [bq.v,h];done),?_⟩
     apply bI.cC
     (·exact sA)
     (dsimp only [cg,fi,fq,bW,da,ba.eo,bJ,aT,aQ,dT,cY,dV,fC,cZ,cW,bV,dU,dR,fB,dS,na,zo])
     try simp only [h]
     (·first|exact pP|exact kP)
     (·first|exact pP|exact kP)
     all_goals(first|exact 0|exact undef)
   · have e:im ⟨cf,ag,av,ax,value,br,ai,ah,ac,ap,set,aM,ao,aj,aG,some t,am,.dI⟩ M t=(x,13,⟨cf,ag,av,ax,value,br,ai,ah,ac,ap,set,aM,ao,aj,aG,some t',am,.dG ⟨set,aD.rv ⟨cf,ag,av,ax,value,br,ai,ah,ac,ap,set,aM,ao,aj,aG,some t',am,.dI⟩,false⟩⟩,M'):=by
      unfold im;rw [hr];dsimp only;rw [h2];simp [h,h3,aD.rv]
     rw [e]
     intro A F hw hS
     refine ab Tryz.func47 rfl (by kernel_rfl) fun _=>?_
     dsimp only [na,zo] at hS
     obtain⟨⟨bh,aY,az,aJ,aK,m,c0,c1,c2,bx,aw,aB,aV,bQ,bg,cE,aW,aU,aC,bA,bC,cP,bR⟩,hS⟩:=bI.open hS .z
     dsimp only [cg,fq,bW,da,ba.eo,na,zo] at hS
     have hS:=qq.op hS (.s (.s (.s .z)))
     have hq:=ZN hS hw
     have h4:∀rv,(ft.mk set rv false).done=false:=fun rv=>by simp [ft.done];exact fun h=>h3 (by rw [h];rfl)
     revert hq hS hw;(repeat first|clear hq|clear hS|clear hw|revert hc|revert zn|revert zA|revert R|revert K);refine Wp (J6 (Tg.mk (n:=10) @kH) (Tg.mk (n:=11) @oY) (Tg.mk (n:=11) @nI) (Tg.mk (n:=30) (fun A' h1 h2=>nS b ⟨cf,ag,av,ax,value,br,ai,ah,ac,ap,set,aM,ao,aj,aG,some t',am,.dI⟩ 6 .dI A' h1 h2)) (Tg.mk (n:=10) @jR) (dz aK)) (J9 h h2 h4 @aQ.eq_1 @aQ.eq_2 @AW.aa @af.eq_1 @aS.eq_1 @bq.v.eq_1) (J1 ?_)<;>unhygienic intros
     refine⟨_,by simp [hq,AW.aa,af];rfl,by first|(simp [bq.v];done)|(simp [bq.v,h];done),?_⟩
     apply bI.cC
     (·exact sA)
     (dsimp only [cg,fi,fq,bW,da,ba.eo,bJ,aT,aQ,dT,cY,dV,fC,cZ,cW,bV,dU,dR,fB,dS,na,zo])
     try simp only [h]
     (·first|exact pP|exact kP)
     (·first|exact pP|exact kP)
     all_goals(first|exact 0|exact undef)
 · have e:im ⟨cf,ag,av,ax,value,br,ai,ah,ac,ap,set,aM,ao,aj,aG,some t,am,.dI⟩ M t=(x,14,⟨cf,ag,av,ax,value,br,ai,ah,ac,ap,set,aM,ao,aj,aG,some t',am,.dI⟩,M'):=by
    unfold im;rw [hr];dsimp only;rw [h2];simp [h]
   rw [e]
   intro A F hw hS
   refine ab Tryz.func47 rfl (by kernel_rfl) fun _=>?_
   dsimp only [na,zo] at hS
   obtain⟨⟨bh,aY,az,aJ,aK,m,c0,c1,c2,bx,aw,aB,aV,bQ,bg,cE,aW,aU,aC,bA,bC,cP,bR⟩,hS⟩:=bI.open hS .z
   dsimp only [cg,fq,bW,da,ba.eo,na,zo] at hS
   have hS:=qq.op hS (.s (.s (.s .z)))
   have hq:=ZN hS hw
   revert hq hS hw;(repeat first|clear hq|clear hS|clear hw|revert hc|revert zn|revert zA|revert R|revert K);refine Wp (J2 (Tg.mk (n:=10) @kH) (dz aK)) (J8 h h2 @aQ.eq_1 @aQ.eq_2 @AW.aa @af.eq_1 @aS.eq_1 @bq.v.eq_1) (J1 ?_)<;>unhygienic intros
   refine⟨_,by simp [hq,AW.aa,af];rfl,by first|(simp [bq.v];done)|(simp [bq.v,h];done),?_⟩
   apply bI.cC
   (·exact sA)
   (dsimp only [cg,fi,fq,bW,da,ba.eo,bJ,aT,aQ,dT,cY,dV,fC,cZ,cW,bV,dU,dR,fB,dS,na,zo])
   try simp only [h]
   (·first|exact pP|exact kP)
   (·first|exact pP|exact kP)
   all_goals(first|exact 0|exact undef)
 · by_cases h3:set.length=0
   · have e:im ⟨cf,ag,av,ax,value,br,ai,ah,ac,ap,set,aM,ao,aj,aG,some t,am,.dI⟩ M t=(x,14,⟨cf,ag,av,ax,value,br,ai,ah,ac,ap,set,aM,ao,aj,aG,some t',am,.cN⟩,M'):=by
      unfold im;rw [hr];dsimp only;rw [h2];simp [h,h3]
     rw [e]
     intro A F hw hS
     refine ab Tryz.func47 rfl (by kernel_rfl) fun _=>?_
     dsimp only [na,zo] at hS
     obtain⟨⟨bh,aY,az,aJ,aK,m,c0,c1,c2,bx,aw,aB,aV,bQ,bg,cE,aW,aU,aC,bA,bC,cP,bR⟩,hS⟩:=bI.open hS .z
     dsimp only [cg,fq,bW,da,ba.eo,na,zo] at hS
     have hS:=qq.op hS (.s (.s (.s .z)))
     have hq:=ZN hS hw
     have h4:∀rv,(ft.mk set rv false).done=true:=fun rv=>by simp [ft.done,h3]
     revert hq hS hw;(repeat first|clear hq|clear hS|clear hw|revert hc|revert zn|revert zA|revert R|revert K);refine Wp (J6 (Tg.mk (n:=10) @kH) (Tg.mk (n:=11) @oY) (Tg.mk (n:=11) @nI) (Tg.mk (n:=30) (fun A' h1 h2=>nS b ⟨cf,ag,av,ax,value,br,ai,ah,ac,ap,set,aM,ao,aj,aG,some t',am,.dI⟩ 6 .dI A' h1 h2)) (Tg.mk (n:=10) @jR) (dz aK)) (J9 h h2 h4 @aQ.eq_1 @aQ.eq_2 @AW.aa @af.eq_1 @aS.eq_1 @bq.v.eq_1) (J1 ?_)<;>unhygienic intros
     refine⟨_,by simp [hq,AW.aa,af];rfl,by first|(simp [bq.v];done)|(simp [bq.v,h];done),?_⟩
     apply bI.cC
     (·exact sA)
     (dsimp only [cg,fi,fq,bW,da,ba.eo,bJ,aT,aQ,dT,cY,dV,fC,cZ,cW,bV,dU,dR,fB,dS,na,zo])
     try simp only [h]
     (·first|exact pP|exact kP)
     (·first|exact pP|exact kP)
     all_goals(first|exact 0|exact undef)
   · have e:im ⟨cf,ag,av,ax,value,br,ai,ah,ac,ap,set,aM,ao,aj,aG,some t,am,.dI⟩ M t=(x,14,⟨cf,ag,av,ax,value,br,ai,ah,ac,ap,set,aM,ao,aj,aG,some t',am,.dG ⟨set,aD.rv ⟨cf,ag,av,ax,value,br,ai,ah,ac,ap,set,aM,ao,aj,aG,some t',am,.dI⟩,false⟩⟩,M'):=by
      unfold im;rw [hr];dsimp only;rw [h2];simp [h,h3,aD.rv]
     rw [e]
     intro A F hw hS
     refine ab Tryz.func47 rfl (by kernel_rfl) fun _=>?_
     dsimp only [na,zo] at hS
     obtain⟨⟨bh,aY,az,aJ,aK,m,c0,c1,c2,bx,aw,aB,aV,bQ,bg,cE,aW,aU,aC,bA,bC,cP,bR⟩,hS⟩:=bI.open hS .z
     dsimp only [cg,fq,bW,da,ba.eo,na,zo] at hS
     have hS:=qq.op hS (.s (.s (.s .z)))
     have hq:=ZN hS hw
     have h4:∀rv,(ft.mk set rv false).done=false:=fun rv=>by simp [ft.done];exact fun h=>h3 (by rw [h];rfl)
     revert hq hS hw;(repeat first|clear hq|clear hS|clear hw|revert hc|revert zn|revert zA|revert R|revert K);refine Wp (J6 (Tg.mk (n:=10) @kH) (Tg.mk (n:=11) @oY) (Tg.mk (n:=11) @nI) (Tg.mk (n:=30) (fun A' h1 h2=>nS b ⟨cf,ag,av,ax,value,br,ai,ah,ac,ap,set,aM,ao,aj,aG,some t',am,.dI⟩ 6 .dI A' h1 h2)) (Tg.mk (n:=10) @jR) (dz aK)) (J9 h h2 h4 @aQ.eq_1 @aQ.eq_2 @AW.aa @af.eq_1 @aS.eq_1 @bq.v.eq_1) (J1 ?_)<;>unhygienic intros
     refine⟨_,by simp [hq,AW.aa,af];rfl,by first|(simp [bq.v];done)|(simp [bq.v,h];done),?_⟩
     apply bI.cC
     (·exact sA)
     (dsimp only [cg,fi,fq,bW,da,ba.eo,bJ,aT,aQ,dT,cY,dV,fC,cZ,cW,bV,dU,dR,fB,dS,na,zo])
     try simp only [h]
     (·first|exact pP|exact kP)
     (·first|exact pP|exact kP)
     all_goals(first|exact 0|exact undef)
theorem yj (b pb:Nat) (s:aD) (c:ft) (M:Mm) (hd:s.aA=.dG c) (Lz:s.aj.length<2^20) (IQ:s.aj.length=0∨∃l,s.aG=some l∧s.aj.length=l.dH.length) :
 aP Tryz.prog 48 [pv b,pv pb] [.h (bI b s),eb pb M] (fun v=>v=.tuple #[(hU s M c).1.v,.int .i64 (hU s M c).2.1])
  (fun _=>[.h (bI b (hU s M c).2.2.1),eb pb (hU s M c).2.2.2]):=by
 obtain⟨cf,ag,av,ax,value,br,ai,ah,ac,ap,set,aM,ao,aj,aG,aE,am,aA⟩:=s
 dsimp only at hd
 subst hd
 dsimp only at Lz IQ
 obtain⟨x,c',M',hr⟩:∃x e' M',eR c M=(x,e',M'):=⟨_,_,_,rfl⟩
 have dz:=fun n=>Aa n pb c M
 rw [hr] at dz
 cases h2:c'.ii
 · cases h3:c'.done
   · have e:hU ⟨cf,ag,av,ax,value,br,ai,ah,ac,ap,set,aM,ao,aj,aG,aE,am,.dG c⟩ M c=(x,15,⟨cf,ag,av,ax,value,br,ai,ah,ac,ap,set,aM,ao,aj,aG,aE,am,.dG c'⟩,M'):=by
      unfold hU;rw [hr];dsimp only;rw [h2,h3];simp
     rw [e]
     intro A F hw hS
     refine ab Tryz.func48 rfl (by kernel_rfl) fun _=>?_
     dsimp only [na,zo] at hS
     obtain⟨⟨bh,aY,az,aJ,aK,m,c0,c1,c2,bx,aw,aB,aV,bQ,bg,cE,aW,aU,aC,bA,bC,cP,bR⟩,hS⟩:=bI.open hS .z
     dsimp only [cg,fq,bW,da,ba.eo,na,zo] at hS
     have hq:=ZN hS hw
     revert hq hS hw;clear hS;refine Wp (J3 (Tg.mk (n:=10) @m9) (Tg.mk (n:=10) @jR) (dz m)) (J6 h2 h3 @AW.aa @af.eq_1 @aS.eq_1 @bq.v.eq_1) (J1 ?_)<;>unhygienic intros
     refine⟨_,by simp [hq,AW.aa,af];rfl,by first|(simp [bq.v];done)|(simp [bq.v,h];done),?_⟩
     apply bI.cC
     (·exact sA)
     (dsimp only [cg,fi,fq,bW,da,ba.eo,bJ,aT,aQ,dT,cY,dV,fC,cZ,cW,bV,dU,dR,fB,dS,na,zo])
     try simp only [h]
     (·first|exact pP|exact kP)
     (·first|exact pP|exact kP)
     all_goals(first|exact 0|exact undef)
   · have e:hU ⟨cf,ag,av,ax,value,br,ai,ah,ac,ap,set,aM,ao,aj,aG,aE,am,.dG c⟩ M c=(x,15,⟨cf,ag,av,ax,value,br,ai,ah,ac,ap,set,aM,ao,aj,aG,aE,am,.cN⟩,M'):=by
      unfold hU;rw [hr];dsimp only;rw [h2,h3];simp
     rw [e]
     intro A F hw hS
     refine ab Tryz.func48 rfl (by kernel_rfl) fun _=>?_
     dsimp only [na,zo] at hS
     obtain⟨⟨bh,aY,az,aJ,aK,m,c0,c1,c2,bx,aw,aB,aV,bQ,bg,cE,aW,aU,aC,bA,bC,cP,bR⟩,hS⟩:=bI.open hS .z
     dsimp only [cg,fq,bW,da,ba.eo,na,zo] at hS
     have hq:=ZN hS hw
     revert hq hS hw;(repeat first|clear hq|clear hS|clear hw|revert hc|revert zn|revert zA|revert R|revert K);refine Wp (J3 (Tg.mk (n:=10) @m9) (Tg.mk (n:=10) @jR) (dz m)) (J6 h2 h3 @AW.aa @af.eq_1 @aS.eq_1 @bq.v.eq_1) (J1 ?_)<;>unhygienic intros
     refine⟨_,by simp [hq,AW.aa,af];rfl,by first|(simp [bq.v];done)|(simp [bq.v,h];done),?_⟩
     apply bI.cC
     (·exact sA)
     (dsimp only [cg,fi,fq,bW,da,ba.eo,bJ,aT,aQ,dT,cY,dV,fC,cZ,cW,bV,dU,dR,fB,dS,na,zo])
     try simp only [h]
     (·first|exact pP|exact kP)
     (·first|exact pP|exact kP)
     all_goals(first|exact 0|exact undef)
 · have e:hU ⟨cf,ag,av,ax,value,br,ai,ah,ac,ap,set,aM,ao,aj,aG,aE,am,.dG c⟩ M c=(x,15,fH ⟨cf,ag,av,9,value,br,ai,ah,ac,ap,set,aM,ao,aj,aG,aE,am,.dG c'⟩,M'):=by
    unfold hU;rw [hr];dsimp only;rw [h2];simp
   rw [e]
   intro A F hw hS
   refine ab Tryz.func48 rfl (by kernel_rfl) fun _=>?_
   dsimp only [na,zo] at hS
   obtain⟨⟨bh,aY,az,aJ,aK,m,c0,c1,c2,bx,aw,aB,aV,bQ,bg,cE,aW,aU,aC,bA,bC,cP,bR⟩,hS⟩:=bI.open hS .z
   dsimp only [cg,fq,bW,da,ba.eo,na,zo] at hS
   have hq:=ZN hS hw
   repeat' (first
   | (refine il fun R hR=>?_;simp [ak,au,hq,h2,AW.aa,af,aS,bq.v];try simp (disch:=omega) only [if_pos,if_neg,ak,au])
   | (refine hR _ _ ?_;clear hR R)|(refine hK _ _ ?_;clear hK K)|refine nx ?_
   | refine wn fun K hK=>?_
   | simp only [wS]
   | (apply aP.el (dz m);(·exact wA);(·exact sA);(·first|exact pP|exact kP);rintro _ _ rfl hS hw _;have hS:=lA hS;have hq:=ZR hS hw)
   | (apply m9;(·exact wA);(·exact sA);(·first|exact pP|exact kP);)
   | (apply aP.Jb (qA b ⟨cf,ag,av,9,value,br,ai,ah,ac,ap,set,aM,ao,aj,aG,aE,am,.dG c'⟩ 7 (.dG c') (by exact Lz) (by exact IQ));(·exact wA);(·exact sA);(·exact fP);(·first|exact pP|exact kP);(rintro _ _ _ hS hw _;have hS:=lA hS);(try (have hq:=ZR hS hw));all_goals(try (first|exact 0|exact undef)))
   | refine wb ?_|refine wr ?_|refine wk ?_|refine we ?_|refine ws ?_|refine wq ?_
   | (refine wc rfl (fun hc=>?_) (fun hc=>?_)<;>(try simp at hc)<;>(try omega)<;>(try (simp [h2] at hc;done))<;>(try (simp [h3] at hc;done))<;>(try (simp [h4] at hc;done)))
   | (refine ib (fun hc=>?_) (fun hc=>?_)<;>(try omega)<;>(try simp (disch:=omega) only [if_pos,if_neg])))
   refine⟨_,by simp [hq,AW.aa,af];rfl,by first|(simp [bq.v];done)|(simp [bq.v,h];done),?_⟩
   apply an.cC
   (·exact sA)
   (·first|exact pP|exact kP)
end
section
abbrev ox:List (Nat×Nat):=[(0,0),(1,0),(2,0),(3,0),(4,0),(5,0),(6,0),(7,0),(8,0),(9,0),(10,0),(11,0),(12,0),(13,0),(14,0),(15,0),(16,0),(17,3),(18,0)]
abbrev ou:List (Nat×Nat):=[(0,0),(1,0),(2,0),(3,0),(4,0),(5,0),(6,0),(7,0),(8,0),(9,0),(10,0),(12,0),(11,2),(13,0),(14,3),(15,0),(16,0)]
open T28 T16
theorem C7 (b:Nat) (s:aD) (p:mN) (hd:s.aA=.bm) (hC:ep s) (hE:fe s) (uZ:s.ac.length<8) (hp:p.block<s.cf.nb) (iz:0≤p.dB∧p.dB≤3) :
 aP Tryz.prog 92 [pv b] [.h (gz b s 4 (.eE p))] (fun _=>True) (fun _=>[.h (bF b (fV s p.dB p.block))]):=by
 obtain⟨cf,ag,av,ax,value,br,ai,ah,ac,ap,set,aM,ao,aj,aG,aE,am,aA⟩:=s
 dsimp only at hd
 subst hd
 have ma:=hE
 obtain⟨nu,ns,nq,nk,nj⟩:=ma
 have gt:=hC.cf
 have fz:=hC.set
 have tP:=hC.EG
 dsimp only at nu ns nq nk nj gt fz tP
 subst nj nu ns nq nk
 obtain⟨dB,SH,Iv,Is,gi⟩:=p
 dsimp only at uZ hp iz
 have xv:=gt.nb
 have Nc:=gt.aF
 have mJ:=hC.aM
 have k6:=hC.dA
 have mn:=hC.cc
 have u5:=hC.I6
 dsimp only at mJ k6 mn u5
 by_cases h1:gi<0
 · have e:fV ⟨cf,ag,av,ax,value,br,false,ah,ac,ap,set,aM,ao,[],none,none,0,.bm⟩ dB gi=gy ⟨cf,ag,av,ax,value,br,false,ah,ac,ap,set,aM,ao,[],none,none,0,.bm⟩ 4:=if_pos h1
   rw [e]
   intro A F hw hS
   refine ab Tryz.func92 rfl (by kernel_rfl) fun _=>?_
   dsimp only [na,zo] at hS
   obtain⟨⟨bh,aY,az,aJ,aK,m,dy,k,ja,dr,bS,aw,aB,va,vv,vi,fA,fk,dD,dL,cI,jv,dO,dP,cG,cx,dv,cH,dN,bU,bt,dM,bT⟩,hS⟩:=gz.open hS .z
   dsimp only [bE,bH,cJ,bj,cR,eQ,cO,bf,ff,bO,bP,bd,be,bL,bc,bN,aO,aI,bM,aN,bJ,aT,aQ,aD.rv,na,zo] at hS
   try simp only [cV] at hS
   have hq:=ZL hS hw
   revert hq hS hw;clear hS;refine Wr (J3 (Tg.mk (n:=24) (fO b ⟨cf,ag,av,ax,value,br,false,ah,ac,ap,set,aM,ao,[],none,none,0,.bm⟩ 0 4 gt (by decide) rfl rfl)) (od ox) (od ou)) (J3 h1 @AW.aa @af.eq_1) (J1 ?_)<;>unhygienic intros
   refine⟨_,by first|rfl|(simp;rfl),trivial,?_⟩
   apply an.cC
   (·exact sA)
   (·first|exact pR|exact kR)
 have DF:IntKind.i64.wrap (cf.aF+gi)=cf.aF+gi:=ak (by omega) (by omega)
 have JE:IntKind.i64.wrap (dB+1)=dB+1:=ak (by omega) (by omega)
 have TS:IntKind.u64.wrap (dB+1)=dB+1:=au (by omega) (by omega)
 have NL:∀lg:ln,jq lg→lg.dA≤32→lg.index.length≤64→(∀a∈lg.bl,a<2^40)→ep ⟨cf,ag,av,ax,value,br,false,ah,(ac++[gi]),ap,set,lg,ao,[],none,none,0,.bm⟩:=by
  intro lg g1 g2 g3 g4
  refine⟨hC.cf,hC.G2,g1,g2,g3,g4,?_,?_,?_,hC.set,hC.EG,hC.EQ⟩
  · intro x hx
    rcases List.mem_append.1 hx with h1|h1
    · exact hC.GU x h1
    · simp at h1;subst h1;omega
  · show (ac++[gi]).length≤8
    simp;omega
  · show 0≤(ac++[gi]).length
    omega
 obtain⟨n,hn⟩:∃n,2 ^ dB.toNat=n:=⟨_,rfl⟩
 have XS:n≤8:=by
  have h4:dB=0∨dB=1∨dB=2∨dB=3:=by omega
  rcases h4 with rfl|rfl|rfl|rfl<;>(rw [←hn];decide)
 have Ps:mt .shl .i64 1 dB=some (.int .i64 (n:Int)):=by
  have h4:dB=0∨dB=1∨dB=2∨dB=3:=by omega
  rw [←hn]
  rcases h4 with rfl|rfl|rfl|rfl<;>rfl
 obtain⟨_,V2,V1⟩:=nL gt gi (by omega)
 have Kr:eL cf gi≤64:=by
  have h5:(0:Int)<2 ^ (ds cf gi).toNat:=Int.pow_pos (by omega)
  omega
 have Kq:=rE cf gt gi
 dsimp only [bG.v] at Kq
 have Mv:¬dB<0:=by omega
 have jM:=fun pl=>nE pl aM (cf.aF+gi) (dB+1) mJ (by omega) k6 mn
 have Az:=sM mJ (a:=cf.aF+gi) (by omega) (dB+1)
 obtain⟨Pz,Py,Px⟩:=lR aM (cf.aF+gi) (dB+1)
 obtain⟨T,hT⟩:∃T,fV ⟨cf,ag,av,ax,value,br,false,ah,ac,ap,set,aM,ao,[],none,none,0,.bm⟩ dB gi=T:=⟨_,rfl⟩
 have UL:(di aM (cf.aF+gi) (dB+1)).1=true→T=if (hY n (eL cf gi) ⟨cf,ag,av,ax,value,br,false,ah,(ac++[gi]),ap,set,(di aM (cf.aF+gi) (dB+1)).2,ao,[],none,none,0,.bm⟩).1=true then { (hY n (eL cf gi) ⟨cf,ag,av,ax,value,br,false,ah,(ac++[gi]),ap,set,(di aM (cf.aF+gi) (dB+1)).2,ao,[],none,none,0,.bm⟩).2 with value:=IntKind.u64.wrap (eL cf gi) } else (hY n (eL cf gi) ⟨cf,ag,av,ax,value,br,false,ah,(ac++[gi]),ap,set,(di aM (cf.aF+gi) (dB+1)).2,ao,[],none,none,0,.bm⟩).2:=by
  intro hh
  rw [←hT]
  unfold fV
  rw [if_neg h1]
  dsimp only
  have e9:iI ⟨cf,ag,av,ax,value,br,false,ah,(ac++[gi]),ap,set,aM,ao,[],none,none,0,.bm⟩ (cf.aF+gi) (dB+1)=(true,⟨cf,ag,av,ax,value,br,false,ah,(ac++[gi]),ap,set,(di aM (cf.aF+gi) (dB+1)).2,ao,[],none,none,0,.bm⟩):=by unfold iI;rw [if_pos hh]
  rw [e9,hn]
  rfl
 have UK:(di aM (cf.aF+gi) (dB+1)).1=false→T=gy ⟨cf,ag,av,ax,value,br,false,ah,(ac++[gi]),ap,set,aM,ao,[],none,none,0,.bm⟩ 3:=by
  intro hh
  rw [←hT]
  unfold fV
  rw [if_neg h1]
  dsimp only
  have e9:iI ⟨cf,ag,av,ax,value,br,false,ah,(ac++[gi]),ap,set,aM,ao,[],none,none,0,.bm⟩ (cf.aF+gi) (dB+1)=(false,gy ⟨cf,ag,av,ax,value,br,false,ah,(ac++[gi]),ap,set,aM,ao,[],none,none,0,.bm⟩ 3):=by unfold iI;rw [if_neg (by rw [hh];decide)]
  rw [e9]
  rfl
 rw [hT]
 clear hT
 generalize eL cf gi=fst at *
 intro A F hw hS
 refine ab Tryz.func92 rfl (by kernel_rfl) fun _=>?_
 dsimp only [na,zo] at hS
 obtain⟨⟨bh,aY,az,aJ,aK,m,dy,k,ja,dr,bS,aw,aB,va,vv,vi,fA,fk,dD,dL,cI,jv,dO,dP,cG,cx,dv,cH,dN,bU,bt,dM,bT⟩,hS⟩:=gz.open hS .z
 dsimp only [bE,bH,cJ,bj,cR,eQ,cO,bf,ff,bO,bP,bd,be,bL,bc,bN,aO,aI,bM,aN,bJ,aT,aQ,aD.rv,na,zo] at hS
 try simp only [cV] at hS
 have hq:=ZL hS hw
 obtain⟨SJ,Nt⟩:∃SJ,(di aM (cf.aF+gi) (dB+1)).1=SJ:=⟨_,rfl⟩
 have RL:SJ=false→(di aM (cf.aF+gi) (dB+1)).2=aM:=fun h=>vM (by rw [Nt,h])
 rw [Nt] at UL UK
 simp only [Nt] at jM
 revert hq hS hw;(repeat first|clear hq|clear hS|clear hw|revert hc|revert zn|revert zA|revert R|revert K);refine Qk (J3 (od ox) (od ou) @jM) (J6 h1 DF JE TS @AW.aa @af.eq_1) (J1 ?_)<;>unhygienic intros
 refine ed (fun kk fr A'=>A'.Wf∧∃(i:Nat) (ok:Bool) (lg:ln),kk=n-i∧i≤n∧fr 0=pv b∧fr 2=.int .i64 gi∧fr 3=.bool ok∧fr 4=.int .i64 i∧jq lg∧lg.dA≤32∧lg.index.length≤64∧(∀a∈lg.bl,a<2^40)∧
  (ok=true→T=if (hY (n-i) (fst+i) ⟨cf,ag,av,ax,value,br,false,ah,(ac++[gi]),ap,set,lg,ao,[],none,none,0,.bm⟩).1=true then { (hY (n-i) (fst+i) ⟨cf,ag,av,ax,value,br,false,ah,(ac++[gi]),ap,set,lg,ao,[],none,none,0,.bm⟩).2 with value:=IntKind.u64.wrap fst } else (hY (n-i) (fst+i) ⟨cf,ag,av,ax,value,br,false,ah,(ac++[gi]),ap,set,lg,ao,[],none,none,0,.bm⟩).2)∧(ok=false→T=gy ⟨cf,ag,av,ax,value,br,false,ah,(ac++[gi]),ap,set,lg,ao,[],none,none,0,.bm⟩ 3)∧
  ∃v:Value,an A' (bE b ⟨cf,ag,av,ax,value,br,false,ah,(ac++[gi]),ap,set,lg,ao,[],none,none,0,.bm⟩ 0 (.eE ⟨dB,SH,Iv,Is,gi⟩) ⟨bh,aY,az,aJ,aK,m,dy,k,ja,dr,bS,v,aB,va,vv,vi,fA,fk,dD,dL,cI,jv,dO,dP,cG,cx,dv,cH,dN,bU,bt,dM,bT⟩++[.h (fY aY lg),.h F])) n ?_ ?_
 · refine⟨hw,0,SJ,(di aM (cf.aF+gi) (dB+1)).2,by simp,by simp,by simp,by simp,by simp,by simp,Az,by rw [Pz];exact k6,by rw [Py];exact mn,fun a ha=>?_,fun hh=>?_,fun hh=>?_,?_⟩
   · rcases Px a ha with g|g
     · exact u5 a g
     · omega
   · rw [UL hh,Nat.sub_zero,Int.natCast_zero,Int.add_zero]
   · rw [UK hh,RL hh]
   · apply Exists.intro
     apply an.cC
     (·exact sA)
     (dsimp only [bE,bH,cJ,bj,cR,eQ,cO,bf,ff,bO,bP,bd,be,bL,bc,bN,aO,aI,bM,aN,bJ,aT,aQ,aD.rv,na,zo])
     (try simp only [cV])
     (try simp only [h])
     (·first|exact pR|exact kR)
 · clear hS hq jM UL UK Az RL Nt
   rintro kk fr A' ⟨hw,i,ok,lg,rfl,hi,h0,h2,h3,h4,g1,g2,g3,g4,TN,Vz,v,hS⟩
   have zM:=NL lg g1 g2 g3 g4
   dsimp only [bE,bH,cJ,bj,cR,eQ,cO,bf,ff,bO,bP,bd,be,bL,bc,bN,aO,aI,bM,aN,bJ,aT,aQ,aD.rv,na,zo] at hS
   simp only [cV] at hS
   have hq:=ZL hS hw
   refine eW ?_
   by_cases dQ:i<n
   · have ey:(i:Int)<n:=by omega
     have mc:IntKind.i64.wrap ((i:Int)+1)=((i+1:Nat):Int):=ak (by omega) (by omega)
     have Kk:IntKind.i64.wrap (fst+(i:Int))=fst+(i:Int):=ak (by omega) (by omega)
     have RB:n-i=(n-(i+1))+1:=by omega
     cases ok with
     | true=>
       have hz:=TN rfl
       rw [RB,wo] at hz
       have jM:=fun pl=>nE pl lg (fst+i) 0 g1 (by omega) g2 g3
       have Az:=sM g1 (a:=fst+i) (by omega) 0
       obtain⟨Pz,Py,Px⟩:=lR lg (fst+i) 0
       have R5:∀a∈(di lg (fst+i) 0).2.bl,a<2^40:=fun a ha=>by
        rcases Px a ha with g|g
        · exact g4 a g
        · omega
       cases Nl:(di lg (fst+i) 0).1 with
       | true=>
         have e9:iI ⟨cf,ag,av,ax,value,br,false,ah,(ac++[gi]),ap,set,lg,ao,[],none,none,0,.bm⟩ (fst+i) 0=(true,⟨cf,ag,av,ax,value,br,false,ah,(ac++[gi]),ap,set,(di lg (fst+i) 0).2,ao,[],none,none,0,.bm⟩):=by unfold iI;rw [if_pos Nl]
         rw [e9,if_pos rfl] at hz
         simp only [Nl] at jM
         revert hq hS hw;(repeat first|clear hq|clear hS|clear hw|revert hc|revert zn|revert zA|revert R|revert K);refine Wr (J4 (od ox) (od ou) @Kq @jM) (MK h0 h2 h3 h4 Mv Ps ey mc Kk @AW.aa @af.eq_1) (J1 ?_)<;>unhygienic intros
         refine⟨n-(i+1),by omega,hw,i+1,true,(di lg (fst+i) 0).2,rfl,by omega,by simp [h0],by simp [h2],by simp,by simp,Az,by rw [Pz];exact g2,by rw [Py];exact g3,R5,fun _=>?_,fun e=>(by cases e),v,?_⟩
         · rw [hz]
           have:fst+(i:Int)+1=fst+((i+1:Nat):Int):=by omega
           rw [this]
         · apply an.cC hS
           (dsimp only [bE,bH,cJ,bj,cR,eQ,cO,bf,ff,bO,bP,bd,be,bL,bc,bN,aO,aI,bM,aN,bJ,aT,aQ,aD.rv,na,zo])
           (try simp only [cV])
           (try simp only [h])
           (·first|exact pR|exact kR)
       | false=>
         have e9:iI ⟨cf,ag,av,ax,value,br,false,ah,(ac++[gi]),ap,set,lg,ao,[],none,none,0,.bm⟩ (fst+i) 0=(false,gy ⟨cf,ag,av,ax,value,br,false,ah,(ac++[gi]),ap,set,lg,ao,[],none,none,0,.bm⟩ 3):=by unfold iI;rw [if_neg (by rw [Nl];decide)]
         rw [e9] at hz
         simp only [Bool.false_eq_true,if_false] at hz
         simp only [Nl,vM Nl] at jM
         revert hq hS hw;(repeat first|clear hq|clear hS|clear hw|revert hc|revert zn|revert zA|revert R|revert K);refine Wr (J4 (od ox) (od ou) @Kq @jM) (MK h0 h2 h3 h4 Mv Ps ey mc Kk @AW.aa @af.eq_1) (J1 ?_)<;>unhygienic intros
         refine⟨n-(i+1),by omega,hw,i+1,false,lg,rfl,by omega,by simp [h0],by simp [h2],by simp,by simp,g1,g2,g3,g4,fun e=>(by cases e),fun _=>?_,v,?_⟩
         · exact hz
         · apply an.cC hS
           (dsimp only [bE,bH,cJ,bj,cR,eQ,cO,bf,ff,bO,bP,bd,be,bL,bc,bN,aO,aI,bM,aN,bJ,aT,aQ,aD.rv,na,zo])
           (try simp only [cV])
           (try simp only [h])
           (·first|exact pR|exact kR)
     | false=>
       revert hq hS hw;(repeat first|clear hq|clear hS|clear hw|revert hc|revert zn|revert zA|revert R|revert K);refine Wr (J2 (od ox) (od ou)) (MK h0 h2 h3 h4 Mv Ps ey mc Kk @AW.aa @af.eq_1) (J1 ?_)<;>unhygienic intros
       refine⟨n-(i+1),by omega,hw,i+1,false,lg,rfl,by omega,by simp [h0],by simp [h2],by simp [h3],by simp,g1,g2,g3,g4,fun e=>(by cases e),fun _=>Vz rfl,v,?_⟩
       · apply an.cC hS
         (dsimp only [bE,bH,cJ,bj,cR,eQ,cO,bf,ff,bO,bP,bd,be,bL,bc,bN,aO,aI,bM,aN,bJ,aT,aQ,aD.rv,na,zo])
         (try simp only [cV])
         (try simp only [h])
         (·first|exact pR|exact kR)
   · have zG:i=n:=by omega
     subst zG
     rw [Nat.sub_self,wm] at TN
     have GO:IntKind.u64.wrap fst=fst:=au (by omega) (by omega)
     cases ok with
     | true=>
       rw [TN rfl,if_pos rfl,GO]
       revert hq hS hw;(repeat first|clear hq|clear hS|clear hw|revert hc|revert zn|revert zA|revert R|revert K);refine Wr (J3 (od ox) (od ou) @Kq) (J9 h0 h2 h3 h4 Mv Ps GO @AW.aa @af.eq_1) (J1 ?_)<;>unhygienic intros
       refine⟨_,by first|rfl|(simp;rfl),trivial,?_⟩
       apply bF.cC (cx:=.bool false) (dv:=.bool false)
       (·exact sA)
       (dsimp only [bE,bH,cJ,bj,cR,eQ,cO,bf,ff,bO,bP,bd,be,bL,bc,bN,aO,aI,bM,aN,bJ,aT,aQ,aD.rv,na,zo])
       (try simp only [cV])
       (try simp only [h])
       (try simp only [m8,gK,ms])
       (·first|exact pR|exact kR)
       (·first|exact pR|exact kR)
       all_goals(first|exact 0|exact undef)
     | false=>
       rw [Vz rfl]
       revert hq hS hw;(repeat first|clear hq|clear hS|clear hw|revert hc|revert zn|revert zA|revert R|revert K);refine Wr (J3 (Tg.mk (n:=24) (fO b ⟨cf,ag,av,ax,value,br,false,ah,(ac++[gi]),ap,set,lg,ao,[],none,none,0,.bm⟩ 0 3 gt (by decide) rfl rfl)) (od ox) (od ou)) (J8 h0 h2 h3 h4 Mv Ps @AW.aa @af.eq_1) (J1 ?_)<;>unhygienic intros
       refine⟨_,by first|rfl|(simp;rfl),trivial,?_⟩
       apply an.cC
       (·exact sA)
       (·first|exact pR|exact kR)
end
end Go.Stx
