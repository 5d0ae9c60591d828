/-
 The program's attempt: its steps, third part.
-/
import Derived.Test.YtncmjklabcoeaaaGreatD27
import Derived.Test.YtncmjklabcoeaaaGreatD28
set_option linter.unusedVariables false
set_option linter.unusedSimpArgs false
set_option maxRecDepth 20000
set_option maxHeartbeats 4000000
namespace Go.Stx
open Go Go.Proofs
attribute [local irreducible] fj cm aH bB dK ei
section
open T20 T16
theorem AP (b pb:Nat) (s:aD) (t:fL) (M:Mm) (hd:s.aA=.dI) (hl:s.aE=some t) (vP:s.set.length<2^38) :
 aP Tryz.prog 47 [pv b,pv pb] [.h (bI b s),eb pb M] (fun v=>v=.tuple #[(im s M t).1.v,.int .i64 (im s M t).2.1])
  (fun _=>[.h (bI b (im s M t).2.2.1),eb pb (im s M t).2.2.2]):=by
 obtain⟨cf,ag,av,ax,value,br,ai,ah,ac,ap,set,aM,ao,aj,aG,aE,am,aA⟩:=s
 dsimp only at hd
 subst hd
 dsimp only at hl vP
 subst hl
 obtain⟨x,t',M',hr⟩:∃x e' M',gn t M=(x,e',M'):=⟨_,_,_,rfl⟩
 have dz:=fun n=>AE n pb t M
 rw [hr] at dz
 by_cases h:x.eV=4<;>cases h2:t'.done
 · have e:im ⟨cf,ag,av,ax,value,br,ai,ah,ac,ap,set,aM,ao,aj,aG,some t,am,.dI⟩ M t=(x,13,⟨cf,ag,av,ax,value,br,ai,ah,ac,ap,set,aM,ao,aj,aG,some t',am,.dI⟩,M'):=by
    unfold im;rw [hr];dsimp only;rw [h2];simp [h]
   rw [e]
   intro A F hw hS
   refine ab Tryz.func47 rfl (by kernel_rfl) fun _=>?_
   dsimp only [na,zo] at hS
   obtain⟨⟨bh,aY,az,aJ,aK,m,c0,c1,c2,bx,aw,aB,aV,bQ,bg,cE,aW,aU,aC,bA,bC,cP,bR⟩,hS⟩:=bI.open hS .z
   dsimp only [cg,fq,bW,da,ba.eo,na,zo] at hS
   have hS:=qq.op hS (.s (.s (.s .z)))
   have hq:=ZN hS hw
   revert hq hS hw;clear hS;clear hS;refine Wp (J2 (Tg.mk (n:=10) @kH) (dz aK)) (J8 h h2 @aQ.eq_1 @aQ.eq_2 @AW.aa @af.eq_1 @aS.eq_1 @bq.v.eq_1) (J1 ?_)<;>unhygienic intros
   refine⟨_,by simp [hq,AW.aa,af];rfl,by first|(simp [bq.v];done)|(simp [bq.v,h];done),?_⟩
   apply bI.cC
   (·exact sA)
   (dsimp only [cg,fi,fq,bW,da,ba.eo,bJ,aT,aQ,dT,cY,dV,fC,cZ,cW,bV,dU,dR,fB,dS,na,zo])
   try simp only [h]
   (·first|exact pP|exact kP)
   (·first|exact pP|exact kP)
   all_goals(first|exact 0|exact undef)
 · by_cases h3:set.length=0
   · have e:im ⟨cf,ag,av,ax,value,br,ai,ah,ac,ap,set,aM,ao,aj,aG,some t,am,.dI⟩ M t=(x,13,⟨cf,ag,av,ax,value,br,ai,ah,ac,ap,set,aM,ao,aj,aG,some t',am,.cN⟩,M'):=by
      unfold im;rw [hr];dsimp only;rw [h2];simp [h,h3]
     rw [e]
     intro A F hw hS
     refine ab Tryz.func47 rfl (by kernel_rfl) fun _=>?_
     dsimp only [na,zo] at hS
     obtain⟨⟨bh,aY,az,aJ,aK,m,c0,c1,c2,bx,aw,aB,aV,bQ,bg,cE,aW,aU,aC,bA,bC,cP,bR⟩,hS⟩:=bI.open hS .z
     dsimp only [cg,fq,bW,da,ba.eo,na,zo] at hS
     have hS:=qq.op hS (.s (.s (.s .z)))
     have hq:=ZN hS hw
     have h4:∀rv,(ft.mk set rv false).done=true:=fun rv=>by simp [ft.done,h3]
     revert hq hS hw;(repeat first|clear hq|clear hS|clear hw|revert hc|revert zn|revert zA|revert R|revert K);refine Wp (J6 (Tg.mk (n:=10) @kH) (Tg.mk (n:=11) @oY) (Tg.mk (n:=11) @nI) (Tg.mk (n:=30) (fun A' h1 h2=>nS b ⟨cf,ag,av,ax,value,br,ai,ah,ac,ap,set,aM,ao,aj,aG,some t',am,.dI⟩ 6 .dI A' h1 h2)) (Tg.mk (n:=10) @jR) (dz aK)) (J9 h h2 h4 @aQ.eq_1 @aQ.eq_2 @AW.aa @af.eq_1 @aS.eq_1 @bq.v.eq_1) (J1 ?_)<;>unhygienic intros
     refine⟨_,by simp [hq,AW.aa,af];rfl,by first|(simp [bq.v];done)|(simp [bq.v,h];done),?_⟩
     apply bI.cC
     (·exact sA)
     (dsimp only [cg,fi,fq,bW,da,ba.eo,bJ,aT,aQ,dT,cY,dV,fC,cZ,cW,bV,dU,dR,fB,dS,na,zo])
     try simp only [h]
     (·first|exact pP|exact kP)
     (·first|exact pP|exact kP)
     all_goals(first|exact 0|exact undef)
   · have e:im ⟨cf,ag,av,ax,value,br,ai,ah,ac,ap,set,aM,ao,aj,aG,some t,am,.dI⟩ M t=(x,13,⟨cf,ag,av,ax,value,br,ai,ah,ac,ap,set,aM,ao,aj,aG,some t',am,.dG ⟨set,aD.rv ⟨cf,ag,av,ax,value,br,ai,ah,ac,ap,set,aM,ao,aj,aG,some t',am,.dI⟩,false⟩⟩,M'):=by
      unfold im;rw [hr];dsimp only;rw [h2];simp [h,h3,aD.rv]
     rw [e]
     intro A F hw hS
     refine ab Tryz.func47 rfl (by kernel_rfl) fun _=>?_
     dsimp only [na,zo] at hS
     obtain⟨⟨bh,aY,az,aJ,aK,m,c0,c1,c2,bx,aw,aB,aV,bQ,bg,cE,aW,aU,aC,bA,bC,cP,bR⟩,hS⟩:=bI.open hS .z
     dsimp only [cg,fq,bW,da,ba.eo,na,zo] at hS
     have hS:=qq.op hS (.s (.s (.s .z)))
     have hq:=ZN hS hw
     have h4:∀rv,(ft.mk set rv false).done=false:=fun rv=>by simp [ft.done];exact fun h=>h3 (by rw [h];rfl)
     revert hq hS hw;(repeat first|clear hq|clear hS|clear hw|revert hc|revert zn|revert zA|revert R|revert K);refine Wp (J6 (Tg.mk (n:=10) @kH) (Tg.mk (n:=11) @oY) (Tg.mk (n:=11) @nI) (Tg.mk (n:=30) (fun A' h1 h2=>nS b ⟨cf,ag,av,ax,value,br,ai,ah,ac,ap,set,aM,ao,aj,aG,some t',am,.dI⟩ 6 .dI A' h1 h2)) (Tg.mk (n:=10) @jR) (dz aK)) (J9 h h2 h4 @aQ.eq_1 @aQ.eq_2 @AW.aa @af.eq_1 @aS.eq_1 @bq.v.eq_1) (J1 ?_)<;>unhygienic intros
     refine⟨_,by simp [hq,AW.aa,af];rfl,by first|(simp [bq.v];done)|(simp [bq.v,h];done),?_⟩
     apply bI.cC
     (·exact sA)
     (dsimp only [cg,fi,fq,bW,da,ba.eo,bJ,aT,aQ,dT,cY,dV,fC,cZ,cW,bV,dU,dR,fB,dS,na,zo])
     try simp only [h]
     (·first|exact pP|exact kP)
     (·first|exact pP|exact kP)
     all_goals(first|exact 0|exact undef)
 · have e:im ⟨cf,ag,av,ax,value,br,ai,ah,ac,ap,set,aM,ao,aj,aG,some t,am,.dI⟩ M t=(x,14,⟨cf,ag,av,ax,value,br,ai,ah,ac,ap,set,aM,ao,aj,aG,some t',am,.dI⟩,M'):=by
    unfold im;rw [hr];dsimp only;rw [h2];simp [h]
   rw [e]
   intro A F hw hS
   refine ab Tryz.func47 rfl (by kernel_rfl) fun _=>?_
   dsimp only [na,zo] at hS
   obtain⟨⟨bh,aY,az,aJ,aK,m,c0,c1,c2,bx,aw,aB,aV,bQ,bg,cE,aW,aU,aC,bA,bC,cP,bR⟩,hS⟩:=bI.open hS .z
   dsimp only [cg,fq,bW,da,ba.eo,na,zo] at hS
   have hS:=qq.op hS (.s (.s (.s .z)))
   have hq:=ZN hS hw
   revert hq hS hw;(repeat first|clear hq|clear hS|clear hw|revert hc|revert zn|revert zA|revert R|revert K);refine Wp (J2 (Tg.mk (n:=10) @kH) (dz aK)) (J8 h h2 @aQ.eq_1 @aQ.eq_2 @AW.aa @af.eq_1 @aS.eq_1 @bq.v.eq_1) (J1 ?_)<;>unhygienic intros
   refine⟨_,by simp [hq,AW.aa,af];rfl,by first|(simp [bq.v];done)|(simp [bq.v,h];done),?_⟩
   apply bI.cC
   (·exact sA)
   (dsimp only [cg,fi,fq,bW,da,ba.eo,bJ,aT,aQ,dT,cY,dV,fC,cZ,cW,bV,dU,dR,fB,dS,na,zo])
   try simp only [h]
   (·first|exact pP|exact kP)
   (·first|exact pP|exact kP)
   all_goals(first|exact 0|exact undef)
 · by_cases h3:set.length=0
   · have e:im ⟨cf,ag,av,ax,value,br,ai,ah,ac,ap,set,aM,ao,aj,aG,some t,am,.dI⟩ M t=(x,14,⟨cf,ag,av,ax,value,br,ai,ah,ac,ap,set,aM,ao,aj,aG,some t',am,.cN⟩,M'):=by
      unfold im;rw [hr];dsimp only;rw [h2];simp [h,h3]
     rw [e]
     intro A F hw hS
     refine ab Tryz.func47 rfl (by kernel_rfl) fun _=>?_
     dsimp only [na,zo] at hS
     obtain⟨⟨bh,aY,az,aJ,aK,m,c0,c1,c2,bx,aw,aB,aV,bQ,bg,cE,aW,aU,aC,bA,bC,cP,bR⟩,hS⟩:=bI.open hS .z
     dsimp only [cg,fq,bW,da,ba.eo,na,zo] at hS
     have hS:=qq.op hS (.s (.s (.s .z)))
     have hq:=ZN hS hw
     have h4:∀rv,(ft.mk set rv false).done=true:=fun rv=>by simp [ft.done,h3]
     revert hq hS hw;(repeat first|clear hq|clear hS|clear hw|revert hc|revert zn|revert zA|revert R|revert K);refine Wp (J6 (Tg.mk (n:=10) @kH) (Tg.mk (n:=11) @oY) (Tg.mk (n:=11) @nI) (Tg.mk (n:=30) (fun A' h1 h2=>nS b ⟨cf,ag,av,ax,value,br,ai,ah,ac,ap,set,aM,ao,aj,aG,some t',am,.dI⟩ 6 .dI A' h1 h2)) (Tg.mk (n:=10) @jR) (dz aK)) (J9 h h2 h4 @aQ.eq_1 @aQ.eq_2 @AW.aa @af.eq_1 @aS.eq_1 @bq.v.eq_1) (J1 ?_)<;>unhygienic intros
     refine⟨_,by simp [hq,AW.aa,af];rfl,by first|(simp [bq.v];done)|(simp [bq.v,h];done),?_⟩
     apply bI.cC
     (·exact sA)
     (dsimp only [cg,fi,fq,bW,da,ba.eo,bJ,aT,aQ,dT,cY,dV,fC,cZ,cW,bV,dU,dR,fB,dS,na,zo])
     try simp only [h]
     (·first|exact pP|exact kP)
     (·first|exact pP|exact kP)
     all_goals(first|exact 0|exact undef)
   · have e:im ⟨cf,ag,av,ax,value,br,ai,ah,ac,ap,set,aM,ao,aj,aG,some t,am,.dI⟩ M t=(x,14,⟨cf,ag,av,ax,value,br,ai,ah,ac,ap,set,aM,ao,aj,aG,some t',am,.dG ⟨set,aD.rv ⟨cf,ag,av,ax,value,br,ai,ah,ac,ap,set,aM,ao,aj,aG,some t',am,.dI⟩,false⟩⟩,M'):=by
      unfold im;rw [hr];dsimp only;rw [h2];simp [h,h3,aD.rv]
     rw [e]
     intro A F hw hS
     refine ab Tryz.func47 rfl (by kernel_rfl) fun _=>?_
     dsimp only [na,zo] at hS
     obtain⟨⟨bh,aY,az,aJ,aK,m,c0,c1,c2,bx,aw,aB,aV,bQ,bg,cE,aW,aU,aC,bA,bC,cP,bR⟩,hS⟩:=bI.open hS .z
     dsimp only [cg,fq,bW,da,ba.eo,na,zo] at hS
     have hS:=qq.op hS (.s (.s (.s .z)))
     have hq:=ZN hS hw
     have h4:∀rv,(ft.mk set rv false).done=false:=fun rv=>by simp [ft.done];exact fun h=>h3 (by rw [h];rfl)
     revert hq hS hw;(repeat first|clear hq|clear hS|clear hw|revert hc|revert zn|revert zA|revert R|revert K);refine Wp (J6 (Tg.mk (n:=10) @kH) (Tg.mk (n:=11) @oY) (Tg.mk (n:=11) @nI) (Tg.mk (n:=30) (fun A' h1 h2=>nS b ⟨cf,ag,av,ax,value,br,ai,ah,ac,ap,set,aM,ao,aj,aG,some t',am,.dI⟩ 6 .dI A' h1 h2)) (Tg.mk (n:=10) @jR) (dz aK)) (J9 h h2 h4 @aQ.eq_1 @aQ.eq_2 @AW.aa @af.eq_1 @aS.eq_1 @bq.v.eq_1) (J1 ?_)<;>unhygienic intros
     refine⟨_,by simp [hq,AW.aa,af];rfl,by first|(simp [bq.v];done)|(simp [bq.v,h];done),?_⟩
     apply bI.cC
     (·exact sA)
     (dsimp only [cg,fi,fq,bW,da,ba.eo,bJ,aT,aQ,dT,cY,dV,fC,cZ,cW,bV,dU,dR,fB,dS,na,zo])
     try simp only [h]
     (·first|exact pP|exact kP)
     (·first|exact pP|exact kP)
     all_goals(first|exact 0|exact undef)
theorem yj (b pb:Nat) (s:aD) (c:ft) (M:Mm) (hd:s.aA=.dG c) (Lz:s.aj.length<2^20) (IQ:s.aj.length=0∨∃l,s.aG=some l∧s.aj.length=l.dH.length) :
 aP Tryz.prog 48 [pv b,pv pb] [.h (bI b s),eb pb M] (fun v=>v=.tuple #[(hU s M c).1.v,.int .i64 (hU s M c).2.1])
  (fun _=>[.h (bI b (hU s M c).2.2.1),eb pb (hU s M c).2.2.2]):=by
 obtain⟨cf,ag,av,ax,value,br,ai,ah,ac,ap,set,aM,ao,aj,aG,aE,am,aA⟩:=s
 dsimp only at hd
 subst hd
 dsimp only at Lz IQ
 obtain⟨x,c',M',hr⟩:∃x e' M',eR c M=(x,e',M'):=⟨_,_,_,rfl⟩
 have dz:=fun n=>Aa n pb c M
 rw [hr] at dz
 cases h2:c'.ii
 · cases h3:c'.done
   · have e:hU ⟨cf,ag,av,ax,value,br,ai,ah,ac,ap,set,aM,ao,aj,aG,aE,am,.dG c⟩ M c=(x,15,⟨cf,ag,av,ax,value,br,ai,ah,ac,ap,set,aM,ao,aj,aG,aE,am,.dG c'⟩,M'):=by
      unfold hU;rw [hr];dsimp only;rw [h2,h3];simp
     rw [e]
     intro A F hw hS
     refine ab Tryz.func48 rfl (by kernel_rfl) fun _=>?_
     dsimp only [na,zo] at hS
     obtain⟨⟨bh,aY,az,aJ,aK,m,c0,c1,c2,bx,aw,aB,aV,bQ,bg,cE,aW,aU,aC,bA,bC,cP,bR⟩,hS⟩:=bI.open hS .z
     dsimp only [cg,fq,bW,da,ba.eo,na,zo] at hS
     have hq:=ZN hS hw
     revert hq hS hw;clear hS;refine Wp (J3 (Tg.mk (n:=10) @m9) (Tg.mk (n:=10) @jR) (dz m)) (J6 h2 h3 @AW.aa @af.eq_1 @aS.eq_1 @bq.v.eq_1) (J1 ?_)<;>unhygienic intros
     refine⟨_,by simp [hq,AW.aa,af];rfl,by first|(simp [bq.v];done)|(simp [bq.v,h];done),?_⟩
     apply bI.cC
     (·exact sA)
     (dsimp only [cg,fi,fq,bW,da,ba.eo,bJ,aT,aQ,dT,cY,dV,fC,cZ,cW,bV,dU,dR,fB,dS,na,zo])
     try simp only [h]
     (·first|exact pP|exact kP)
     (·first|exact pP|exact kP)
     all_goals(first|exact 0|exact undef)
   · have e:hU ⟨cf,ag,av,ax,value,br,ai,ah,ac,ap,set,aM,ao,aj,aG,aE,am,.dG c⟩ M c=(x,15,⟨cf,ag,av,ax,value,br,ai,ah,ac,ap,set,aM,ao,aj,aG,aE,am,.cN⟩,M'):=by
      unfold hU;rw [hr];dsimp only;rw [h2,h3];simp
     rw [e]
     intro A F hw hS
     refine ab Tryz.func48 rfl (by kernel_rfl) fun _=>?_
     dsimp only [na,zo] at hS
     obtain⟨⟨bh,aY,az,aJ,aK,m,c0,c1,c2,bx,aw,aB,aV,bQ,bg,cE,aW,aU,aC,bA,bC,cP,bR⟩,hS⟩:=bI.open hS .z
     dsimp only [cg,fq,bW,da,ba.eo,na,zo] at hS
     have hq:=ZN hS hw
     revert hq hS hw;(repeat first|clear hq|clear hS|clear hw|revert hc|revert zn|revert zA|revert R|revert K);refine Wp (J3 (Tg.mk (n:=10) @m9) (Tg.mk (n:=10) @jR) (dz m)) (J6 h2 h3 @AW.aa @af.eq_1 @aS.eq_1 @bq.v.eq_1) (J1 ?_)<;>unhygienic intros
     refine⟨_,by simp [hq,AW.aa,af];rfl,by first|(simp [bq.v];done)|(simp [bq.v,h];done),?_⟩
     apply bI.cC
     (·exact sA)
     (dsimp only [cg,fi,fq,bW,da,ba.eo,bJ,aT,aQ,dT,cY,dV,fC,cZ,cW,bV,dU,dR,fB,dS,na,zo])
     try simp only [h]
     (·first|exact pP|exact kP)
     (·first|exact pP|exact kP)
     all_goals(first|exact 0|exact undef)
 · have e:hU ⟨cf,ag,av,ax,value,br,ai,ah,ac,ap,set,aM,ao,aj,aG,aE,am,.dG c⟩ M c=(x,15,fH ⟨cf,ag,av,9,value,br,ai,ah,ac,ap,set,aM,ao,aj,aG,aE,am,.dG c'⟩,M'):=by
    unfold hU;rw [hr];dsimp only;rw [h2];simp
   rw [e]
   intro A F hw hS
   refine ab Tryz.func48 rfl (by kernel_rfl) fun _=>?_
   dsimp only [na,zo] at hS
   obtain⟨⟨bh,aY,az,aJ,aK,m,c0,c1,c2,bx,aw,aB,aV,bQ,bg,cE,aW,aU,aC,bA,bC,cP,bR⟩,hS⟩:=bI.open hS .z
   dsimp only [cg,fq,bW,da,ba.eo,na,zo] at hS
   have hq:=ZN hS hw
   repeat' (first
   | (refine il fun R hR=>?_;simp [ak,au,hq,h2,AW.aa,af,aS,bq.v];try simp (disch:=omega) only [if_pos,if_neg,ak,au])
   | (refine hR _ _ ?_;clear hR R)|(refine hK _ _ ?_;clear hK K)|refine nx ?_
   | refine wn fun K hK=>?_
   | simp only [wS]
   | (apply aP.el (dz m);(·exact wA);(·exact sA);(·first|exact pP|exact kP);rintro _ _ rfl hS hw _;have hS:=lA hS;have hq:=ZR hS hw)
   | (apply m9;(·exact wA);(·exact sA);(·first|exact pP|exact kP);)
   | (apply aP.Jb (qA b ⟨cf,ag,av,9,value,br,ai,ah,ac,ap,set,aM,ao,aj,aG,aE,am,.dG c'⟩ 7 (.dG c') (by exact Lz) (by exact IQ));(·exact wA);(·exact sA);(·exact fP);(·first|exact pP|exact kP);(rintro _ _ _ hS hw _;have hS:=lA hS);(try (have hq:=ZR hS hw));all_goals(try (first|exact 0|exact undef)))
   | refine wb ?_|refine wr ?_|refine wk ?_|refine we ?_|refine ws ?_|refine wq ?_
   | (refine wc rfl (fun hc=>?_) (fun hc=>?_)<;>(try simp at hc)<;>(try omega)<;>(try (simp [h2] at hc;done))<;>(try (simp [h3] at hc;done))<;>(try (simp [h4] at hc;done)))
   | (refine ib (fun hc=>?_) (fun hc=>?_)<;>(try omega)<;>(try simp (disch:=omega) only [if_pos,if_neg])))
   refine⟨_,by simp [hq,AW.aa,af];rfl,by first|(simp [bq.v];done)|(simp [bq.v,h];done),?_⟩
   apply an.cC
   (·exact sA)
   (·first|exact pP|exact kP)
end
end Go.Stx
