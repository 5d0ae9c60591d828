/-
 The program's attempt: its steps, fourth part.
-/
import Derived.Test.YtncmjklabcoeaaaGreatD23
import Derived.Test.YtncmjklabcoeaaaGreatD33
set_option linter.unusedVariables false
set_option linter.unusedSimpArgs false
set_option maxRecDepth 20000
set_option maxHeartbeats 4000000
namespace Go.Stx
open Go Go.Proofs
attribute [local irreducible] fj cm aH bB dK ei TW hN
section
abbrev uK:List (Nat×Nat):=[(0,0),(1,2),(2,0),(3,0),(4,0),(5,0),(6,0),(7,0),(8,0),(9,0),(10,0),(11,0),(12,0),(13,0),(14,0)]
abbrev uJ:List (Nat×Nat):=[(0,0),(1,0),(2,0),(3,0),(4,0),(5,0),(6,0),(8,0),(9,0),(10,0),(11,0),(12,0),(7,2),(13,2),(14,2),(15,0),(16,0),(17,3),(18,0),(19,0),(20,0),(21,3)]
open T20 T16
theorem vD (b pb:Nat) (s:aD) (w:gL) (M:Mm) (hd:s.aA=.cK w) (cU:w.os.length=w.ws.length) :
 aP Tryz.prog 51 [pv b,pv pb] [.h (bI b s),eb pb M] (fun v=>v=.tuple #[(lC s M w).1.v,.int .i64 (lC s M w).2.1])
  (fun _=>[.h (bI b (lC s M w).2.2.1),eb pb (lC s M w).2.2.2]):=by
 obtain⟨cf,ag,av,ax,value,br,ai,ah,ac,ap,set,aM,ao,aj,aG,aE,am,aA⟩:=s
 dsimp only at hd
 subst hd
 obtain⟨x,w',M',hr⟩:∃x e' M',j3 w M=(x,e',M'):=⟨_,_,_,rfl⟩
 have dz:=fun n=>Jq n pb w M cU
 rw [hr] at dz
 have Rq:∀dd,aD.sy ⟨cf,ag,av,ax,value,br,ai,ah,ac,ap,set,aM,ao,aj,aG,aE,am,dd⟩=aD.sy ⟨cf,ag,av,ax,value,br,ai,ah,ac,ap,set,aM,ao,aj,aG,aE,am,.cK w⟩:=fun dd=>rfl
 obtain⟨vr,Qx⟩:∃vr,aD.sy ⟨cf,ag,av,ax,value,br,ai,ah,ac,ap,set,aM,ao,aj,aG,aE,am,.cK w⟩=vr:=⟨_,rfl⟩
 rw [Qx] at Rq
 cases h2:w'.done
 · have e:lC ⟨cf,ag,av,ax,value,br,ai,ah,ac,ap,set,aM,ao,aj,aG,aE,am,.cK w⟩ M w=(x,18,⟨cf,ag,av,ax,value,br,ai,ah,ac,ap,set,aM,ao,aj,aG,aE,am,.cK w'⟩,M'):=by
    unfold lC;rw [hr];dsimp only;rw [h2];simp
   rw [e]
   intro A F hw hS
   refine ab Tryz.func51 rfl (by kernel_rfl) fun _=>?_
   dsimp only [na,zo] at hS
   obtain⟨⟨bh,aY,az,aJ,aK,m,c0,c1,c2,bx,aw,aB,aV,bQ,bg,cE,aW,aU,aC,bA,bC,cP,bR⟩,hS⟩:=bI.open hS .z
   dsimp only [cg,fq,bW,da,ba.eo,na,zo] at hS
   have hq:=ZN hS hw
   revert hq hS hw;clear hS;have gR:=trivial;refine Wp (J2 (Tg.mk (n:=10) @rI) (dz m)) (J5 h2 @AW.aa @af.eq_1 @aS.eq_1 @bq.v.eq_1) (J1 ?_)<;>unhygienic intros
   refine⟨_,by simp [hq,AW.aa,af];rfl,by first|(simp [bq.v];done)|(simp [bq.v,h];done),?_⟩
   apply bI.cC
   (·exact sA)
   (dsimp only [cg,fi,fq,bW,da,ba.eo,bJ,aT,aQ,dT,cY,dV,fC,cZ,cW,bV,dU,dR,fB,dS,na,zo])
   try simp only [h]
   (·first|exact pP|exact kP)
   (·first|exact pP|exact kP)
   all_goals(first|exact 0|exact undef)
 · by_cases h:0≤vr
   · have e:lC ⟨cf,ag,av,ax,value,br,ai,ah,ac,ap,set,aM,ao,aj,aG,aE,am,.cK w⟩ M w=(x,18,⟨cf,ag,av,ax,value,br,ai,ah,ac,ap,set,aM,ao,aj,aG,aE,am,.ij⟩,M'):=by
      unfold lC;rw [hr];dsimp only;rw [h2,Qx,if_pos rfl,if_pos h]
     rw [e]
     intro A F hw hS
     refine ab Tryz.func51 rfl (by kernel_rfl) fun _=>?_
     dsimp only [na,zo] at hS
     obtain⟨⟨bh,aY,az,aJ,aK,m,c0,c1,c2,bx,aw,aB,aV,bQ,bg,cE,aW,aU,aC,bA,bC,cP,bR⟩,hS⟩:=bI.open hS .z
     dsimp only [cg,fq,bW,da,ba.eo,na,zo] at hS
     have hq:=ZN hS hw
     revert hq hS hw;(repeat first|clear hq|clear hS|clear hw|revert hc|revert zn|revert zA|revert R|revert K);have gR:=trivial;refine Wp (J3 (Tg.mk (n:=10) @rI) (Tg.mk (n:=30) (fun A' h1 h2=>lu b ⟨cf,ag,av,ax,value,br,ai,ah,ac,ap,set,aM,ao,aj,aG,aE,am,.cK w'⟩ 12 (.cK w') A' h1 h2)) (dz m)) (J7 h h2 Rq @AW.aa @af.eq_1 @aS.eq_1 @bq.v.eq_1) (J1 ?_)<;>unhygienic intros
     refine⟨_,by simp [hq,AW.aa,af];rfl,by first|(simp [bq.v];done)|(simp [bq.v,h];done),?_⟩
     apply bI.cC
     (·exact sA)
     (dsimp only [cg,fi,fq,bW,da,ba.eo,bJ,aT,aQ,dT,cY,dV,fC,cZ,cW,bV,dU,dR,fB,dS,na,zo])
     try simp only [h]
     (·first|exact pP|exact kP)
     (·first|exact pP|exact kP)
     all_goals(first|exact 0|exact undef)
   · have e:lC ⟨cf,ag,av,ax,value,br,ai,ah,ac,ap,set,aM,ao,aj,aG,aE,am,.cK w⟩ M w=(x,18,⟨cf,ag,av,ax,value,br,ai,ah,ac,ap,set,aM,ao,aj,aG,aE,am,.fm⟩,M'):=by
      unfold lC;rw [hr];dsimp only;rw [h2,Qx,if_pos rfl,if_neg h]
     rw [e]
     intro A F hw hS
     refine ab Tryz.func51 rfl (by kernel_rfl) fun _=>?_
     dsimp only [na,zo] at hS
     obtain⟨⟨bh,aY,az,aJ,aK,m,c0,c1,c2,bx,aw,aB,aV,bQ,bg,cE,aW,aU,aC,bA,bC,cP,bR⟩,hS⟩:=bI.open hS .z
     dsimp only [cg,fq,bW,da,ba.eo,na,zo] at hS
     have hq:=ZN hS hw
     revert hq hS hw;(repeat first|clear hq|clear hS|clear hw|revert hc|revert zn|revert zA|revert R|revert K);have gR:=trivial;refine Wp (J3 (Tg.mk (n:=10) @rI) (Tg.mk (n:=30) (fun A' h1 h2=>lu b ⟨cf,ag,av,ax,value,br,ai,ah,ac,ap,set,aM,ao,aj,aG,aE,am,.cK w'⟩ 12 (.cK w') A' h1 h2)) (dz m)) (J7 h h2 Rq @AW.aa @af.eq_1 @aS.eq_1 @bq.v.eq_1) (J1 ?_)<;>unhygienic intros
     refine⟨_,by simp [hq,AW.aa,af];rfl,by first|(simp [bq.v];done)|(simp [bq.v,h];done),?_⟩
     apply bI.cC
     (·exact sA)
     (dsimp only [cg,fi,fq,bW,da,ba.eo,bJ,aT,aQ,dT,cY,dV,fC,cZ,cW,bV,dU,dR,fB,dS,na,zo])
     try simp only [h]
     (·first|exact pP|exact kP)
     (·first|exact pP|exact kP)
     all_goals(first|exact 0|exact undef)
theorem xk (b pb:Nat) (s:aD)  (M:Mm) (hd:s.aA=.cN) (hC:ep s) (Lz:s.aj.length<2^20) (IQ:s.aj.length=0∨∃l,s.aG=some l∧s.aj.length=l.dH.length) :
 aP Tryz.prog 49 [pv b,pv pb] [.h (bI b s),eb pb M] (fun v=>v=.tuple #[(fb s M).1.v,.int .i64 (fb s M).2.1])
  (fun _=>[.h (bI b (fb s M).2.2.1),eb pb (fb s M).2.2.2]):=by
 obtain⟨cf,ag,av,ax,value,br,ai,ah,ac,ap,set,aM,ao,aj,aG,aE,am,aA⟩:=s
 dsimp only at hd
 subst hd
 dsimp only at Lz IQ
 have cU:=hC.len
 have TX:=hC.aM.xt
 dsimp only at cU TX
 obtain⟨x,hx⟩:∃x,gX M 3 0=x:=⟨_,rfl⟩
 have dz:=Pg pb M 3 0
 rw [hx] at dz
 obtain⟨t0,t1⟩:=hC.cf.ao
 dsimp only at t0 t1
 have JE:IntKind.u64.wrap cf.ao=cf.ao:=au (by omega) (by omega)
 cases h3:aD.iv ⟨cf,ag,av,ax,value,br,ai,ah,ac,ap,set,aM,ao,aj,aG,aE,am,.cN⟩
 · have h4:∀ck dc,aD.iv ⟨cf,ag,av,ax,value,br,dc,ah,ac,ap,set,aM,ck,aj,aG,aE,am,.cN⟩=false:=fun _ _=>h3
   have e:fb ⟨cf,ag,av,ax,value,br,ai,ah,ac,ap,set,aM,ao,aj,aG,aE,am,.cN⟩ M=(x,16,fH ⟨cf,ag,av,ax,value,br,true,ah,ac,ap,set,aM,x.fI,aj,aG,aE,am,.cN⟩,M):=by
    unfold fb;rw [hx,h3];simp
   rw [e]
   intro A F hw hS
   refine ab Tryz.func49 rfl (by kernel_rfl) fun _=>?_
   dsimp only [na,zo] at hS
   obtain⟨⟨bh,aY,az,aJ,aK,m,c0,c1,c2,bx,aw,aB,aV,bQ,bg,cE,aW,aU,aC,bA,bC,cP,bR⟩,hS⟩:=bI.open hS .z
   dsimp only [cg,fq,bW,da,ba.eo,na,zo] at hS
   have hq:=ZN hS hw
   repeat' (first
   | (refine il fun R hR=>?_;simp [ak,au,hq,h4,AW.aa,af,aS,bq.v];try simp (disch:=omega) only [if_pos,if_neg,ak,au])
   | (refine hR _ _ ?_;clear hR R)|(refine hK _ _ ?_;clear hK K)|refine nx ?_
   | refine wn fun K hK=>?_
   | simp only [wS,uK,uJ]
   | refine wl Tryz.mx uK (by decide +kernel) fun K hK=>?_
   | refine wl Tryz.mx uJ (by decide +kernel) fun K hK=>?_
   | (apply aP.el (dz);(·exact wA);(·exact sA);(·first|exact pP|exact kP);rintro _ _ rfl hS hw _;have hS:=lA hS;have hq:=ZR hS hw)
   | (apply wW (fun A' h1 h2=>kj b ⟨cf,ag,av,ax,value,br,ai,ah,ac,ap,set,aM,x.fI,aj,aG,aE,am,.cN⟩ 8 .cN A' h1 h2);(·exact wA);(·exact sA);(·exact fP);all_goals(try (first|exact 0|exact undef)))
   | (apply wW (fun A' h1 h2=>kj b ⟨cf,ag,av,ax,value,br,true,ah,ac,ap,set,aM,x.fI,aj,aG,aE,am,.cN⟩ 8 .cN A' h1 h2);(·exact wA);(·exact sA);(·exact fP);all_goals(try (first|exact 0|exact undef)))
   | (apply aP.Jb (qA b ⟨cf,ag,av,ax,value,br,true,ah,ac,ap,set,aM,x.fI,aj,aG,aE,am,.cN⟩ 8 .cN Lz IQ);(·exact wA);(·exact sA);(·exact fP);(·first|exact pP|exact kP);(rintro _ _ _ hS hw _;have hS:=lA hS);(try (have hq:=ZR hS hw));all_goals(try (first|exact 0|exact undef)))
   | refine wb ?_|refine wr ?_|refine wk ?_|refine we ?_|refine ws ?_|refine wq ?_
   | (refine wc rfl (fun hc=>?_) (fun hc=>?_)<;>(try simp at hc)<;>(try omega)<;>(try (simp [h2] at hc;done))<;>(try (simp [h3] at hc;done))<;>(try (simp [h4] at hc;done)))
   | (refine ib (fun hc=>?_) (fun hc=>?_)<;>(try omega)<;>(try simp (disch:=omega) only [if_pos,if_neg])))
   refine⟨_,by simp [hq,AW.aa,af];rfl,by first|(simp [bq.v];done)|(simp [bq.v,h];done),?_⟩
   apply an.cC
   (·exact sA)
   (·first|exact pP|exact kP)
 · have h4:∀ck dc,aD.iv ⟨cf,ag,av,ax,value,br,dc,ah,ac,ap,set,aM,ck,aj,aG,aE,am,.cN⟩=true:=fun _ _=>h3
   by_cases h:cf.ao≤x.fI
   · have e:fb ⟨cf,ag,av,ax,value,br,ai,ah,ac,ap,set,aM,ao,aj,aG,aE,am,.cN⟩ M=(x,16,fH ⟨cf,ag,av,6,value,br,ai,ah,ac,ap,set,aM,x.fI,aj,aG,aE,am,.cN⟩,M):=by
      unfold fb;rw [hx,h3,JE];simp [h]
     rw [e]
     intro A F hw hS
     refine ab Tryz.func49 rfl (by kernel_rfl) fun _=>?_
     dsimp only [na,zo] at hS
     obtain⟨⟨bh,aY,az,aJ,aK,m,c0,c1,c2,bx,aw,aB,aV,bQ,bg,cE,aW,aU,aC,bA,bC,cP,bR⟩,hS⟩:=bI.open hS .z
     dsimp only [cg,fq,bW,da,ba.eo,na,zo] at hS
     have hq:=ZN hS hw
     revert hq hS hw;(repeat first|clear hq|clear hS|clear hw|revert hc|revert zn|revert zA|revert R|revert K);have gR:=trivial;refine Wp (J5 (Tg.mk (n:=30) (fun A' h1 h2=>kj b ⟨cf,ag,av,ax,value,br,ai,ah,ac,ap,set,aM,x.fI,aj,aG,aE,am,.cN⟩ 8 .cN A' h1 h2)) (Tg.mk (n:=20) (qA b ⟨cf,ag,av,6,value,br,ai,ah,ac,ap,set,aM,x.fI,aj,aG,aE,am,.cN⟩ 8 .cN Lz IQ)) (od uK) (od uJ) @dz) (J7 h h4 JE @AW.aa @af.eq_1 @aS.eq_1 @bq.v.eq_1) (J1 ?_)<;>unhygienic intros
     refine⟨_,by simp [hq,AW.aa,af];rfl,by first|(simp [bq.v];done)|(simp [bq.v,h];done),?_⟩
     apply an.cC
     (·exact sA)
     (·first|exact pP|exact kP)
   · have e:fb ⟨cf,ag,av,ax,value,br,ai,ah,ac,ap,set,aM,ao,aj,aG,aE,am,.cN⟩ M=(x,16,⟨cf,ag,av,ax,value,br,true,ah,ac,ap,set,aM,x.fI,aj,aG,aE,am,.et ⟨aM.bl,aM.df⟩⟩,M):=by
      unfold fb;rw [hx,h3,JE];simp [h]
     rw [e]
     intro A F hw hS
     refine ab Tryz.func49 rfl (by kernel_rfl) fun _=>?_
     dsimp only [na,zo] at hS
     obtain⟨⟨bh,aY,az,aJ,aK,m,c0,c1,c2,bx,aw,aB,aV,bQ,bg,cE,aW,aU,aC,bA,bC,cP,bR⟩,hS⟩:=bI.open hS .z
     dsimp only [cg,fq,bW,da,ba.eo,na,zo] at hS
     have hq:=ZN hS hw
     repeat' (first
     | (refine il fun R hR=>?_;simp [ak,au,hq,h,h4,JE,AW.aa,af,aS,bq.v];try simp (disch:=omega) only [if_pos,if_neg,ak,au])
     | (refine hR _ _ ?_;clear hR R)|(refine hK _ _ ?_;clear hK K)|refine nx ?_
     | refine wn fun K hK=>?_
     | simp only [wS,uK,uJ]
     | refine wl Tryz.mx uK (by decide +kernel) fun K hK=>?_
     | refine wl Tryz.mx uJ (by decide +kernel) fun K hK=>?_
     | (apply aP.el (dz);(·exact wA);(·exact sA);(·first|exact pP|exact kP);rintro _ _ rfl hS hw _;have hS:=lA hS;have hq:=ZR hS hw)
     | (apply wW (fun A' h1 h2=>kj b ⟨cf,ag,av,ax,value,br,ai,ah,ac,ap,set,aM,x.fI,aj,aG,aE,am,.cN⟩ 8 .cN A' h1 h2);(·exact wA);(·exact sA);(·exact fP);all_goals(try (first|exact 0|exact undef)))
     | (apply wW (fun A' h1 h2=>kj b ⟨cf,ag,av,ax,value,br,true,ah,ac,ap,set,aM,x.fI,aj,aG,aE,am,.cN⟩ 8 .cN A' h1 h2);(·exact wA);(·exact sA);(·exact fP);all_goals(try (first|exact 0|exact undef)))
     | (apply uQ;(·exact wA);(·exact sA);(·first|exact pP|exact kP);(·first|omega|(simp;omega)|(simp [hq];done));((first|rintro _ _ _ hS hw eG|rintro _ _ hS hw eG|rintro _ _ hS hw);(try refine⟨eG,?_⟩);(try dsimp only [AW.aZ] at hS);have hq:=ZR hS hw))
     | (apply Bx;(·exact wA);(·exact sA);(·first|exact pP|exact kP);(·first|omega|(simp;omega)|(simp [hq];done));((first|rintro _ _ _ hS hw eG|rintro _ _ hS hw eG|rintro _ _ hS hw);(try refine⟨eG,?_⟩);(try dsimp only [AW.aZ] at hS);have hq:=ZR hS hw))
     | (apply Dv;(·exact wA);(·exact sA);(·first|exact pP|exact kP);(·first|exact pP|exact kP);(·first|omega|(simp;omega)|(simp [hq];done));(·first|omega|(simp;omega)|(simp [hq];done));((first|rintro _ _ _ hS hw eG|rintro _ _ hS hw eG|rintro _ _ hS hw);(try refine⟨eG,?_⟩);(try dsimp only [AW.aZ] at hS);have hq:=ZR hS hw))
     | refine wb ?_|refine wr ?_|refine wk ?_|refine we ?_|refine ws ?_|refine wq ?_
     | (refine wc rfl (fun hc=>?_) (fun hc=>?_)<;>(try simp at hc)<;>(try omega)<;>(try (simp [h2] at hc;done))<;>(try (simp [h3] at hc;done))<;>(try (simp [h4] at hc;done)))
     | (refine ib (fun hc=>?_) (fun hc=>?_)<;>(try omega)<;>(try simp (disch:=omega) only [if_pos,if_neg])))
     refine⟨_,by simp [hq,AW.aa,af];rfl,by first|(simp [bq.v];done)|(simp [bq.v,h];done),?_⟩
     apply bI.cC
     (·exact sA)
     (dsimp only [cg,fi,fq,bW,da,ba.eo,bJ,aT,aQ,dT,cY,dV,fC,cZ,cW,bV,dU,dR,fB,dS,na,zo])
     try simp only [h]
     (·first|exact pP|exact kP)
     (·first|exact pP|exact kP)
     all_goals(first|exact 0|exact undef)
end
section
abbrev jQ:List (Nat×Nat):=[(0,0),(1,0),(2,0),(3,0),(4,0),(5,0),(6,0),(7,0),(8,0),(9,0),(10,2),(11,3),(12,0),(13,0),(14,0),(15,3)]
abbrev jP:List (Nat×Nat):=[(0,0),(1,0),(2,0),(3,0),(4,0),(5,0),(6,0),(7,0),(9,0),(10,0),(8,2),(11,2),(12,0),(13,0)]
open T25
def km (c:bG) (nt:Nat) (dm:List Int):Mm:=fun k=>if k=0 then dm++List.replicate c.nb.toNat 0 else if k=1 then List.replicate c.aj.toNat 0 else if k=5 then List.replicate nt 0 else if k=6 then fp c.c0 c.c1 else if k=7 then fD c.c0 c.c1 else [0]
def oK (c:bG):ef:=.cells [.int .i64 c.aF,.int .i64 c.aj,.int .i64 c.base,.int .i64 c.c0,.int .i64 c.c1,.int .i64 c.c2,.int .i64 c.c3,.int .i64 c.ah,.int .i64 c.bX,.int .i64 c.ac,.int .i64 c.ap,.int .i64 c.ao,.bool c.cT] true 1
def up (c:bG) (v0 v1 v5 v6 v7:Value):ef:=.cells [.int .i64 c.aF,.int .i64 c.aj,.int .i64 c.base,.int .i64 c.c0,.int .i64 c.c1,.int .i64 c.c2,.int .i64 c.c3,.int .i64 c.ah,.int .i64 c.bX,.int .i64 c.ac,.int .i64 c.ap,.int .i64 c.ao,.bool c.cT,v0,v1,.int .u64 0,.int .u64 0,.int .u64 0,v5,v6,v7] true 1
abbrev mY:Value:=.slice none 0 0
theorem sK {c:bG} (hc:rj c):((fD c.c0 c.c1).length:Int)=c.nb:=by
 have e:c.nb=c.c0+c.c1+c.c2+c.c3:=rfl
 rw [e,hc.c2,hc.c3]
 rcases hc.c0 with h0|h0|h0<;>rcases hc.c1 with h1|h1|h1<;>rw [h0,h1]<;>decide
theorem FG {c:bG} (hc:rj c) (b:Nat) (hb:(b:Int)<c.nb):(fD c.c0 c.c1)[b]? = some (if (b:Int)+1<c.nb∧ds c (b+1)=ds c b then (b:Int)+2 else 0):=by
 have e:c.nb=c.c0+c.c1+c.c2+c.c3:=rfl
 rw [e,hc.c2,hc.c3] at hb ⊢
 unfold ds sZ
 rw [hc.c2,hc.c3]
 rcases hc.c0 with h0|h0|h0<;>rcases hc.c1 with h1|h1|h1<;>rw [h0,h1] at hb ⊢
 all_goals(have Yl:b=0∨b=1∨b=2∨b=3:=by omega)
 all_goals(rcases Yl with rfl|rfl|rfl|rfl)
 all_goals(first|omega|(simp [fD];done))
def oS (c:bG):Nat→Int|0=>0|1=>c.c0|2=>c.c0+c.c1|3=>c.c0+c.c1+c.c2|_=>c.c0+c.c1+c.c2+c.c3
def tV (c:bG):Nat→Int|0=>c.c0|1=>c.c1|2=>c.c2|_=>c.c3
theorem Cn {c:bG} (hc:rj c) (k:Nat) (hk:k<4):(fp c.c0 c.c1)[k]? = some (if 0<tV c k then oS c k+1 else 0):=by
 have PH:k=0∨k=1∨k=2∨k=3:=by omega
 have h2:=hc.c2
 have h3:=hc.c3
 rcases PH with rfl|rfl|rfl|rfl
 all_goals(simp only [tV,oS,fp])
 all_goals(rcases hc.c0 with h0|h0|h0<;>rcases hc.c1 with h1|h1|h1<;>simp [h0,h1,h2,h3,mK])
theorem an.Vq {A:AW} {L K:List It} {b n:Nat} {k:IntKind} (h:an A L) (hp:ay L (.at b (.cells (fh [.int k 0] n) true 1)) K):an A (.h (ar k (.slice (some ⟨b,0,none⟩) n n) (List.replicate n 0))::K):=by
 have hz:fh [Value.int k 0] n=(List.replicate n (0:Int)).map (Value.int k):=by
  clear hp
  induction n with
  | zero=>rfl
  | succ n ih=>rw [List.replicate_succ,List.map_cons,←ih];rfl
 rw [hz] at hp
 exact an.lh _ _ h hp (by simp)
theorem Hn {A:AW} {L K:List It} {c:bG} {mb:Nat} {M:Mm} {v0 v1 v5 v6 v7:Value} (h:an A L)
 (hp:aX L [.at mb (up c v0 v1 v5 v6 v7),.h (ar .u64 v0 (M 0)),.h (ar .u64 v1 (M 1)),.h (ar .u64 v5 (M 5)),.h (ar .u64 v6 (M 6)),.h (ar .u64 v7 (M 7))] K) (h2:(M 2).getD 0 0=0) (h3:(M 3).getD 0 0=0) (h4:(M 4).getD 0 0=0):an A (fw c mb M::K):=by
 unfold an at h
 rw [hp.bn] at h
 have h1:bK A (pt mb (up c v0 v1 v5 v6 v7)*(ar .u64 v0 (M 0)*(ar .u64 v1 (M 1)*(ar .u64 v5 (M 5)*(ar .u64 v6 (M 6)*(ar .u64 v7 (M 7)*bn K)))))):=h.dp (by
  show pt mb _*(ar .u64 v0 (M 0)*(ar .u64 v1 (M 1)*(ar .u64 v5 (M 5)*(ar .u64 v6 (M 6)*(ar .u64 v7 (M 7)*fa)))))*bn K=_
  rw [dx]
  ac_rfl)
 refine eX.eh (cf:=c) (mb:=mb) (M:=M) (v0:=v0) (v1:=v1) (v5:=v5) (v6:=v6) (v7:=v7) ?_
 rw [h2,h3,h4]
 exact h1
theorem NV (c:bG) (k:Nat) (hk:k<4):[Value.int .i64 c.aF,.int .i64 c.aj,.int .i64 c.base,.int .i64 c.c0,.int .i64 c.c1,.int .i64 c.c2,.int .i64 c.c3,.int .i64 c.ah,.int .i64 c.bX,.int .i64 c.ac,.int .i64 c.ap,.int .i64 c.ao,.bool c.cT][3+k]? = some (.int .i64 (tV c k)):=by
 have PH:k=0∨k=1∨k=2∨k=3:=by omega
 rcases PH with rfl|rfl|rfl|rfl<;>rfl
theorem Jg (c:bG) (k:Nat) (hk:k<4):oS c (k+1)=oS c k+tV c k:=by
 have PH:k=0∨k=1∨k=2∨k=3:=by omega
 rcases PH with rfl|rfl|rfl|rfl<;>simp [oS,tV]
theorem Gt {c:bG} (hc:rj c) (k:Nat):(0≤tV c k∧tV c k≤2)∧0≤oS c k∧oS c k≤4:=by
 have h0:=hc.c0
 have h1:=hc.c1
 have h2:=hc.c2
 have h3:=hc.c3
 unfold tV oS
 repeat' split
 all_goals omega
set_option maxRecDepth 100000 in
theorem Fi (c:bG) (hF:rj c) (nt:Nat) (NM:nt≤16) (vi:Value) (dm:List Int) (hi:(dm.length:Int)=c.aF) (A:AW) (F:HP) (hw:A.Wf) (hS:an A [.h (ar .u64 vi dm),.h F]) :
 aH Tryz.prog 40 [c.v,.int .i64 (nt:Int),vi] A (fun v A'=>∃mb,v=pv mb∧an A' [fw c mb (km c nt dm),.h (ar .u64 vi dm),.h F]):=by
 refine ab Tryz.func40 rfl (by kernel_rfl) fun _=>?_
 have zJ:=lD c hF.ok
 have iz:=fun b=>o8 c hF.ok b
 obtain⟨oi,ci,rfl,_⟩:=(an.gM hS .z).cL
 have Mv:=sK hF
 obtain⟨nb,xv⟩:∃nb:Nat,c.nb=nb:=⟨c.nb.toNat,by omega⟩
 have Rp:=hF.ok.aF
 have Ud:=hF.ok.aj
 have Ug:nb≤64:=by have:=hF.ok.nb;omega
 rw [xv] at zJ
 dsimp only [bG.v] at zJ iz ⊢
 revert hS hw;have gR:=trivial;refine W (J3 (od jQ) (od jP) @zJ) (J2 @AW.aa @af.eq_1) (J1 ?_)<;>unhygienic intros
 refine ed (fun k fr A'=>A'.Wf∧∃(j:Nat) (v0:Value) (q:List Int),q=dm.take j∧k=dm.length-j∧j≤dm.length∧fr 1=.int .i64 (nt:Int)∧fr 2=.slice oi dm.length ci∧fr 3=pv A.next∧fr 7=.int .i64 (nb:Int)∧fr 8=pv (A.next+1)∧fr 9=.int .i64 (j:Int)∧
  an A' [.at (A.next+1) (up c v0 mY mY mY mY),.at A.next (oK c),.h (ar .u64 v0 q),.h (ar .u64 (.slice oi dm.length ci) dm),.h F]) dm.length ?_ ?_
 · refine⟨(hw.alloc _).alloc _,0,mY,[],by simp,by simp,by simp,by simp,by simp,by simp,by simp,by simp,by simp,?_⟩
   apply an.cC
   · apply an.rV .u64
     (·exact sA)
   (·first|exact pA|exact kA)
 rintro k fr A1 ⟨hw,j,v0,q,zD,rfl,hj,f1,f2,f3,f7,f8,f9,hS⟩
 have hI:=an.gM hS (.s (.s (.s .z)))
 have Lu:q.length=j:=by rw [zD];simp;omega
 obtain⟨o0,c0,rfl,_⟩:=(an.gM hS (.s (.s .z))).cL
 have hq:=ZZ hS hw
 by_cases dQ:j<dm.length
 · have ey:(j:Int)<c.aF:=by omega
   have vT:IntKind.i64.wrap ((j:Int)+1)=((j+1:Nat):Int):=ak (by omega) (by omega)
   obtain⟨p,dh,rfl,eH,dg⟩:=hI.at dQ
   have zz:dm.take (j+1)=dm.take j++[dm[j]]:=List.take_succ_eq_append_getElem dQ
   generalize dm[j]=x at *
   have cC:∀(A':AW) (sd:Fr),A'.Wf→sd 1=.int .i64 (nt:Int)→sd 2=.slice (some p) dm.length ci→sd 3=pv A.next→sd 7=.int .i64 (nb:Int)→sd 8=pv (A.next+1)→sd 9=.int .i64 ((j+1:Nat):Int)→
    (∃v0,an A' [.at (A.next+1) (up c v0 mY mY mY mY),.at A.next (oK c),.h (ar .u64 v0 (q++[x])),.h (ar .u64 (.slice (some p) dm.length ci) dm),.h F])→
    ∃k',k'<dm.length-j∧A'.Wf∧∃(j:Nat) (v0:Value) (q:List Int),q=dm.take j∧k'=dm.length-j∧j≤dm.length∧sd 1=.int .i64 (nt:Int)∧sd 2=.slice (some p) dm.length ci∧sd 3=pv A.next∧sd 7=.int .i64 (nb:Int)∧sd 8=pv (A.next+1)∧sd 9=.int .i64 (j:Int)∧
     an A' [.at (A.next+1) (up c v0 mY mY mY mY),.at A.next (oK c),.h (ar .u64 v0 q),.h (ar .u64 (.slice (some p) dm.length ci) dm),.h F]:=by
    rintro A' sd gY e1 e2 e3 e7 e8 e9 ⟨v0,h⟩
    exact⟨dm.length-(j+1),by omega,gY,j+1,v0,q++[x],by rw [zz,zD],rfl,by omega,e1,e2,e3,e7,e8,e9,h⟩
   revert hq hS hw;(repeat first|clear hq|clear hS|clear hw|revert hc|revert zn|revert zA|revert R|revert K);have gR:=trivial;refine Wx (J2 (od jQ) (od jP)) (Mk f1 f2 f3 f7 f8 f9 eH dg ey dQ vT @AW.aa @af.eq_1) (J1 ?_)<;>unhygienic intros
   refine cC _ _ ?_ (by simp [f1]) (by simp [f2]) (by simp [f3]) (by simp [f7]) (by simp [f8]) (by simp) ?_
   · repeat' (first|assumption|apply AW.Wf.alloc|apply AW.Wf.set|exact Nat.le_refl _|(simp only [AW.aZ,AW.dq];omega)|apply an.uP hS hw|apply ay.z|apply ay.s)
   · apply Exists.intro
     apply an.cC
     (·exact sA)
     (·first|exact pA|exact kA)
 have QE:j=dm.length:=by omega
 have ey:¬(j:Int)<c.aF:=by omega
 have Lv:q=dm:=by rw [zD,QE,List.take_length]
 subst Lv
 clear zD
 revert hq hS hw;(repeat first|clear hq|clear hS|clear hw|revert hc|revert zn|revert zA|revert R|revert K);have gR:=trivial;refine W (J2 (od jQ) (od jP)) (J9 f1 f2 f3 f7 f8 f9 ey @AW.aa @af.eq_1) (J1 ?_)<;>unhygienic intros
 refine ed (fun k fr A'=>A'.Wf∧∃(b:Nat) (v0 v7:Value) (d r:List Int),d=q++List.replicate b 0∧r=(fD c.c0 c.c1).take b∧k=nb-b∧b≤nb∧fr 1=.int .i64 (nt:Int)∧fr 3=pv A.next∧fr 7=.int .i64 (nb:Int)∧fr 8=pv (A.next+1)∧fr 10=.int .i64 (b:Int)∧
  an A' [.at (A.next+1) (up c v0 mY mY mY v7),.at A.next (oK c),.h (ar .u64 v0 d),.h (ar .u64 v7 r),.h (ar .u64 (.slice oi q.length ci) q),.h F]) nb ?_ ?_
 · refine⟨hw,0,.slice o0 q.length c0,mY,q,[],by simp,by simp,by simp,by simp,by simp [f1],by simp [f3],by simp [f7],by simp [f8],by simp,?_⟩
   apply an.cC
   · exact an.rV .u64 hS
   (·first|exact pA|exact kA)
 clear dQ ey Lu hI hq hS hw f1 f2 f3 f7 f8 f9 QE
 rintro k fr A2 ⟨hw,b,v0,v7,d,r,Uz,OA,rfl,hb,f1,f3,f7,f8,Sh,hS⟩
 have Yc:d.length=q.length+b:=by rw [Uz];simp
 have Pu:r.length=b:=by rw [OA];simp;omega
 obtain⟨o0,c0,rfl,_⟩:=(an.gM hS (.s (.s .z))).cL
 obtain⟨o7,c7,rfl,_⟩:=(an.gM hS (.s (.s (.s .z)))).cL
 have hq:=ZZ hS hw
 by_cases dQ:b<nb
 · have ey:(b:Int)<nb:=by omega
   have vT:IntKind.i64.wrap ((b:Int)+1)=(b:Int)+1:=ak (by omega) (by omega)
   have Gc:IntKind.i64.wrap ((b:Int)+2)=(b:Int)+2:=ak (by omega) (by omega)
   have NA:IntKind.u64.wrap ((b:Int)+2)=(b:Int)+2:=au (by omega) (by omega)
   have pE:=FG hF b (by omega)
   rw [xv] at pE
   have zz:∀x,(fD c.c0 c.c1)[b]? = some x→(fD c.c0 c.c1).take (b+1)=(fD c.c0 c.c1).take b++[x]:=fun x hx=>by rw [List.take_add_one,hx];rfl
   have cC:∀(x:Int) (A':AW) (sd:Fr),A'.Wf→(fD c.c0 c.c1)[b]? = some x→sd 1=.int .i64 (nt:Int)→sd 3=pv A.next→sd 7=.int .i64 (nb:Int)→sd 8=pv (A.next+1)→sd 10=.int .i64 ((b:Int)+1)→
    (∃v0 v7,an A' [.at (A.next+1) (up c v0 mY mY mY v7),.at A.next (oK c),.h (ar .u64 v0 (d++[0])),.h (ar .u64 v7 (r++[x])),.h (ar .u64 (.slice oi q.length ci) q),.h F])→
    ∃k',k'<nb-b∧A'.Wf∧∃(b:Nat) (v0 v7:Value) (d r:List Int),d=q++List.replicate b 0∧r=(fD c.c0 c.c1).take b∧k'=nb-b∧b≤nb∧sd 1=.int .i64 (nt:Int)∧sd 3=pv A.next∧sd 7=.int .i64 (nb:Int)∧sd 8=pv (A.next+1)∧sd 10=.int .i64 (b:Int)∧
   an A' [.at (A.next+1) (up c v0 mY mY mY v7),.at A.next (oK c),.h (ar .u64 v0 d),.h (ar .u64 v7 r),.h (ar .u64 (.slice oi q.length ci) q),.h F]:=by
    rintro x A' sd gY hx e1 e3 e7 e8 YF ⟨v0,v7,h⟩
    refine⟨nb-(b+1),by omega,gY,b+1,v0,v7,d++[0],r++[x],by rw [Uz,List.append_assoc,←List.replicate_succ'],by rw [OA,zz x hx],rfl,by omega,e1,e3,e7,e8,by rw [YF];push_cast;rfl,h⟩
   by_cases h1:(b:Int)+1<nb
   · by_cases h2:ds c ((b:Int)+1)=ds c b
     · rw [if_pos ⟨h1,h2⟩] at pE
       revert hq hS hw;(repeat first|clear hq|clear hS|clear hw|revert hc|revert zn|revert zA|revert R|revert K);have gR:=trivial;refine Wx (J3 (od jQ) (od jP) @iz) (pw f1 f3 f7 f8 Sh ey dQ vT Gc NA h1 h2 @AW.aa @af.eq_1) (J1 ?_)<;>unhygienic intros
       refine cC _ _ _ ?_ pE (by simp [f1]) (by simp [f3]) (by simp [f7]) (by simp [f8]) (by simp) ?_
       · repeat' (first|assumption|apply AW.Wf.alloc|apply AW.Wf.set|exact Nat.le_refl _|(simp only [AW.aZ,AW.dq];omega)|apply an.uP hS hw|apply ay.z|apply ay.s)
       · apply Exists.intro
         apply Exists.intro
         apply an.cC
         (·exact sA)
         (·first|exact pA|exact kA)
     · rw [if_neg (fun e=>h2 e.2)] at pE
       revert hq hS hw;(repeat first|clear hq|clear hS|clear hw|revert hc|revert zn|revert zA|revert R|revert K);have gR:=trivial;refine Wx (J3 (od jQ) (od jP) @iz) (pw f1 f3 f7 f8 Sh ey dQ vT Gc NA h1 h2 @AW.aa @af.eq_1) (J1 ?_)<;>unhygienic intros
       refine cC _ _ _ ?_ pE (by simp [f1]) (by simp [f3]) (by simp [f7]) (by simp [f8]) (by simp) ?_
       · repeat' (first|assumption|apply AW.Wf.alloc|apply AW.Wf.set|exact Nat.le_refl _|(simp only [AW.aZ,AW.dq];omega)|apply an.uP hS hw|apply ay.z|apply ay.s)
       · apply Exists.intro
         apply Exists.intro
         apply an.cC
         (·exact sA)
         (·first|exact pA|exact kA)
   · rw [if_neg (fun e=>h1 e.1)] at pE
     revert hq hS hw;(repeat first|clear hq|clear hS|clear hw|revert hc|revert zn|revert zA|revert R|revert K);have gR:=trivial;refine Wx (J3 (od jQ) (od jP) @iz) (Mk f1 f3 f7 f8 Sh ey dQ vT Gc NA h1 @AW.aa @af.eq_1) (J1 ?_)<;>unhygienic intros
     refine cC _ _ _ ?_ pE (by simp [f1]) (by simp [f3]) (by simp [f7]) (by simp [f8]) (by simp) ?_
     · repeat' (first|assumption|apply AW.Wf.alloc|apply AW.Wf.set|exact Nat.le_refl _|(simp only [AW.aZ,AW.dq];omega)|apply an.uP hS hw|apply ay.z|apply ay.s)
     · apply Exists.intro
       apply Exists.intro
       apply an.cC
       (·exact sA)
       (·first|exact pA|exact kA)
 have Yk:b=nb:=by omega
 subst Yk
 have ey:¬(b:Int)<b:=by omega
 have SU:r=fD c.c0 c.c1:=by rw [OA];exact List.take_of_length_le (by omega)
 subst SU
 clear OA
 have qh:(nt:Int)≤140737488355328:=by omega
 have tR:(nt:Int)*8≤140737488355328:=by omega
 obtain⟨no,xJ⟩:∃no:Nat,c.aj.toNat=no:=⟨_,rfl⟩
 have XK:0≤c.aj:=by omega
 have PB:c.aj≤140737488355328:=by omega
 have Nu:c.aj*8≤140737488355328:=by omega
 revert hq hS hw;(repeat first|clear hq|clear hS|clear hw|revert hc|revert zn|revert zA|revert R|revert K);have gR:=trivial;refine W (J2 (od jQ) (od jP)) (Mk f1 f3 f7 f8 Sh xJ XK qh tR PB Nu @AW.aa @af.eq_1) (J1 ?_)<;>unhygienic intros
 obtain⟨vO,Xs⟩:∃vO,vO=Value.slice (some ⟨A2.next,0,none⟩) no no:=⟨_,rfl⟩
 obtain⟨vS,Xr⟩:∃vS,vS=Value.slice (some ⟨A2.next+1,0,none⟩) nt nt:=⟨_,rfl⟩
 refine ed (fun k fr A'=>A'.Wf∧∃(j:Nat) (v6:Value) (r6:List Int),r6=(fp c.c0 c.c1).take j∧k=4-j∧j≤4∧fr 3=pv A.next∧fr 8=pv (A.next+1)∧fr 12=.int .i64 (oS c j)∧fr 13=.int .i64 (j:Int)∧
  an A' [.at (A.next+1) (up c (.slice o0 d.length c0) vO vS v6 (.slice o7 (fD c.c0 c.c1).length c7)),.at A.next (oK c),.h (ar .u64 v6 r6),.h (ar .u64 (.slice o0 d.length c0) d),.h (ar .u64 vO (List.replicate no 0)),.h (ar .u64 vS (List.replicate nt 0)),.h (ar .u64 (.slice o7 (fD c.c0 c.c1).length c7) (fD c.c0 c.c1)),.h (ar .u64 (.slice oi q.length ci) q),.h F]) 4 ?_ ?_
 · refine⟨?_,0,mY,[],by simp,by simp,by simp,by simp [f3],by simp [f8],by simp [oS],by simp,?_⟩
   · repeat' (first|assumption|apply AW.Wf.alloc|apply AW.Wf.set|exact Nat.le_refl _|(simp only [AW.aZ,AW.dq];omega)|apply an.uP hS hw|apply ay.z|apply ay.s)
   · subst Xs
     subst Xr
     apply an.cC
     · apply an.rV .u64
       apply an.Vq (k:=.u64) (b:=A2.next) (n:=no)
       · apply an.Vq (k:=.u64) (b:=A2.next+1) (n:=nt)
         · repeat' (first|exact hS|exact Nat.le_refl _|with_reducible apply an.jd|with_reducible apply an.jZ|with_reducible apply AW.gE|with_reducible apply AW.jU|with_reducible apply ay.z|with_reducible apply ay.s|assumption|apply AW.Wf.alloc|apply AW.Wf.set|(simp only [AW.aZ,AW.dq];omega)|apply an.uP hS hw|exact rfl)
         · repeat' (first|exact ay.z|apply ay.s)
       · repeat' (first|exact ay.z|apply ay.s)
     (·first|exact pA|exact kA)
 clear dQ ey Yc qh tR PB Nu hq hS hw f1 f3 f7 f8 Sh Rp Ud Ug
 rintro k fr A3 ⟨hw,j,v6,r6,OA,rfl,hj,f3,f8,Sg,UW,hS⟩
 have Pu:r6.length=j:=by rw [OA];simp [fp];omega
 obtain⟨o6,c6,rfl,_⟩:=(an.gM hS (.s (.s .z))).cL
 have hq:=ZZ hS hw
 by_cases dQ:j<4
 · have ey:(j:Int)<4:=by omega
   have eH:=NV c j dQ
   have Ay:=Jg c j dQ
   have pE:=Cn hF j dQ
   obtain⟨g1,g2⟩:=Gt hF j
   have vT:IntKind.i64.wrap ((j:Int)+1)=(j:Int)+1:=ak (by omega) (by omega)
   have Gc:IntKind.i64.wrap (oS c j+1)=oS c j+1:=ak (by omega) (by omega)
   have NA:IntKind.u64.wrap (oS c j+1)=oS c j+1:=au (by omega) (by omega)
   have VW:IntKind.i64.wrap (oS c j+tV c j)=oS c j+tV c j:=ak (by omega) (by omega)
   have zz:∀x,(fp c.c0 c.c1)[j]? = some x→(fp c.c0 c.c1).take (j+1)=(fp c.c0 c.c1).take j++[x]:=fun x hx=>by rw [List.take_add_one,hx];rfl
   have cC:∀(x:Int) (A':AW) (sd:Fr),A'.Wf→(fp c.c0 c.c1)[j]? = some x→sd 3=pv A.next→sd 8=pv (A.next+1)→sd 12=.int .i64 (oS c j+tV c j)→sd 13=.int .i64 ((j:Int)+1)→
    (∃v6,an A' [.at (A.next+1) (up c (.slice o0 d.length c0) vO vS v6 (.slice o7 (fD c.c0 c.c1).length c7)),.at A.next (oK c),.h (ar .u64 v6 (r6++[x])),.h (ar .u64 (.slice o0 d.length c0) d),.h (ar .u64 vO (List.replicate no 0)),.h (ar .u64 vS (List.replicate nt 0)),.h (ar .u64 (.slice o7 (fD c.c0 c.c1).length c7) (fD c.c0 c.c1)),.h (ar .u64 (.slice oi q.length ci) q),.h F])→
    ∃k',k'<4-j∧A'.Wf∧∃(j:Nat) (v6:Value) (r6:List Int),r6=(fp c.c0 c.c1).take j∧k'=4-j∧j≤4∧sd 3=pv A.next∧sd 8=pv (A.next+1)∧sd 12=.int .i64 (oS c j)∧sd 13=.int .i64 (j:Int)∧
     an A' [.at (A.next+1) (up c (.slice o0 d.length c0) vO vS v6 (.slice o7 (fD c.c0 c.c1).length c7)),.at A.next (oK c),.h (ar .u64 v6 r6),.h (ar .u64 (.slice o0 d.length c0) d),.h (ar .u64 vO (List.replicate no 0)),.h (ar .u64 vS (List.replicate nt 0)),.h (ar .u64 (.slice o7 (fD c.c0 c.c1).length c7) (fD c.c0 c.c1)),.h (ar .u64 (.slice oi q.length ci) q),.h F]:=by
    rintro x A' sd gY hx e3 e8 YE YD ⟨v6,h⟩
    exact⟨4-(j+1),by omega,gY,j+1,v6,r6++[x],by rw [OA,zz x hx],rfl,by omega,e3,e8,by rw [YE,Ay],by rw [YD];push_cast;rfl,h⟩
   generalize tV c j=cn at *
   generalize oS c j=sm at *
   by_cases hp:0<cn
   · rw [if_pos hp] at pE
     revert hq hS hw;(repeat first|clear hq|clear hS|clear hw|revert hc|revert zn|revert zA|revert R|revert K);have gR:=trivial;refine Wx (J2 (od jQ) (od jP)) (pw f3 f8 Sg UW ey dQ eH vT Gc NA VW hp @AW.aa @af.eq_1) (J1 ?_)<;>unhygienic intros
     refine cC _ _ _ ?_ pE (by simp [f3]) (by simp [f8]) (by simp [Sg]) (by simp) ?_
     · repeat' (first|assumption|apply AW.Wf.alloc|apply AW.Wf.set|exact Nat.le_refl _|(simp only [AW.aZ,AW.dq];omega)|apply an.uP hS hw|apply ay.z|apply ay.s)
     · apply Exists.intro
       apply an.cC
       (·exact sA)
       (·first|exact pA|exact kA)
   · rw [if_neg hp] at pE
     revert hq hS hw;(repeat first|clear hq|clear hS|clear hw|revert hc|revert zn|revert zA|revert R|revert K);have gR:=trivial;refine Wx (J2 (od jQ) (od jP)) (pw f3 f8 Sg UW ey dQ eH vT Gc NA VW hp @AW.aa @af.eq_1) (J1 ?_)<;>unhygienic intros
     refine cC _ _ _ ?_ pE (by simp [f3]) (by simp [f8]) (by simp [Sg]) (by simp) ?_
     · repeat' (first|assumption|apply AW.Wf.alloc|apply AW.Wf.set|exact Nat.le_refl _|(simp only [AW.aZ,AW.dq];omega)|apply an.uP hS hw|apply ay.z|apply ay.s)
     · apply Exists.intro
       apply an.cC
       (·exact sA)
       (·first|exact pA|exact kA)
 have QE:j=4:=by omega
 subst QE
 have XB:r6=fp c.c0 c.c1:=by rw [OA];rfl
 subst XB
 revert hq hS hw;(repeat first|clear hq|clear hS|clear hw|revert hc|revert zn|revert zA|revert R|revert K);have gR:=trivial;refine W (J2 (od jQ) (od jP)) (J6 f3 f8 Sg UW @AW.aa @af.eq_1) (J1 ?_)<;>unhygienic intros
 refine⟨_,by first|(simp;done)|(simp;rfl),A.next+1,rfl,?_⟩
 apply an.cC
 · apply Hn (M:=km c nt q) (v0:=.slice o0 d.length c0) (v1:=vO) (v5:=vS) (v6:=.slice o6 (fp c.c0 c.c1).length c6) (v7:=.slice o7 (fD c.c0 c.c1).length c7)
   · exact hS
   · have e0:km c nt q 0=d:=by show q++List.replicate c.nb.toNat 0=d;rw [xv,Uz];rfl
     have e1:km c nt q 1=List.replicate no 0:=by show List.replicate c.aj.toNat 0=_;rw [xJ]
     rw [e0,e1]
     (·first|exact pA|exact kA)
   all_goals rfl
 (·first|exact pA|exact kA)
def hZ (c:bG):List Int:=(List.range c.aF.toNat).map fun i:Nat=>10*(i:Int)+1
end
end Go.Stx
