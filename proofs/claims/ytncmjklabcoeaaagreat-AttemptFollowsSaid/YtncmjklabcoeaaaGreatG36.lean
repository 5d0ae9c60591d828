/-
 The program's attempt: reading.
-/
import Derived.Test.YtncmjklabcoeaaaGreatG24
import Derived.Test.YtncmjklabcoeaaaGreatG35
set_option linter.unusedVariables false
set_option linter.unusedSimpArgs false
set_option maxRecDepth 20000
set_option maxHeartbeats 4000000
namespace Go.Stx
open Go Go.Proofs
attribute [local irreducible] TW hN fj cm aH bB dK ei
section
abbrev lK:List (Nat×Nat):=[(0,0),(1,0),(2,0),(3,0),(4,0),(5,0),(6,0),(7,0),(8,0),(9,0),(10,0),(11,0),(12,0),(13,0),(14,0),(15,0),(16,0),(17,0),(18,0),(19,0),(20,2),(21,0),(22,0)]
abbrev lJ:List (Nat×Nat):=[(0,0),(1,0),(2,0),(3,0),(4,0),(5,0),(6,0),(7,0),(8,0),(9,0),(10,2),(11,3),(12,0),(13,0),(14,0),(15,3)]
abbrev lI:List (Nat×Nat):=[(0,0),(1,0),(2,0),(3,0),(4,0),(5,0),(6,0),(7,0),(8,0),(9,0),(10,0),(11,0),(12,0),(13,2),(14,3),(15,0)]
abbrev lH:List (Nat×Nat):=[(0,0),(1,0),(2,0),(3,0),(4,0),(5,0),(6,0),(7,0),(8,0),(9,2),(10,3)]
open T23 T16
set_option maxHeartbeats 16000000 in
theorem yh (b pb:Nat) (s:aD) (c:dY) (kb:Int) (M:Mm) (hd:s.aA=.bz c (.cM kb)) (hC:ep s) (Pu:s.ah.length+1<2^20) (QH:0≤c.cj∧c.cj≤2) (uc:c.dl=fJ s.cf c.cA) (S0:0≤kb∧kb<s.cf.nb) :
 aP Tryz.prog 44 [pv b,pv pb] [.h (bI b s),eb pb M] (fun v=>v=.tuple #[(dZ s M c (.cM kb)).1.v,.int .i64 (dZ s M c (.cM kb)).2.1])
  (fun _=>[.h (bI b (dZ s M c (.cM kb)).2.2.1),eb pb (dZ s M c (.cM kb)).2.2.2]):=by
 obtain⟨cf,ag,av,ax,value,br,ai,ah,ac,ap,set,aM,ao,aj,aG,aE,am,aA⟩:=s
 dsimp only at hd
 subst hd
 dsimp only at S0
 dsimp only at uc Pu
 obtain⟨HL,OB⟩:=hC.cf.ah
 have fz:=hC.set
 dsimp only at HL OB fz
 have Pw:cf.ah.toNat≤32:=by omega
 obtain⟨x,c',M',hr⟩:∃x e' M',cB c M=(x,e',M'):=⟨_,_,_,rfl⟩
 have dz:=fun n=>tf n pb c M
 rw [hr] at dz
 have s7:IntKind.i64.wrap (5+c.cj)=5+c.cj:=ak (by omega) (by omega)
 have gJ:IntKind.i64.wrap (c.cj+1)=c.cj+1:=ak (by omega) (by omega)
 have pE:¬c'.cj=3→c'.cj=c.cj+1:=by
  intro hn
  have Km:(cB c M).2.1=c':=by rw [hr]
  rcases mh c M with ⟨h,e⟩|⟨h,e⟩|⟨h,e⟩|⟨h,e⟩|⟨h,e⟩|⟨h,e⟩<;>(rw [e] at Km;subst Km;dsimp only at hn ⊢;try omega)
 have u5:c'.cA=c.cA:=by
  have Km:(cB c M).2.1=c':=by rw [hr]
  rcases mh c M with ⟨h,e⟩|⟨h,e⟩|⟨h,e⟩|⟨h,e⟩|⟨h,e⟩|⟨h,e⟩<;>(rw [e] at Km;subst Km;rfl)
 have kU:=sE cf hC.cf c.cA
 dsimp only [bG.v] at kU
 have UQ:∀rd l2,rd.length<2^20→l2.length≤cf.ah.toNat→ep ⟨cf,ag,av,ax,value,br,ai,rd,ac,ap,l2,aM,ao,aj,aG,aE,am,.bm⟩:=fun rd l2 h1 h2=>⟨hC.cf,hC.G2,hC.aM,hC.dA,hC.cc,hC.I6,hC.GU,hC.kN,hC.push,h2,h1,hC.EQ⟩
 cases h2:c'.done
 · have h3:¬c'.cj=3:=by simpa [dY.done] using h2
   have e:dZ ⟨cf,ag,av,ax,value,br,ai,ah,ac,ap,set,aM,ao,aj,aG,aE,am,.bz c (.cM kb)⟩ M c (.cM kb)=(x,5+c.cj,⟨cf,ag,av,ax,value,br,ai,ah,ac,ap,set,aM,ao,aj,aG,aE,am,.bz c' (.cM kb)⟩,M'):=by
    unfold dZ;rw [hr];dsimp only;rw [h2];simp
   rw [e]
   intro A F hw hS
   refine ab Tryz.func44 rfl (by kernel_rfl) fun _=>?_
   dsimp only [na,zo] at hS
   obtain⟨⟨bh,aY,az,aJ,aK,m,c0,c1,c2,bx,aw,aB,aV,bQ,bg,cE,aW,aU,aC,bA,bC,cP,bR⟩,hS⟩:=bI.open hS .z
   dsimp only [cg,fq,bW,da,ba.eo,na,zo] at hS
   have hq:=ZO hS hw
   revert hq hS hw;clear hS;refine Kv (J7 (Tg.mk (n:=10) @eT) (od lK) (od lJ) (od lI) (od lH) (dz m) (⟨⟩:Ts (fun A'=>A'.cy b=some (.cells [pv bh,pv aY,bx,aw,aB,bJ br az,pv m,.int .i64 c.cj,cE,aT aG aJ,aQ aE aK,aW,aU,aC,bA,.int .i64 cf.aF,.int .i64 cf.aj,.int .i64 cf.base,.int .i64 cf.c0,.int .i64 cf.c1,.int .i64 cf.c2,.int .i64 cf.c3,.int .i64 cf.ah,.int .i64 cf.bX,.int .i64 cf.ac,.int .i64 cf.ap,.int .i64 cf.ao,.bool cf.cT,.int .i64 ag,.int .i64 av,.int .i64 ax,.int .i64 3,bC,.func (.func 181) #[] #[pv c0,pv c1],.int .i64 c.cA,.int .u64 value,aV,.int .u64 ao,.bool ai,.int .i64 am] true 1)) [0,0,0,0,0,0,3,0,0,0,0,1,0,2,3,0] (.bu 0 (.bu 1 (.bu 2 (.bu 3 (.bu 4 (.bu 5 (.bu 7 (.bu 8 (.bu 9 (.bu 10 (.bu 11 (.bu 12 (.sC 6 (.bu 13 (.bu 14 (.bu 15 .nil))) 13 (.bu 6 (.bu 14 (.bu 15 .nil)))))))))))))))))) (J7 h2 s7 gJ @AW.aa @af.eq_1 @aS.eq_1 @bq.v.eq_1) (J2 ?_ ?_)<;>unhygienic intros
   all_goals(have h:c'.cj=c.cj+1∧c'.cA=c.cA:=⟨pE h3,u5⟩)
   all_goals(
    refine⟨_,by simp [hq,AW.aa,af];rfl,by simp [bq.v],?_⟩
    apply bI.cC
    (·exact sA)
    (dsimp only [cg,fi,fq,bW,da,ba.eo,bJ,aT,aQ,dT,cY,dV,fC,cZ,cW,bV,dU,dR,fB,dS,na,zo])
    try simp only [h]
    (·first|exact pP|exact kP)
    (·first|exact pP|exact kP)
    all_goals(first|exact 0|exact undef))
 · cases h4:c'.du
   · by_cases h5:c.cA<cf.aF
     · by_cases h6:c.cA∈ah
       · have h7:(if c.cA<cf.aF∧¬c.cA∈ah then (⟨cf,ag,av,ax,value,br,ai,ah++[c.cA],ac,ap,set,aM,ao,aj,aG,aE,am,.bz c' (.cM kb)⟩:aD) else ⟨cf,ag,av,ax,value,br,ai,ah,ac,ap,set,aM,ao,aj,aG,aE,am,.bz c' (.cM kb)⟩)=⟨cf,ag,av,ax,value,br,ai,ah,ac,ap,set,aM,ao,aj,aG,aE,am,.bz c' (.cM kb)⟩:=if_neg (fun h=>h.2 h6)
         obtain⟨q,l2,jl⟩:∃q l2,cr cf.ah.toNat set c.dl=(q,l2):=⟨_,_,rfl⟩
         have mR:=fun n=>ld n cf.ah.toNat set (fJ cf c.cA) fz Pw
         rw [←uc,jl] at mR
         dsimp only at mR
         have IR:l2.length≤cf.ah.toNat:=by
          have h9:(cr cf.ah.toNat set c.dl).2=l2:=by rw [jl]
          rw [←h9]
          unfold cr
          split
          · exact fz
          · split
            · exact fz
            · simp;omega
         have JM:q=false→l2=set:=by
          intro JG
          have h9:(cr cf.ah.toNat set c.dl).2=l2:=by rw [jl]
          have h8:(cr cf.ah.toNat set c.dl).1=q:=by rw [jl]
          rw [←h9]
          rw [JG] at h8
          unfold cr at h8 ⊢
          split
          · rfl
          · split
            · rfl
            · rename_i g1 g2;rw [if_neg g1,if_neg g2] at h8;cases h8
         cases q
         · have LD:=JM rfl
           subst l2
           have e:dZ ⟨cf,ag,av,ax,value,br,ai,ah,ac,ap,set,aM,ao,aj,aG,aE,am,.bz c (.cM kb)⟩ M c (.cM kb)=(x,5+c.cj,gy ⟨cf,ag,av,ax,value,br,ai,ah,ac,ap,set,aM,ao,aj,aG,aE,am,.bz c' (.cM kb)⟩ 3,M'):=by
            unfold dZ;rw [hr];dsimp only;rw [h2,h4,jl,h7];rfl
           rw [e]
           intro A F hw hS
           refine ab Tryz.func44 rfl (by kernel_rfl) fun _=>?_
           dsimp only [na,zo] at hS
           obtain⟨⟨bh,aY,az,aJ,aK,m,c0,c1,c2,bx,aw,aB,aV,bQ,bg,cE,aW,aU,aC,bA,bC,cP,bR⟩,hS⟩:=bI.open hS .z
           dsimp only [cg,fq,bW,da,ba.eo,na,zo] at hS
           have hq:=ZO hS hw
           rw [uc] at mR
           revert hq hS hw;(repeat first|clear hq|clear hS|clear hw|revert hc|revert zn|revert zA|revert R|revert K);refine Kv (Ml (Tg.mk (n:=10) @eT) (Tg.mk (n:=10) @d9) (Tg.mk (n:=14) @gh) (Tg.mk (n:=20) (iO b ⟨cf,ag,av,ax,value,br,ai,ah,ac,ap,set,aM,ao,aj,aG,aE,am,.bz c' (.cM kb)⟩ 3 3 .bm hC.cf hC.al hC.push (Nat.lt_of_le_of_lt hC.kN (by decide)))) (od lK) (od lJ) (od lI) (od lH) @kU (dz m) (mR bh) (⟨⟩:Ts (fun A'=>A'.cy b=some (.cells [pv bh,pv aY,bx,aw,aB,bJ br az,pv m,.int .i64 c.cj,cE,aT aG aJ,aQ aE aK,aW,aU,aC,bA,.int .i64 cf.aF,.int .i64 cf.aj,.int .i64 cf.base,.int .i64 cf.c0,.int .i64 cf.c1,.int .i64 cf.c2,.int .i64 cf.c3,.int .i64 cf.ah,.int .i64 cf.bX,.int .i64 cf.ac,.int .i64 cf.ap,.int .i64 cf.ao,.bool cf.cT,.int .i64 ag,.int .i64 av,.int .i64 ax,.int .i64 3,bC,.func (.func 181) #[] #[pv c0,pv c1],.int .i64 c.cA,.int .u64 value,aV,.int .u64 ao,.bool ai,.int .i64 am] true 1)) [0,0,0,0,0,0,3,0,0,0,0,1,0,2,3,0] (.bu 0 (.bu 1 (.bu 2 (.bu 3 (.bu 4 (.bu 5 (.bu 7 (.bu 8 (.bu 9 (.bu 10 (.bu 11 (.bu 12 (.sC 6 (.bu 13 (.bu 14 (.bu 15 .nil))) 13 (.bu 6 (.bu 14 (.bu 15 .nil)))))))))))))))))) (Kw h2 h4 h5 h6 s7 gJ @AW.aa @af.eq_1 @aS.eq_1 @bq.v.eq_1) (J2 ?_ ?_)<;>unhygienic intros
           all_goals(
            refine⟨_,by simp [hq,AW.aa,af];rfl,by simp [bq.v],?_⟩
            apply an.cC
            (·exact sA)
            (·first|exact pP|exact kP))
         · have e:dZ ⟨cf,ag,av,ax,value,br,ai,ah,ac,ap,set,aM,ao,aj,aG,aE,am,.bz c (.cM kb)⟩ M c (.cM kb)=(x,5+c.cj,AD ⟨cf,ag,av,ax,value,br,ai,ah,ac,ap,l2,aM,ao,aj,aG,aE,am,.bm⟩ c'.val (.cM kb),M'):=by
            unfold dZ;rw [hr];dsimp only;rw [h2,h4,jl,h7];rfl
           rw [e]
           intro A F hw hS
           refine ab Tryz.func44 rfl (by kernel_rfl) fun _=>?_
           dsimp only [na,zo] at hS
           obtain⟨⟨bh,aY,az,aJ,aK,m,c0,c1,c2,bx,aw,aB,aV,bQ,bg,cE,aW,aU,aC,bA,bC,cP,bR⟩,hS⟩:=bI.open hS .z
           dsimp only [cg,fq,bW,da,ba.eo,na,zo] at hS
           have hq:=ZO hS hw
           rw [uc] at mR
           repeat' (first
           | (with_reducible apply Kj;(·first|(simp;done)|(simp;rfl));(·first|(simp;done)|(simp;rfl));(·exact wA);(·exact sA);(·first|exact pP|exact kP);(·first|(simp;done)|(simp;rfl)|(simp [hq];done)|(simp [hq];rfl));(·first|omega|(simp;omega));(·intro _ _;trivial);rintro _ _ _ hS hw _;(try dsimp only [AW.aZ] at hS);have hq:=ZP hS hw)
           | (refine il fun R hR=>?_;simp [ak,au,hq,h2,h4,h5,h6,s7,gJ,AW.aa,af,aS,bq.v];try simp (disch:=omega) only [if_pos,if_neg,ak,au])
           | (refine hR _ _ ?_;clear hR R)|(refine hK _ _ ?_;clear hK K)|refine nx ?_
           | (refine EZ fun R hR=>?_;simp [ak,au,hq,h2,h4,h5,h6,s7,gJ,AW.aa,af,aS,bq.v];try simp (disch:=omega) only [if_pos,if_neg,ak,au])
           | (refine EF (fun R hR=>?_) (fun R hR=>?_)<;>(simp [ak,au,hq,h2,h4,h5,h6,s7,gJ,AW.aa,af,aS,bq.v];try simp (disch:=omega) only [if_pos,if_neg,ak,au]))
           | refine EY ?_
           | refine wn fun K hK=>?_
           | simp only [wS,lK,lJ,lI,lH]
           | simp only [hN,nC,jt,Option.map_none,Option.map_some,List.getElem?_toArray,List.getElem?_cons_zero,List.getElem?_cons_succ,List.getD_cons_zero,List.getD_cons_succ,Option.bind_some]
           | refine wl Tryz.mx lK (by decide +kernel) fun K hK=>?_
           | refine wl Tryz.mx lJ (by decide +kernel) fun K hK=>?_
           | refine wl Tryz.mx lI (by decide +kernel) fun K hK=>?_
           | refine wl Tryz.mx lH (by decide +kernel) fun K hK=>?_
           | (refine bD (kU _) ?_;rintro _ _ ⟨rfl,rfl⟩ _ _)
           | (refine ⟨fun A' kL=>by simp [AW.aa,kL],?_⟩)
           | (refine ⟨by simp [hq],?_⟩)
           | (refine wt (fun A'=>A'.cy b=some (.cells [pv bh,pv aY,bx,aw,aB,bJ br az,pv m,.int .i64 c.cj,cE,aT aG aJ,aQ aE aK,aW,aU,aC,bA,.int .i64 cf.aF,.int .i64 cf.aj,.int .i64 cf.base,.int .i64 cf.c0,.int .i64 cf.c1,.int .i64 cf.c2,.int .i64 cf.c3,.int .i64 cf.ah,.int .i64 cf.bX,.int .i64 cf.ac,.int .i64 cf.ap,.int .i64 cf.ao,.bool cf.cT,.int .i64 ag,.int .i64 av,.int .i64 ax,.int .i64 3,bC,.func (.func 181) #[] #[pv c0,pv c1],.int .i64 c.cA,.int .u64 value,aV,.int .u64 ao,.bool ai,.int .i64 am] true 1)) Tryz.mx [0,0,0,0,0,0,3,0,0,0,0,1,0,2,3,0] (.bu 0 (.bu 1 (.bu 2 (.bu 3 (.bu 4 (.bu 5 (.bu 7 (.bu 8 (.bu 9 (.bu 10 (.bu 11 (.bu 12 (.sC 6 (.bu 13 (.bu 14 (.bu 15 .nil))) 13 (.bu 6 (.bu 14 (.bu 15 .nil)))))))))))))))) (by decide +kernel) fun K hK=>?_)
           | (apply aP.el (dz m);(·exact wA);(·exact sA);(·first|exact pP|exact kP);rintro _ _ rfl hS hw _;have hS:=lA hS;have hq:=ZP hS hw)
           | (apply eT;(·exact wA);(·exact sA);(·first|exact pP|exact kP);)
           | (apply d9;(·exact wA);(·exact sA);(·first|exact pP|exact kP);)
           | (apply gh;(·exact wA);(·exact sA);(·first|exact pP|exact kP);(·first|omega|(simp;omega)|(simp [hq];done));)
           | (apply aP.el (mR bh);(·exact wA);(·exact sA);(·first|exact pP|exact kP);rintro _ _ rfl hS hw _;have hS:=lA hS;have hq:=ZP hS hw)
           | (apply jO;(·exact wA);(·exact sA);(·first|exact pP|exact kP);)
           | (apply aP.xU (py b c0 c1 ⟨cf,ag,av,ax,value,br,ai,ah,ac,ap,l2,aM,ao,aj,aG,aE,am,.bm⟩ kb c'.val rfl (UQ (ah) l2 (by omega) IR) S0);(·exact wA);(·exact sA);(·exact fP);(·first|exact pP|exact kP);(rintro _ _ _ hS hw _;have hS:=lA hS);(try (have hq:=ZP hS hw));all_goals(try (first|exact 0|exact undef)))
           | refine wb ?_|refine wr ?_|refine wk ?_|refine we ?_|refine ws ?_|refine wq ?_
           | (refine wc rfl (fun hc=>?_) (fun hc=>?_)<;>(try simp at hc)<;>(try omega)<;>(try (simp [h2] at hc;done))<;>(try (simp [h3] at hc;done))<;>(try (simp [h4] at hc;done)))
           | (refine ib (fun hc=>?_) (fun hc=>?_)<;>(try omega)<;>(try simp (disch:=omega) only [if_pos,if_neg])))
           all_goals(
            refine⟨_,by simp [hq,AW.aa,af];rfl,by simp [bq.v],?_⟩
            apply an.cC
            (·exact sA)
            (·first|exact pP|exact kP))
       · have h7:(if c.cA<cf.aF∧¬c.cA∈ah then (⟨cf,ag,av,ax,value,br,ai,ah++[c.cA],ac,ap,set,aM,ao,aj,aG,aE,am,.bz c' (.cM kb)⟩:aD) else ⟨cf,ag,av,ax,value,br,ai,ah,ac,ap,set,aM,ao,aj,aG,aE,am,.bz c' (.cM kb)⟩)=⟨cf,ag,av,ax,value,br,ai,ah++[c.cA],ac,ap,set,aM,ao,aj,aG,aE,am,.bz c' (.cM kb)⟩:=if_pos ⟨h5,h6⟩
         obtain⟨q,l2,jl⟩:∃q l2,cr cf.ah.toNat set c.dl=(q,l2):=⟨_,_,rfl⟩
         have mR:=fun n=>ld n cf.ah.toNat set (fJ cf c.cA) fz Pw
         rw [←uc,jl] at mR
         dsimp only at mR
         have IR:l2.length≤cf.ah.toNat:=by
          have h9:(cr cf.ah.toNat set c.dl).2=l2:=by rw [jl]
          rw [←h9]
          unfold cr
          split
          · exact fz
          · split
            · exact fz
            · simp;omega
         have JM:q=false→l2=set:=by
          intro JG
          have h9:(cr cf.ah.toNat set c.dl).2=l2:=by rw [jl]
          have h8:(cr cf.ah.toNat set c.dl).1=q:=by rw [jl]
          rw [←h9]
          rw [JG] at h8
          unfold cr at h8 ⊢
          split
          · rfl
          · split
            · rfl
            · rename_i g1 g2;rw [if_neg g1,if_neg g2] at h8;cases h8
         cases q
         · have LD:=JM rfl
           subst l2
           have e:dZ ⟨cf,ag,av,ax,value,br,ai,ah,ac,ap,set,aM,ao,aj,aG,aE,am,.bz c (.cM kb)⟩ M c (.cM kb)=(x,5+c.cj,gy ⟨cf,ag,av,ax,value,br,ai,ah++[c.cA],ac,ap,set,aM,ao,aj,aG,aE,am,.bz c' (.cM kb)⟩ 3,M'):=by
            unfold dZ;rw [hr];dsimp only;rw [h2,h4,jl,h7];rfl
           rw [e]
           intro A F hw hS
           refine ab Tryz.func44 rfl (by kernel_rfl) fun _=>?_
           dsimp only [na,zo] at hS
           obtain⟨⟨bh,aY,az,aJ,aK,m,c0,c1,c2,bx,aw,aB,aV,bQ,bg,cE,aW,aU,aC,bA,bC,cP,bR⟩,hS⟩:=bI.open hS .z
           dsimp only [cg,fq,bW,da,ba.eo,na,zo] at hS
           have hq:=ZO hS hw
           rw [uc] at mR
           revert hq hS hw;(repeat first|clear hq|clear hS|clear hw|revert hc|revert zn|revert zA|revert R|revert K);refine Kv (Ml (Tg.mk (n:=10) @eT) (Tg.mk (n:=10) @d9) (Tg.mk (n:=14) @gh) (Tg.mk (n:=20) (iO b ⟨cf,ag,av,ax,value,br,ai,ah++[c.cA],ac,ap,set,aM,ao,aj,aG,aE,am,.bz c' (.cM kb)⟩ 3 3 .bm hC.cf hC.al hC.push (Nat.lt_of_le_of_lt hC.kN (by decide)))) (od lK) (od lJ) (od lI) (od lH) @kU (dz m) (mR bh) (⟨⟩:Ts (fun A'=>A'.cy b=some (.cells [pv bh,pv aY,bx,aw,aB,bJ br az,pv m,.int .i64 c.cj,cE,aT aG aJ,aQ aE aK,aW,aU,aC,bA,.int .i64 cf.aF,.int .i64 cf.aj,.int .i64 cf.base,.int .i64 cf.c0,.int .i64 cf.c1,.int .i64 cf.c2,.int .i64 cf.c3,.int .i64 cf.ah,.int .i64 cf.bX,.int .i64 cf.ac,.int .i64 cf.ap,.int .i64 cf.ao,.bool cf.cT,.int .i64 ag,.int .i64 av,.int .i64 ax,.int .i64 3,bC,.func (.func 181) #[] #[pv c0,pv c1],.int .i64 c.cA,.int .u64 value,aV,.int .u64 ao,.bool ai,.int .i64 am] true 1)) [0,0,0,0,0,0,3,0,0,0,0,1,0,2,3,0] (.bu 0 (.bu 1 (.bu 2 (.bu 3 (.bu 4 (.bu 5 (.bu 7 (.bu 8 (.bu 9 (.bu 10 (.bu 11 (.bu 12 (.sC 6 (.bu 13 (.bu 14 (.bu 15 .nil))) 13 (.bu 6 (.bu 14 (.bu 15 .nil)))))))))))))))))) (Kw h2 h4 h5 h6 s7 gJ @AW.aa @af.eq_1 @aS.eq_1 @bq.v.eq_1) (J2 ?_ ?_)<;>unhygienic intros
           all_goals(
            refine⟨_,by simp [hq,AW.aa,af];rfl,by simp [bq.v],?_⟩
            apply an.cC
            (·exact sA)
            (·first|exact pP|exact kP))
         · have e:dZ ⟨cf,ag,av,ax,value,br,ai,ah,ac,ap,set,aM,ao,aj,aG,aE,am,.bz c (.cM kb)⟩ M c (.cM kb)=(x,5+c.cj,AD ⟨cf,ag,av,ax,value,br,ai,ah++[c.cA],ac,ap,l2,aM,ao,aj,aG,aE,am,.bm⟩ c'.val (.cM kb),M'):=by
            unfold dZ;rw [hr];dsimp only;rw [h2,h4,jl,h7];rfl
           rw [e]
           intro A F hw hS
           refine ab Tryz.func44 rfl (by kernel_rfl) fun _=>?_
           dsimp only [na,zo] at hS
           obtain⟨⟨bh,aY,az,aJ,aK,m,c0,c1,c2,bx,aw,aB,aV,bQ,bg,cE,aW,aU,aC,bA,bC,cP,bR⟩,hS⟩:=bI.open hS .z
           dsimp only [cg,fq,bW,da,ba.eo,na,zo] at hS
           have hq:=ZO hS hw
           rw [uc] at mR
           repeat' (first
           | (with_reducible apply Kj;(·first|(simp;done)|(simp;rfl));(·first|(simp;done)|(simp;rfl));(·exact wA);(·exact sA);(·first|exact pP|exact kP);(·first|(simp;done)|(simp;rfl)|(simp [hq];done)|(simp [hq];rfl));(·first|omega|(simp;omega));(·intro _ _;trivial);rintro _ _ _ hS hw _;(try dsimp only [AW.aZ] at hS);have hq:=ZP hS hw)
           | (refine il fun R hR=>?_;simp [ak,au,hq,h2,h4,h5,h6,s7,gJ,AW.aa,af,aS,bq.v];try simp (disch:=omega) only [if_pos,if_neg,ak,au])
           | (refine hR _ _ ?_;clear hR R)|(refine hK _ _ ?_;clear hK K)|refine nx ?_
           | (refine EZ fun R hR=>?_;simp [ak,au,hq,h2,h4,h5,h6,s7,gJ,AW.aa,af,aS,bq.v];try simp (disch:=omega) only [if_pos,if_neg,ak,au])
           | (refine EF (fun R hR=>?_) (fun R hR=>?_)<;>(simp [ak,au,hq,h2,h4,h5,h6,s7,gJ,AW.aa,af,aS,bq.v];try simp (disch:=omega) only [if_pos,if_neg,ak,au]))
           | refine EY ?_
           | refine wn fun K hK=>?_
           | simp only [wS,lK,lJ,lI,lH]
           | simp only [hN,nC,jt,Option.map_none,Option.map_some,List.getElem?_toArray,List.getElem?_cons_zero,List.getElem?_cons_succ,List.getD_cons_zero,List.getD_cons_succ,Option.bind_some]
           | refine wl Tryz.mx lK (by decide +kernel) fun K hK=>?_
           | refine wl Tryz.mx lJ (by decide +kernel) fun K hK=>?_
           | refine wl Tryz.mx lI (by decide +kernel) fun K hK=>?_
           | refine wl Tryz.mx lH (by decide +kernel) fun K hK=>?_
           | (refine bD (kU _) ?_;rintro _ _ ⟨rfl,rfl⟩ _ _)
           | (refine ⟨fun A' kL=>by simp [AW.aa,kL],?_⟩)
           | (refine ⟨by simp [hq],?_⟩)
           | (refine wt (fun A'=>A'.cy b=some (.cells [pv bh,pv aY,bx,aw,aB,bJ br az,pv m,.int .i64 c.cj,cE,aT aG aJ,aQ aE aK,aW,aU,aC,bA,.int .i64 cf.aF,.int .i64 cf.aj,.int .i64 cf.base,.int .i64 cf.c0,.int .i64 cf.c1,.int .i64 cf.c2,.int .i64 cf.c3,.int .i64 cf.ah,.int .i64 cf.bX,.int .i64 cf.ac,.int .i64 cf.ap,.int .i64 cf.ao,.bool cf.cT,.int .i64 ag,.int .i64 av,.int .i64 ax,.int .i64 3,bC,.func (.func 181) #[] #[pv c0,pv c1],.int .i64 c.cA,.int .u64 value,aV,.int .u64 ao,.bool ai,.int .i64 am] true 1)) Tryz.mx [0,0,0,0,0,0,3,0,0,0,0,1,0,2,3,0] (.bu 0 (.bu 1 (.bu 2 (.bu 3 (.bu 4 (.bu 5 (.bu 7 (.bu 8 (.bu 9 (.bu 10 (.bu 11 (.bu 12 (.sC 6 (.bu 13 (.bu 14 (.bu 15 .nil))) 13 (.bu 6 (.bu 14 (.bu 15 .nil)))))))))))))))) (by decide +kernel) fun K hK=>?_)
           | (apply aP.el (dz m);(·exact wA);(·exact sA);(·first|exact pP|exact kP);rintro _ _ rfl hS hw _;have hS:=lA hS;have hq:=ZP hS hw)
           | (apply eT;(·exact wA);(·exact sA);(·first|exact pP|exact kP);)
           | (apply d9;(·exact wA);(·exact sA);(·first|exact pP|exact kP);)
           | (apply gh;(·exact wA);(·exact sA);(·first|exact pP|exact kP);(·first|omega|(simp;omega)|(simp [hq];done));)
           | (apply aP.el (mR bh);(·exact wA);(·exact sA);(·first|exact pP|exact kP);rintro _ _ rfl hS hw _;have hS:=lA hS;have hq:=ZP hS hw)
           | (apply jO;(·exact wA);(·exact sA);(·first|exact pP|exact kP);)
           | (apply aP.xU (py b c0 c1 ⟨cf,ag,av,ax,value,br,ai,ah++[c.cA],ac,ap,l2,aM,ao,aj,aG,aE,am,.bm⟩ kb c'.val rfl (UQ (ah++[c.cA]) l2 (by simp<;>omega) IR) S0);(·exact wA);(·exact sA);(·exact fP);(·first|exact pP|exact kP);(rintro _ _ _ hS hw _;have hS:=lA hS);(try (have hq:=ZP hS hw));all_goals(try (first|exact 0|exact undef)))
           | refine wb ?_|refine wr ?_|refine wk ?_|refine we ?_|refine ws ?_|refine wq ?_
           | (refine wc rfl (fun hc=>?_) (fun hc=>?_)<;>(try simp at hc)<;>(try omega)<;>(try (simp [h2] at hc;done))<;>(try (simp [h3] at hc;done))<;>(try (simp [h4] at hc;done)))
           | (refine ib (fun hc=>?_) (fun hc=>?_)<;>(try omega)<;>(try simp (disch:=omega) only [if_pos,if_neg])))
           all_goals(
            refine⟨_,by simp [hq,AW.aa,af];rfl,by simp [bq.v],?_⟩
            apply an.cC
            (·exact sA)
            (·first|exact pP|exact kP))
     · have h6:True:=trivial
       have h7:(if c.cA<cf.aF∧¬c.cA∈ah then (⟨cf,ag,av,ax,value,br,ai,ah++[c.cA],ac,ap,set,aM,ao,aj,aG,aE,am,.bz c' (.cM kb)⟩:aD) else ⟨cf,ag,av,ax,value,br,ai,ah,ac,ap,set,aM,ao,aj,aG,aE,am,.bz c' (.cM kb)⟩)=⟨cf,ag,av,ax,value,br,ai,ah,ac,ap,set,aM,ao,aj,aG,aE,am,.bz c' (.cM kb)⟩:=if_neg (fun h=>h5 h.1)
       obtain⟨q,l2,jl⟩:∃q l2,cr cf.ah.toNat set c.dl=(q,l2):=⟨_,_,rfl⟩
       have mR:=fun n=>ld n cf.ah.toNat set (fJ cf c.cA) fz Pw
       rw [←uc,jl] at mR
       dsimp only at mR
       have IR:l2.length≤cf.ah.toNat:=by
        have h9:(cr cf.ah.toNat set c.dl).2=l2:=by rw [jl]
        rw [←h9]
        unfold cr
        split
        · exact fz
        · split
          · exact fz
          · simp;omega
       have JM:q=false→l2=set:=by
        intro JG
        have h9:(cr cf.ah.toNat set c.dl).2=l2:=by rw [jl]
        have h8:(cr cf.ah.toNat set c.dl).1=q:=by rw [jl]
        rw [←h9]
        rw [JG] at h8
        unfold cr at h8 ⊢
        split
        · rfl
        · split
          · rfl
          · rename_i g1 g2;rw [if_neg g1,if_neg g2] at h8;cases h8
       cases q
       · have LD:=JM rfl
         subst l2
         have e:dZ ⟨cf,ag,av,ax,value,br,ai,ah,ac,ap,set,aM,ao,aj,aG,aE,am,.bz c (.cM kb)⟩ M c (.cM kb)=(x,5+c.cj,gy ⟨cf,ag,av,ax,value,br,ai,ah,ac,ap,set,aM,ao,aj,aG,aE,am,.bz c' (.cM kb)⟩ 3,M'):=by
          unfold dZ;rw [hr];dsimp only;rw [h2,h4,jl,h7];rfl
         rw [e]
         intro A F hw hS
         refine ab Tryz.func44 rfl (by kernel_rfl) fun _=>?_
         dsimp only [na,zo] at hS
         obtain⟨⟨bh,aY,az,aJ,aK,m,c0,c1,c2,bx,aw,aB,aV,bQ,bg,cE,aW,aU,aC,bA,bC,cP,bR⟩,hS⟩:=bI.open hS .z
         dsimp only [cg,fq,bW,da,ba.eo,na,zo] at hS
         have hq:=ZO hS hw
         rw [uc] at mR
         revert hq hS hw;(repeat first|clear hq|clear hS|clear hw|revert hc|revert zn|revert zA|revert R|revert K);refine Kv (Ml (Tg.mk (n:=10) @eT) (Tg.mk (n:=10) @d9) (Tg.mk (n:=14) @gh) (Tg.mk (n:=20) (iO b ⟨cf,ag,av,ax,value,br,ai,ah,ac,ap,set,aM,ao,aj,aG,aE,am,.bz c' (.cM kb)⟩ 3 3 .bm hC.cf hC.al hC.push (Nat.lt_of_le_of_lt hC.kN (by decide)))) (od lK) (od lJ) (od lI) (od lH) @kU (dz m) (mR bh) (⟨⟩:Ts (fun A'=>A'.cy b=some (.cells [pv bh,pv aY,bx,aw,aB,bJ br az,pv m,.int .i64 c.cj,cE,aT aG aJ,aQ aE aK,aW,aU,aC,bA,.int .i64 cf.aF,.int .i64 cf.aj,.int .i64 cf.base,.int .i64 cf.c0,.int .i64 cf.c1,.int .i64 cf.c2,.int .i64 cf.c3,.int .i64 cf.ah,.int .i64 cf.bX,.int .i64 cf.ac,.int .i64 cf.ap,.int .i64 cf.ao,.bool cf.cT,.int .i64 ag,.int .i64 av,.int .i64 ax,.int .i64 3,bC,.func (.func 181) #[] #[pv c0,pv c1],.int .i64 c.cA,.int .u64 value,aV,.int .u64 ao,.bool ai,.int .i64 am] true 1)) [0,0,0,0,0,0,3,0,0,0,0,1,0,2,3,0] (.bu 0 (.bu 1 (.bu 2 (.bu 3 (.bu 4 (.bu 5 (.bu 7 (.bu 8 (.bu 9 (.bu 10 (.bu 11 (.bu 12 (.sC 6 (.bu 13 (.bu 14 (.bu 15 .nil))) 13 (.bu 6 (.bu 14 (.bu 15 .nil)))))))))))))))))) (Kw h2 h4 h5 h6 s7 gJ @AW.aa @af.eq_1 @aS.eq_1 @bq.v.eq_1) (J2 ?_ ?_)<;>unhygienic intros
         all_goals(
          refine⟨_,by simp [hq,AW.aa,af];rfl,by simp [bq.v],?_⟩
          apply an.cC
          (·exact sA)
          (·first|exact pP|exact kP))
       · have e:dZ ⟨cf,ag,av,ax,value,br,ai,ah,ac,ap,set,aM,ao,aj,aG,aE,am,.bz c (.cM kb)⟩ M c (.cM kb)=(x,5+c.cj,AD ⟨cf,ag,av,ax,value,br,ai,ah,ac,ap,l2,aM,ao,aj,aG,aE,am,.bm⟩ c'.val (.cM kb),M'):=by
          unfold dZ;rw [hr];dsimp only;rw [h2,h4,jl,h7];rfl
         rw [e]
         intro A F hw hS
         refine ab Tryz.func44 rfl (by kernel_rfl) fun _=>?_
         dsimp only [na,zo] at hS
         obtain⟨⟨bh,aY,az,aJ,aK,m,c0,c1,c2,bx,aw,aB,aV,bQ,bg,cE,aW,aU,aC,bA,bC,cP,bR⟩,hS⟩:=bI.open hS .z
         dsimp only [cg,fq,bW,da,ba.eo,na,zo] at hS
         have hq:=ZO hS hw
         rw [uc] at mR
         repeat' (first
         | (with_reducible apply Kj;(·first|(simp;done)|(simp;rfl));(·first|(simp;done)|(simp;rfl));(·exact wA);(·exact sA);(·first|exact pP|exact kP);(·first|(simp;done)|(simp;rfl)|(simp [hq];done)|(simp [hq];rfl));(·first|omega|(simp;omega));(·intro _ _;trivial);rintro _ _ _ hS hw _;(try dsimp only [AW.aZ] at hS);have hq:=ZP hS hw)
         | (refine il fun R hR=>?_;simp [ak,au,hq,h2,h4,h5,h6,s7,gJ,AW.aa,af,aS,bq.v];try simp (disch:=omega) only [if_pos,if_neg,ak,au])
         | (refine hR _ _ ?_;clear hR R)|(refine hK _ _ ?_;clear hK K)|refine nx ?_
         | (refine EZ fun R hR=>?_;simp [ak,au,hq,h2,h4,h5,h6,s7,gJ,AW.aa,af,aS,bq.v];try simp (disch:=omega) only [if_pos,if_neg,ak,au])
         | (refine EF (fun R hR=>?_) (fun R hR=>?_)<;>(simp [ak,au,hq,h2,h4,h5,h6,s7,gJ,AW.aa,af,aS,bq.v];try simp (disch:=omega) only [if_pos,if_neg,ak,au]))
         | refine EY ?_
         | refine wn fun K hK=>?_
         | simp only [wS,lK,lJ,lI,lH]
         | simp only [hN,nC,jt,Option.map_none,Option.map_some,List.getElem?_toArray,List.getElem?_cons_zero,List.getElem?_cons_succ,List.getD_cons_zero,List.getD_cons_succ,Option.bind_some]
         | refine wl Tryz.mx lK (by decide +kernel) fun K hK=>?_
         | refine wl Tryz.mx lJ (by decide +kernel) fun K hK=>?_
         | refine wl Tryz.mx lI (by decide +kernel) fun K hK=>?_
         | refine wl Tryz.mx lH (by decide +kernel) fun K hK=>?_
         | (refine bD (kU _) ?_;rintro _ _ ⟨rfl,rfl⟩ _ _)
         | (refine ⟨fun A' kL=>by simp [AW.aa,kL],?_⟩)
         | (refine ⟨by simp [hq],?_⟩)
         | (refine wt (fun A'=>A'.cy b=some (.cells [pv bh,pv aY,bx,aw,aB,bJ br az,pv m,.int .i64 c.cj,cE,aT aG aJ,aQ aE aK,aW,aU,aC,bA,.int .i64 cf.aF,.int .i64 cf.aj,.int .i64 cf.base,.int .i64 cf.c0,.int .i64 cf.c1,.int .i64 cf.c2,.int .i64 cf.c3,.int .i64 cf.ah,.int .i64 cf.bX,.int .i64 cf.ac,.int .i64 cf.ap,.int .i64 cf.ao,.bool cf.cT,.int .i64 ag,.int .i64 av,.int .i64 ax,.int .i64 3,bC,.func (.func 181) #[] #[pv c0,pv c1],.int .i64 c.cA,.int .u64 value,aV,.int .u64 ao,.bool ai,.int .i64 am] true 1)) Tryz.mx [0,0,0,0,0,0,3,0,0,0,0,1,0,2,3,0] (.bu 0 (.bu 1 (.bu 2 (.bu 3 (.bu 4 (.bu 5 (.bu 7 (.bu 8 (.bu 9 (.bu 10 (.bu 11 (.bu 12 (.sC 6 (.bu 13 (.bu 14 (.bu 15 .nil))) 13 (.bu 6 (.bu 14 (.bu 15 .nil)))))))))))))))) (by decide +kernel) fun K hK=>?_)
         | (apply aP.el (dz m);(·exact wA);(·exact sA);(·first|exact pP|exact kP);rintro _ _ rfl hS hw _;have hS:=lA hS;have hq:=ZP hS hw)
         | (apply eT;(·exact wA);(·exact sA);(·first|exact pP|exact kP);)
         | (apply d9;(·exact wA);(·exact sA);(·first|exact pP|exact kP);)
         | (apply gh;(·exact wA);(·exact sA);(·first|exact pP|exact kP);(·first|omega|(simp;omega)|(simp [hq];done));)
         | (apply aP.el (mR bh);(·exact wA);(·exact sA);(·first|exact pP|exact kP);rintro _ _ rfl hS hw _;have hS:=lA hS;have hq:=ZP hS hw)
         | (apply jO;(·exact wA);(·exact sA);(·first|exact pP|exact kP);)
         | (apply aP.xU (py b c0 c1 ⟨cf,ag,av,ax,value,br,ai,ah,ac,ap,l2,aM,ao,aj,aG,aE,am,.bm⟩ kb c'.val rfl (UQ (ah) l2 (by omega) IR) S0);(·exact wA);(·exact sA);(·exact fP);(·first|exact pP|exact kP);(rintro _ _ _ hS hw _;have hS:=lA hS);(try (have hq:=ZP hS hw));all_goals(try (first|exact 0|exact undef)))
         | refine wb ?_|refine wr ?_|refine wk ?_|refine we ?_|refine ws ?_|refine wq ?_
         | (refine wc rfl (fun hc=>?_) (fun hc=>?_)<;>(try simp at hc)<;>(try omega)<;>(try (simp [h2] at hc;done))<;>(try (simp [h3] at hc;done))<;>(try (simp [h4] at hc;done)))
         | (refine ib (fun hc=>?_) (fun hc=>?_)<;>(try omega)<;>(try simp (disch:=omega) only [if_pos,if_neg])))
         all_goals(
          refine⟨_,by simp [hq,AW.aa,af];rfl,by simp [bq.v],?_⟩
          apply an.cC
          (·exact sA)
          (·first|exact pP|exact kP))
   · have e:dZ ⟨cf,ag,av,ax,value,br,ai,ah,ac,ap,set,aM,ao,aj,aG,aE,am,.bz c (.cM kb)⟩ M c (.cM kb)=(x,5+c.cj,gy ⟨cf,ag,av,ax,value,br,ai,ah,ac,ap,set,aM,ao,aj,aG,aE,am,.bz c' (.cM kb)⟩ 9,M'):=by
      unfold dZ;rw [hr];dsimp only;rw [h2,h4];simp
     rw [e]
     intro A F hw hS
     refine ab Tryz.func44 rfl (by kernel_rfl) fun _=>?_
     dsimp only [na,zo] at hS
     obtain⟨⟨bh,aY,az,aJ,aK,m,c0,c1,c2,bx,aw,aB,aV,bQ,bg,cE,aW,aU,aC,bA,bC,cP,bR⟩,hS⟩:=bI.open hS .z
     dsimp only [cg,fq,bW,da,ba.eo,na,zo] at hS
     have hq:=ZO hS hw
     revert hq hS hw;(repeat first|clear hq|clear hS|clear hw|revert hc|revert zn|revert zA|revert R|revert K);refine Kv (J9 (Tg.mk (n:=10) @eT) (Tg.mk (n:=10) @d9) (Tg.mk (n:=20) (iO b ⟨cf,ag,av,ax,value,br,ai,ah,ac,ap,set,aM,ao,aj,aG,aE,am,.bz c' (.cM kb)⟩ 3 9 .bm hC.cf hC.al hC.push (Nat.lt_of_le_of_lt hC.kN (by decide)))) (od lK) (od lJ) (od lI) (od lH) (dz m) (⟨⟩:Ts (fun A'=>A'.cy b=some (.cells [pv bh,pv aY,bx,aw,aB,bJ br az,pv m,.int .i64 c.cj,cE,aT aG aJ,aQ aE aK,aW,aU,aC,bA,.int .i64 cf.aF,.int .i64 cf.aj,.int .i64 cf.base,.int .i64 cf.c0,.int .i64 cf.c1,.int .i64 cf.c2,.int .i64 cf.c3,.int .i64 cf.ah,.int .i64 cf.bX,.int .i64 cf.ac,.int .i64 cf.ap,.int .i64 cf.ao,.bool cf.cT,.int .i64 ag,.int .i64 av,.int .i64 ax,.int .i64 3,bC,.func (.func 181) #[] #[pv c0,pv c1],.int .i64 c.cA,.int .u64 value,aV,.int .u64 ao,.bool ai,.int .i64 am] true 1)) [0,0,0,0,0,0,3,0,0,0,0,1,0,2,3,0] (.bu 0 (.bu 1 (.bu 2 (.bu 3 (.bu 4 (.bu 5 (.bu 7 (.bu 8 (.bu 9 (.bu 10 (.bu 11 (.bu 12 (.sC 6 (.bu 13 (.bu 14 (.bu 15 .nil))) 13 (.bu 6 (.bu 14 (.bu 15 .nil)))))))))))))))))) (J8 h2 h4 s7 gJ @AW.aa @af.eq_1 @aS.eq_1 @bq.v.eq_1) (J2 ?_ ?_)<;>unhygienic intros
     all_goals(
      refine⟨_,by simp [hq,AW.aa,af];rfl,by simp [bq.v],?_⟩
      apply an.cC
      (·exact sA)
      (·first|exact pP|exact kP))
end
section
abbrev qa:List (Nat×Nat):=[(0,0),(1,0),(2,0),(3,0),(4,0),(5,0),(6,0),(7,0),(8,0),(9,0),(10,0),(11,0),(12,0),(13,0),(14,0),(15,0)]
open T0
theorem ET (b:Nat) (s:aD) (cj:Int) (d:ba) (f:pL) (va vv vi:Value) (A:AW) (hg:A.cy b=some (fi s cj d f)) (hl:A.cy f.aY=some (gw s.aM.dA va vv vi)) (ha:cF A .i64 va s.aM.bl) (hr:cF A .i64 f.bx s.ah) (cU:s.aM.bl.length≤32) (Pu:s.ah.length<2^20) :
 aH Tryz.prog 110 [pv b] A (fun v A'=>∃u w,v=.tuple #[u,w]∧cF A' .i64 u s.ah∧cF A' .i64 w (vB s)∧A.le A'):=by
 refine ab Tryz.func110 rfl (by kernel_rfl) fun hw=>?_
 obtain⟨bh,aY,az,aJ,aK,m,c0,c1,c2,bx,aw,aB,aV,bQ,bg,cE,aW,aU,aC,bA,bC,cP,bR⟩:=f
 dsimp only at hl hr
 have pN:=hg
 dsimp only [fi] at hg
 unfold vB
 have Mw:=fun(A':AW) (h:A.le A')=>tk aY s.aM.dA va vv vi s.aM.bl A' (h.iU hw hl) (ha.le h hw) (by omega)
 generalize s.aM.bl=ad at *
 revert hw;refine W trivial (J3 hg @AW.aa @af.eq_1) (J1 ?_)<;>unhygienic intros
 refine bD (Mw _ (AW.le.refl A)) ?_
 rintro u A1 ⟨h1,l1⟩ gJ _
 have i1:=h1.is
 obtain⟨o1,c3,rfl,_⟩:=i1.cL
 have tp:=l1.iU hw hg
 revert hw;(repeat first|clear hw|revert hc|revert zn|revert zA|revert R|revert K);refine W trivial (J2 @AW.aa @af.eq_1) (J1 ?_)<;>unhygienic intros
 refine ed (fun k fr A'=>∃(i:Nat) (v:Value),k=ad.length-i∧i≤ad.length∧fr 0=pv b∧fr 3=v∧fr 11=.slice o1 ad.length c3∧fr 12=.int .i64 ad.length∧fr 13=.int .i64 i∧
  dk A1.next A' .i64 v ((ad.take i).filter (fun a=>decide (a<s.cf.aF)))∧A1.le A'∧A'.Wf) ad.length ?_ ?_
 · refine⟨0,.slice none 0 0,by simp,by simp,by simp,by simp,by simp,by simp,by simp,?_,AW.le.refl _,gJ⟩
   exact dk.nil _ _ _
 · rintro k fr A' ⟨i,v,rfl,hi,h0,h3,Kt,Ks,MF,kD,eG,gY⟩
   have PO:=eG.iU gJ tp
   by_cases dQ:i<ad.length
   · have ey:(i:Int)<ad.length:=by omega
     have mc:IntKind.i64.wrap ((i:Int)+1)=((i+1:Nat):Int):=ak (by omega) (by omega)
     obtain⟨p,dh,rfl,eH,dg⟩:=(i1.le eG gJ).at dQ
     have zz:ad.take (i+1)=ad.take i++[ad[i]]:=List.take_succ_eq_append_getElem dQ
     have Lu:((ad.take i).filter (fun a=>decide (a<s.cf.aF))).length<2^40:=by
      have:=List.length_filter_le (fun a=>decide (a<s.cf.aF)) (ad.take i)
      have h9:(ad.take i).length≤i:=by simp;omega
      omega
     by_cases h:ad[i]<s.cf.aF
     · obtain⟨v',A2,e1,e2,e3,e4,e5⟩:=qQ (P:=Tryz.prog) (t:=72) ad[i] Tryz.underlying72 Tryz.info3 Tryz.zero3 rfl rfl kD Lu (by simp) eG.next gY
       revert hw;(repeat first|clear hw|revert hc|revert zn|revert zA|revert R|revert K);refine W trivial (pw h0 h3 Kt Ks MF PO eH dg h dQ ey mc e1 (J2 @AW.aa @af.eq_1)) (J1 ?_)<;>unhygienic intros
       refine⟨ad.length-(i+1),by omega,i+1,v',rfl,by omega,by simp [h0],by simp,by simp [Kt],by simp [Ks],by simp,?_,e3 A1 (Nat.le_refl _) eG,e4⟩
       rw [zz,List.filter_append];simpa [h] using e2
     · revert hw;(repeat first|clear hw|revert hc|revert zn|revert zA|revert R|revert K);refine W trivial (pw h0 h3 Kt Ks MF PO eH dg h dQ ey mc @AW.aa @af.eq_1) (J1 ?_)<;>unhygienic intros
       refine⟨ad.length-(i+1),by omega,i+1,v,rfl,by omega,by simp [h0],by simp [h3],by simp [Kt],by simp [Ks],by simp,?_,eG,gY⟩
       rw [zz,List.filter_append];simpa [h] using kD
   · have zG:i=ad.length:=by omega
     subst zG
     rw [List.take_length] at kD
     revert hw;(repeat first|clear hw|revert hc|revert zn|revert zA|revert R|revert K);refine W trivial (J8 h0 h3 Kt Ks MF PO @AW.aa @af.eq_1) (J1 ?_)<;>unhygienic intros
     refine bD (jF bx s.ah A' (hr.le (l1.trans eG) hw) (by omega)) ?_
     rintro u A3 ⟨h5,h6⟩ qr _
     revert hw;(repeat first|clear hw|revert hc|revert zn|revert zA|revert R|revert K);refine W trivial (J3 h3 @AW.aa @af.eq_1) (J1 ?_)<;>unhygienic intros
     exact⟨_,by first|(simp [h3];done)|(simp [h3];rfl),u,v,rfl,h5.is,(kD.is).le h6 gY,(l1.trans eG).trans h6⟩
theorem C4 (b:Nat) (s:aD) (n:Int) (d:ba) (f:RV) (va vv vi:Value) (A:AW) (hg:A.cy b=some (bH s n d f)) (hl:A.cy f.aY=some (gw s.aM.dA va vv vi)) (ha:cF A .i64 va s.aM.bl) (hr:cF A .i64 f.bS s.ah) (cU:s.aM.bl.length≤32) (Pu:s.ah.length<2^20) :
 aH Tryz.prog 111 [pv b] A (fun v A'=>∃u w,v=.tuple #[u,w]∧cF A' .i64 u s.ah∧cF A' .i64 w (vB s)∧A.le A'):=by
 refine ab Tryz.func111 rfl (by kernel_rfl) fun hw=>?_
 obtain⟨bh,aY,az,aJ,aK,m,dy,k0,ja,dr,bS,aw,aB,Zc,Y9,Zb,fA,fk,dD,dL,cI,jv,dO,dP,cG,cx,dv,cH,dN,bU,bt,dM,bT⟩:=f
 dsimp only at hl hr
 dsimp only [bH] at hg
 dsimp only [gw] at hl
 unfold vB
 generalize s.aM.bl=ad at *
 obtain⟨o1,c3,rfl,_⟩:=ha.cL
 revert hw;refine W (J1 (od qa)) (J4 hg hl @AW.aa @af.eq_1) (J1 ?_)<;>unhygienic intros
 refine ed (fun k fr A'=>∃(i:Nat) (v:Value),k=ad.length-i∧i≤ad.length∧fr 0=pv b∧fr 4=v∧fr 5=.int .i64 i∧
  dk A.next A' .i64 v ((ad.take i).filter (fun a=>decide (a<s.cf.aF)))∧A.le A'∧A'.Wf) ad.length ?_ ?_
 · refine⟨0,.slice none 0 0,by simp,by simp,by simp,by simp,by simp,?_,AW.le.refl _,hw⟩
   exact dk.nil _ _ _
 · rintro k fr A' ⟨i,v,rfl,hi,h0,h3,h5,kD,eG,gY⟩
   have PO:=eG.iU hw hg
   have Uo:=eG.iU hw hl
   by_cases dQ:i<ad.length
   · have ey:(i:Int)<ad.length:=by omega
     have mc:IntKind.i64.wrap ((i:Int)+1)=((i+1:Nat):Int):=ak (by omega) (by omega)
     obtain⟨p,dh,rfl,eH,dg⟩:=(ha.le eG hw).at dQ
     have zz:ad.take (i+1)=ad.take i++[ad[i]]:=List.take_succ_eq_append_getElem dQ
     have Lu:((ad.take i).filter (fun a=>decide (a<s.cf.aF))).length<2^40:=by
      have:=List.length_filter_le (fun a=>decide (a<s.cf.aF)) (ad.take i)
      have h9:(ad.take i).length≤i:=by simp;omega
      omega
     by_cases h:ad[i]<s.cf.aF
     · obtain⟨v',A2,e1,e2,e3,e4,e5⟩:=qQ (P:=Tryz.prog) (t:=72) ad[i] Tryz.underlying72 Tryz.info3 Tryz.zero3 rfl rfl kD Lu (by simp) eG.next gY
       revert hw;(repeat first|clear hw|revert hc|revert zn|revert zA|revert R|revert K);refine W (J1 (od qa)) (pw h0 h3 h5 PO Uo eH dg h dQ ey mc e1 @AW.aa @af.eq_1) (J1 ?_)<;>unhygienic intros
       refine⟨ad.length-(i+1),by omega,i+1,v',rfl,by omega,by simp [h0],by simp,by simp,?_,e3 A (Nat.le_refl _) eG,e4⟩
       rw [zz,List.filter_append];simpa [h] using e2
     · revert hw;(repeat first|clear hw|revert hc|revert zn|revert zA|revert R|revert K);refine W (J1 (od qa)) (Mk h0 h3 h5 PO Uo eH dg h dQ ey mc @AW.aa @af.eq_1) (J1 ?_)<;>unhygienic intros
       refine⟨ad.length-(i+1),by omega,i+1,v,rfl,by omega,by simp [h0],by simp [h3],by simp,?_,eG,gY⟩
       rw [zz,List.filter_append];simpa [h] using kD
   · have zG:i=ad.length:=by omega
     subst zG
     have ey:¬(ad.length:Int)<ad.length:=by omega
     rw [List.take_length] at kD
     revert hw;(repeat first|clear hw|revert hc|revert zn|revert zA|revert R|revert K);refine W (J1 (od qa)) (J8 h0 h3 h5 PO Uo ey @AW.aa @af.eq_1) (J1 ?_)<;>unhygienic intros
     refine bD (Jc bS s.ah A' (hr.le eG hw) (by omega)) ?_
     rintro u A3 ⟨h7,h6⟩ qr _
     revert hw;(repeat first|clear hw|revert hc|revert zn|revert zA|revert R|revert K);refine W (J1 (od qa)) (J3 h3 @AW.aa @af.eq_1) (J1 ?_)<;>unhygienic intros
     exact⟨_,by first|(simp [h3];done)|(simp [h3];rfl),u,v,rfl,h7.is,(kD.is).le h6 gY,eG.trans h6⟩
end
end Go.Stx
