/-
 The program's attempt: reading.
-/
import Derived.Test.YtncmjklabcoeaaaGreatD24
import Derived.Test.YtncmjklabcoeaaaGreatD35
set_option linter.unusedVariables false
set_option linter.unusedSimpArgs false
set_option maxRecDepth 20000
set_option maxHeartbeats 4000000
namespace Go.Stx
open Go Go.Proofs
attribute [local irreducible] TW hN fj cm aH bB dK ei
section
abbrev lK:List (Nat×Nat):=[(0,0),(1,0),(2,0),(3,0),(4,0),(5,0),(6,0),(7,0),(8,0),(9,0),(10,0),(11,0),(12,0),(13,0),(14,0),(15,0),(16,0),(17,0),(18,0),(19,0),(20,2),(21,0),(22,0)]
abbrev lJ:List (Nat×Nat):=[(0,0),(1,0),(2,0),(3,0),(4,0),(5,0),(6,0),(7,0),(8,0),(9,0),(10,2),(11,3),(12,0),(13,0),(14,0),(15,3)]
abbrev lI:List (Nat×Nat):=[(0,0),(1,0),(2,0),(3,0),(4,0),(5,0),(6,0),(7,0),(8,0),(9,0),(10,0),(11,0),(12,0),(13,2),(14,3),(15,0)]
abbrev lH:List (Nat×Nat):=[(0,0),(1,0),(2,0),(3,0),(4,0),(5,0),(6,0),(7,0),(8,0),(9,2),(10,3)]
open T23 T16
set_option maxHeartbeats 16000000 in
theorem yh (b pb:Nat) (s:aD) (c:dY) (kb:Int) (M:Mm) (hd:s.aA=.bz c (.cM kb)) (hC:ep s) (Pu:s.ah.length+1<2^20) (QH:0≤c.cj∧c.cj≤2) (uc:c.dl=fJ s.cf c.cA) (S0:0≤kb∧kb<s.cf.nb) :
 aP Tryz.prog 44 [pv b,pv pb] [.h (bI b s),eb pb M] (fun v=>v=.tuple #[(dZ s M c (.cM kb)).1.v,.int .i64 (dZ s M c (.cM kb)).2.1])
  (fun _=>[.h (bI b (dZ s M c (.cM kb)).2.2.1),eb pb (dZ s M c (.cM kb)).2.2.2]):=by
 obtain⟨cf,ag,av,ax,value,br,ai,ah,ac,ap,set,aM,ao,aj,aG,aE,am,aA⟩:=s
 dsimp only at hd
 subst hd
 dsimp only at S0
 dsimp only at uc Pu
 obtain⟨HL,OB⟩:=hC.cf.ah
 have fz:=hC.set
 dsimp only at HL OB fz
 have Pw:cf.ah.toNat≤32:=by omega
 obtain⟨x,c',M',hr⟩:∃x e' M',cB c M=(x,e',M'):=⟨_,_,_,rfl⟩
 have dz:=fun n=>tf n pb c M
 rw [hr] at dz
 have s7:IntKind.i64.wrap (5+c.cj)=5+c.cj:=ak (by omega) (by omega)
 have gJ:IntKind.i64.wrap (c.cj+1)=c.cj+1:=ak (by omega) (by omega)
 have pE:¬c'.cj=3→c'.cj=c.cj+1:=by
  intro hn
  have Km:(cB c M).2.1=c':=by rw [hr]
  rcases mh c M with ⟨h,e⟩|⟨h,e⟩|⟨h,e⟩|⟨h,e⟩|⟨h,e⟩|⟨h,e⟩<;>(rw [e] at Km;subst Km;dsimp only at hn ⊢;try omega)
 have u5:c'.cA=c.cA:=by
  have Km:(cB c M).2.1=c':=by rw [hr]
  rcases mh c M with ⟨h,e⟩|⟨h,e⟩|⟨h,e⟩|⟨h,e⟩|⟨h,e⟩|⟨h,e⟩<;>(rw [e] at Km;subst Km;rfl)
 have kU:=sE cf hC.cf c.cA
 dsimp only [bG.v] at kU
 have UQ:∀rd l2,rd.length<2^20→l2.length≤cf.ah.toNat→ep ⟨cf,ag,av,ax,value,br,ai,rd,ac,ap,l2,aM,ao,aj,aG,aE,am,.bm⟩:=fun rd l2 h1 h2=>⟨hC.cf,hC.G2,hC.aM,hC.dA,hC.cc,hC.I6,hC.GU,hC.kN,hC.push,h2,h1,hC.EQ⟩
 cases h2:c'.done
 · have h3:¬c'.cj=3:=by simpa [dY.done] using h2
   have e:dZ ⟨cf,ag,av,ax,value,br,ai,ah,ac,ap,set,aM,ao,aj,aG,aE,am,.bz c (.cM kb)⟩ M c (.cM kb)=(x,5+c.cj,⟨cf,ag,av,ax,value,br,ai,ah,ac,ap,set,aM,ao,aj,aG,aE,am,.bz c' (.cM kb)⟩,M'):=by
    unfold dZ;rw [hr];dsimp only;rw [h2];simp
   rw [e]
   intro A F hw hS
   refine ab Tryz.func44 rfl (by kernel_rfl) fun _=>?_
   dsimp only [na,zo] at hS
   obtain⟨⟨bh,aY,az,aJ,aK,m,c0,c1,c2,bx,aw,aB,aV,bQ,bg,cE,aW,aU,aC,bA,bC,cP,bR⟩,hS⟩:=bI.open hS .z
   dsimp only [cg,fq,bW,da,ba.eo,na,zo] at hS
   have hq:=ZO hS hw
   revert hq hS hw;clear hS;refine Kv (J7 (Tg.mk (n:=10) @eT) (od lK) (od lJ) (od lI) (od lH) (dz m) (⟨⟩:Ts (fun A'=>A'.cy b=some (.cells [pv bh,pv aY,bx,aw,aB,bJ br az,pv m,.int .i64 c.cj,cE,aT aG aJ,aQ aE aK,aW,aU,aC,bA,.int .i64 cf.aF,.int .i64 cf.aj,.int .i64 cf.base,.int .i64 cf.c0,.int .i64 cf.c1,.int .i64 cf.c2,.int .i64 cf.c3,.int .i64 cf.ah,.int .i64 cf.bX,.int .i64 cf.ac,.int .i64 cf.ap,.int .i64 cf.ao,.bool cf.cT,.int .i64 ag,.int .i64 av,.int .i64 ax,.int .i64 3,bC,.func (.func 181) #[] #[pv c0,pv c1],.int .i64 c.cA,.int .u64 value,aV,.int .u64 ao,.bool ai,.int .i64 am] true 1)) [0,0,0,0,0,0,3,0,0,0,0,1,0,2,3,0] (.bu 0 (.bu 1 (.bu 2 (.bu 3 (.bu 4 (.bu 5 (.bu 7 (.bu 8 (.bu 9 (.bu 10 (.bu 11 (.bu 12 (.sC 6 (.bu 13 (.bu 14 (.bu 15 .nil))) 13 (.bu 6 (.bu 14 (.bu 15 .nil)))))))))))))))))) (J7 h2 s7 gJ @AW.aa @af.eq_1 @aS.eq_1 @bq.v.eq_1) (J2 ?_ ?_)<;>unhygienic intros
   all_goals(have h:c'.cj=c.cj+1∧c'.cA=c.cA:=⟨pE h3,u5⟩)
   all_goals(
    refine⟨_,by simp [hq,AW.aa,af];rfl,by simp [bq.v],?_⟩
    apply bI.cC
    (·exact sA)
    (dsimp only [cg,fi,fq,bW,da,ba.eo,bJ,aT,aQ,dT,cY,dV,fC,cZ,cW,bV,dU,dR,fB,dS,na,zo])
    try simp only [h]
    (·first|exact pP|exact kP)
    (·first|exact pP|exact kP)
    all_goals(first|exact 0|exact undef))
 · cases h4:c'.du
   · by_cases h5:c.cA<cf.aF
     · by_cases h6:c.cA∈ah
       · have h7:(if c.cA<cf.aF∧¬c.cA∈ah then (⟨cf,ag,av,ax,value,br,ai,ah++[c.cA],ac,ap,set,aM,ao,aj,aG,aE,am,.bz c' (.cM kb)⟩:aD) else ⟨cf,ag,av,ax,value,br,ai,ah,ac,ap,set,aM,ao,aj,aG,aE,am,.bz c' (.cM kb)⟩)=⟨cf,ag,av,ax,value,br,ai,ah,ac,ap,set,aM,ao,aj,aG,aE,am,.bz c' (.cM kb)⟩:=if_neg (fun h=>h.2 h6)
         obtain⟨q,l2,jl⟩:∃q l2,cr cf.ah.toNat set c.dl=(q,l2):=⟨_,_,rfl⟩
         have mR:=fun n=>ld n cf.ah.toNat set (fJ cf c.cA) fz Pw
         rw [←uc,jl] at mR
         dsimp only at mR
         have IR:l2.length≤cf.ah.toNat:=by
          have h9:(cr cf.ah.toNat set c.dl).2=l2:=by rw [jl]
          rw [←h9]
          unfold cr
          split
          · exact fz
          · split
            · exact fz
            · simp;omega
         have JM:q=false→l2=set:=by
          intro JG
          have h9:(cr cf.ah.toNat set c.dl).2=l2:=by rw [jl]
          have h8:(cr cf.ah.toNat set c.dl).1=q:=by rw [jl]
          rw [←h9]
          rw [JG] at h8
          unfold cr at h8 ⊢
          split
          · rfl
          · split
            · rfl
            · rename_i g1 g2;rw [if_neg g1,if_neg g2] at h8;cases h8
         cases q
         · have LD:=JM rfl
           subst l2
           have e:dZ ⟨cf,ag,av,ax,value,br,ai,ah,ac,ap,set,aM,ao,aj,aG,aE,am,.bz c (.cM kb)⟩ M c (.cM kb)=(x,5+c.cj,gy ⟨cf,ag,av,ax,value,br,ai,ah,ac,ap,set,aM,ao,aj,aG,aE,am,.bz c' (.cM kb)⟩ 3,M'):=by
            unfold dZ;rw [hr];dsimp only;rw [h2,h4,jl,h7];rfl
           rw [e]
           intro A F hw hS
           refine ab Tryz.func44 rfl (by kernel_rfl) fun _=>?_
           dsimp only [na,zo] at hS
           obtain⟨⟨bh,aY,az,aJ,aK,m,c0,c1,c2,bx,aw,aB,aV,bQ,bg,cE,aW,aU,aC,bA,bC,cP,bR⟩,hS⟩:=bI.open hS .z
           dsimp only [cg,fq,bW,da,ba.eo,na,zo] at hS
           have hq:=ZO hS hw
           rw [uc] at mR
           revert hq hS hw;(repeat first|clear hq|clear hS|clear hw|revert hc|revert zn|revert zA|revert R|revert K);refine Kv (Ml (Tg.mk (n:=10) @eT) (Tg.mk (n:=10) @d9) (Tg.mk (n:=14) @gh) (Tg.mk (n:=20) (iO b ⟨cf,ag,av,ax,value,br,ai,ah,ac,ap,set,aM,ao,aj,aG,aE,am,.bz c' (.cM kb)⟩ 3 3 .bm hC.cf hC.al hC.push (Nat.lt_of_le_of_lt hC.kN (by decide)))) (od lK) (od lJ) (od lI) (od lH) @kU (dz m) (mR bh) (⟨⟩:Ts (fun A'=>A'.cy b=some (.cells [pv bh,pv aY,bx,aw,aB,bJ br az,pv m,.int .i64 c.cj,cE,aT aG aJ,aQ aE aK,aW,aU,aC,bA,.int .i64 cf.aF,.int .i64 cf.aj,.int .i64 cf.base,.int .i64 cf.c0,.int .i64 cf.c1,.int .i64 cf.c2,.int .i64 cf.c3,.int .i64 cf.ah,.int .i64 cf.bX,.int .i64 cf.ac,.int .i64 cf.ap,.int .i64 cf.ao,.bool cf.cT,.int .i64 ag,.int .i64 av,.int .i64 ax,.int .i64 3,bC,.func (.func 181) #[] #[pv c0,pv c1],.int .i64 c.cA,.int .u64 value,aV,.int .u64 ao,.bool ai,.int .i64 am] true 1)) [0,0,0,0,0,0,3,0,0,0,0,1,0,2,3,0] (.bu 0 (.bu 1 (.bu 2 (.bu 3 (.bu 4 (.bu 5 (.bu 7 (.bu 8 (.bu 9 (.bu 10 (.bu 11 (.bu 12 (.sC 6 (.bu 13 (.bu 14 (.bu 15 .nil))) 13 (.bu 6 (.bu 14 (.bu 15 .nil)))))))))))))))))) (Kw h2 h4 h5 h6 s7 gJ @AW.aa @af.eq_1 @aS.eq_1 @bq.v.eq_1) (J2 ?_ ?_)<;>unhygienic intros
           all_goals(
            refine⟨_,by simp [hq,AW.aa,af];rfl,by simp [bq.v],?_⟩
            apply an.cC
            (·exact sA)
            (·first|exact pP|exact kP))
         · have e:dZ ⟨cf,ag,av,ax,value,br,ai,ah,ac,ap,set,aM,ao,aj,aG,aE,am,.bz c (.cM kb)⟩ M c (.cM kb)=(x,5+c.cj,AD ⟨cf,ag,av,ax,value,br,ai,ah,ac,ap,l2,aM,ao,aj,aG,aE,am,.bm⟩ c'.val (.cM kb),M'):=by
            unfold dZ;rw [hr];dsimp only;rw [h2,h4,jl,h7];rfl
           rw [e]
           intro A F hw hS
           refine ab Tryz.func44 rfl (by kernel_rfl) fun _=>?_
           dsimp only [na,zo] at hS
           obtain⟨⟨bh,aY,az,aJ,aK,m,c0,c1,c2,bx,aw,aB,aV,bQ,bg,cE,aW,aU,aC,bA,bC,cP,bR⟩,hS⟩:=bI.open hS .z
           dsimp only [cg,fq,bW,da,ba.eo,na,zo] at hS
           have hq:=ZO hS hw
           rw [uc] at mR
           repeat' (first
           | (with_reducible apply Kj;(·first|(simp;done)|(simp;rfl));(·first|(simp;done)|(simp;rfl));(·exact wA);(·exact sA);(·first|exact pP|exact kP);(·first|(simp;done)|(simp;rfl)|(simp [hq];done)|(simp [hq];rfl));(·first|omega|(simp;omega));(·intro _ _;trivial);rintro _ _ _ hS hw _;(try dsimp only [AW.aZ] at hS);have hq:=ZP hS hw)
           | (refine il fun R hR=>?_;simp [ak,au,hq,h2,h4,h5,h6,s7,gJ,AW.aa,af,aS,bq.v];try simp (disch:=omega) only [if_pos,if_neg,ak,au])
           | (refine hR _ _ ?_;clear hR R)|(refine hK _ _ ?_;clear hK K)|refine nx ?_
           | (refine EZ fun R hR=>?_;simp [ak,au,hq,h2,h4,h5,h6,s7,gJ,AW.aa,af,aS,bq.v];try simp (disch:=omega) only [if_pos,if_neg,ak,au])
           | (refine EF (fun R hR=>?_) (fun R hR=>?_)<;>(simp [ak,au,hq,h2,h4,h5,h6,s7,gJ,AW.aa,af,aS,bq.v];try simp (disch:=omega) only [if_pos,if_neg,ak,au]))
           | refine EY ?_
           | refine wn fun K hK=>?_
           | simp only [wS,lK,lJ,lI,lH]
           | simp only [hN,nC,jt,Option.map_none,Option.map_some,List.getElem?_toArray,List.getElem?_cons_zero,List.getElem?_cons_succ,List.getD_cons_zero,List.getD_cons_succ,Option.bind_some]
           | refine wl Tryz.mx lK (by decide +kernel) fun K hK=>?_
           | refine wl Tryz.mx lJ (by decide +kernel) fun K hK=>?_
           | refine wl Tryz.mx lI (by decide +kernel) fun K hK=>?_
           | refine wl Tryz.mx lH (by decide +kernel) fun K hK=>?_
           | (refine bD (kU _) ?_;rintro _ _ ⟨rfl,rfl⟩ _ _)
           | (refine ⟨fun A' kL=>by simp [AW.aa,kL],?_⟩)
           | (refine ⟨by simp [hq],?_⟩)
           | (refine wt (fun A'=>A'.cy b=some (.cells [pv bh,pv aY,bx,aw,aB,bJ br az,pv m,.int .i64 c.cj,cE,aT aG aJ,aQ aE aK,aW,aU,aC,bA,.int .i64 cf.aF,.int .i64 cf.aj,.int .i64 cf.base,.int .i64 cf.c0,.int .i64 cf.c1,.int .i64 cf.c2,.int .i64 cf.c3,.int .i64 cf.ah,.int .i64 cf.bX,.int .i64 cf.ac,.int .i64 cf.ap,.int .i64 cf.ao,.bool cf.cT,.int .i64 ag,.int .i64 av,.int .i64 ax,.int .i64 3,bC,.func (.func 181) #[] #[pv c0,pv c1],.int .i64 c.cA,.int .u64 value,aV,.int .u64 ao,.bool ai,.int .i64 am] true 1)) Tryz.mx [0,0,0,0,0,0,3,0,0,0,0,1,0,2,3,0] (.bu 0 (.bu 1 (.bu 2 (.bu 3 (.bu 4 (.bu 5 (.bu 7 (.bu 8 (.bu 9 (.bu 10 (.bu 11 (.bu 12 (.sC 6 (.bu 13 (.bu 14 (.bu 15 .nil))) 13 (.bu 6 (.bu 14 (.bu 15 .nil)))))))))))))))) (by decide +kernel) fun K hK=>?_)
           | (apply aP.el (dz m);(·exact wA);(·exact sA);(·first|exact pP|exact kP);rintro _ _ rfl hS hw _;have hS:=lA hS;have hq:=ZP hS hw)
           | (apply eT;(·exact wA);(·exact sA);(·first|exact pP|exact kP);)
           | (apply d9;(·exact wA);(·exact sA);(·first|exact pP|exact kP);)
           | (apply gh;(·exact wA);(·exact sA);(·first|exact pP|exact kP);(·first|omega|(simp;omega)|(simp [hq];done));)
           | (apply aP.el (mR bh);(·exact wA);(·exact sA);(·first|exact pP|exact kP);rintro _ _ rfl hS hw _;have hS:=lA hS;have hq:=ZP hS hw)
           | (apply jO;(·exact wA);(·exact sA);(·first|exact pP|exact kP);)
           | (apply aP.xU (py b c0 c1 ⟨cf,ag,av,ax,value,br,ai,ah,ac,ap,l2,aM,ao,aj,aG,aE,am,.bm⟩ kb c'.val rfl (UQ (ah) l2 (by omega) IR) S0);(·exact wA);(·exact sA);(·exact fP);(·first|exact pP|exact kP);(rintro _ _ _ hS hw _;have hS:=lA hS);(try (have hq:=ZP hS hw));all_goals(try (first|exact 0|exact undef)))
           | refine wb ?_|refine wr ?_|refine wk ?_|refine we ?_|refine ws ?_|refine wq ?_
           | (refine wc rfl (fun hc=>?_) (fun hc=>?_)<;>(try simp at hc)<;>(try omega)<;>(try (simp [h2] at hc;done))<;>(try (simp [h3] at hc;done))<;>(try (simp [h4] at hc;done)))
           | (refine ib (fun hc=>?_) (fun hc=>?_)<;>(try omega)<;>(try simp (disch:=omega) only [if_pos,if_neg])))
           all_goals(
            refine⟨_,by simp [hq,AW.aa,af];rfl,by simp [bq.v],?_⟩
            apply an.cC
            (·exact sA)
            (·first|exact pP|exact kP))
       · have h7:(if c.cA<cf.aF∧¬c.cA∈ah then (⟨cf,ag,av,ax,value,br,ai,ah++[c.cA],ac,ap,set,aM,ao,aj,aG,aE,am,.bz c' (.cM kb)⟩:aD) else ⟨cf,ag,av,ax,value,br,ai,ah,ac,ap,set,aM,ao,aj,aG,aE,am,.bz c' (.cM kb)⟩)=⟨cf,ag,av,ax,value,br,ai,ah++[c.cA],ac,ap,set,aM,ao,aj,aG,aE,am,.bz c' (.cM kb)⟩:=if_pos ⟨h5,h6⟩
         obtain⟨q,l2,jl⟩:∃q l2,cr cf.ah.toNat set c.dl=(q,l2):=⟨_,_,rfl⟩
         have mR:=fun n=>ld n cf.ah.toNat set (fJ cf c.cA) fz Pw
         rw [←uc,jl] at mR
         dsimp only at mR
         have IR:l2.length≤cf.ah.toNat:=by
          have h9:(cr cf.ah.toNat set c.dl).2=l2:=by rw [jl]
          rw [←h9]
          unfold cr
          split
          · exact fz
          · split
            · exact fz
            · simp;omega
         have JM:q=false→l2=set:=by
          intro JG
          have h9:(cr cf.ah.toNat set c.dl).2=l2:=by rw [jl]
          have h8:(cr cf.ah.toNat set c.dl).1=q:=by rw [jl]
          rw [←h9]
          rw [JG] at h8
          unfold cr at h8 ⊢
          split
          · rfl
          · split
            · rfl
            · rename_i g1 g2;rw [if_neg g1,if_neg g2] at h8;cases h8
         cases q
         · have LD:=JM rfl
           subst l2
           have e:dZ ⟨cf,ag,av,ax,value,br,ai,ah,ac,ap,set,aM,ao,aj,aG,aE,am,.bz c (.cM kb)⟩ M c (.cM kb)=(x,5+c.cj,gy ⟨cf,ag,av,ax,value,br,ai,ah++[c.cA],ac,ap,set,aM,ao,aj,aG,aE,am,.bz c' (.cM kb)⟩ 3,M'):=by
            unfold dZ;rw [hr];dsimp only;rw [h2,h4,jl,h7];rfl
           rw [e]
           intro A F hw hS
           refine ab Tryz.func44 rfl (by kernel_rfl) fun _=>?_
           dsimp only [na,zo] at hS
           obtain⟨⟨bh,aY,az,aJ,aK,m,c0,c1,c2,bx,aw,aB,aV,bQ,bg,cE,aW,aU,aC,bA,bC,cP,bR⟩,hS⟩:=bI.open hS .z
           dsimp only [cg,fq,bW,da,ba.eo,na,zo] at hS
           have hq:=ZO hS hw
           rw [uc] at mR
           revert hq hS hw;(repeat first|clear hq|clear hS|clear hw|revert hc|revert zn|revert zA|revert R|revert K);refine Kv (Ml (Tg.mk (n:=10) @eT) (Tg.mk (n:=10) @d9) (Tg.mk (n:=14) @gh) (Tg.mk (n:=20) (iO b ⟨cf,ag,av,ax,value,br,ai,ah++[c.cA],ac,ap,set,aM,ao,aj,aG,aE,am,.bz c' (.cM kb)⟩ 3 3 .bm hC.cf hC.al hC.push (Nat.lt_of_le_of_lt hC.kN (by decide)))) (od lK) (od lJ) (od lI) (od lH) @kU (dz m) (mR bh) (⟨⟩:Ts (fun A'=>A'.cy b=some (.cells [pv bh,pv aY,bx,aw,aB,bJ br az,pv m,.int .i64 c.cj,cE,aT aG aJ,aQ aE aK,aW,aU,aC,bA,.int .i64 cf.aF,.int .i64 cf.aj,.int .i64 cf.base,.int .i64 cf.c0,.int .i64 cf.c1,.int .i64 cf.c2,.int .i64 cf.c3,.int .i64 cf.ah,.int .i64 cf.bX,.int .i64 cf.ac,.int .i64 cf.ap,.int .i64 cf.ao,.bool cf.cT,.int .i64 ag,.int .i64 av,.int .i64 ax,.int .i64 3,bC,.func (.func 181) #[] #[pv c0,pv c1],.int .i64 c.cA,.int .u64 value,aV,.int .u64 ao,.bool ai,.int .i64 am] true 1)) [0,0,0,0,0,0,3,0,0,0,0,1,0,2,3,0] (.bu 0 (.bu 1 (.bu 2 (.bu 3 (.bu 4 (.bu 5 (.bu 7 (.bu 8 (.bu 9 (.bu 10 (.bu 11 (.bu 12 (.sC 6 (.bu 13 (.bu 14 (.bu 15 .nil))) 13 (.bu 6 (.bu 14 (.bu 15 .nil)))))))))))))))))) (Kw h2 h4 h5 h6 s7 gJ @AW.aa @af.eq_1 @aS.eq_1 @bq.v.eq_1) (J2 ?_ ?_)<;>unhygienic intros
           all_goals(
            refine⟨_,by simp [hq,AW.aa,af];rfl,by simp [bq.v],?_⟩
            apply an.cC
            (·exact sA)
            (·first|exact pP|exact kP))
         · have e:dZ ⟨cf,ag,av,ax,value,br,ai,ah,ac,ap,set,aM,ao,aj,aG,aE,am,.bz c (.cM kb)⟩ M c (.cM kb)=(x,5+c.cj,AD ⟨cf,ag,av,ax,value,br,ai,ah++[c.cA],ac,ap,l2,aM,ao,aj,aG,aE,am,.bm⟩ c'.val (.cM kb),M'):=by
            unfold dZ;rw [hr];dsimp only;rw [h2,h4,jl,h7];rfl
           rw [e]
           intro A F hw hS
           refine ab Tryz.func44 rfl (by kernel_rfl) fun _=>?_
           dsimp only [na,zo] at hS
           obtain⟨⟨bh,aY,az,aJ,aK,m,c0,c1,c2,bx,aw,aB,aV,bQ,bg,cE,aW,aU,aC,bA,bC,cP,bR⟩,hS⟩:=bI.open hS .z
           dsimp only [cg,fq,bW,da,ba.eo,na,zo] at hS
           have hq:=ZO hS hw
           rw [uc] at mR
           repeat' (first
           | (with_reducible apply Kj;(·first|(simp;done)|(simp;rfl));(·first|(simp;done)|(simp;rfl));(·exact wA);(·exact sA);(·first|exact pP|exact kP);(·first|(simp;done)|(simp;rfl)|(simp [hq];done)|(simp [hq];rfl));(·first|omega|(simp;omega));(·intro _ _;trivial);rintro _ _ _ hS hw _;(try dsimp only [AW.aZ] at hS);have hq:=ZP hS hw)
           | (refine il fun R hR=>?_;simp [ak,au,hq,h2,h4,h5,h6,s7,gJ,AW.aa,af,aS,bq.v];try simp (disch:=omega) only [if_pos,if_neg,ak,au])
           | (refine hR _ _ ?_;clear hR R)|(refine hK _ _ ?_;clear hK K)|refine nx ?_
           | (refine EZ fun R hR=>?_;simp [ak,au,hq,h2,h4,h5,h6,s7,gJ,AW.aa,af,aS,bq.v];try simp (disch:=omega) only [if_pos,if_neg,ak,au])
           | (refine EF (fun R hR=>?_) (fun R hR=>?_)<;>(simp [ak,au,hq,h2,h4,h5,h6,s7,gJ,AW.aa,af,aS,bq.v];try simp (disch:=omega) only [if_pos,if_neg,ak,au]))
           | refine EY ?_
           | refine wn fun K hK=>?_
           | simp only [wS,lK,lJ,lI,lH]
           | simp only [hN,nC,jt,Option.map_none,Option.map_some,List.getElem?_toArray,List.getElem?_cons_zero,List.getElem?_cons_succ,List.getD_cons_zero,List.getD_cons_succ,Option.bind_some]
           | refine wl Tryz.mx lK (by decide +kernel) fun K hK=>?_
           | refine wl Tryz.mx lJ (by decide +kernel) fun K hK=>?_
           | refine wl Tryz.mx lI (by decide +kernel) fun K hK=>?_
           | refine wl Tryz.mx lH (by decide +kernel) fun K hK=>?_
           | (refine bD (kU _) ?_;rintro _ _ ⟨rfl,rfl⟩ _ _)
           | (refine ⟨fun A' kL=>by simp [AW.aa,kL],?_⟩)
           | (refine ⟨by simp [hq],?_⟩)
           | (refine wt (fun A'=>A'.cy b=some (.cells [pv bh,pv aY,bx,aw,aB,bJ br az,pv m,.int .i64 c.cj,cE,aT aG aJ,aQ aE aK,aW,aU,aC,bA,.int .i64 cf.aF,.int .i64 cf.aj,.int .i64 cf.base,.int .i64 cf.c0,.int .i64 cf.c1,.int .i64 cf.c2,.int .i64 cf.c3,.int .i64 cf.ah,.int .i64 cf.bX,.int .i64 cf.ac,.int .i64 cf.ap,.int .i64 cf.ao,.bool cf.cT,.int .i64 ag,.int .i64 av,.int .i64 ax,.int .i64 3,bC,.func (.func 181) #[] #[pv c0,pv c1],.int .i64 c.cA,.int .u64 value,aV,.int .u64 ao,.bool ai,.int .i64 am] true 1)) Tryz.mx [0,0,0,0,0,0,3,0,0,0,0,1,0,2,3,0] (.bu 0 (.bu 1 (.bu 2 (.bu 3 (.bu 4 (.bu 5 (.bu 7 (.bu 8 (.bu 9 (.bu 10 (.bu 11 (.bu 12 (.sC 6 (.bu 13 (.bu 14 (.bu 15 .nil))) 13 (.bu 6 (.bu 14 (.bu 15 .nil)))))))))))))))) (by decide +kernel) fun K hK=>?_)
           | (apply aP.el (dz m);(·exact wA);(·exact sA);(·first|exact pP|exact kP);rintro _ _ rfl hS hw _;have hS:=lA hS;have hq:=ZP hS hw)
           | (apply eT;(·exact wA);(·exact sA);(·first|exact pP|exact kP);)
           | (apply d9;(·exact wA);(·exact sA);(·first|exact pP|exact kP);)
           | (apply gh;(·exact wA);(·exact sA);(·first|exact pP|exact kP);(·first|omega|(simp;omega)|(simp [hq];done));)
           | (apply aP.el (mR bh);(·exact wA);(·exact sA);(·first|exact pP|exact kP);rintro _ _ rfl hS hw _;have hS:=lA hS;have hq:=ZP hS hw)
           | (apply jO;(·exact wA);(·exact sA);(·first|exact pP|exact kP);)
           | (apply aP.xU (py b c0 c1 ⟨cf,ag,av,ax,value,br,ai,ah++[c.cA],ac,ap,l2,aM,ao,aj,aG,aE,am,.bm⟩ kb c'.val rfl (UQ (ah++[c.cA]) l2 (by simp<;>omega) IR) S0);(·exact wA);(·exact sA);(·exact fP);(·first|exact pP|exact kP);(rintro _ _ _ hS hw _;have hS:=lA hS);(try (have hq:=ZP hS hw));all_goals(try (first|exact 0|exact undef)))
           | refine wb ?_|refine wr ?_|refine wk ?_|refine we ?_|refine ws ?_|refine wq ?_
           | (refine wc rfl (fun hc=>?_) (fun hc=>?_)<;>(try simp at hc)<;>(try omega)<;>(try (simp [h2] at hc;done))<;>(try (simp [h3] at hc;done))<;>(try (simp [h4] at hc;done)))
           | (refine ib (fun hc=>?_) (fun hc=>?_)<;>(try omega)<;>(try simp (disch:=omega) only [if_pos,if_neg])))
           all_goals(
            refine⟨_,by simp [hq,AW.aa,af];rfl,by simp [bq.v],?_⟩
            apply an.cC
            (·exact sA)
            (·first|exact pP|exact kP))
     · have h6:True:=trivial
       have h7:(if c.cA<cf.aF∧¬c.cA∈ah then (⟨cf,ag,av,ax,value,br,ai,ah++[c.cA],ac,ap,set,aM,ao,aj,aG,aE,am,.bz c' (.cM kb)⟩:aD) else ⟨cf,ag,av,ax,value,br,ai,ah,ac,ap,set,aM,ao,aj,aG,aE,am,.bz c' (.cM kb)⟩)=⟨cf,ag,av,ax,value,br,ai,ah,ac,ap,set,aM,ao,aj,aG,aE,am,.bz c' (.cM kb)⟩:=if_neg (fun h=>h5 h.1)
       obtain⟨q,l2,jl⟩:∃q l2,cr cf.ah.toNat set c.dl=(q,l2):=⟨_,_,rfl⟩
       have mR:=fun n=>ld n cf.ah.toNat set (fJ cf c.cA) fz Pw
       rw [←uc,jl] at mR
       dsimp only at mR
       have IR:l2.length≤cf.ah.toNat:=by
        have h9:(cr cf.ah.toNat set c.dl).2=l2:=by rw [jl]
        rw [←h9]
        unfold cr
        split
        · exact fz
        · split
          · exact fz
          · simp;omega
       have JM:q=false→l2=set:=by
        intro JG
        have h9:(cr cf.ah.toNat set c.dl).2=l2:=by rw [jl]
        have h8:(cr cf.ah.toNat set c.dl).1=q:=by rw [jl]
        rw [←h9]
        rw [JG] at h8
        unfold cr at h8 ⊢
        split
        · rfl
        · split
          · rfl
          · rename_i g1 g2;rw [if_neg g1,if_neg g2] at h8;cases h8
       cases q
       · have LD:=JM rfl
         subst l2
         have e:dZ ⟨cf,ag,av,ax,value,br,ai,ah,ac,ap,set,aM,ao,aj,aG,aE,am,.bz c (.cM kb)⟩ M c (.cM kb)=(x,5+c.cj,gy ⟨cf,ag,av,ax,value,br,ai,ah,ac,ap,set,aM,ao,aj,aG,aE,am,.bz c' (.cM kb)⟩ 3,M'):=by
          unfold dZ;rw [hr];dsimp only;rw [h2,h4,jl,h7];rfl
         rw [e]
         intro A F hw hS
         refine ab Tryz.func44 rfl (by kernel_rfl) fun _=>?_
         dsimp only [na,zo] at hS
         obtain⟨⟨bh,aY,az,aJ,aK,m,c0,c1,c2,bx,aw,aB,aV,bQ,bg,cE,aW,aU,aC,bA,bC,cP,bR⟩,hS⟩:=bI.open hS .z
         dsimp only [cg,fq,bW,da,ba.eo,na,zo] at hS
         have hq:=ZO hS hw
         rw [uc] at mR
         revert hq hS hw;(repeat first|clear hq|clear hS|clear hw|revert hc|revert zn|revert zA|revert R|revert K);refine Kv (Ml (Tg.mk (n:=10) @eT) (Tg.mk (n:=10) @d9) (Tg.mk (n:=14) @gh) (Tg.mk (n:=20) (iO b ⟨cf,ag,av,ax,value,br,ai,ah,ac,ap,set,aM,ao,aj,aG,aE,am,.bz c' (.cM kb)⟩ 3 3 .bm hC.cf hC.al hC.push (Nat.lt_of_le_of_lt hC.kN (by decide)))) (od lK) (od lJ) (od lI) (od lH) @kU (dz m) (mR bh) (⟨⟩:Ts (fun A'=>A'.cy b=some (.cells [pv bh,pv aY,bx,aw,aB,bJ br az,pv m,.int .i64 c.cj,cE,aT aG aJ,aQ aE aK,aW,aU,aC,bA,.int .i64 cf.aF,.int .i64 cf.aj,.int .i64 cf.base,.int .i64 cf.c0,.int .i64 cf.c1,.int .i64 cf.c2,.int .i64 cf.c3,.int .i64 cf.ah,.int .i64 cf.bX,.int .i64 cf.ac,.int .i64 cf.ap,.int .i64 cf.ao,.bool cf.cT,.int .i64 ag,.int .i64 av,.int .i64 ax,.int .i64 3,bC,.func (.func 181) #[] #[pv c0,pv c1],.int .i64 c.cA,.int .u64 value,aV,.int .u64 ao,.bool ai,.int .i64 am] true 1)) [0,0,0,0,0,0,3,0,0,0,0,1,0,2,3,0] (.bu 0 (.bu 1 (.bu 2 (.bu 3 (.bu 4 (.bu 5 (.bu 7 (.bu 8 (.bu 9 (.bu 10 (.bu 11 (.bu 12 (.sC 6 (.bu 13 (.bu 14 (.bu 15 .nil))) 13 (.bu 6 (.bu 14 (.bu 15 .nil)))))))))))))))))) (Kw h2 h4 h5 h6 s7 gJ @AW.aa @af.eq_1 @aS.eq_1 @bq.v.eq_1) (J2 ?_ ?_)<;>unhygienic intros
         all_goals(
          refine⟨_,by simp [hq,AW.aa,af];rfl,by simp [bq.v],?_⟩
          apply an.cC
          (·exact sA)
          (·first|exact pP|exact kP))
       · have e:dZ ⟨cf,ag,av,ax,value,br,ai,ah,ac,ap,set,aM,ao,aj,aG,aE,am,.bz c (.cM kb)⟩ M c (.cM kb)=(x,5+c.cj,AD ⟨cf,ag,av,ax,value,br,ai,ah,ac,ap,l2,aM,ao,aj,aG,aE,am,.bm⟩ c'.val (.cM kb),M'):=by
          unfold dZ;rw [hr];dsimp only;rw [h2,h4,jl,h7];rfl
         rw [e]
         intro A F hw hS
         refine ab Tryz.func44 rfl (by kernel_rfl) fun _=>?_
         dsimp only [na,zo] at hS
         obtain⟨⟨bh,aY,az,aJ,aK,m,c0,c1,c2,bx,aw,aB,aV,bQ,bg,cE,aW,aU,aC,bA,bC,cP,bR⟩,hS⟩:=bI.open hS .z
         dsimp only [cg,fq,bW,da,ba.eo,na,zo] at hS
         have hq:=ZO hS hw
         rw [uc] at mR
         repeat' (first
         | (with_reducible apply Kj;(·first|(simp;done)|(simp;rfl));(·first|(simp;done)|(simp;rfl));(·exact wA);(·exact sA);(·first|exact pP|exact kP);(·first|(simp;done)|(simp;rfl)|(simp [hq];done)|(simp [hq];rfl));(·first|omega|(simp;omega));(·intro _ _;trivial);rintro _ _ _ hS hw _;(try dsimp only [AW.aZ] at hS);have hq:=ZP hS hw)
         | (refine il fun R hR=>?_;simp [ak,au,hq,h2,h4,h5,h6,s7,gJ,AW.aa,af,aS,bq.v];try simp (disch:=omega) only [if_pos,if_neg,ak,au])
         | (refine hR _ _ ?_;clear hR R)|(refine hK _ _ ?_;clear hK K)|refine nx ?_
         | (refine EZ fun R hR=>?_;simp [ak,au,hq,h2,h4,h5,h6,s7,gJ,AW.aa,af,aS,bq.v];try simp (disch:=omega) only [if_pos,if_neg,ak,au])
         | (refine EF (fun R hR=>?_) (fun R hR=>?_)<;>(simp [ak,au,hq,h2,h4,h5,h6,s7,gJ,AW.aa,af,aS,bq.v];try simp (disch:=omega) only [if_pos,if_neg,ak,au]))
         | refine EY ?_
         | refine wn fun K hK=>?_
         | simp only [wS,lK,lJ,lI,lH]
         | simp only [hN,nC,jt,Option.map_none,Option.map_some,List.getElem?_toArray,List.getElem?_cons_zero,List.getElem?_cons_succ,List.getD_cons_zero,List.getD_cons_succ,Option.bind_some]
         | refine wl Tryz.mx lK (by decide +kernel) fun K hK=>?_
         | refine wl Tryz.mx lJ (by decide +kernel) fun K hK=>?_
         | refine wl Tryz.mx lI (by decide +kernel) fun K hK=>?_
         | refine wl Tryz.mx lH (by decide +kernel) fun K hK=>?_
         | (refine bD (kU _) ?_;rintro _ _ ⟨rfl,rfl⟩ _ _)
         | (refine ⟨fun A' kL=>by simp [AW.aa,kL],?_⟩)
         | (refine ⟨by simp [hq],?_⟩)
         | (refine wt (fun A'=>A'.cy b=some (.cells [pv bh,pv aY,bx,aw,aB,bJ br az,pv m,.int .i64 c.cj,cE,aT aG aJ,aQ aE aK,aW,aU,aC,bA,.int .i64 cf.aF,.int .i64 cf.aj,.int .i64 cf.base,.int .i64 cf.c0,.int .i64 cf.c1,.int .i64 cf.c2,.int .i64 cf.c3,.int .i64 cf.ah,.int .i64 cf.bX,.int .i64 cf.ac,.int .i64 cf.ap,.int .i64 cf.ao,.bool cf.cT,.int .i64 ag,.int .i64 av,.int .i64 ax,.int .i64 3,bC,.func (.func 181) #[] #[pv c0,pv c1],.int .i64 c.cA,.int .u64 value,aV,.int .u64 ao,.bool ai,.int .i64 am] true 1)) Tryz.mx [0,0,0,0,0,0,3,0,0,0,0,1,0,2,3,0] (.bu 0 (.bu 1 (.bu 2 (.bu 3 (.bu 4 (.bu 5 (.bu 7 (.bu 8 (.bu 9 (.bu 10 (.bu 11 (.bu 12 (.sC 6 (.bu 13 (.bu 14 (.bu 15 .nil))) 13 (.bu 6 (.bu 14 (.bu 15 .nil)))))))))))))))) (by decide +kernel) fun K hK=>?_)
         | (apply aP.el (dz m);(·exact wA);(·exact sA);(·first|exact pP|exact kP);rintro _ _ rfl hS hw _;have hS:=lA hS;have hq:=ZP hS hw)
         | (apply eT;(·exact wA);(·exact sA);(·first|exact pP|exact kP);)
         | (apply d9;(·exact wA);(·exact sA);(·first|exact pP|exact kP);)
         | (apply gh;(·exact wA);(·exact sA);(·first|exact pP|exact kP);(·first|omega|(simp;omega)|(simp [hq];done));)
         | (apply aP.el (mR bh);(·exact wA);(·exact sA);(·first|exact pP|exact kP);rintro _ _ rfl hS hw _;have hS:=lA hS;have hq:=ZP hS hw)
         | (apply jO;(·exact wA);(·exact sA);(·first|exact pP|exact kP);)
         | (apply aP.xU (py b c0 c1 ⟨cf,ag,av,ax,value,br,ai,ah,ac,ap,l2,aM,ao,aj,aG,aE,am,.bm⟩ kb c'.val rfl (UQ (ah) l2 (by omega) IR) S0);(·exact wA);(·exact sA);(·exact fP);(·first|exact pP|exact kP);(rintro _ _ _ hS hw _;have hS:=lA hS);(try (have hq:=ZP hS hw));all_goals(try (first|exact 0|exact undef)))
         | refine wb ?_|refine wr ?_|refine wk ?_|refine we ?_|refine ws ?_|refine wq ?_
         | (refine wc rfl (fun hc=>?_) (fun hc=>?_)<;>(try simp at hc)<;>(try omega)<;>(try (simp [h2] at hc;done))<;>(try (simp [h3] at hc;done))<;>(try (simp [h4] at hc;done)))
         | (refine ib (fun hc=>?_) (fun hc=>?_)<;>(try omega)<;>(try simp (disch:=omega) only [if_pos,if_neg])))
         all_goals(
          refine⟨_,by simp [hq,AW.aa,af];rfl,by simp [bq.v],?_⟩
          apply an.cC
          (·exact sA)
          (·first|exact pP|exact kP))
   · have e:dZ ⟨cf,ag,av,ax,value,br,ai,ah,ac,ap,set,aM,ao,aj,aG,aE,am,.bz c (.cM kb)⟩ M c (.cM kb)=(x,5+c.cj,gy ⟨cf,ag,av,ax,value,br,ai,ah,ac,ap,set,aM,ao,aj,aG,aE,am,.bz c' (.cM kb)⟩ 9,M'):=by
      unfold dZ;rw [hr];dsimp only;rw [h2,h4];simp
     rw [e]
     intro A F hw hS
     refine ab Tryz.func44 rfl (by kernel_rfl) fun _=>?_
     dsimp only [na,zo] at hS
     obtain⟨⟨bh,aY,az,aJ,aK,m,c0,c1,c2,bx,aw,aB,aV,bQ,bg,cE,aW,aU,aC,bA,bC,cP,bR⟩,hS⟩:=bI.open hS .z
     dsimp only [cg,fq,bW,da,ba.eo,na,zo] at hS
     have hq:=ZO hS hw
     revert hq hS hw;(repeat first|clear hq|clear hS|clear hw|revert hc|revert zn|revert zA|revert R|revert K);refine Kv (J9 (Tg.mk (n:=10) @eT) (Tg.mk (n:=10) @d9) (Tg.mk (n:=20) (iO b ⟨cf,ag,av,ax,value,br,ai,ah,ac,ap,set,aM,ao,aj,aG,aE,am,.bz c' (.cM kb)⟩ 3 9 .bm hC.cf hC.al hC.push (Nat.lt_of_le_of_lt hC.kN (by decide)))) (od lK) (od lJ) (od lI) (od lH) (dz m) (⟨⟩:Ts (fun A'=>A'.cy b=some (.cells [pv bh,pv aY,bx,aw,aB,bJ br az,pv m,.int .i64 c.cj,cE,aT aG aJ,aQ aE aK,aW,aU,aC,bA,.int .i64 cf.aF,.int .i64 cf.aj,.int .i64 cf.base,.int .i64 cf.c0,.int .i64 cf.c1,.int .i64 cf.c2,.int .i64 cf.c3,.int .i64 cf.ah,.int .i64 cf.bX,.int .i64 cf.ac,.int .i64 cf.ap,.int .i64 cf.ao,.bool cf.cT,.int .i64 ag,.int .i64 av,.int .i64 ax,.int .i64 3,bC,.func (.func 181) #[] #[pv c0,pv c1],.int .i64 c.cA,.int .u64 value,aV,.int .u64 ao,.bool ai,.int .i64 am] true 1)) [0,0,0,0,0,0,3,0,0,0,0,1,0,2,3,0] (.bu 0 (.bu 1 (.bu 2 (.bu 3 (.bu 4 (.bu 5 (.bu 7 (.bu 8 (.bu 9 (.bu 10 (.bu 11 (.bu 12 (.sC 6 (.bu 13 (.bu 14 (.bu 15 .nil))) 13 (.bu 6 (.bu 14 (.bu 15 .nil)))))))))))))))))) (J8 h2 h4 s7 gJ @AW.aa @af.eq_1 @aS.eq_1 @bq.v.eq_1) (J2 ?_ ?_)<;>unhygienic intros
     all_goals(
      refine⟨_,by simp [hq,AW.aa,af];rfl,by simp [bq.v],?_⟩
      apply an.cC
      (·exact sA)
      (·first|exact pP|exact kP))
end
end Go.Stx
