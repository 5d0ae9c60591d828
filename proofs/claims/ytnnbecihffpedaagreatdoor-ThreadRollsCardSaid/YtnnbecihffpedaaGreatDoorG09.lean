/-
 The program's attempt: reading.
-/
import Derived.Test.YtnnbecihffpedaaGreatDoorG08
set_option linter.unusedVariables false
set_option linter.unusedSimpArgs false
set_option linter.unusedSectionVars false
set_option maxRecDepth 20000
set_option maxHeartbeats 4000000
namespace Go.Stx
open Go Go.Proofs
attribute [local irreducible] TW bC cB aW az aG bZ cz
section
abbrev pB:List (Nat×Nat):=[(0,0),(1,0),(2,0),(3,0),(4,0),(5,0),(6,0),(7,0),(8,0),(9,0),(10,0),(11,0),(12,0),(13,0),(14,0),(15,0),(16,0),(17,0),(18,0),(19,0),(20,2),(21,0),(22,0)]
abbrev pz:List (Nat×Nat):=[(0,0),(1,0),(2,0),(3,0),(4,0),(5,0),(6,0),(7,0),(8,0),(9,0),(10,2),(11,3),(12,0),(13,0),(14,0),(15,3)]
abbrev py:List (Nat×Nat):=[(0,0),(1,0),(2,0),(3,0),(4,0),(5,0),(6,0),(7,0),(8,0),(9,0),(10,0),(11,0),(12,0),(13,2),(14,3),(15,0)]
abbrev px:List (Nat×Nat):=[(0,0),(1,0),(2,0),(3,0),(4,0),(5,0),(6,0),(7,0),(8,0),(9,2),(10,3)]
open T20 T13
variable [Gl]
set_option maxHeartbeats 16000000 in
theorem Bi (b pb:Nat) (s:aF) (c:fV) (kb:Int) (M:Mm) (hd:s.aC=.aP c (.cU kb)) (hC:fN s) (WU:s.reads.length+1<2^20) (hca:0<=c.br/\c.br<=2) (zG:c.fw=fF s.cf c.cg) (hkb:0<=kb/\kb<s.cf.nb) :
 bf Tryz.prog 110 [pv b,pv pb] [.h (aX b s),dH pb M] (λv=>v=.tuple #[(dq s M c (.cU kb)).1.v,.int .i64 (dq s M c (.cU kb)).2.1])
  (λ_=>[.h (aX b (dq s M c (.cU kb)).2.2.1),dH pb (dq s M c (.cU kb)).2.2.2]):=by
 (unhygienic cases s);dsimp only at hd;subst hd;dsimp only at hkb;dsimp only at zG WU;obtain⟨VT,Ux⟩:=hC.cf.reads;have kc:=hC.set;dsimp only at VT Ux kc;have wz:cf.reads.toNat<=32:=by omega
 obtain⟨x,c',M',hr⟩:∃x e' M',dg c M=(x,e',M'):=⟨_,_,_,rfl⟩;have de:=λn=>uW n pb c M;rw [hr] at de;have ED:IntKind.i64.wrap (5+c.br)=5+c.br:=an (by omega) (by omega);have i5:IntKind.i64.wrap (c.br+1)=c.br+1:=an (by omega) (by omega);have nc:¬c'.br=3->c'.br=c.br+1:=by
  intro hn;have NX:(dg c M).2.1=c':=by rw [hr]
  rcases oy c M with ⟨h,e⟩|⟨h,e⟩|⟨h,e⟩|⟨h,e⟩|⟨h,e⟩|⟨h,e⟩<;>(rw [e] at NX;subst NX;dsimp only at hn ⊢;try omega)
 have yT:c'.cg=c.cg:=by
  have NX:(dg c M).2.1=c':=by rw [hr]
  rcases oy c M with ⟨h,e⟩|⟨h,e⟩|⟨h,e⟩|⟨h,e⟩|⟨h,e⟩|⟨h,e⟩<;>(rw [e] at NX;subst NX;rfl)
 have mf:=ul cf hC.cf c.cg;dsimp only [bH.v] at mf;have hCX:∀rd l2,rd.length<2^20->l2.length<=cf.reads.toNat->fN ⟨cf,ak,aA,av,value,bS,ai,rd,ag,ar,l2,bp,aw,am,aJ,aI,aj,.bq⟩:=λrd l2 h1 h2=>⟨hC.cf,hC.Om,hC.bp,hC.ee,hC.dm,hC.Gx,hC.NH,hC.ln,hC.push,h2,h1,hC.An⟩;cases h2:c'.done
 . have h3:¬c'.br=3:=by simpa [fV.done] using h2
   have e:dq ⟨cf,ak,aA,av,value,bS,ai,reads,ag,ar,set,bp,aw,am,aJ,aI,aj,.aP c (.cU kb)⟩ M c (.cU kb)=(x,5+c.br,⟨cf,ak,aA,av,value,bS,ai,reads,ag,ar,set,bp,aw,am,aJ,aI,aj,.aP c' (.cU kb)⟩,M'):=by
    unfold dq;rw [hr];dsimp only;rw [h2];simp
   rw [e];intro A F hw hS;refine aH Tryz.func110 λ_=>?_;dsimp only [aa,af] at hS;obtain⟨x0,hS⟩:=aX.open hS .z;(unhygienic cases x0);dsimp only [bW,gH,b9,dZ,bm.fA,aa,af] at hS;have hq:=ff hS hw;revert hq hS hw;clear hS;refine Wu (J7 (Tg.mk (n:=10) @eg) (od pB) (od pz) (od py) (od px) (de m) (⟨⟩:Ts (λA'=>A'.bt b=some (.cells [pv dP,pv d9,cX,bj,bO,mv bS bG,pv m,.int .i64 c.br,eB,iM aJ cJ,gN aI cA,bR,bP,aZ,cZ,.int .i64 cf.aR,.int .i64 cf.am,.int .i64 cf.base,.int .i64 cf.c0,.int .i64 cf.c1,.int .i64 cf.c2,.int .i64 cf.c3,.int .i64 cf.reads,.int .i64 cf.cM,.int .i64 cf.ag,.int .i64 cf.ar,.int .i64 cf.aw,.bool cf.aT,.int .i64 ak,.int .i64 aA,.int .i64 av,.int .i64 3,db,.func (.func 231) #[] #[pv c0,pv c1],.int .i64 c.cg,.int .u64 value,bQ,.int .u64 aw,.bool ai,.int .i64 aj] true 1)) [0,0,0,0,0,0,3,0,0,0,0,1,0,2,3,0] (.aY 0 (.aY 1 (.aY 2 (.aY 3 (.aY 4 (.aY 5 (.aY 7 (.aY 8 (.aY 9 (.aY 10 (.aY 11 (.aY 12 (.uS 6 (.aY 13 (.aY 14 (.aY 15 .nil))) 13 (.aY 6 (.aY 14 (.aY 15 .nil)))))))))))))))))) (J6 h2 ED i5 bF @bd.eq_1 @aU.v.eq_1) (J2 ?_ ?_)<;>(unhygienic intros)
   all_goals(have h:c'.br=c.br+1/\c'.cg=c.cg:=⟨nc h3,yT⟩)
   all_goals(
    refine⟨_,by simp [hq,AW.ab,aD];rfl,by simp [aU.v],?_⟩;apply aX.bI
    (·exact sA)
    exact fP
    (·first|exact pP|exact kP)
    all_goals(first|exact 0|exact undef))
 cases h4:c'.dh
 . by_cases h5:c.cg<cf.aR
   . by_cases h6:c.cg∈reads
     . have h7:(if c.cg<cf.aR/\¬c.cg∈reads then (⟨cf,ak,aA,av,value,bS,ai,reads++[c.cg],ag,ar,set,bp,aw,am,aJ,aI,aj,.aP c' (.cU kb)⟩:aF) else ⟨cf,ak,aA,av,value,bS,ai,reads,ag,ar,set,bp,aw,am,aJ,aI,aj,.aP c' (.cU kb)⟩)=⟨cf,ak,aA,av,value,bS,ai,reads,ag,ar,set,bp,aw,am,aJ,aI,aj,.aP c' (.cU kb)⟩:=ap (λh=>h.2 h6);obtain⟨q,l2,rC⟩:∃q l2,dy cf.reads.toNat set c.fw=(q,l2):=⟨_,_,rfl⟩;have gJ:=λn=>k7 n cf.reads.toNat set (fF cf c.cg) kc wz;rw [<-zG,rC] at gJ;dsimp only at gJ;have Kg:l2.length<=cf.reads.toNat:=by
        have h9:(dy cf.reads.toNat set c.fw).2=l2:=(by rw [rC]);rw [<-h9];unfold dy;split;exact kc;split;exact kc;simp;omega
       have DP:q=false->l2=set:=by
        intro MX;have h9:(dy cf.reads.toNat set c.fw).2=l2:=(by rw [rC]);have h8:(dy cf.reads.toNat set c.fw).1=q:=(by rw [rC]);rw [<-h9];rw [MX] at h8;unfold dy at h8 ⊢;split;rfl;split;rfl;rename_i g1 g2;rw [ap g1,ap g2] at h8;cases h8
       cases q
       . have PD:=DP rfl;subst l2;have e:dq ⟨cf,ak,aA,av,value,bS,ai,reads,ag,ar,set,bp,aw,am,aJ,aI,aj,.aP c (.cU kb)⟩ M c (.cU kb)=(x,5+c.br,iL ⟨cf,ak,aA,av,value,bS,ai,reads,ag,ar,set,bp,aw,am,aJ,aI,aj,.aP c' (.cU kb)⟩ 3,M'):=by
          unfold dq;rw [hr];dsimp only;rw [h2,h4,rC,h7];rfl
         rw [e];intro A F hw hS;refine aH Tryz.func110 λ_=>?_;dsimp only [aa,af] at hS;obtain⟨x0,hS⟩:=aX.open hS .z;(unhygienic cases x0);dsimp only [bW,gH,b9,dZ,bm.fA,aa,af] at hS;have hq:=ff hS hw;rw [zG] at gJ;revert hq hS hw;(repeat first|clear hq|clear hS|clear hw|revert hc|revert R|revert K);refine Wu (rL (Tg.mk (n:=10) @eg) (Tg.mk (n:=10) @dD) (Tg.mk (n:=14) @fD) (Tg.mk (n:=20) (iz b ⟨cf,ak,aA,av,value,bS,ai,reads,ag,ar,set,bp,aw,am,aJ,aI,aj,.aP c' (.cU kb)⟩ 3 3 .bq hC.cf hC.al hC.push (Nat.lt_of_le_of_lt hC.ln (by decide)))) (od pB) (od pz) (od py) (od px) @mf (de m) (gJ dP) (⟨⟩:Ts (λA'=>A'.bt b=some (.cells [pv dP,pv d9,cX,bj,bO,mv bS bG,pv m,.int .i64 c.br,eB,iM aJ cJ,gN aI cA,bR,bP,aZ,cZ,.int .i64 cf.aR,.int .i64 cf.am,.int .i64 cf.base,.int .i64 cf.c0,.int .i64 cf.c1,.int .i64 cf.c2,.int .i64 cf.c3,.int .i64 cf.reads,.int .i64 cf.cM,.int .i64 cf.ag,.int .i64 cf.ar,.int .i64 cf.aw,.bool cf.aT,.int .i64 ak,.int .i64 aA,.int .i64 av,.int .i64 3,db,.func (.func 231) #[] #[pv c0,pv c1],.int .i64 c.cg,.int .u64 value,bQ,.int .u64 aw,.bool ai,.int .i64 aj] true 1)) [0,0,0,0,0,0,3,0,0,0,0,1,0,2,3,0] (.aY 0 (.aY 1 (.aY 2 (.aY 3 (.aY 4 (.aY 5 (.aY 7 (.aY 8 (.aY 9 (.aY 10 (.aY 11 (.aY 12 (.uS 6 (.aY 13 (.aY 14 (.aY 15 .nil))) 13 (.aY 6 (.aY 14 (.aY 15 .nil)))))))))))))))))) (J9 h2 h4 h5 h6 ED i5 bF @bd.eq_1 @aU.v.eq_1) (J2 ?_ ?_)<;>(unhygienic intros)
         all_goals(
          refine⟨_,by simp [hq,AW.ab,aD];rfl,by simp [aU.v],?_⟩;apply ah.bI
          (·exact sA)
          (·first|exact pP|exact kP))
       have e:dq ⟨cf,ak,aA,av,value,bS,ai,reads,ag,ar,set,bp,aw,am,aJ,aI,aj,.aP c (.cU kb)⟩ M c (.cU kb)=(x,5+c.br,Ab ⟨cf,ak,aA,av,value,bS,ai,reads,ag,ar,l2,bp,aw,am,aJ,aI,aj,.bq⟩ c'.val (.cU kb),M'):=by
        unfold dq;rw [hr];dsimp only;rw [h2,h4,rC,h7];rfl
       rw [e];intro A F hw hS;refine aH Tryz.func110 λ_=>?_;dsimp only [aa,af] at hS;obtain⟨x0,hS⟩:=aX.open hS .z;(unhygienic cases x0);dsimp only [bW,gH,b9,dZ,bm.fA,aa,af] at hS;have hq:=ff hS hw;rw [zG] at gJ;revert hq hS hw;(repeat first|clear hq|clear hS|clear hw|revert hc|revert R|revert K);refine Wu (kM (Tg.mk (n:=10) @eg) (Tg.mk (n:=10) @dD) (Tg.mk (n:=14) @fD) (Tg.mk (n:=10) @jy) (Tg.mk (n:=21) (pM b c0 c1 ⟨cf,ak,aA,av,value,bS,ai,reads,ag,ar,l2,bp,aw,am,aJ,aI,aj,.bq⟩ kb c'.val rfl (hCX (reads) l2 (by omega) Kg) hkb)) (od pB) (od pz) (od py) (od px) @mf (de m) (gJ dP) (⟨⟩:Ts (λA'=>A'.bt b=some (.cells [pv dP,pv d9,cX,bj,bO,mv bS bG,pv m,.int .i64 c.br,eB,iM aJ cJ,gN aI cA,bR,bP,aZ,cZ,.int .i64 cf.aR,.int .i64 cf.am,.int .i64 cf.base,.int .i64 cf.c0,.int .i64 cf.c1,.int .i64 cf.c2,.int .i64 cf.c3,.int .i64 cf.reads,.int .i64 cf.cM,.int .i64 cf.ag,.int .i64 cf.ar,.int .i64 cf.aw,.bool cf.aT,.int .i64 ak,.int .i64 aA,.int .i64 av,.int .i64 3,db,.func (.func 231) #[] #[pv c0,pv c1],.int .i64 c.cg,.int .u64 value,bQ,.int .u64 aw,.bool ai,.int .i64 aj] true 1)) [0,0,0,0,0,0,3,0,0,0,0,1,0,2,3,0] (.aY 0 (.aY 1 (.aY 2 (.aY 3 (.aY 4 (.aY 5 (.aY 7 (.aY 8 (.aY 9 (.aY 10 (.aY 11 (.aY 12 (.uS 6 (.aY 13 (.aY 14 (.aY 15 .nil))) 13 (.aY 6 (.aY 14 (.aY 15 .nil)))))))))))))))))) (J9 h2 h4 h5 h6 ED i5 bF @bd.eq_1 @aU.v.eq_1) (J2 ?_ ?_)<;>(unhygienic intros)
       all_goals(
        refine⟨_,by simp [hq,AW.ab,aD];rfl,by simp [aU.v],?_⟩;apply ah.bI
        (·exact sA)
        (·first|exact pP|exact kP))
     have h7:(if c.cg<cf.aR/\¬c.cg∈reads then (⟨cf,ak,aA,av,value,bS,ai,reads++[c.cg],ag,ar,set,bp,aw,am,aJ,aI,aj,.aP c' (.cU kb)⟩:aF) else ⟨cf,ak,aA,av,value,bS,ai,reads,ag,ar,set,bp,aw,am,aJ,aI,aj,.aP c' (.cU kb)⟩)=⟨cf,ak,aA,av,value,bS,ai,reads++[c.cg],ag,ar,set,bp,aw,am,aJ,aI,aj,.aP c' (.cU kb)⟩:=ay ⟨h5,h6⟩;obtain⟨q,l2,rC⟩:∃q l2,dy cf.reads.toNat set c.fw=(q,l2):=⟨_,_,rfl⟩;have gJ:=λn=>k7 n cf.reads.toNat set (fF cf c.cg) kc wz;rw [<-zG,rC] at gJ;dsimp only at gJ;have Kg:l2.length<=cf.reads.toNat:=by
      have h9:(dy cf.reads.toNat set c.fw).2=l2:=(by rw [rC]);rw [<-h9];unfold dy;split;exact kc;split;exact kc;simp;omega
     have DP:q=false->l2=set:=by
      intro MX;have h9:(dy cf.reads.toNat set c.fw).2=l2:=(by rw [rC]);have h8:(dy cf.reads.toNat set c.fw).1=q:=(by rw [rC]);rw [<-h9];rw [MX] at h8;unfold dy at h8 ⊢;split;rfl;split;rfl;rename_i g1 g2;rw [ap g1,ap g2] at h8;cases h8
     cases q
     . have PD:=DP rfl;subst l2;have e:dq ⟨cf,ak,aA,av,value,bS,ai,reads,ag,ar,set,bp,aw,am,aJ,aI,aj,.aP c (.cU kb)⟩ M c (.cU kb)=(x,5+c.br,iL ⟨cf,ak,aA,av,value,bS,ai,reads++[c.cg],ag,ar,set,bp,aw,am,aJ,aI,aj,.aP c' (.cU kb)⟩ 3,M'):=by
        unfold dq;rw [hr];dsimp only;rw [h2,h4,rC,h7];rfl
       rw [e];intro A F hw hS;refine aH Tryz.func110 λ_=>?_;dsimp only [aa,af] at hS;obtain⟨x0,hS⟩:=aX.open hS .z;(unhygienic cases x0);dsimp only [bW,gH,b9,dZ,bm.fA,aa,af] at hS;have hq:=ff hS hw;rw [zG] at gJ;revert hq hS hw;(repeat first|clear hq|clear hS|clear hw|revert hc|revert R|revert K);refine Wu (rL (Tg.mk (n:=10) @eg) (Tg.mk (n:=10) @dD) (Tg.mk (n:=14) @fD) (Tg.mk (n:=20) (iz b ⟨cf,ak,aA,av,value,bS,ai,reads++[c.cg],ag,ar,set,bp,aw,am,aJ,aI,aj,.aP c' (.cU kb)⟩ 3 3 .bq hC.cf hC.al hC.push (Nat.lt_of_le_of_lt hC.ln (by decide)))) (od pB) (od pz) (od py) (od px) @mf (de m) (gJ dP) (⟨⟩:Ts (λA'=>A'.bt b=some (.cells [pv dP,pv d9,cX,bj,bO,mv bS bG,pv m,.int .i64 c.br,eB,iM aJ cJ,gN aI cA,bR,bP,aZ,cZ,.int .i64 cf.aR,.int .i64 cf.am,.int .i64 cf.base,.int .i64 cf.c0,.int .i64 cf.c1,.int .i64 cf.c2,.int .i64 cf.c3,.int .i64 cf.reads,.int .i64 cf.cM,.int .i64 cf.ag,.int .i64 cf.ar,.int .i64 cf.aw,.bool cf.aT,.int .i64 ak,.int .i64 aA,.int .i64 av,.int .i64 3,db,.func (.func 231) #[] #[pv c0,pv c1],.int .i64 c.cg,.int .u64 value,bQ,.int .u64 aw,.bool ai,.int .i64 aj] true 1)) [0,0,0,0,0,0,3,0,0,0,0,1,0,2,3,0] (.aY 0 (.aY 1 (.aY 2 (.aY 3 (.aY 4 (.aY 5 (.aY 7 (.aY 8 (.aY 9 (.aY 10 (.aY 11 (.aY 12 (.uS 6 (.aY 13 (.aY 14 (.aY 15 .nil))) 13 (.aY 6 (.aY 14 (.aY 15 .nil)))))))))))))))))) (J9 h2 h4 h5 h6 ED i5 bF @bd.eq_1 @aU.v.eq_1) (J2 ?_ ?_)<;>(unhygienic intros)
       all_goals(
        refine⟨_,by simp [hq,AW.ab,aD];rfl,by simp [aU.v],?_⟩;apply ah.bI
        (·exact sA)
        (·first|exact pP|exact kP))
     have e:dq ⟨cf,ak,aA,av,value,bS,ai,reads,ag,ar,set,bp,aw,am,aJ,aI,aj,.aP c (.cU kb)⟩ M c (.cU kb)=(x,5+c.br,Ab ⟨cf,ak,aA,av,value,bS,ai,reads++[c.cg],ag,ar,l2,bp,aw,am,aJ,aI,aj,.bq⟩ c'.val (.cU kb),M'):=by
      unfold dq;rw [hr];dsimp only;rw [h2,h4,rC,h7];rfl
     rw [e];intro A F hw hS;refine aH Tryz.func110 λ_=>?_;dsimp only [aa,af] at hS;obtain⟨x0,hS⟩:=aX.open hS .z;(unhygienic cases x0);dsimp only [bW,gH,b9,dZ,bm.fA,aa,af] at hS;have hq:=ff hS hw;rw [zG] at gJ;revert hq hS hw;(repeat first|clear hq|clear hS|clear hw|revert hc|revert R|revert K);refine Wu (kM (Tg.mk (n:=10) @eg) (Tg.mk (n:=10) @dD) (Tg.mk (n:=14) @fD) (Tg.mk (n:=10) @jy) (Tg.mk (n:=21) (pM b c0 c1 ⟨cf,ak,aA,av,value,bS,ai,reads++[c.cg],ag,ar,l2,bp,aw,am,aJ,aI,aj,.bq⟩ kb c'.val rfl (hCX (reads++[c.cg]) l2 (by simp<;>omega) Kg) hkb)) (od pB) (od pz) (od py) (od px) @mf (de m) (gJ dP) (⟨⟩:Ts (λA'=>A'.bt b=some (.cells [pv dP,pv d9,cX,bj,bO,mv bS bG,pv m,.int .i64 c.br,eB,iM aJ cJ,gN aI cA,bR,bP,aZ,cZ,.int .i64 cf.aR,.int .i64 cf.am,.int .i64 cf.base,.int .i64 cf.c0,.int .i64 cf.c1,.int .i64 cf.c2,.int .i64 cf.c3,.int .i64 cf.reads,.int .i64 cf.cM,.int .i64 cf.ag,.int .i64 cf.ar,.int .i64 cf.aw,.bool cf.aT,.int .i64 ak,.int .i64 aA,.int .i64 av,.int .i64 3,db,.func (.func 231) #[] #[pv c0,pv c1],.int .i64 c.cg,.int .u64 value,bQ,.int .u64 aw,.bool ai,.int .i64 aj] true 1)) [0,0,0,0,0,0,3,0,0,0,0,1,0,2,3,0] (.aY 0 (.aY 1 (.aY 2 (.aY 3 (.aY 4 (.aY 5 (.aY 7 (.aY 8 (.aY 9 (.aY 10 (.aY 11 (.aY 12 (.uS 6 (.aY 13 (.aY 14 (.aY 15 .nil))) 13 (.aY 6 (.aY 14 (.aY 15 .nil)))))))))))))))))) (J9 h2 h4 h5 h6 ED i5 bF @bd.eq_1 @aU.v.eq_1) (J2 ?_ ?_)<;>(unhygienic intros)
     all_goals(
      refine⟨_,by simp [hq,AW.ab,aD];rfl,by simp [aU.v],?_⟩;apply ah.bI
      (·exact sA)
      (·first|exact pP|exact kP))
   have h6:True:=trivial;have h7:(if c.cg<cf.aR/\¬c.cg∈reads then (⟨cf,ak,aA,av,value,bS,ai,reads++[c.cg],ag,ar,set,bp,aw,am,aJ,aI,aj,.aP c' (.cU kb)⟩:aF) else ⟨cf,ak,aA,av,value,bS,ai,reads,ag,ar,set,bp,aw,am,aJ,aI,aj,.aP c' (.cU kb)⟩)=⟨cf,ak,aA,av,value,bS,ai,reads,ag,ar,set,bp,aw,am,aJ,aI,aj,.aP c' (.cU kb)⟩:=ap (λh=>h5 h.1);obtain⟨q,l2,rC⟩:∃q l2,dy cf.reads.toNat set c.fw=(q,l2):=⟨_,_,rfl⟩;have gJ:=λn=>k7 n cf.reads.toNat set (fF cf c.cg) kc wz;rw [<-zG,rC] at gJ;dsimp only at gJ;have Kg:l2.length<=cf.reads.toNat:=by
    have h9:(dy cf.reads.toNat set c.fw).2=l2:=(by rw [rC]);rw [<-h9];unfold dy;split;exact kc;split;exact kc;simp;omega
   have DP:q=false->l2=set:=by
    intro MX;have h9:(dy cf.reads.toNat set c.fw).2=l2:=(by rw [rC]);have h8:(dy cf.reads.toNat set c.fw).1=q:=(by rw [rC]);rw [<-h9];rw [MX] at h8;unfold dy at h8 ⊢;split;rfl;split;rfl;rename_i g1 g2;rw [ap g1,ap g2] at h8;cases h8
   cases q
   . have PD:=DP rfl;subst l2;have e:dq ⟨cf,ak,aA,av,value,bS,ai,reads,ag,ar,set,bp,aw,am,aJ,aI,aj,.aP c (.cU kb)⟩ M c (.cU kb)=(x,5+c.br,iL ⟨cf,ak,aA,av,value,bS,ai,reads,ag,ar,set,bp,aw,am,aJ,aI,aj,.aP c' (.cU kb)⟩ 3,M'):=by
      unfold dq;rw [hr];dsimp only;rw [h2,h4,rC,h7];rfl
     rw [e];intro A F hw hS;refine aH Tryz.func110 λ_=>?_;dsimp only [aa,af] at hS;obtain⟨x0,hS⟩:=aX.open hS .z;(unhygienic cases x0);dsimp only [bW,gH,b9,dZ,bm.fA,aa,af] at hS;have hq:=ff hS hw;rw [zG] at gJ;revert hq hS hw;(repeat first|clear hq|clear hS|clear hw|revert hc|revert R|revert K);refine Wu (rL (Tg.mk (n:=10) @eg) (Tg.mk (n:=10) @dD) (Tg.mk (n:=14) @fD) (Tg.mk (n:=20) (iz b ⟨cf,ak,aA,av,value,bS,ai,reads,ag,ar,set,bp,aw,am,aJ,aI,aj,.aP c' (.cU kb)⟩ 3 3 .bq hC.cf hC.al hC.push (Nat.lt_of_le_of_lt hC.ln (by decide)))) (od pB) (od pz) (od py) (od px) @mf (de m) (gJ dP) (⟨⟩:Ts (λA'=>A'.bt b=some (.cells [pv dP,pv d9,cX,bj,bO,mv bS bG,pv m,.int .i64 c.br,eB,iM aJ cJ,gN aI cA,bR,bP,aZ,cZ,.int .i64 cf.aR,.int .i64 cf.am,.int .i64 cf.base,.int .i64 cf.c0,.int .i64 cf.c1,.int .i64 cf.c2,.int .i64 cf.c3,.int .i64 cf.reads,.int .i64 cf.cM,.int .i64 cf.ag,.int .i64 cf.ar,.int .i64 cf.aw,.bool cf.aT,.int .i64 ak,.int .i64 aA,.int .i64 av,.int .i64 3,db,.func (.func 231) #[] #[pv c0,pv c1],.int .i64 c.cg,.int .u64 value,bQ,.int .u64 aw,.bool ai,.int .i64 aj] true 1)) [0,0,0,0,0,0,3,0,0,0,0,1,0,2,3,0] (.aY 0 (.aY 1 (.aY 2 (.aY 3 (.aY 4 (.aY 5 (.aY 7 (.aY 8 (.aY 9 (.aY 10 (.aY 11 (.aY 12 (.uS 6 (.aY 13 (.aY 14 (.aY 15 .nil))) 13 (.aY 6 (.aY 14 (.aY 15 .nil)))))))))))))))))) (J9 h2 h4 h5 h6 ED i5 bF @bd.eq_1 @aU.v.eq_1) (J2 ?_ ?_)<;>(unhygienic intros)
     all_goals(
      refine⟨_,by simp [hq,AW.ab,aD];rfl,by simp [aU.v],?_⟩;apply ah.bI
      (·exact sA)
      (·first|exact pP|exact kP))
   have e:dq ⟨cf,ak,aA,av,value,bS,ai,reads,ag,ar,set,bp,aw,am,aJ,aI,aj,.aP c (.cU kb)⟩ M c (.cU kb)=(x,5+c.br,Ab ⟨cf,ak,aA,av,value,bS,ai,reads,ag,ar,l2,bp,aw,am,aJ,aI,aj,.bq⟩ c'.val (.cU kb),M'):=by
    unfold dq;rw [hr];dsimp only;rw [h2,h4,rC,h7];rfl
   rw [e];intro A F hw hS;refine aH Tryz.func110 λ_=>?_;dsimp only [aa,af] at hS;obtain⟨x0,hS⟩:=aX.open hS .z;(unhygienic cases x0);dsimp only [bW,gH,b9,dZ,bm.fA,aa,af] at hS;have hq:=ff hS hw;rw [zG] at gJ;revert hq hS hw;(repeat first|clear hq|clear hS|clear hw|revert hc|revert R|revert K);refine Wu (kM (Tg.mk (n:=10) @eg) (Tg.mk (n:=10) @dD) (Tg.mk (n:=14) @fD) (Tg.mk (n:=10) @jy) (Tg.mk (n:=21) (pM b c0 c1 ⟨cf,ak,aA,av,value,bS,ai,reads,ag,ar,l2,bp,aw,am,aJ,aI,aj,.bq⟩ kb c'.val rfl (hCX (reads) l2 (by omega) Kg) hkb)) (od pB) (od pz) (od py) (od px) @mf (de m) (gJ dP) (⟨⟩:Ts (λA'=>A'.bt b=some (.cells [pv dP,pv d9,cX,bj,bO,mv bS bG,pv m,.int .i64 c.br,eB,iM aJ cJ,gN aI cA,bR,bP,aZ,cZ,.int .i64 cf.aR,.int .i64 cf.am,.int .i64 cf.base,.int .i64 cf.c0,.int .i64 cf.c1,.int .i64 cf.c2,.int .i64 cf.c3,.int .i64 cf.reads,.int .i64 cf.cM,.int .i64 cf.ag,.int .i64 cf.ar,.int .i64 cf.aw,.bool cf.aT,.int .i64 ak,.int .i64 aA,.int .i64 av,.int .i64 3,db,.func (.func 231) #[] #[pv c0,pv c1],.int .i64 c.cg,.int .u64 value,bQ,.int .u64 aw,.bool ai,.int .i64 aj] true 1)) [0,0,0,0,0,0,3,0,0,0,0,1,0,2,3,0] (.aY 0 (.aY 1 (.aY 2 (.aY 3 (.aY 4 (.aY 5 (.aY 7 (.aY 8 (.aY 9 (.aY 10 (.aY 11 (.aY 12 (.uS 6 (.aY 13 (.aY 14 (.aY 15 .nil))) 13 (.aY 6 (.aY 14 (.aY 15 .nil)))))))))))))))))) (J9 h2 h4 h5 h6 ED i5 bF @bd.eq_1 @aU.v.eq_1) (J2 ?_ ?_)<;>(unhygienic intros)
   all_goals(
    refine⟨_,by simp [hq,AW.ab,aD];rfl,by simp [aU.v],?_⟩;apply ah.bI
    (·exact sA)
    (·first|exact pP|exact kP))
 have e:dq ⟨cf,ak,aA,av,value,bS,ai,reads,ag,ar,set,bp,aw,am,aJ,aI,aj,.aP c (.cU kb)⟩ M c (.cU kb)=(x,5+c.br,iL ⟨cf,ak,aA,av,value,bS,ai,reads,ag,ar,set,bp,aw,am,aJ,aI,aj,.aP c' (.cU kb)⟩ 9,M'):=by
  unfold dq;rw [hr];dsimp only;rw [h2,h4];simp
 rw [e];intro A F hw hS;refine aH Tryz.func110 λ_=>?_;dsimp only [aa,af] at hS;obtain⟨x0,hS⟩:=aX.open hS .z;(unhygienic cases x0);dsimp only [bW,gH,b9,dZ,bm.fA,aa,af] at hS;have hq:=ff hS hw;revert hq hS hw;(repeat first|clear hq|clear hS|clear hw|revert hc|revert R|revert K);refine Wu (J9 (Tg.mk (n:=10) @eg) (Tg.mk (n:=10) @dD) (Tg.mk (n:=20) (iz b ⟨cf,ak,aA,av,value,bS,ai,reads,ag,ar,set,bp,aw,am,aJ,aI,aj,.aP c' (.cU kb)⟩ 3 9 .bq hC.cf hC.al hC.push (Nat.lt_of_le_of_lt hC.ln (by decide)))) (od pB) (od pz) (od py) (od px) (de m) (⟨⟩:Ts (λA'=>A'.bt b=some (.cells [pv dP,pv d9,cX,bj,bO,mv bS bG,pv m,.int .i64 c.br,eB,iM aJ cJ,gN aI cA,bR,bP,aZ,cZ,.int .i64 cf.aR,.int .i64 cf.am,.int .i64 cf.base,.int .i64 cf.c0,.int .i64 cf.c1,.int .i64 cf.c2,.int .i64 cf.c3,.int .i64 cf.reads,.int .i64 cf.cM,.int .i64 cf.ag,.int .i64 cf.ar,.int .i64 cf.aw,.bool cf.aT,.int .i64 ak,.int .i64 aA,.int .i64 av,.int .i64 3,db,.func (.func 231) #[] #[pv c0,pv c1],.int .i64 c.cg,.int .u64 value,bQ,.int .u64 aw,.bool ai,.int .i64 aj] true 1)) [0,0,0,0,0,0,3,0,0,0,0,1,0,2,3,0] (.aY 0 (.aY 1 (.aY 2 (.aY 3 (.aY 4 (.aY 5 (.aY 7 (.aY 8 (.aY 9 (.aY 10 (.aY 11 (.aY 12 (.uS 6 (.aY 13 (.aY 14 (.aY 15 .nil))) 13 (.aY 6 (.aY 14 (.aY 15 .nil)))))))))))))))))) (J7 h2 h4 ED i5 bF @bd.eq_1 @aU.v.eq_1) (J2 ?_ ?_)<;>(unhygienic intros)
 all_goals(
  refine⟨_,by simp [hq,AW.ab,aD];rfl,by simp [aU.v],?_⟩;apply ah.bI
  (·exact sA)
  (·first|exact pP|exact kP))
end
section
open T20 T13
variable [Gl]
def Qw (s:aF):Prop:=s.am.length<2^20/\(s.am.length=0\/∃l,s.aJ=some l/\s.am.length=l.eL.length)
def LocOk (s:aF):D4->Prop
 | .kX a _=>0<=a
 | .cU k _=>0<=k/\k<s.cf.nb
 | _=>True
def UseOk (s:aF):yf->Prop
 | .take=>True
 | .cU k=>0<=k/\k<s.cf.nb
def DoOk (s:aF) (M:Mm):bm->Prop
 | .gE k=>LocOk s k
 | .cW=>∃e,s.bS=some e
 | .aP c u=>s.reads.length+1<2^20/\(0<=c.br/\c.br<=2)/\c.fw=fF s.cf c.cg/\UseOk s u
 | .eh p=>s.ag.length<8/\(0<=p.dC/\p.dC<=3)/\(dY p M).2.1.block<s.cf.nb
 | .ei=>∃l,s.aJ=some l/\l.eL.length<=l.am.length/\l.am.length<2^38
 | .cq=>∃t,s.aI=some t
 | .cG _=>Qw s
 | .bJ=>Qw s
 | .dI w=>w.os.length=w.ws.length/\s.am.length<2^20
 | .bX w=>w.os.length=w.ws.length
 | .eT=>∃t,s.aI=some t
 | .dX _=>s.aj<s.ag.length
 | _=>True
structure GI (s:aF) (M:Mm):Prop where
 c:fN s
 d:DoOk s M s.aC
def fh (b pb:Nat) (s:aF) (M:Mm):Prop:=
 bf Tryz.prog 69 [pv b,pv pb] [.h (aX b s),dH pb M] (λv=>v=.tuple #[(bE s M).1.v,.int .i64 (bE s M).2.1])
  (λ_=>[.h (aX b (bE s M).2.2.1),dH pb (bE s M).2.2.2])
theorem Dk (b pb:Nat) (s:aF) (en:gn) (M:Mm) (hd:s.aC=.cW) (he:s.bS=some en):fh b pb s M:=by
 (unhygienic cases s);dsimp only at hd;subst hd;dsimp only at he;subst he;obtain⟨x,ph,s',M',hr⟩:∃x ph s' M',gC ⟨cf,ak,aA,av,value,some en,ai,reads,ag,ar,set,bp,aw,am,aJ,aI,aj,.cW⟩ M en=(x,ph,s',M'):=⟨_,_,_,_,rfl⟩;have io:=Bj b pb ⟨cf,ak,aA,av,value,some en,ai,reads,ag,ar,set,bp,aw,am,aJ,aI,aj,.cW⟩ en M rfl rfl;rw [hr] at io;unfold fh;rw [show bE ⟨cf,ak,aA,av,value,some en,ai,reads,ag,ar,set,bp,aw,am,aJ,aI,aj,.cW⟩ M=gC ⟨cf,ak,aA,av,value,some en,ai,reads,ag,ar,set,bp,aw,am,aJ,aI,aj,.cW⟩ M en from rfl,hr];intro A F hw hS;refine aH Tryz.func69 λ_=>?_;dsimp only [aa,af] at hS;obtain⟨x0,hS⟩:=aX.open hS .z;(unhygienic cases x0);dsimp only [bW,gH,b9,dZ,bm.fA,aa,af] at hS;have hq:=ff hS hw;revert hq hS hw;clear hS;refine Wp (J1 (Tg.mk (n:=21) @io)) (J3 bF @bd.eq_1 @aU.v.eq_1) ?_<;>(unhygienic intros)
 all_goals(
  refine⟨_,by simp [hq,AW.ab,aD];rfl,by simp [aU.v,aU.zero,bd],?_⟩;apply ah.bI
  (·exact sA)
  (·first|exact pP|exact kP))
theorem Jb (b pb:Nat) (s:aF) (c:fV) (M:Mm) (hd:s.aC=.aP c .take) (hC:fN s) (h1:s.reads.length+1<2^20) (h2:0<=c.br/\c.br<=2) (h3:c.fw=fF s.cf c.cg):fh b pb s M:=by
 (unhygienic cases s);dsimp only at hd;subst hd;obtain⟨x,ph,s',M',hr⟩:∃x ph s' M',dq ⟨cf,ak,aA,av,value,bS,ai,reads,ag,ar,set,bp,aw,am,aJ,aI,aj,.aP c .take⟩ M c .take=(x,ph,s',M'):=⟨_,_,_,_,rfl⟩;have io:=Bh b pb ⟨cf,ak,aA,av,value,bS,ai,reads,ag,ar,set,bp,aw,am,aJ,aI,aj,.aP c .take⟩ c M rfl hC h1 h2 h3;rw [hr] at io;unfold fh;rw [show bE ⟨cf,ak,aA,av,value,bS,ai,reads,ag,ar,set,bp,aw,am,aJ,aI,aj,.aP c .take⟩ M=dq ⟨cf,ak,aA,av,value,bS,ai,reads,ag,ar,set,bp,aw,am,aJ,aI,aj,.aP c .take⟩ M c .take from rfl,hr];intro A F hw hS;refine aH Tryz.func69 λ_=>?_;dsimp only [aa,af] at hS;obtain⟨x0,hS⟩:=aX.open hS .z;(unhygienic cases x0);dsimp only [bW,gH,b9,dZ,bm.fA,aa,af] at hS;have hq:=ff hS hw;revert hq hS hw;clear hS;refine Wp (J1 (Tg.mk (n:=21) @io)) (J3 bF @bd.eq_1 @aU.v.eq_1) ?_<;>(unhygienic intros)
 all_goals(
  refine⟨_,by simp [hq,AW.ab,aD];rfl,by simp [aU.v,aU.zero,bd],?_⟩;apply ah.bI
  (·exact sA)
  (·first|exact pP|exact kP))
theorem Jc (b pb:Nat) (s:aF) (c:fV) (kb:Int) (M:Mm) (hd:s.aC=.aP c (.cU kb)) (hC:fN s) (h1:s.reads.length+1<2^20) (h2:0<=c.br/\c.br<=2) (h3:c.fw=fF s.cf c.cg) (h4:0<=kb/\kb<s.cf.nb):fh b pb s M:=by
 (unhygienic cases s);dsimp only at hd;subst hd;obtain⟨x,ph,s',M',hr⟩:∃x ph s' M',dq ⟨cf,ak,aA,av,value,bS,ai,reads,ag,ar,set,bp,aw,am,aJ,aI,aj,.aP c (.cU kb)⟩ M c (.cU kb)=(x,ph,s',M'):=⟨_,_,_,_,rfl⟩;have io:=Bi b pb ⟨cf,ak,aA,av,value,bS,ai,reads,ag,ar,set,bp,aw,am,aJ,aI,aj,.aP c (.cU kb)⟩ c kb M rfl hC h1 h2 h3 h4;rw [hr] at io;unfold fh;rw [show bE ⟨cf,ak,aA,av,value,bS,ai,reads,ag,ar,set,bp,aw,am,aJ,aI,aj,.aP c (.cU kb)⟩ M=dq ⟨cf,ak,aA,av,value,bS,ai,reads,ag,ar,set,bp,aw,am,aJ,aI,aj,.aP c (.cU kb)⟩ M c (.cU kb) from rfl,hr];intro A F hw hS;refine aH Tryz.func69 λ_=>?_;dsimp only [aa,af] at hS;obtain⟨x0,hS⟩:=aX.open hS .z;(unhygienic cases x0);dsimp only [bW,gH,b9,dZ,bm.fA,aa,af] at hS;have hq:=ff hS hw;revert hq hS hw;clear hS;refine Wp (J1 (Tg.mk (n:=21) @io)) (J3 bF @bd.eq_1 @aU.v.eq_1) ?_<;>(unhygienic intros)
 all_goals(
  refine⟨_,by simp [hq,AW.ab,aD];rfl,by simp [aU.v,aU.zero,bd],?_⟩;apply ah.bI
  (·exact sA)
  (·first|exact pP|exact kP))
theorem Fh (b pb:Nat) (s:aF) (p:nQ) (M:Mm) (hd:s.aC=.eh p) (hC:fN s) (h1:s.ag.length<8) (h2:0<=p.dC/\p.dC<=3) (h3:(dY p M).2.1.block<s.cf.nb):fh b pb s M:=by
 (unhygienic cases s);dsimp only at hd;subst hd;obtain⟨x,ph,s',M',hr⟩:∃x ph s' M',ki ⟨cf,ak,aA,av,value,bS,ai,reads,ag,ar,set,bp,aw,am,aJ,aI,aj,.eh p⟩ M p=(x,ph,s',M'):=⟨_,_,_,_,rfl⟩;have io:=Fp b pb ⟨cf,ak,aA,av,value,bS,ai,reads,ag,ar,set,bp,aw,am,aJ,aI,aj,.eh p⟩ p M rfl hC h1 h2 h3 (Ho p M);rw [hr] at io;unfold fh;rw [show bE ⟨cf,ak,aA,av,value,bS,ai,reads,ag,ar,set,bp,aw,am,aJ,aI,aj,.eh p⟩ M=ki ⟨cf,ak,aA,av,value,bS,ai,reads,ag,ar,set,bp,aw,am,aJ,aI,aj,.eh p⟩ M p from rfl,hr];intro A F hw hS;refine aH Tryz.func69 λ_=>?_;dsimp only [aa,af] at hS;obtain⟨x0,hS⟩:=aX.open hS .z;(unhygienic cases x0);dsimp only [bW,gH,b9,dZ,bm.fA,aa,af] at hS;have hq:=ff hS hw;revert hq hS hw;clear hS;refine Wp (J1 (Tg.mk (n:=21) @io)) (J3 bF @bd.eq_1 @aU.v.eq_1) ?_<;>(unhygienic intros)
 all_goals(
  refine⟨_,by simp [hq,AW.ab,aD];rfl,by simp [aU.v,aU.zero,bd],?_⟩;apply ah.bI
  (·exact sA)
  (·first|exact pP|exact kP))
theorem Fj (b pb:Nat) (s:aF) (l:hW) (M:Mm) (hd:s.aC=.ei) (he:s.aJ=some l) (h1:l.eL.length<=l.am.length) (h2:l.am.length<2^38):fh b pb s M:=by
 (unhygienic cases s);dsimp only at hd;subst hd;dsimp only at he;subst he;obtain⟨x,ph,s',M',hr⟩:∃x ph s' M',iZ ⟨cf,ak,aA,av,value,bS,ai,reads,ag,ar,set,bp,aw,am,some l,aI,aj,.ei⟩ M l=(x,ph,s',M'):=⟨_,_,_,_,rfl⟩;have io:=Dp b pb ⟨cf,ak,aA,av,value,bS,ai,reads,ag,ar,set,bp,aw,am,some l,aI,aj,.ei⟩ l M rfl rfl h1 h2;rw [hr] at io;unfold fh;rw [show bE ⟨cf,ak,aA,av,value,bS,ai,reads,ag,ar,set,bp,aw,am,some l,aI,aj,.ei⟩ M=iZ ⟨cf,ak,aA,av,value,bS,ai,reads,ag,ar,set,bp,aw,am,some l,aI,aj,.ei⟩ M l from rfl,hr];intro A F hw hS;refine aH Tryz.func69 λ_=>?_;dsimp only [aa,af] at hS;obtain⟨x0,hS⟩:=aX.open hS .z;(unhygienic cases x0);dsimp only [bW,gH,b9,dZ,bm.fA,aa,af] at hS;have hq:=ff hS hw;revert hq hS hw;clear hS;refine Wp (J1 (Tg.mk (n:=21) @io)) (J3 bF @bd.eq_1 @aU.v.eq_1) ?_<;>(unhygienic intros)
 all_goals(
  refine⟨_,by simp [hq,AW.ab,aD];rfl,by simp [aU.v,aU.zero,bd],?_⟩;apply ah.bI
  (·exact sA)
  (·first|exact pP|exact kP))
theorem Ff (b pb:Nat) (s:aF) (t:jw) (M:Mm) (hd:s.aC=.cq) (he:s.aI=some t) (h1:s.set.length<2^38):fh b pb s M:=by
 (unhygienic cases s);dsimp only at hd;subst hd;dsimp only at he;subst he;obtain⟨x,ph,s',M',hr⟩:∃x ph s' M',gi ⟨cf,ak,aA,av,value,bS,ai,reads,ag,ar,set,bp,aw,am,aJ,some t,aj,.cq⟩ M t=(x,ph,s',M'):=⟨_,_,_,_,rfl⟩;have io:=Dn b pb ⟨cf,ak,aA,av,value,bS,ai,reads,ag,ar,set,bp,aw,am,aJ,some t,aj,.cq⟩ t M rfl rfl h1;rw [hr] at io;unfold fh;rw [show bE ⟨cf,ak,aA,av,value,bS,ai,reads,ag,ar,set,bp,aw,am,aJ,some t,aj,.cq⟩ M=gi ⟨cf,ak,aA,av,value,bS,ai,reads,ag,ar,set,bp,aw,am,aJ,some t,aj,.cq⟩ M t from rfl,hr];intro A F hw hS;refine aH Tryz.func69 λ_=>?_;dsimp only [aa,af] at hS;obtain⟨x0,hS⟩:=aX.open hS .z;(unhygienic cases x0);dsimp only [bW,gH,b9,dZ,bm.fA,aa,af] at hS;have hq:=ff hS hw;revert hq hS hw;clear hS;refine Wp (J1 (Tg.mk (n:=21) @io)) (J3 bF @bd.eq_1 @aU.v.eq_1) ?_<;>(unhygienic intros)
 all_goals(
  refine⟨_,by simp [hq,AW.ab,aD];rfl,by simp [aU.v,aU.zero,bd],?_⟩;apply ah.bI
  (·exact sA)
  (·first|exact pP|exact kP))
theorem Dm (b pb:Nat) (s:aF) (c:gw) (M:Mm) (hd:s.aC=.cG c) (h1:Qw s):fh b pb s M:=by
 (unhygienic cases s);dsimp only at hd;subst hd;obtain⟨x,ph,s',M',hr⟩:∃x ph s' M',fO ⟨cf,ak,aA,av,value,bS,ai,reads,ag,ar,set,bp,aw,am,aJ,aI,aj,.cG c⟩ M c=(x,ph,s',M'):=⟨_,_,_,_,rfl⟩;have io:=Bk b pb ⟨cf,ak,aA,av,value,bS,ai,reads,ag,ar,set,bp,aw,am,aJ,aI,aj,.cG c⟩ c M rfl h1.1 h1.2;rw [hr] at io;unfold fh;rw [show bE ⟨cf,ak,aA,av,value,bS,ai,reads,ag,ar,set,bp,aw,am,aJ,aI,aj,.cG c⟩ M=fO ⟨cf,ak,aA,av,value,bS,ai,reads,ag,ar,set,bp,aw,am,aJ,aI,aj,.cG c⟩ M c from rfl,hr];intro A F hw hS;refine aH Tryz.func69 λ_=>?_;dsimp only [aa,af] at hS;obtain⟨x0,hS⟩:=aX.open hS .z;(unhygienic cases x0);dsimp only [bW,gH,b9,dZ,bm.fA,aa,af] at hS;have hq:=ff hS hw;revert hq hS hw;clear hS;refine Wp (J1 (Tg.mk (n:=21) @io)) (J3 bF @bd.eq_1 @aU.v.eq_1) ?_<;>(unhygienic intros)
 all_goals(
  refine⟨_,by simp [hq,AW.ab,aD];rfl,by simp [aU.v,aU.zero,bd],?_⟩;apply ah.bI
  (·exact sA)
  (·first|exact pP|exact kP))
theorem Dl (b pb:Nat) (s:aF)  (M:Mm) (hd:s.aC=.bJ) (hC:fN s) (h1:Qw s):fh b pb s M:=by
 (unhygienic cases s);dsimp only at hd;subst hd;obtain⟨x,ph,s',M',hr⟩:∃x ph s' M',fb ⟨cf,ak,aA,av,value,bS,ai,reads,ag,ar,set,bp,aw,am,aJ,aI,aj,.bJ⟩ M=(x,ph,s',M'):=⟨_,_,_,_,rfl⟩;have io:=Ad b pb ⟨cf,ak,aA,av,value,bS,ai,reads,ag,ar,set,bp,aw,am,aJ,aI,aj,.bJ⟩ M rfl hC h1.1 h1.2;rw [hr] at io;unfold fh;rw [show bE ⟨cf,ak,aA,av,value,bS,ai,reads,ag,ar,set,bp,aw,am,aJ,aI,aj,.bJ⟩ M=fb ⟨cf,ak,aA,av,value,bS,ai,reads,ag,ar,set,bp,aw,am,aJ,aI,aj,.bJ⟩ M from rfl,hr];intro A F hw hS;refine aH Tryz.func69 λ_=>?_;dsimp only [aa,af] at hS;obtain⟨x0,hS⟩:=aX.open hS .z;(unhygienic cases x0);dsimp only [bW,gH,b9,dZ,bm.fA,aa,af] at hS;have hq:=ff hS hw;revert hq hS hw;clear hS;refine Wp (J1 (Tg.mk (n:=21) @io)) (J3 bF @bd.eq_1 @aU.v.eq_1) ?_<;>(unhygienic intros)
 all_goals(
  refine⟨_,by simp [hq,AW.ab,aD];rfl,by simp [aU.v,aU.zero,bd],?_⟩;apply ah.bI
  (·exact sA)
  (·first|exact pP|exact kP))
theorem Fe (b pb:Nat) (s:aF) (w:jx) (M:Mm) (hd:s.aC=.dI w) (h1:w.os.length=w.ws.length) (h2:s.am.length<2^20):fh b pb s M:=by
 (unhygienic cases s);dsimp only at hd;subst hd;obtain⟨x,ph,s',M',hr⟩:∃x ph s' M',gS ⟨cf,ak,aA,av,value,bS,ai,reads,ag,ar,set,bp,aw,am,aJ,aI,aj,.dI w⟩ M w=(x,ph,s',M'):=⟨_,_,_,_,rfl⟩;have io:=Bg b pb ⟨cf,ak,aA,av,value,bS,ai,reads,ag,ar,set,bp,aw,am,aJ,aI,aj,.dI w⟩ w M rfl h1 h2;rw [hr] at io;unfold fh;rw [show bE ⟨cf,ak,aA,av,value,bS,ai,reads,ag,ar,set,bp,aw,am,aJ,aI,aj,.dI w⟩ M=gS ⟨cf,ak,aA,av,value,bS,ai,reads,ag,ar,set,bp,aw,am,aJ,aI,aj,.dI w⟩ M w from rfl,hr];intro A F hw hS;refine aH Tryz.func69 λ_=>?_;dsimp only [aa,af] at hS;obtain⟨x0,hS⟩:=aX.open hS .z;(unhygienic cases x0);dsimp only [bW,gH,b9,dZ,bm.fA,aa,af] at hS;have hq:=ff hS hw;revert hq hS hw;clear hS;refine Wp (J1 (Tg.mk (n:=21) @io)) (J3 bF @bd.eq_1 @aU.v.eq_1) ?_<;>(unhygienic intros)
 all_goals(
  refine⟨_,by simp [hq,AW.ab,aD];rfl,by simp [aU.v,aU.zero,bd],?_⟩;apply ah.bI
  (·exact sA)
  (·first|exact pP|exact kP))
theorem Bc (b pb:Nat) (s:aF) (w:jx) (M:Mm) (hd:s.aC=.bX w) (h1:w.os.length=w.ws.length):fh b pb s M:=by
 (unhygienic cases s);dsimp only at hd;subst hd;obtain⟨x,ph,s',M',hr⟩:∃x ph s' M',mP ⟨cf,ak,aA,av,value,bS,ai,reads,ag,ar,set,bp,aw,am,aJ,aI,aj,.bX w⟩ M w=(x,ph,s',M'):=⟨_,_,_,_,rfl⟩;have io:=yw b pb ⟨cf,ak,aA,av,value,bS,ai,reads,ag,ar,set,bp,aw,am,aJ,aI,aj,.bX w⟩ w M rfl h1;rw [hr] at io;unfold fh;rw [show bE ⟨cf,ak,aA,av,value,bS,ai,reads,ag,ar,set,bp,aw,am,aJ,aI,aj,.bX w⟩ M=mP ⟨cf,ak,aA,av,value,bS,ai,reads,ag,ar,set,bp,aw,am,aJ,aI,aj,.bX w⟩ M w from rfl,hr];intro A F hw hS;refine aH Tryz.func69 λ_=>?_;dsimp only [aa,af] at hS;obtain⟨x0,hS⟩:=aX.open hS .z;(unhygienic cases x0);dsimp only [bW,gH,b9,dZ,bm.fA,aa,af] at hS;have hq:=ff hS hw;revert hq hS hw;clear hS;refine Wp (J1 (Tg.mk (n:=21) @io)) (J3 bF @bd.eq_1 @aU.v.eq_1) ?_<;>(unhygienic intros)
 all_goals(
  refine⟨_,by simp [hq,AW.ab,aD];rfl,by simp [aU.v,aU.zero,bd],?_⟩;apply ah.bI
  (·exact sA)
  (·first|exact pP|exact kP))
theorem Fg (b pb:Nat) (s:aF) (p:eZ) (M:Mm) (hd:s.aC=.dX p) (hC:fN s) (h1:s.aj<s.ag.length):fh b pb s M:=by
 (unhygienic cases s);dsimp only at hd;subst hd;obtain⟨x,ph,s',M',hr⟩:∃x ph s' M',gU ⟨cf,ak,aA,av,value,bS,ai,reads,ag,ar,set,bp,aw,am,aJ,aI,aj,.dX p⟩ M p=(x,ph,s',M'):=⟨_,_,_,_,rfl⟩;have io:=Do b pb ⟨cf,ak,aA,av,value,bS,ai,reads,ag,ar,set,bp,aw,am,aJ,aI,aj,.dX p⟩ p M rfl hC h1;rw [hr] at io;unfold fh;rw [show bE ⟨cf,ak,aA,av,value,bS,ai,reads,ag,ar,set,bp,aw,am,aJ,aI,aj,.dX p⟩ M=gU ⟨cf,ak,aA,av,value,bS,ai,reads,ag,ar,set,bp,aw,am,aJ,aI,aj,.dX p⟩ M p from rfl,hr];intro A F hw hS;refine aH Tryz.func69 λ_=>?_;dsimp only [aa,af] at hS;obtain⟨x0,hS⟩:=aX.open hS .z;(unhygienic cases x0);dsimp only [bW,gH,b9,dZ,bm.fA,aa,af] at hS;have hq:=ff hS hw;revert hq hS hw;clear hS;refine Wp (J1 (Tg.mk (n:=21) @io)) (J3 bF @bd.eq_1 @aU.v.eq_1) ?_<;>(unhygienic intros)
 all_goals(
  refine⟨_,by simp [hq,AW.ab,aD];rfl,by simp [aU.v,aU.zero,bd],?_⟩;apply ah.bI
  (·exact sA)
  (·first|exact pP|exact kP))
end
section
open T20 T13
variable [Gl]
theorem Mu (b pb:Nat) (s:aF) (M:Mm) (hd:s.aC=.bq):fh b pb s M:=by
 (unhygienic cases s);dsimp only at hd;subst hd;unfold fh;rw [show bE ⟨cf,ak,aA,av,value,bS,ai,reads,ag,ar,set,bp,aw,am,aJ,aI,aj,.bq⟩ M=(aU.zero,0,⟨cf,ak,aA,av,value,bS,ai,reads,ag,ar,set,bp,aw,am,aJ,aI,aj,.bq⟩,M) from rfl];intro A F hw hS;refine aH Tryz.func69 λ_=>?_;dsimp only [aa,af] at hS;obtain⟨x0,hS⟩:=aX.open hS .z;(unhygienic cases x0);dsimp only [bW,gH,b9,dZ,bm.fA,aa,af] at hS;have hq:=ff hS hw;revert hq hS hw;clear hS;refine Wp cy (J3 bF @bd.eq_1 @aU.v.eq_1) ?_<;>(unhygienic intros);refine⟨_,by simp [hq,AW.ab,aD];rfl,by simp [aU.v,aU.zero],?_⟩;apply aX.bI
 (·exact sA)
 exact fP
 (·first|exact pP|exact kP)
 all_goals(first|exact 0|exact undef)
theorem Fk (b pb:Nat) (s:aF)  (M:Mm) (hd:s.aC=.gE .rO) (hC:fN s):fh b pb s M:=by
 (unhygienic cases s);dsimp only at hd;subst hd;have N6:fN ⟨cf,ak,aA,av,value,bS,ai,reads,ag,ar,set,bp,aw,am,aJ,aI,aj,.bq⟩:=hC.to rfl rfl rfl rfl rfl rfl rfl rfl;unfold fh;rw [show bE ⟨cf,ak,aA,av,value,bS,ai,reads,ag,ar,set,bp,aw,am,aJ,aI,aj,.gE .rO⟩ M=(aU.zero,0,sY ⟨cf,ak,aA,av,value,bS,ai,reads,ag,ar,set,bp,aw,am,aJ,aI,aj,.bq⟩ .rO,M) from rfl];intro A F hw hS;refine aH Tryz.func69 λ_=>?_;dsimp only [aa,af] at hS;obtain⟨x0,hS⟩:=aX.open hS .z;(unhygienic cases x0);dsimp only [bW,gH,b9,dZ,bm.fA,aa,af] at hS;have hq:=ff hS hw;revert hq hS hw;clear hS;refine Wp (J1 (Tg.mk (n:=21) (E8 b c0 ⟨cf,ak,aA,av,value,bS,ai,reads,ag,ar,set,bp,aw,am,aJ,aI,aj,.bq⟩ rfl N6))) (J3 bF @bd.eq_1 @aU.v.eq_1) ?_<;>(unhygienic intros)
 all_goals(
  refine⟨_,by simp [hq,AW.ab,aD];rfl,by simp [aU.v,aU.zero,bd],?_⟩;apply ah.bI
  (·exact sA)
  (·first|exact pP|exact kP))
theorem Fm (b pb:Nat) (s:aF)  (M:Mm) (hd:s.aC=.gE .NB) (hC:fN s):fh b pb s M:=by
 (unhygienic cases s);dsimp only at hd;subst hd;have N6:fN ⟨cf,ak,aA,av,value,bS,ai,reads,ag,ar,set,bp,aw,am,aJ,aI,aj,.bq⟩:=hC.to rfl rfl rfl rfl rfl rfl rfl rfl;unfold fh;rw [show bE ⟨cf,ak,aA,av,value,bS,ai,reads,ag,ar,set,bp,aw,am,aJ,aI,aj,.gE .NB⟩ M=(aU.zero,0,sY ⟨cf,ak,aA,av,value,bS,ai,reads,ag,ar,set,bp,aw,am,aJ,aI,aj,.bq⟩ .NB,M) from rfl];intro A F hw hS;refine aH Tryz.func69 λ_=>?_;dsimp only [aa,af] at hS;obtain⟨x0,hS⟩:=aX.open hS .z;(unhygienic cases x0);dsimp only [bW,gH,b9,dZ,bm.fA,aa,af] at hS;have hq:=ff hS hw;revert hq hS hw;clear hS;refine Wp (J1 (Tg.mk (n:=21) (Fa b c0 ⟨cf,ak,aA,av,value,bS,ai,reads,ag,ar,set,bp,aw,am,aJ,aI,aj,.bq⟩ rfl N6))) (J3 bF @bd.eq_1 @aU.v.eq_1) ?_<;>(unhygienic intros)
 all_goals(
  refine⟨_,by simp [hq,AW.ab,aD];rfl,by simp [aU.v,aU.zero,bd],?_⟩;apply ah.bI
  (·exact sA)
  (·first|exact pP|exact kP))
theorem Fl (b pb:Nat) (s:aF) (ec:Int) (M:Mm) (hd:s.aC=.gE (.bI ec)) (hC:fN s):fh b pb s M:=by
 (unhygienic cases s);dsimp only at hd;subst hd;have N6:fN ⟨cf,ak,aA,av,value,bS,ai,reads,ag,ar,set,bp,aw,am,aJ,aI,aj,.bq⟩:=hC.to rfl rfl rfl rfl rfl rfl rfl rfl;unfold fh;rw [show bE ⟨cf,ak,aA,av,value,bS,ai,reads,ag,ar,set,bp,aw,am,aJ,aI,aj,.gE (.bI ec)⟩ M=(aU.zero,0,sY ⟨cf,ak,aA,av,value,bS,ai,reads,ag,ar,set,bp,aw,am,aJ,aI,aj,.bq⟩ (.bI ec),M) from rfl];intro A F hw hS;refine aH Tryz.func69 λ_=>?_;dsimp only [aa,af] at hS;obtain⟨x0,hS⟩:=aX.open hS .z;(unhygienic cases x0);dsimp only [bW,gH,b9,dZ,bm.fA,aa,af] at hS;have hq:=ff hS hw;revert hq hS hw;clear hS;refine Wp (J1 (Tg.mk (n:=21) (E9 b c0 c1 ⟨cf,ak,aA,av,value,bS,ai,reads,ag,ar,set,bp,aw,am,aJ,aI,aj,.bq⟩ ec rfl N6))) (J3 bF @bd.eq_1 @aU.v.eq_1) ?_<;>(unhygienic intros)
 all_goals(
  refine⟨_,by simp [hq,AW.ab,aD];rfl,by simp [aU.v,aU.zero,bd],?_⟩;apply ah.bI
  (·exact sA)
  (·first|exact pP|exact kP))
theorem Di (b pb:Nat) (s:aF) (lv:Int) (M:Mm) (hd:s.aC=.gE (.take lv)) (hC:fN s):fh b pb s M:=by
 (unhygienic cases s);dsimp only at hd;subst hd;have N6:fN ⟨cf,ak,aA,av,value,bS,ai,reads,ag,ar,set,bp,aw,am,aJ,aI,aj,.bq⟩:=hC.to rfl rfl rfl rfl rfl rfl rfl rfl;unfold fh;rw [show bE ⟨cf,ak,aA,av,value,bS,ai,reads,ag,ar,set,bp,aw,am,aJ,aI,aj,.gE (.take lv)⟩ M=(aU.zero,0,sY ⟨cf,ak,aA,av,value,bS,ai,reads,ag,ar,set,bp,aw,am,aJ,aI,aj,.bq⟩ (.take lv),M) from rfl];intro A F hw hS;refine aH Tryz.func69 λ_=>?_;dsimp only [aa,af] at hS;obtain⟨x0,hS⟩:=aX.open hS .z;(unhygienic cases x0);dsimp only [bW,gH,b9,dZ,bm.fA,aa,af] at hS;have hq:=ff hS hw;revert hq hS hw;clear hS;refine Wp (J1 (Tg.mk (n:=21) (Dd b c0 c1 c2 ⟨cf,ak,aA,av,value,bS,ai,reads,ag,ar,set,bp,aw,am,aJ,aI,aj,.bq⟩ lv rfl))) (J3 bF @bd.eq_1 @aU.v.eq_1) ?_<;>(unhygienic intros)
 all_goals(
  refine⟨_,by simp [hq,AW.ab,aD];rfl,by simp [aU.v,aU.zero,bd],?_⟩;apply ah.bI
  (·exact sA)
  (·first|exact pP|exact kP))
theorem Be (b pb:Nat) (s:aF) (la lv:Int) (M:Mm) (hd:s.aC=.gE (.kX la lv)) (hC:fN s) (hla:0<=la):fh b pb s M:=by
 (unhygienic cases s);dsimp only at hd;subst hd;have N6:fN ⟨cf,ak,aA,av,value,bS,ai,reads,ag,ar,set,bp,aw,am,aJ,aI,aj,.bq⟩:=hC.to rfl rfl rfl rfl rfl rfl rfl rfl;unfold fh;rw [show bE ⟨cf,ak,aA,av,value,bS,ai,reads,ag,ar,set,bp,aw,am,aJ,aI,aj,.gE (.kX la lv)⟩ M=(aU.zero,0,sY ⟨cf,ak,aA,av,value,bS,ai,reads,ag,ar,set,bp,aw,am,aJ,aI,aj,.bq⟩ (.kX la lv),M) from rfl];intro A F hw hS;refine aH Tryz.func69 λ_=>?_;dsimp only [aa,af] at hS;obtain⟨x0,hS⟩:=aX.open hS .z;(unhygienic cases x0);dsimp only [bW,gH,b9,dZ,bm.fA,aa,af] at hS;have hq:=ff hS hw;revert hq hS hw;clear hS;refine Wp (J1 (Tg.mk (n:=21) (AX b c0 c1 c2 ⟨cf,ak,aA,av,value,bS,ai,reads,ag,ar,set,bp,aw,am,aJ,aI,aj,.bq⟩ la lv rfl N6 hla))) (J3 bF @bd.eq_1 @aU.v.eq_1) ?_<;>(unhygienic intros)
 all_goals(
  refine⟨_,by simp [hq,AW.ab,aD];rfl,by simp [aU.v,aU.zero,bd],?_⟩;apply ah.bI
  (·exact sA)
  (·first|exact pP|exact kP))
theorem Dj (b pb:Nat) (s:aF)  (M:Mm) (hd:s.aC=.gE .yV) (hC:fN s):fh b pb s M:=by
 (unhygienic cases s);dsimp only at hd;subst hd;have N6:fN ⟨cf,ak,aA,av,value,bS,ai,reads,ag,ar,set,bp,aw,am,aJ,aI,aj,.bq⟩:=hC.to rfl rfl rfl rfl rfl rfl rfl rfl;unfold fh;rw [show bE ⟨cf,ak,aA,av,value,bS,ai,reads,ag,ar,set,bp,aw,am,aJ,aI,aj,.gE .yV⟩ M=(aU.zero,0,sY ⟨cf,ak,aA,av,value,bS,ai,reads,ag,ar,set,bp,aw,am,aJ,aI,aj,.bq⟩ .yV,M) from rfl];intro A F hw hS;refine aH Tryz.func69 λ_=>?_;dsimp only [aa,af] at hS;obtain⟨x0,hS⟩:=aX.open hS .z;(unhygienic cases x0);dsimp only [bW,gH,b9,dZ,bm.fA,aa,af] at hS;have hq:=ff hS hw;revert hq hS hw;clear hS;refine Wp (J1 (Tg.mk (n:=21) (De b c0 ⟨cf,ak,aA,av,value,bS,ai,reads,ag,ar,set,bp,aw,am,aJ,aI,aj,.bq⟩ rfl N6))) (J3 bF @bd.eq_1 @aU.v.eq_1) ?_<;>(unhygienic intros)
 all_goals(
  refine⟨_,by simp [hq,AW.ab,aD];rfl,by simp [aU.v,aU.zero,bd],?_⟩;apply ah.bI
  (·exact sA)
  (·first|exact pP|exact kP))
theorem Bf (b pb:Nat) (s:aF) (lk lv:Int) (M:Mm) (hd:s.aC=.gE (.cU lk lv)) (hC:fN s) (PA:0<=lk/\lk<s.cf.nb):fh b pb s M:=by
 (unhygienic cases s);dsimp only at hd;subst hd;have N6:fN ⟨cf,ak,aA,av,value,bS,ai,reads,ag,ar,set,bp,aw,am,aJ,aI,aj,.bq⟩:=hC.to rfl rfl rfl rfl rfl rfl rfl rfl;unfold fh;rw [show bE ⟨cf,ak,aA,av,value,bS,ai,reads,ag,ar,set,bp,aw,am,aJ,aI,aj,.gE (.cU lk lv)⟩ M=(aU.zero,0,sY ⟨cf,ak,aA,av,value,bS,ai,reads,ag,ar,set,bp,aw,am,aJ,aI,aj,.bq⟩ (.cU lk lv),M) from rfl];intro A F hw hS;refine aH Tryz.func69 λ_=>?_;dsimp only [aa,af] at hS;obtain⟨x0,hS⟩:=aX.open hS .z;(unhygienic cases x0);dsimp only [bW,gH,b9,dZ,bm.fA,aa,af] at hS;have hq:=ff hS hw;revert hq hS hw;clear hS;refine Wp (J1 (Tg.mk (n:=21) (AY b c0 c1 c2 ⟨cf,ak,aA,av,value,bS,ai,reads,ag,ar,set,bp,aw,am,aJ,aI,aj,.bq⟩ lk lv rfl N6 PA))) (J3 bF @bd.eq_1 @aU.v.eq_1) ?_<;>(unhygienic intros)
 all_goals(
  refine⟨_,by simp [hq,AW.ab,aD];rfl,by simp [aU.v,aU.zero,bd],?_⟩;apply ah.bI
  (·exact sA)
  (·first|exact pP|exact kP))
theorem Dh (b pb:Nat) (s:aF) (M:Mm) (hd:s.aC=.gr):fh b pb s M:=by
 (unhygienic cases s);dsimp only at hd;subst hd;unfold fh;rw [show bE ⟨cf,ak,aA,av,value,bS,ai,reads,ag,ar,set,bp,aw,am,aJ,aI,aj,.gr⟩ M=(Bm M 3 0 (IntKind.u64.wrap (aw+1)),19,⟨cf,ak,aA,av,value,bS,ai,reads,ag,ar,set,bp,aw,am,aJ,aI,aj,.eT⟩,Dq M 3 0 (IntKind.u64.wrap (aw+1))) from rfl];intro A F hw hS;refine aH Tryz.func69 λ_=>?_;dsimp only [aa,af] at hS;obtain⟨x0,hS⟩:=aX.open hS .z;(unhygienic cases x0);dsimp only [bW,gH,b9,dZ,bm.fA,aa,af] at hS;have hq:=ff hS hw;revert hq hS hw;clear hS;refine Wp (J1 (VF pb)) (J3 bF @bd.eq_1 @aU.v.eq_1) ?_<;>(unhygienic intros);refine⟨_,by simp [hq,AW.ab,aD];rfl,by first|(simp [aU.v];done)|(simp [aU.v,h];done),?_⟩;apply aX.bI
 (·exact sA)
 exact fP
 (·first|exact pP|exact kP)
 all_goals(first|exact 0|exact undef)
theorem Fi (b pb:Nat) (s:aF) (t:jw) (M:Mm) (hd:s.aC=.eT) (hC:fN s) (he:s.aI=some t):fh b pb s M:=by
 (unhygienic cases s);dsimp only at hd;subst hd;dsimp only at he;subst he;unfold fh;rw [show bE ⟨cf,ak,aA,av,value,bS,ai,reads,ag,ar,set,bp,aw,am,aJ,some t,aj,.eT⟩ M=(Bm M 5 0 (zw t.fA),20,fC ⟨cf,ak,aA,av,value,bS,ai,reads,ag,ar,set,bp,aw,am,aJ,some t,aj,.eT⟩,Dq M 5 0 (zw t.fA)) from rfl];intro A F hw hS;refine aH Tryz.func69 λ_=>?_;dsimp only [aa,af] at hS;obtain⟨x0,hS⟩:=aX.open hS .z;(unhygienic cases x0);dsimp only [bW,gH,b9,dZ,bm.fA,aa,af] at hS;have hq:=ff hS hw;have hS:=uf.op hS (.s (.s (.s .z)));have hq:=ff hS hw;revert hq hS hw;clear hq;clear hS;clear hS;refine Wp (J3 (Tg.mk (n:=10) @AU) (Tg.mk (n:=20) (tL b ⟨cf,ak,aA,av,value,bS,ai,reads,ag,ar,set,bp,aw,am,aJ,some t,aj,.eT⟩ 12 .eT hC.cf hC.al hC.push (Nat.lt_of_le_of_lt hC.ln (by decide)))) (MI pb t.fA M)) (J5 @gN.eq_1 @gN.eq_2 bF @bd.eq_1 @aU.v.eq_1) ?_<;>(unhygienic intros)
 all_goals(
  refine⟨_,by simp [hq,AW.ab,aD];rfl,by simp [aU.v,aU.zero,bd],?_⟩;apply ah.bI
  (·exact sA)
  (·first|exact pP|exact kP))
theorem Fo (b pb:Nat) (s:aF) (M:Mm) (hd:s.aC=.go):fh b pb s M:=by
 (unhygienic cases s);dsimp only at hd;subst hd;unfold fh;rw [show bE ⟨cf,ak,aA,av,value,bS,ai,reads,ag,ar,set,bp,aw,am,aJ,aI,aj,.go⟩ M=(Bm M 6 ak 0,24,⟨cf,ak,2,av,value,bS,ai,reads,ag,ar,set,bp,aw,am,aJ,aI,aj,.bq⟩,Dq M 6 ak 0) from rfl];intro A F hw hS;refine aH Tryz.func69 λ_=>?_;dsimp only [aa,af] at hS;obtain⟨x0,hS⟩:=aX.open hS .z;(unhygienic cases x0);dsimp only [bW,gH,b9,dZ,bm.fA,aa,af] at hS;have hq:=ff hS hw;revert hq hS hw;clear hS;refine Wp (J1 (JP pb ak M)) (J3 bF @bd.eq_1 @aU.v.eq_1) ?_<;>(unhygienic intros);refine⟨_,by simp [hq,AW.ab,aD];rfl,by first|(simp [aU.v];done)|(simp [aU.v,h];done),?_⟩;apply aX.bI
 (·exact sA)
 exact fP
 (·first|exact pP|exact kP)
 all_goals(first|exact 0|exact undef)
theorem Mv (b pb:Nat) (s:aF) (M:Mm) (h:GI s M):fh b pb s M:=by
 obtain⟨hC,hD⟩:=h;have Kb:s.set.length<2^38:=by
  have h1:=hC.set;have h2:=hC.cf.reads;omega
 cases hd:s.aC with
 | bq=>exact Mu b pb s M hd
 | gE k=>
   rw [hd] at hD;cases k with
   | rO=>exact Fk b pb s M hd hC
   | NB=>exact Fm b pb s M hd hC
   | bI c=>exact Fl b pb s c M hd hC
   | take v=>exact Di b pb s v M hd hC
   | kX a v=>exact Be b pb s a v M hd hC hD
   | yV=>exact Dj b pb s M hd hC
   | cU k v=>exact Bf b pb s k v M hd hC hD
 | cW=>
   rw [hd] at hD;obtain⟨e,he⟩:=hD;exact Dk b pb s e M hd he
 | aP c u=>
   rw [hd] at hD;obtain⟨h1,h2,h3,h4⟩:=hD;cases u with
   | take=>exact Jb b pb s c M hd hC h1 h2 h3
   | cU k=>exact Jc b pb s c k M hd hC h1 h2 h3 h4
 | eh p=>
   rw [hd] at hD;exact Fh b pb s p M hd hC hD.1 hD.2.1 hD.2.2
 | ei=>
   rw [hd] at hD;obtain⟨l,h1,h2,h3⟩:=hD;exact Fj b pb s l M hd h1 h2 h3
 | cq=>
   rw [hd] at hD;obtain⟨t,h1⟩:=hD;exact Ff b pb s t M hd h1 Kb
 | cG c=>
   rw [hd] at hD;exact Dm b pb s c M hd hD
 | bJ=>
   rw [hd] at hD;exact Dl b pb s M hd hC hD
 | dI w=>
   rw [hd] at hD;exact Fe b pb s w M hd hD.1 hD.2
 | bX w=>
   rw [hd] at hD;exact Bc b pb s w M hd hD
 | gr=>exact Dh b pb s M hd
 | eT=>
   rw [hd] at hD;obtain⟨t,h1⟩:=hD;exact Fi b pb s t M hd hC h1
 | dX p=>
   rw [hd] at hD;exact Fg b pb s p M hd hC hD
 | go=>exact Fo b pb s M hd
end
section
abbrev LB:List (Nat×Nat):=[(0,0),(1,0),(2,0),(3,0),(4,0),(5,0),(6,0),(7,0),(8,0),(9,2),(10,0)]
open T7
variable [Gl]
structure K9 (c:bH):Prop where
 ok:cx c
 aR:4<=c.aR/\c.aR<=12
 am:c.am<=8
 base:c.base=2
 c0:c.c0<=2
 c1:c.c1<=2
 c2:c.c2=0
 c3:c.c3=0
 reads:c.reads<=6
 cM:c.cM<=8
 ag:c.ag<=2
 ar:c.ar<=2
 aw:c.aw<=50
def BU (p0 p1 p2 p3 p4 p5 ck n0 n1:Int):bH:=⟨4+p0,1+p1,2,n0,n1,0,0,1+p2,1+p3,p4,p5,ck,false⟩
theorem Is (l0 l1 l2 l3 l4:Int):∃c,K9 c/\∀A,az Tryz.prog 7 [.int .i64 l0,.int .i64 l1,.int .i64 l2,.int .i64 l3,.int .i64 l4] A (λv A'=>v=c.v/\A=A'):=by
 obtain⟨p0,LQ⟩:∃p0,jR l0 9=p0:=⟨_,rfl⟩;have qp0:=fB l0 9 (by omega);have kp0:=λA=>ij l0 9 A (by omega) (by omega);rw [LQ] at qp0 kp0;obtain⟨p1,MZ⟩:∃p1,jR l1 8=p1:=⟨_,rfl⟩;have qp1:=fB l1 8 (by omega);have kp1:=λA=>ij l1 8 A (by omega) (by omega);rw [MZ] at qp1 kp1;obtain⟨p2,LP⟩:∃p2,jR l2 6=p2:=⟨_,rfl⟩;have qp2:=fB l2 6 (by omega);have kp2:=λA=>ij l2 6 A (by omega) (by omega);rw [LP] at qp2 kp2;obtain⟨p3,hp3⟩:∃p3,jR (IntKind.i64.wrap (l2.tdiv 7)) 8=p3:=⟨_,rfl⟩;have qp3:=fB (IntKind.i64.wrap (l2.tdiv 7)) 8 (by omega);have kp3:=λA=>ij (IntKind.i64.wrap (l2.tdiv 7)) 8 A (by omega) (by omega);rw [hp3] at qp3 kp3;obtain⟨p4,hp4⟩:∃p4,jR l3 3=p4:=⟨_,rfl⟩;have qp4:=fB l3 3 (by omega);have kp4:=λA=>ij l3 3 A (by omega) (by omega);rw [hp4] at qp4 kp4;obtain⟨p5,hp5⟩:∃p5,jR (IntKind.i64.wrap (l3.tdiv 3)) 3=p5:=⟨_,rfl⟩;have qp5:=fB (IntKind.i64.wrap (l3.tdiv 3)) 3 (by omega);have kp5:=λA=>ij (IntKind.i64.wrap (l3.tdiv 3)) 3 A (by omega) (by omega)
 rw [hp5] at qp5 kp5;obtain⟨p6,hp6⟩:∃p6,jR l4 5=p6:=⟨_,rfl⟩;have qp6:=fB l4 5 (by omega);have kp6:=λA=>ij l4 5 A (by omega) (by omega);rw [hp6] at qp6 kp6;obtain⟨p7,hp7⟩:∃p7,jR (IntKind.i64.wrap (l4.tdiv 5)) 4=p7:=⟨_,rfl⟩;have qp7:=fB (IntKind.i64.wrap (l4.tdiv 5)) 4 (by omega);have kp7:=λA=>ij (IntKind.i64.wrap (l4.tdiv 5)) 4 A (by omega) (by omega);rw [hp7] at qp7 kp7;obtain⟨p8,hp8⟩:∃p8,jR (IntKind.i64.wrap (l3.tdiv 9)) (4+p0-2+1)=p8:=⟨_,rfl⟩;have qp8:=fB (IntKind.i64.wrap (l3.tdiv 9)) (4+p0-2+1) (by omega);have WM:=λA=>ij (IntKind.i64.wrap (l3.tdiv 9)) (4+p0-2+1) A (by omega) (by omega);rw [hp8] at qp8 WM;obtain⟨n0,C6⟩:∃n0,(if 2<p8 then 2 else p8)=n0:=⟨_,rfl⟩;have hn0':0<=n0/\n0<=2/\n0<=4+p0-2:=by
  rw [<-C6];split<;>omega
 obtain⟨m1,F0⟩:∃m1,(4+p0-2-n0).fdiv 2=m1:=⟨_,rfl⟩;have hm1':0<=m1/\m1*2<=4+p0-2-n0/\m1<=20:=by
  have h9:(4+p0-2-n0).fdiv 2=(4+p0-2-n0) / 2:=Int.fdiv_eq_ediv_of_nonneg _ (by omega);rw [h9] at F0;omega
 have hmw:IntKind.i64.wrap (m1+1)=m1+1:=an (by omega) (by omega);obtain⟨p10,hp10⟩:∃p10,jR (IntKind.i64.wrap (l3.tdiv 29)) (m1+1)=p10:=⟨_,rfl⟩;have qp10:=fB (IntKind.i64.wrap (l3.tdiv 29)) (m1+1) (by omega);have Uh:=λA=>ij (IntKind.i64.wrap (l3.tdiv 29)) (m1+1) A (by omega) (by omega);rw [hp10] at qp10 Uh;obtain⟨n1,DO⟩:∃n1,(if 2<p10 then 2 else p10)=n1:=⟨_,rfl⟩;have hn1':0<=n1/\n1<=2/\n1<=m1:=by
  rw [<-DO];split<;>omega
 obtain⟨ck,AE⟩:∃ck,(if p6=0 then p7 else 50)=ck:=⟨_,rfl⟩;have hck':0<=ck/\ck<=50:=by
  rw [<-AE];split<;>omega
 have key:∀A:AW,A.Wf->az Tryz.prog 7 [.int .i64 l0,.int .i64 l1,.int .i64 l2,.int .i64 l3,.int .i64 l4] A (λv A'=>v=(BU p0 p1 p2 p3 p4 p5 ck n0 n1).v/\A.le A'):=by
  intro A hw;refine aH Tryz.func7 λ_=>?_;by_cases h:p6=0
  . rw [ay h] at AE;revert hw;refine W (GK (od LB) @kp0 @kp1 @kp2 @kp3 @kp4 @kp5 @kp6 @kp7 @WM) (J7 h C6 DO F0 hmw @TY bF) ?_<;>(unhygienic intros);refine gM 3 ?_;refine W (J3 (od LB) @WM @Uh) (J7 h C6 DO F0 hmw @TY bF) ?_<;>intros;refine⟨_,by simp [AW.ab];rfl,by simp [BU,bH.v,C6,DO,AE,AW.ab],?_⟩
    repeat' (first|exact AW.le.refl _|refine AW.le.set ?_ (by simp<;>omega) _|refine AW.le.trans ?_ (AW.le.alloc _ _))
  rw [ap h] at AE;revert hw;(repeat first|clear hw|revert hc|revert R|revert K);refine W (GK (od LB) @kp0 @kp1 @kp2 @kp3 @kp4 @kp5 @kp6 @kp7 @WM) (J7 h C6 DO F0 hmw @TY bF) ?_<;>(unhygienic intros);refine gM 3 ?_;refine W (J3 (od LB) @WM @Uh) (J7 h C6 DO F0 hmw @TY bF) ?_<;>intros;refine⟨_,by simp [AW.ab];rfl,by simp [BU,bH.v,C6,DO,AE,AW.ab],?_⟩
  repeat' (first|exact AW.le.refl _|refine AW.le.set ?_ (by simp<;>omega) _|refine AW.le.trans ?_ (AW.le.alloc _ _))
 refine⟨BU p0 p1 p2 p3 p4 p5 ck n0 n1,?_,λA=>az.rR (V:=(BU p0 p1 p2 p3 p4 p5 ck n0 n1).v) (da.agg (by simp [BU])) (λhw=>key A hw) (by kernel_rfl)⟩;refine⟨⟨?_,?_,?_,?_,?_,?_,?_,?_,?_,?_,?_,?_,?_,?_⟩,?_,?_,?_,?_,?_,?_,?_,?_,?_,?_,?_,?_⟩<;>(simp only [BU,bH.nb,bH.hw]<;>omega)
end
section
open T20 T13
variable [Gl]
theorem ah.ll {A:AW} {L:List It} (h:ah A L):ah A (.h eP::L):=by
 unfold ah at h ⊢;show bn A (eP*aL L);rw [iD];exact h
theorem JC {A:AW} {L:List It} {k:Value->AW->Prop} {w:Nat} (Pm:w<=32) (hw:A.Wf) (hS:ah A L) (hk:∀n A',ah A' (.h (nR n (gV w))::L)->A'.Wf->k (pv n) A'):az Tryz.prog 221 [.int .i64 w] A k:=by
 refine bV (HF w Pm A L hw hS) ?_;rintro _ A' ⟨n,rfl,h1⟩ lp _;exact hk n A' h1 lp
theorem O2 (c:bH) (hc:cx c) (t:Int) (A:AW) (F:HP) (hw:A.Wf) (hS:ah A [.h F]) :
 az Tryz.prog 142 [c.v,.int .i64 t] A (λv A'=>∃b,v=pv b/\ah A' [.h (aX b (ey c t)),.h F]):=by
 refine aH Tryz.func142 λ_=>?_;obtain⟨r0,r1⟩:=hc.reads;obtain⟨w0,w1⟩:=hc.cM;obtain⟨w,VO⟩:∃w:Nat,c.cM=w:=⟨c.cM.toNat,by omega⟩;dsimp only [bH.v];rw [VO]
 repeat' (first|(refine jK λR hR=>?_;simp [an,ax,AW.ab,aD];try simp (disch:=omega) only [ay,ap,an,ax])|(refine hR _ _ ?_;clear hR R)|(refine hK _ _ ?_;clear hK K)|refine nx ?_|refine wn λK hK=>?_|simp only [wS]|(refine bV (HD c.reads _ ⟨by omega,r1⟩) ?_;rintro _ _ ⟨rfl,rfl⟩ _ _)|(refine ⟨λA' xL=>by simp [AW.ab,xL],?_⟩)|(refine ⟨by simp [hq],?_⟩)|(refine TC (λA'=>A'.bt A.next=some (.cells [.int .i64 c.aR,.int .i64 c.am,.int .i64 c.base,.int .i64 c.c0,.int .i64 c.c1,.int .i64 c.c2,.int .i64 c.c3,.int .i64 c.reads,.int .i64 w,.int .i64 c.ag,.int .i64 c.ar,.int .i64 c.aw,.bool c.aT] true 1)) Tryz.mx [(0,0),(1,0),(3,0),(4,0),(7,1),(8,0),(2,2),(5,3),(6,0),(9,0),(10,2),(11,0)] (by decide +kernel) λK hK=>?_)|(apply JC (by omega);(·exact wA);(·exact sA);((first|rintro _ _ _ hS hw fo|rintro _ _ hS hw fo|rintro _ _ hS hw);(try refine⟨fo,?_⟩);(try dsimp only [AW.bx] at hS);have hq:=WX hS hw))|(show cB _ _ _ _ _ _;refine nx ?_)|(refine wc rfl (λhc=>?_) (λhc=>?_)<;>(try simp at hc)<;>(try omega)<;>(try (simp [h2] at hc;done))<;>(try (simp [h3] at hc;done))<;>(try (simp [h4] at hc;done)))|(refine ib (λhc=>?_) (λhc=>?_)<;>(try omega)<;>(try simp (disch:=omega) only [ay,ap])))
 have e:ey c t=⟨c,t,0,0,0,none,false,[],[],[],[],gV w,0,[],none,none,0,.bq⟩:=by unfold ey;rw [VO]
 have h:=VO;refine⟨_,by first|rfl|(simp;rfl),_,rfl,?_⟩;rw [e];apply aX.bI;apply ah.pS .i64;apply ah.pS .i64;apply ah.pS .i64;apply ah.pS .i64;apply ah.ll;apply ah.ll;apply ah.ll;apply uO.dU (ee:=c.reads.toNat) (l:=[]) (v:=.slice none 0 0);apply ah.pS .i64
 (·exact sA)
 (·first|exact pP|exact kP)
 (dsimp only [bW,s9,gH,b9,dZ,bm.fA,mv,iM,gN,oz,kR,oR,vU,kV,kN,ig,oA,oe,vF,og,aa,af])
 simp only [h]
 (·first|exact pP|exact kP)
 (·first|exact pP|exact kP)
 all_goals(first|exact 0|exact undef)
theorem Kt (b:Nat) (s:aF) (br:Int) (d:bm) (A:AW) (hw:A.Wf) (hS:ah A [.h (ip b s br d)]) (hl:s.ar.length<2^38) :
 az Tryz.prog 212 [pv b] A (λu A'=>eA A.next A' .i64 u s.ar/\A.le A'):=by
 refine aH Tryz.func212 λ_=>?_;obtain⟨x0,hS⟩:=ip.open hS .z;(unhygienic cases x0);dsimp only [bW,aa,af] at hS;have hI:=ah.pG hS (.s (.s (.s (.s (.s (.s (.s (.s .z))))))));have hq:=ff hS hw;revert hq hS hw;clear hS;refine Wp cy (J1 @AW.ab) ?_<;>(unhygienic intros);refine bV (j0 _ _ A hI (by omega)) ?_;rintro u A1 ⟨h1,h2⟩ i5 _;refine Wp cy trivial ?_<;>intros;exact⟨_,by first|rfl|(simp;rfl),h1,h2⟩
end
section
open T7
variable [Gl]
structure rM (c:bH):Prop where
 ok:cx c
 c0:c.c0=0\/c.c0=1\/c.c0=2
 c1:c.c1=0\/c.c1=1\/c.c1=2
 c2:c.c2=0
 c3:c.c3=0
theorem K9.few {c:bH} (h:K9 c):rM c:=by
 have h1:=h.ok.k0;have h2:=h.ok.k1;have h3:=h.c0;have h4:=h.c1;exact⟨h.ok,by omega,by omega,h.c2,h.c3⟩
def jn (n0 n1:Int):List Int:=[oI 0 (if 0<n0 then 0 else -1),oI 0 (if 0<n1 then n0 else -1),oI 0 (-1),oI 0 (-1)]
def iq (n0 n1:Int):List Int:=(if n0=2 then [2,0] else if n0=1 then [0] else [])++(if n1=2 then [n0+2,0] else if n1=1 then [0] else [])
theorem ah.OR {A:AW} {L K:List It} {b:Nat} {k:IntKind} (l:List Int) (n:Nat) (h:ah A L) (hp:aB L (.at b (.cells (l.map (.int k)) true 1)) K) (hn:n=l.length):ah A (.h (au k (.slice (some ⟨b,0,none⟩) n n) l)::K):=by
 subst hn;unfold ah at h;rw [hp.aL] at h;exact au.mk rfl (Nat.le_refl _) (by simp) (by rw [List.drop_zero,List.take_of_length_le (by simp)]) h
theorem JM (c:bH) (hc:rM c) (A:AW) (F:HP) (hw:A.Wf) (hS:ah A [.h F]) :
 az Tryz.prog 54 [c.v] A (λv A'=>∃vh vn,v=.tuple #[vh,vn]/\ah A' [.h (au .u64 vh (jn c.c0 c.c1)),.h (au .u64 vn (iq c.c0 c.c1)),.h F]):=by
 obtain⟨aR,am,base,n0,n1,n2,n3,reads,cM,ag,ar,aw,aT⟩:=c;obtain⟨ok,h0,h1,h2,h3⟩:=hc;dsimp only at h0 h1 h2 h3 ⊢;subst h2 h3;obtain⟨q,hqn⟩:∃q:Nat,(q:Int)=n0+n1:=⟨(n0+n1).toNat,by omega⟩;have h4:q=0\/q=1\/q=2\/q=3\/q=4:=by omega
 rcases h0 with rfl|rfl|rfl<;>rcases h1 with rfl|rfl|rfl<;>rcases h4 with Uy|Uy|Uy|Uy|Uy<;>(try (exfalso;omega))
 all_goals(
  have hb:=tW _ ok;refine aH Tryz.func54 λ_=>?_;dsimp only [bH.nb,bH.v] at hb ⊢;simp only [Int.add_zero,Int.zero_add,Int.reduceAdd] at hb
  all_goals(revert hS hw;refine W (J1 @hb) (J1 bF) ?_<;>unhygienic intros)
  refine gM 5 ?_
  all_goals(revert hS hw;(repeat first|clear hS|clear hw|revert hc|revert R|revert K);refine W (J1 @mj) (J1 bF) ?_<;>unhygienic intros)
  refine gM 3 ?_
  all_goals(revert hS hw;(repeat first|clear hS|clear hw|revert hc|revert R|revert K);refine W (J1 @mj) (J1 bF) ?_<;>unhygienic intros)
  refine gM 3 ?_
  all_goals(revert hS hw;(repeat first|clear hS|clear hw|revert hc|revert R|revert K);refine W (J1 @mj) (J1 bF) ?_<;>unhygienic intros)
  refine gM 3 ?_
  all_goals(revert hS hw;(repeat first|clear hS|clear hw|revert hc|revert R|revert K);refine W (J1 @mj) (J1 bF) ?_<;>unhygienic intros)
  refine gM 3 ?_
  all_goals(revert hS hw;(repeat first|clear hS|clear hw|revert hc|revert R|revert K);refine W (J1 @mj) (J1 bF) ?_<;>unhygienic intros)
  refine⟨_,by first|(simp [Uy];done)|(simp [Uy];rfl),.slice (some ⟨A.next+1,0,none⟩) 4 4,.slice (some ⟨A.next+1+1,0,none⟩) q q,rfl,?_⟩;refine ah.bI (L:=[.h (au .u64 _ _),.h (au .u64 _ _),.h F]) ?_ (.s .z (.s .z (.s .z .z)));refine ah.OR (k:=.u64) (b:=A.next+1) _ 4 (ah.OR (k:=.u64) (b:=A.next+1+1) _ q (L:=[.at (A.next+1+1) _,.at (A.next+1) _,.h F]) ?_ .z (by rw [Uy];rfl)) (.s .z) rfl;apply ah.bI
  . repeat' (first|exact hS|exact Nat.le_refl _|with_reducible apply ah.fp|with_reducible apply ah.KY|with_reducible apply AW.BK|with_reducible apply AW.Jz|with_reducible apply aB.z|with_reducible apply aB.s|assumption|apply AW.Wf.alloc|apply AW.Wf.set|(simp only [AW.bx,AW.rq];omega)|exact rfl)
  first|exact pA|exact kA)
end
end Go.Stx
