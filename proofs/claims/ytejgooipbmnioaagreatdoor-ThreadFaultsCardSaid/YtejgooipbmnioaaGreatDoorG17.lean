/-
 The program's attempt: reading.
-/
import Derived.Test.YtejgooipbmnioaaGreatDoorG16
set_option linter.unusedVariables false
set_option linter.unusedSimpArgs false
set_option linter.unusedSectionVars false
set_option maxRecDepth 20000
set_option maxHeartbeats 4000000
namespace Go.Stx
open Go Go.Proofs
attribute [local irreducible] TW cg eg bn aC aV cR df
section
abbrev nX:List (Nat×Nat):=[(0,0),(1,0),(2,0),(3,0),(4,0),(5,0),(6,0),(7,0),(8,0),(9,0),(10,0),(11,0),(12,0),(13,0),(14,0),(15,0),(16,0),(17,0),(18,0),(19,0),(20,2),(21,0),(22,0)]
abbrev nW:List (Nat×Nat):=[(0,0),(1,0),(2,0),(3,0),(4,0),(5,0),(6,0),(7,0),(8,0),(9,0),(10,2),(11,3),(12,0),(13,0),(14,0),(15,3)]
abbrev nV:List (Nat×Nat):=[(0,0),(1,0),(2,0),(3,0),(4,0),(5,0),(6,0),(7,0),(8,0),(9,0),(10,0),(11,0),(12,0),(13,2),(14,3),(15,0)]
abbrev nU:List (Nat×Nat):=[(0,0),(1,0),(2,0),(3,0),(4,0),(5,0),(6,0),(7,0),(8,0),(9,2),(10,3)]
open T17 T10
variable [Gl]
set_option maxRecDepth 20000 in
set_option maxHeartbeats 16000000 in
theorem yf (b pb:Nat) (s:aT) (c:gN) (kb:Int) (M:Mm) (hd:s.aG=.bm c (.cM kb)) (hC:fA s) (RJ:s.reads.length+1<2^20) (Zr:0≤c.bX∧c.bX≤2) (wI:c.fO=fD s.cf c.c8) (TN:0≤kb∧kb<s.cf.nb) :
 aY Tryz.prog 148 [pv b,pv pb] [.h (bf b s),dx pb M] (fun v=>v=.tuple #[(dw s M c (.cM kb)).1.v,.int .i64 (dw s M c (.cM kb)).2.1])
  (fun _=>[.h (bf b (dw s M c (.cM kb)).2.2.1),dx pb (dw s M c (.cM kb)).2.2.2]):=by
 obtain⟨cf,am,aA,ay,value,bL,aj,reads,ai,av,set,bp,ax,an,aI,aH,ao,aG⟩:=s
 dsimp only at hd
 subst hd
 dsimp only at TN
 dsimp only at wI RJ
 obtain⟨RL,RK⟩:=hC.cf.reads
 have jB:=hC.set
 dsimp only at RL RK jB
 have ur:cf.reads.toNat≤32:=by omega
 obtain⟨x,c',M',hr⟩:∃x e' M',dE c M=(x,e',M'):=⟨_,_,_,rfl⟩
 have cL:=fun n=>sf n pb c M
 rw [hr] at cL
 have By:IntKind.i64.wrap (5+c.bX)=5+c.bX:=aw (by omega) (by omega)
 have iV:IntKind.i64.wrap (c.bX+1)=c.bX+1:=aw (by omega) (by omega)
 have sz:¬c'.bX=3→c'.bX=c.bX+1:=by
  intro hn
  have JO:(dE c M).2.1=c':=by rw [hr]
  rcases mZ c M with ⟨h,e⟩|⟨h,e⟩|⟨h,e⟩|⟨h,e⟩|⟨h,e⟩|⟨h,e⟩<;>(rw [e] at JO;subst JO;dsimp only at hn ⊢;try omega)
 have vJ:c'.c8=c.c8:=by
  have JO:(dE c M).2.1=c':=by rw [hr]
  rcases mZ c M with ⟨h,e⟩|⟨h,e⟩|⟨h,e⟩|⟨h,e⟩|⟨h,e⟩|⟨h,e⟩<;>(rw [e] at JO;subst JO;rfl)
 have lc:=rC cf hC.cf c.c8
 dsimp only [bC.v] at lc
 have VW:∀rd l2,rd.length<2^20→l2.length≤cf.reads.toNat→fA ⟨cf,am,aA,ay,value,bL,aj,rd,ai,av,l2,bp,ax,an,aI,aH,ao,.bK⟩:=fun rd l2 h1 h2=>⟨hC.cf,hC.Ki,hC.bp,hC.ew,hC.dq,hC.Dn,hC.JU,hC.kT,hC.push,h2,h1,hC.xn⟩
 cases h2:c'.done
 · have h3:¬c'.bX=3:=by simpa [gN.done] using h2
   have e:dw ⟨cf,am,aA,ay,value,bL,aj,reads,ai,av,set,bp,ax,an,aI,aH,ao,.bm c (.cM kb)⟩ M c (.cM kb)=(x,5+c.bX,⟨cf,am,aA,ay,value,bL,aj,reads,ai,av,set,bp,ax,an,aI,aH,ao,.bm c' (.cM kb)⟩,M'):=by
    unfold dw;rw [hr];dsimp only;rw [h2];simp
   rw [e]
   intro A F hw hS
   refine ab Tryz.func148 rfl (by kernel_rfl) fun _=>?_
   dsimp only [af,ag] at hS
   obtain⟨⟨bD,bJ,aJ,aX,aW,m,c0,c1,c2,aZ,aE,aL,aN,bk,aS,bP,aO,aM,aB,bc,bd,bZ,bl⟩,hS⟩:=bf.open hS .z
   dsimp only [bx,ei,br,b8,aU.dT,af,ag] at hS
   have hq:=eW hS hw
   revert hq hS hw;clear hS;refine Wu (J7 (Tg.mk (n:=10) @d7) (od nX) (od nW) (od nV) (od nU) (cL m) (⟨⟩:Ts (fun A'=>A'.bR b=some (.cells [pv bD,pv bJ,aZ,aE,aL,ed bL aJ,pv m,.int .i64 c.bX,bP,cF aI aX,cy aH aW,aO,aM,aB,bc,.int .i64 cf.aQ,.int .i64 cf.an,.int .i64 cf.base,.int .i64 cf.c0,.int .i64 cf.c1,.int .i64 cf.c2,.int .i64 cf.c3,.int .i64 cf.reads,.int .i64 cf.bN,.int .i64 cf.ai,.int .i64 cf.av,.int .i64 cf.ax,.bool cf.aK,.int .i64 am,.int .i64 aA,.int .i64 ay,.int .i64 3,bd,.func (.func 269) #[] #[pv c0,pv c1],.int .i64 c.c8,.int .u64 value,aN,.int .u64 ax,.bool aj,.int .i64 ao] true 1)) [0,0,0,0,0,0,3,0,0,0,0,1,0,2,3,0] (.bh 0 (.bh 1 (.bh 2 (.bh 3 (.bh 4 (.bh 5 (.bh 7 (.bh 8 (.bh 9 (.bh 10 (.bh 11 (.bh 12 (.sc 6 (.bh 13 (.bh 14 (.bh 15 .nil))) 13 (.bh 6 (.bh 14 (.bh 15 .nil)))))))))))))))))) (J7 h2 By iV @AW.aa @ah.eq_1 @bj.eq_1 @ba.v.eq_1) (J2 ?_ ?_)<;>unhygienic intros
   all_goals(have h:c'.bX=c.bX+1∧c'.c8=c.c8:=⟨sz h3,vJ⟩)
   all_goals(
    refine⟨_,by simp [hq,AW.aa,ah];rfl,by simp [ba.v],?_⟩
    apply bf.bS
    (·exact sA)
    (dsimp only [bx,eP,ei,br,b8,aU.dT,ed,cF,cy,dk,cp,dm,eV,cq,cm,bt,dl,dh,eU,di,af,ag])
    try simp only [h]
    (·first|exact pP|exact kP)
    (·first|exact pP|exact kP)
    all_goals(first|exact 0|exact undef))
 · cases h4:c'.gb
   · by_cases h5:c.c8<cf.aQ
     · by_cases h6:c.c8∈reads
       · have h7:(if c.c8<cf.aQ∧¬c.c8∈reads then (⟨cf,am,aA,ay,value,bL,aj,reads++[c.c8],ai,av,set,bp,ax,an,aI,aH,ao,.bm c' (.cM kb)⟩:aT) else ⟨cf,am,aA,ay,value,bL,aj,reads,ai,av,set,bp,ax,an,aI,aH,ao,.bm c' (.cM kb)⟩)=⟨cf,am,aA,ay,value,bL,aj,reads,ai,av,set,bp,ax,an,aI,aH,ao,.bm c' (.cM kb)⟩:=if_neg (fun h=>h.2 h6)
         obtain⟨q,l2,pk⟩:∃q l2,dF cf.reads.toNat set c.fO=(q,l2):=⟨_,_,rfl⟩
         have gh:=fun n=>j8 n cf.reads.toNat set (fD cf c.c8) jB ur
         rw [←wI,pk] at gh
         dsimp only at gh
         have GP:l2.length≤cf.reads.toNat:=by
          have h9:(dF cf.reads.toNat set c.fO).2=l2:=by rw [pk]
          rw [←h9]
          unfold dF
          split
          · exact jB
          · split
            · exact jB
            · simp;omega
         have AE:q=false→l2=set:=by
          intro I3
          have h9:(dF cf.reads.toNat set c.fO).2=l2:=by rw [pk]
          have h8:(dF cf.reads.toNat set c.fO).1=q:=by rw [pk]
          rw [←h9]
          rw [I3] at h8
          unfold dF at h8 ⊢
          split
          · rfl
          · split
            · rfl
            · rename_i g1 g2;rw [if_neg g1,if_neg g2] at h8;cases h8
         cases q
         · have Ly:=AE rfl
           subst l2
           have e:dw ⟨cf,am,aA,ay,value,bL,aj,reads,ai,av,set,bp,ax,an,aI,aH,ao,.bm c (.cM kb)⟩ M c (.cM kb)=(x,5+c.bX,iY ⟨cf,am,aA,ay,value,bL,aj,reads,ai,av,set,bp,ax,an,aI,aH,ao,.bm c' (.cM kb)⟩ 3,M'):=by
            unfold dw;rw [hr];dsimp only;rw [h2,h4,pk,h7];rfl
           rw [e]
           intro A F hw hS
           refine ab Tryz.func148 rfl (by kernel_rfl) fun _=>?_
           dsimp only [af,ag] at hS
           obtain⟨⟨bD,bJ,aJ,aX,aW,m,c0,c1,c2,aZ,aE,aL,aN,bk,aS,bP,aO,aM,aB,bc,bd,bZ,bl⟩,hS⟩:=bf.open hS .z
           dsimp only [bx,ei,br,b8,aU.dT,af,ag] at hS
           have hq:=eW hS hw
           rw [wI] at gh
           revert hq hS hw;(repeat first|clear hq|clear hS|clear hw|revert hc|revert zn|revert zA|revert R|revert K);refine Wu (AT (Tg.mk (n:=10) @d7) (Tg.mk (n:=10) @ds) (Tg.mk (n:=14) @ft) (Tg.mk (n:=20) (gT b ⟨cf,am,aA,ay,value,bL,aj,reads,ai,av,set,bp,ax,an,aI,aH,ao,.bm c' (.cM kb)⟩ 3 3 .bK hC.cf hC.al hC.push (Nat.lt_of_le_of_lt hC.kT (by decide)))) (od nX) (od nW) (od nV) (od nU) @lc (cL m) (gh bD) (⟨⟩:Ts (fun A'=>A'.bR b=some (.cells [pv bD,pv bJ,aZ,aE,aL,ed bL aJ,pv m,.int .i64 c.bX,bP,cF aI aX,cy aH aW,aO,aM,aB,bc,.int .i64 cf.aQ,.int .i64 cf.an,.int .i64 cf.base,.int .i64 cf.c0,.int .i64 cf.c1,.int .i64 cf.c2,.int .i64 cf.c3,.int .i64 cf.reads,.int .i64 cf.bN,.int .i64 cf.ai,.int .i64 cf.av,.int .i64 cf.ax,.bool cf.aK,.int .i64 am,.int .i64 aA,.int .i64 ay,.int .i64 3,bd,.func (.func 269) #[] #[pv c0,pv c1],.int .i64 c.c8,.int .u64 value,aN,.int .u64 ax,.bool aj,.int .i64 ao] true 1)) [0,0,0,0,0,0,3,0,0,0,0,1,0,2,3,0] (.bh 0 (.bh 1 (.bh 2 (.bh 3 (.bh 4 (.bh 5 (.bh 7 (.bh 8 (.bh 9 (.bh 10 (.bh 11 (.bh 12 (.sc 6 (.bh 13 (.bh 14 (.bh 15 .nil))) 13 (.bh 6 (.bh 14 (.bh 15 .nil)))))))))))))))))) (w8 h2 h4 h5 h6 By iV @AW.aa @ah.eq_1 @bj.eq_1 @ba.v.eq_1) (J2 ?_ ?_)<;>unhygienic intros
           all_goals(
            refine⟨_,by simp [hq,AW.aa,ah];rfl,by simp [ba.v],?_⟩
            apply ak.bS
            (·exact sA)
            (·first|exact pP|exact kP))
         · have e:dw ⟨cf,am,aA,ay,value,bL,aj,reads,ai,av,set,bp,ax,an,aI,aH,ao,.bm c (.cM kb)⟩ M c (.cM kb)=(x,5+c.bX,xR ⟨cf,am,aA,ay,value,bL,aj,reads,ai,av,l2,bp,ax,an,aI,aH,ao,.bK⟩ c'.val (.cM kb),M'):=by
            unfold dw;rw [hr];dsimp only;rw [h2,h4,pk,h7];rfl
           rw [e]
           intro A F hw hS
           refine ab Tryz.func148 rfl (by kernel_rfl) fun _=>?_
           dsimp only [af,ag] at hS
           obtain⟨⟨bD,bJ,aJ,aX,aW,m,c0,c1,c2,aZ,aE,aL,aN,bk,aS,bP,aO,aM,aB,bc,bd,bZ,bl⟩,hS⟩:=bf.open hS .z
           dsimp only [bx,ei,br,b8,aU.dT,af,ag] at hS
           have hq:=eW hS hw
           rw [wI] at gh
           revert hq hS hw;(repeat first|clear hq|clear hS|clear hw|revert hc|revert zn|revert zA|revert R|revert K);refine Wu (rQ (Tg.mk (n:=10) @d7) (Tg.mk (n:=10) @ds) (Tg.mk (n:=14) @ft) (Tg.mk (n:=10) @iS) (Tg.mk (n:=21) (oz b c0 c1 ⟨cf,am,aA,ay,value,bL,aj,reads,ai,av,l2,bp,ax,an,aI,aH,ao,.bK⟩ kb c'.val rfl (VW (reads) l2 (by omega) GP) TN)) (od nX) (od nW) (od nV) (od nU) @lc (cL m) (gh bD) (⟨⟩:Ts (fun A'=>A'.bR b=some (.cells [pv bD,pv bJ,aZ,aE,aL,ed bL aJ,pv m,.int .i64 c.bX,bP,cF aI aX,cy aH aW,aO,aM,aB,bc,.int .i64 cf.aQ,.int .i64 cf.an,.int .i64 cf.base,.int .i64 cf.c0,.int .i64 cf.c1,.int .i64 cf.c2,.int .i64 cf.c3,.int .i64 cf.reads,.int .i64 cf.bN,.int .i64 cf.ai,.int .i64 cf.av,.int .i64 cf.ax,.bool cf.aK,.int .i64 am,.int .i64 aA,.int .i64 ay,.int .i64 3,bd,.func (.func 269) #[] #[pv c0,pv c1],.int .i64 c.c8,.int .u64 value,aN,.int .u64 ax,.bool aj,.int .i64 ao] true 1)) [0,0,0,0,0,0,3,0,0,0,0,1,0,2,3,0] (.bh 0 (.bh 1 (.bh 2 (.bh 3 (.bh 4 (.bh 5 (.bh 7 (.bh 8 (.bh 9 (.bh 10 (.bh 11 (.bh 12 (.sc 6 (.bh 13 (.bh 14 (.bh 15 .nil))) 13 (.bh 6 (.bh 14 (.bh 15 .nil)))))))))))))))))) (w8 h2 h4 h5 h6 By iV @AW.aa @ah.eq_1 @bj.eq_1 @ba.v.eq_1) (J2 ?_ ?_)<;>unhygienic intros
           all_goals(
            refine⟨_,by simp [hq,AW.aa,ah];rfl,by simp [ba.v],?_⟩
            apply ak.bS
            (·exact sA)
            (·first|exact pP|exact kP))
       · have h7:(if c.c8<cf.aQ∧¬c.c8∈reads then (⟨cf,am,aA,ay,value,bL,aj,reads++[c.c8],ai,av,set,bp,ax,an,aI,aH,ao,.bm c' (.cM kb)⟩:aT) else ⟨cf,am,aA,ay,value,bL,aj,reads,ai,av,set,bp,ax,an,aI,aH,ao,.bm c' (.cM kb)⟩)=⟨cf,am,aA,ay,value,bL,aj,reads++[c.c8],ai,av,set,bp,ax,an,aI,aH,ao,.bm c' (.cM kb)⟩:=if_pos ⟨h5,h6⟩
         obtain⟨q,l2,pk⟩:∃q l2,dF cf.reads.toNat set c.fO=(q,l2):=⟨_,_,rfl⟩
         have gh:=fun n=>j8 n cf.reads.toNat set (fD cf c.c8) jB ur
         rw [←wI,pk] at gh
         dsimp only at gh
         have GP:l2.length≤cf.reads.toNat:=by
          have h9:(dF cf.reads.toNat set c.fO).2=l2:=by rw [pk]
          rw [←h9]
          unfold dF
          split
          · exact jB
          · split
            · exact jB
            · simp;omega
         have AE:q=false→l2=set:=by
          intro I3
          have h9:(dF cf.reads.toNat set c.fO).2=l2:=by rw [pk]
          have h8:(dF cf.reads.toNat set c.fO).1=q:=by rw [pk]
          rw [←h9]
          rw [I3] at h8
          unfold dF at h8 ⊢
          split
          · rfl
          · split
            · rfl
            · rename_i g1 g2;rw [if_neg g1,if_neg g2] at h8;cases h8
         cases q
         · have Ly:=AE rfl
           subst l2
           have e:dw ⟨cf,am,aA,ay,value,bL,aj,reads,ai,av,set,bp,ax,an,aI,aH,ao,.bm c (.cM kb)⟩ M c (.cM kb)=(x,5+c.bX,iY ⟨cf,am,aA,ay,value,bL,aj,reads++[c.c8],ai,av,set,bp,ax,an,aI,aH,ao,.bm c' (.cM kb)⟩ 3,M'):=by
            unfold dw;rw [hr];dsimp only;rw [h2,h4,pk,h7];rfl
           rw [e]
           intro A F hw hS
           refine ab Tryz.func148 rfl (by kernel_rfl) fun _=>?_
           dsimp only [af,ag] at hS
           obtain⟨⟨bD,bJ,aJ,aX,aW,m,c0,c1,c2,aZ,aE,aL,aN,bk,aS,bP,aO,aM,aB,bc,bd,bZ,bl⟩,hS⟩:=bf.open hS .z
           dsimp only [bx,ei,br,b8,aU.dT,af,ag] at hS
           have hq:=eW hS hw
           rw [wI] at gh
           revert hq hS hw;(repeat first|clear hq|clear hS|clear hw|revert hc|revert zn|revert zA|revert R|revert K);refine Wu (AT (Tg.mk (n:=10) @d7) (Tg.mk (n:=10) @ds) (Tg.mk (n:=14) @ft) (Tg.mk (n:=20) (gT b ⟨cf,am,aA,ay,value,bL,aj,reads++[c.c8],ai,av,set,bp,ax,an,aI,aH,ao,.bm c' (.cM kb)⟩ 3 3 .bK hC.cf hC.al hC.push (Nat.lt_of_le_of_lt hC.kT (by decide)))) (od nX) (od nW) (od nV) (od nU) @lc (cL m) (gh bD) (⟨⟩:Ts (fun A'=>A'.bR b=some (.cells [pv bD,pv bJ,aZ,aE,aL,ed bL aJ,pv m,.int .i64 c.bX,bP,cF aI aX,cy aH aW,aO,aM,aB,bc,.int .i64 cf.aQ,.int .i64 cf.an,.int .i64 cf.base,.int .i64 cf.c0,.int .i64 cf.c1,.int .i64 cf.c2,.int .i64 cf.c3,.int .i64 cf.reads,.int .i64 cf.bN,.int .i64 cf.ai,.int .i64 cf.av,.int .i64 cf.ax,.bool cf.aK,.int .i64 am,.int .i64 aA,.int .i64 ay,.int .i64 3,bd,.func (.func 269) #[] #[pv c0,pv c1],.int .i64 c.c8,.int .u64 value,aN,.int .u64 ax,.bool aj,.int .i64 ao] true 1)) [0,0,0,0,0,0,3,0,0,0,0,1,0,2,3,0] (.bh 0 (.bh 1 (.bh 2 (.bh 3 (.bh 4 (.bh 5 (.bh 7 (.bh 8 (.bh 9 (.bh 10 (.bh 11 (.bh 12 (.sc 6 (.bh 13 (.bh 14 (.bh 15 .nil))) 13 (.bh 6 (.bh 14 (.bh 15 .nil)))))))))))))))))) (w8 h2 h4 h5 h6 By iV @AW.aa @ah.eq_1 @bj.eq_1 @ba.v.eq_1) (J2 ?_ ?_)<;>unhygienic intros
           all_goals(
            refine⟨_,by simp [hq,AW.aa,ah];rfl,by simp [ba.v],?_⟩
            apply ak.bS
            (·exact sA)
            (·first|exact pP|exact kP))
         · have e:dw ⟨cf,am,aA,ay,value,bL,aj,reads,ai,av,set,bp,ax,an,aI,aH,ao,.bm c (.cM kb)⟩ M c (.cM kb)=(x,5+c.bX,xR ⟨cf,am,aA,ay,value,bL,aj,reads++[c.c8],ai,av,l2,bp,ax,an,aI,aH,ao,.bK⟩ c'.val (.cM kb),M'):=by
            unfold dw;rw [hr];dsimp only;rw [h2,h4,pk,h7];rfl
           rw [e]
           intro A F hw hS
           refine ab Tryz.func148 rfl (by kernel_rfl) fun _=>?_
           dsimp only [af,ag] at hS
           obtain⟨⟨bD,bJ,aJ,aX,aW,m,c0,c1,c2,aZ,aE,aL,aN,bk,aS,bP,aO,aM,aB,bc,bd,bZ,bl⟩,hS⟩:=bf.open hS .z
           dsimp only [bx,ei,br,b8,aU.dT,af,ag] at hS
           have hq:=eW hS hw
           rw [wI] at gh
           revert hq hS hw;(repeat first|clear hq|clear hS|clear hw|revert hc|revert zn|revert zA|revert R|revert K);refine Wu (rQ (Tg.mk (n:=10) @d7) (Tg.mk (n:=10) @ds) (Tg.mk (n:=14) @ft) (Tg.mk (n:=10) @iS) (Tg.mk (n:=21) (oz b c0 c1 ⟨cf,am,aA,ay,value,bL,aj,reads++[c.c8],ai,av,l2,bp,ax,an,aI,aH,ao,.bK⟩ kb c'.val rfl (VW (reads++[c.c8]) l2 (by simp<;>omega) GP) TN)) (od nX) (od nW) (od nV) (od nU) @lc (cL m) (gh bD) (⟨⟩:Ts (fun A'=>A'.bR b=some (.cells [pv bD,pv bJ,aZ,aE,aL,ed bL aJ,pv m,.int .i64 c.bX,bP,cF aI aX,cy aH aW,aO,aM,aB,bc,.int .i64 cf.aQ,.int .i64 cf.an,.int .i64 cf.base,.int .i64 cf.c0,.int .i64 cf.c1,.int .i64 cf.c2,.int .i64 cf.c3,.int .i64 cf.reads,.int .i64 cf.bN,.int .i64 cf.ai,.int .i64 cf.av,.int .i64 cf.ax,.bool cf.aK,.int .i64 am,.int .i64 aA,.int .i64 ay,.int .i64 3,bd,.func (.func 269) #[] #[pv c0,pv c1],.int .i64 c.c8,.int .u64 value,aN,.int .u64 ax,.bool aj,.int .i64 ao] true 1)) [0,0,0,0,0,0,3,0,0,0,0,1,0,2,3,0] (.bh 0 (.bh 1 (.bh 2 (.bh 3 (.bh 4 (.bh 5 (.bh 7 (.bh 8 (.bh 9 (.bh 10 (.bh 11 (.bh 12 (.sc 6 (.bh 13 (.bh 14 (.bh 15 .nil))) 13 (.bh 6 (.bh 14 (.bh 15 .nil)))))))))))))))))) (w8 h2 h4 h5 h6 By iV @AW.aa @ah.eq_1 @bj.eq_1 @ba.v.eq_1) (J2 ?_ ?_)<;>unhygienic intros
           all_goals(
            refine⟨_,by simp [hq,AW.aa,ah];rfl,by simp [ba.v],?_⟩
            apply ak.bS
            (·exact sA)
            (·first|exact pP|exact kP))
     · have h6:True:=trivial
       have h7:(if c.c8<cf.aQ∧¬c.c8∈reads then (⟨cf,am,aA,ay,value,bL,aj,reads++[c.c8],ai,av,set,bp,ax,an,aI,aH,ao,.bm c' (.cM kb)⟩:aT) else ⟨cf,am,aA,ay,value,bL,aj,reads,ai,av,set,bp,ax,an,aI,aH,ao,.bm c' (.cM kb)⟩)=⟨cf,am,aA,ay,value,bL,aj,reads,ai,av,set,bp,ax,an,aI,aH,ao,.bm c' (.cM kb)⟩:=if_neg (fun h=>h5 h.1)
       obtain⟨q,l2,pk⟩:∃q l2,dF cf.reads.toNat set c.fO=(q,l2):=⟨_,_,rfl⟩
       have gh:=fun n=>j8 n cf.reads.toNat set (fD cf c.c8) jB ur
       rw [←wI,pk] at gh
       dsimp only at gh
       have GP:l2.length≤cf.reads.toNat:=by
        have h9:(dF cf.reads.toNat set c.fO).2=l2:=by rw [pk]
        rw [←h9]
        unfold dF
        split
        · exact jB
        · split
          · exact jB
          · simp;omega
       have AE:q=false→l2=set:=by
        intro I3
        have h9:(dF cf.reads.toNat set c.fO).2=l2:=by rw [pk]
        have h8:(dF cf.reads.toNat set c.fO).1=q:=by rw [pk]
        rw [←h9]
        rw [I3] at h8
        unfold dF at h8 ⊢
        split
        · rfl
        · split
          · rfl
          · rename_i g1 g2;rw [if_neg g1,if_neg g2] at h8;cases h8
       cases q
       · have Ly:=AE rfl
         subst l2
         have e:dw ⟨cf,am,aA,ay,value,bL,aj,reads,ai,av,set,bp,ax,an,aI,aH,ao,.bm c (.cM kb)⟩ M c (.cM kb)=(x,5+c.bX,iY ⟨cf,am,aA,ay,value,bL,aj,reads,ai,av,set,bp,ax,an,aI,aH,ao,.bm c' (.cM kb)⟩ 3,M'):=by
          unfold dw;rw [hr];dsimp only;rw [h2,h4,pk,h7];rfl
         rw [e]
         intro A F hw hS
         refine ab Tryz.func148 rfl (by kernel_rfl) fun _=>?_
         dsimp only [af,ag] at hS
         obtain⟨⟨bD,bJ,aJ,aX,aW,m,c0,c1,c2,aZ,aE,aL,aN,bk,aS,bP,aO,aM,aB,bc,bd,bZ,bl⟩,hS⟩:=bf.open hS .z
         dsimp only [bx,ei,br,b8,aU.dT,af,ag] at hS
         have hq:=eW hS hw
         rw [wI] at gh
         revert hq hS hw;(repeat first|clear hq|clear hS|clear hw|revert hc|revert zn|revert zA|revert R|revert K);refine Wu (AT (Tg.mk (n:=10) @d7) (Tg.mk (n:=10) @ds) (Tg.mk (n:=14) @ft) (Tg.mk (n:=20) (gT b ⟨cf,am,aA,ay,value,bL,aj,reads,ai,av,set,bp,ax,an,aI,aH,ao,.bm c' (.cM kb)⟩ 3 3 .bK hC.cf hC.al hC.push (Nat.lt_of_le_of_lt hC.kT (by decide)))) (od nX) (od nW) (od nV) (od nU) @lc (cL m) (gh bD) (⟨⟩:Ts (fun A'=>A'.bR b=some (.cells [pv bD,pv bJ,aZ,aE,aL,ed bL aJ,pv m,.int .i64 c.bX,bP,cF aI aX,cy aH aW,aO,aM,aB,bc,.int .i64 cf.aQ,.int .i64 cf.an,.int .i64 cf.base,.int .i64 cf.c0,.int .i64 cf.c1,.int .i64 cf.c2,.int .i64 cf.c3,.int .i64 cf.reads,.int .i64 cf.bN,.int .i64 cf.ai,.int .i64 cf.av,.int .i64 cf.ax,.bool cf.aK,.int .i64 am,.int .i64 aA,.int .i64 ay,.int .i64 3,bd,.func (.func 269) #[] #[pv c0,pv c1],.int .i64 c.c8,.int .u64 value,aN,.int .u64 ax,.bool aj,.int .i64 ao] true 1)) [0,0,0,0,0,0,3,0,0,0,0,1,0,2,3,0] (.bh 0 (.bh 1 (.bh 2 (.bh 3 (.bh 4 (.bh 5 (.bh 7 (.bh 8 (.bh 9 (.bh 10 (.bh 11 (.bh 12 (.sc 6 (.bh 13 (.bh 14 (.bh 15 .nil))) 13 (.bh 6 (.bh 14 (.bh 15 .nil)))))))))))))))))) (w8 h2 h4 h5 h6 By iV @AW.aa @ah.eq_1 @bj.eq_1 @ba.v.eq_1) (J2 ?_ ?_)<;>unhygienic intros
         all_goals(
          refine⟨_,by simp [hq,AW.aa,ah];rfl,by simp [ba.v],?_⟩
          apply ak.bS
          (·exact sA)
          (·first|exact pP|exact kP))
       · have e:dw ⟨cf,am,aA,ay,value,bL,aj,reads,ai,av,set,bp,ax,an,aI,aH,ao,.bm c (.cM kb)⟩ M c (.cM kb)=(x,5+c.bX,xR ⟨cf,am,aA,ay,value,bL,aj,reads,ai,av,l2,bp,ax,an,aI,aH,ao,.bK⟩ c'.val (.cM kb),M'):=by
          unfold dw;rw [hr];dsimp only;rw [h2,h4,pk,h7];rfl
         rw [e]
         intro A F hw hS
         refine ab Tryz.func148 rfl (by kernel_rfl) fun _=>?_
         dsimp only [af,ag] at hS
         obtain⟨⟨bD,bJ,aJ,aX,aW,m,c0,c1,c2,aZ,aE,aL,aN,bk,aS,bP,aO,aM,aB,bc,bd,bZ,bl⟩,hS⟩:=bf.open hS .z
         dsimp only [bx,ei,br,b8,aU.dT,af,ag] at hS
         have hq:=eW hS hw
         rw [wI] at gh
         revert hq hS hw;(repeat first|clear hq|clear hS|clear hw|revert hc|revert zn|revert zA|revert R|revert K);refine Wu (rQ (Tg.mk (n:=10) @d7) (Tg.mk (n:=10) @ds) (Tg.mk (n:=14) @ft) (Tg.mk (n:=10) @iS) (Tg.mk (n:=21) (oz b c0 c1 ⟨cf,am,aA,ay,value,bL,aj,reads,ai,av,l2,bp,ax,an,aI,aH,ao,.bK⟩ kb c'.val rfl (VW (reads) l2 (by omega) GP) TN)) (od nX) (od nW) (od nV) (od nU) @lc (cL m) (gh bD) (⟨⟩:Ts (fun A'=>A'.bR b=some (.cells [pv bD,pv bJ,aZ,aE,aL,ed bL aJ,pv m,.int .i64 c.bX,bP,cF aI aX,cy aH aW,aO,aM,aB,bc,.int .i64 cf.aQ,.int .i64 cf.an,.int .i64 cf.base,.int .i64 cf.c0,.int .i64 cf.c1,.int .i64 cf.c2,.int .i64 cf.c3,.int .i64 cf.reads,.int .i64 cf.bN,.int .i64 cf.ai,.int .i64 cf.av,.int .i64 cf.ax,.bool cf.aK,.int .i64 am,.int .i64 aA,.int .i64 ay,.int .i64 3,bd,.func (.func 269) #[] #[pv c0,pv c1],.int .i64 c.c8,.int .u64 value,aN,.int .u64 ax,.bool aj,.int .i64 ao] true 1)) [0,0,0,0,0,0,3,0,0,0,0,1,0,2,3,0] (.bh 0 (.bh 1 (.bh 2 (.bh 3 (.bh 4 (.bh 5 (.bh 7 (.bh 8 (.bh 9 (.bh 10 (.bh 11 (.bh 12 (.sc 6 (.bh 13 (.bh 14 (.bh 15 .nil))) 13 (.bh 6 (.bh 14 (.bh 15 .nil)))))))))))))))))) (w8 h2 h4 h5 h6 By iV @AW.aa @ah.eq_1 @bj.eq_1 @ba.v.eq_1) (J2 ?_ ?_)<;>unhygienic intros
         all_goals(
          refine⟨_,by simp [hq,AW.aa,ah];rfl,by simp [ba.v],?_⟩
          apply ak.bS
          (·exact sA)
          (·first|exact pP|exact kP))
   · have e:dw ⟨cf,am,aA,ay,value,bL,aj,reads,ai,av,set,bp,ax,an,aI,aH,ao,.bm c (.cM kb)⟩ M c (.cM kb)=(x,5+c.bX,iY ⟨cf,am,aA,ay,value,bL,aj,reads,ai,av,set,bp,ax,an,aI,aH,ao,.bm c' (.cM kb)⟩ 9,M'):=by
      unfold dw;rw [hr];dsimp only;rw [h2,h4];simp
     rw [e]
     intro A F hw hS
     refine ab Tryz.func148 rfl (by kernel_rfl) fun _=>?_
     dsimp only [af,ag] at hS
     obtain⟨⟨bD,bJ,aJ,aX,aW,m,c0,c1,c2,aZ,aE,aL,aN,bk,aS,bP,aO,aM,aB,bc,bd,bZ,bl⟩,hS⟩:=bf.open hS .z
     dsimp only [bx,ei,br,b8,aU.dT,af,ag] at hS
     have hq:=eW hS hw
     revert hq hS hw;(repeat first|clear hq|clear hS|clear hw|revert hc|revert zn|revert zA|revert R|revert K);refine Wu (J9 (Tg.mk (n:=10) @d7) (Tg.mk (n:=10) @ds) (Tg.mk (n:=20) (gT b ⟨cf,am,aA,ay,value,bL,aj,reads,ai,av,set,bp,ax,an,aI,aH,ao,.bm c' (.cM kb)⟩ 3 9 .bK hC.cf hC.al hC.push (Nat.lt_of_le_of_lt hC.kT (by decide)))) (od nX) (od nW) (od nV) (od nU) (cL m) (⟨⟩:Ts (fun A'=>A'.bR b=some (.cells [pv bD,pv bJ,aZ,aE,aL,ed bL aJ,pv m,.int .i64 c.bX,bP,cF aI aX,cy aH aW,aO,aM,aB,bc,.int .i64 cf.aQ,.int .i64 cf.an,.int .i64 cf.base,.int .i64 cf.c0,.int .i64 cf.c1,.int .i64 cf.c2,.int .i64 cf.c3,.int .i64 cf.reads,.int .i64 cf.bN,.int .i64 cf.ai,.int .i64 cf.av,.int .i64 cf.ax,.bool cf.aK,.int .i64 am,.int .i64 aA,.int .i64 ay,.int .i64 3,bd,.func (.func 269) #[] #[pv c0,pv c1],.int .i64 c.c8,.int .u64 value,aN,.int .u64 ax,.bool aj,.int .i64 ao] true 1)) [0,0,0,0,0,0,3,0,0,0,0,1,0,2,3,0] (.bh 0 (.bh 1 (.bh 2 (.bh 3 (.bh 4 (.bh 5 (.bh 7 (.bh 8 (.bh 9 (.bh 10 (.bh 11 (.bh 12 (.sc 6 (.bh 13 (.bh 14 (.bh 15 .nil))) 13 (.bh 6 (.bh 14 (.bh 15 .nil)))))))))))))))))) (J8 h2 h4 By iV @AW.aa @ah.eq_1 @bj.eq_1 @ba.v.eq_1) (J2 ?_ ?_)<;>unhygienic intros
     all_goals(
      refine⟨_,by simp [hq,AW.aa,ah];rfl,by simp [ba.v],?_⟩
      apply ak.bS
      (·exact sA)
      (·first|exact pP|exact kP))
end
end Go.Stx
