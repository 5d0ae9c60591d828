/-
 The program's attempt: reading.
-/
import Derived.Test.YtpealkdhmnomhaaGreatDoorG14
set_option linter.unusedVariables false
set_option linter.unusedSimpArgs false
set_option linter.unusedSectionVars false
set_option maxRecDepth 20000
set_option maxHeartbeats 4000000
open Go.IntKind renaming i64->qY
open Go.Proofs.Tryz renaming func152->Z0
open Nat renaming lt_of_le_of_lt->Z8
open Bool renaming false->qk,true->qg
open Go.IntKind renaming i64->qa,u64->qj
open Go.Stx.eh renaming cells->qi
open Go.Value renaming bool->qn,int->qb
open Option renaming some->qc
namespace Go.Stx
open Go Go.Proofs
attribute [local irreducible] TW bI cM aV aB aL cU dh
section
abbrev ul:List (Nat×Nat):=[(0,0),(1,0),(2,0),(3,0),(4,0),(5,0),(6,0),(7,0),(8,0),(9,0),(10,0),(11,0),(12,0),(13,0),(14,0),(15,0),(16,0),(17,0),(18,0),(19,0),(20,2),(21,0),(22,0)]
abbrev uk:List (Nat×Nat):=[(0,0),(1,0),(2,0),(3,0),(4,0),(5,0),(6,0),(7,0),(8,0),(9,0),(10,2),(11,3),(12,0),(13,0),(14,0),(15,3)]
abbrev uj:List (Nat×Nat):=[(0,0),(1,0),(2,0),(3,0),(4,0),(5,0),(6,0),(7,0),(8,0),(9,0),(10,0),(11,0),(12,0),(13,2),(14,3),(15,0)]
abbrev ui:List (Nat×Nat):=[(0,0),(1,0),(2,0),(3,0),(4,0),(5,0),(6,0),(7,0),(8,0),(9,2),(10,3)]
open T20 T13
variable [Gl]
set_option maxHeartbeats 16000000 in
theorem FN (b pb:Nat) (s:aI) (c:jj) (M:Mm) (hd:s.aH=.bj c .take) (hC:iu s) (hrl:s.reads.length+1<2^20) (hca:0<=c.cr/\c.cr<=2) (wY:c.iK=gV s.cf c.d8) :
 bx Tryz.prog 152 [pv b,pv pb] [.h (bp b s),ei pb M] (λv=>v=.tuple #[(dq s M c .take).1.v,qb qa (dq s M c .take).2.1])
  (λ_=>[.h (bp b (dq s M c .take).2.2.1),ei pb (dq s M c .take).2.2.2]):=by
 (unhygienic cases s);dsimp only at hd;subst hd
 skip
 dsimp only at wY hrl;obtain⟨hr0,Ln⟩:=hC.cf.reads;have jx:=hC.set;dsimp only at hr0 Ln jx;have zU:cf.reads.toNat<=32:=Ya
 obtain⟨x,c',M',hr⟩:∃x e' M',dW c M=(x,e',M'):=⟨_,_,_,rfl⟩;have dT:=λn=>Ak n pb c M;rw [hr] at dT;have BF:qY.wrap (5+c.cr)=5+c.cr:=af Ya Ya;have iZ:qY.wrap (c.cr+1)=c.cr+1:=af Ya Ya;have nV:¬c'.cr=3->c'.cr=c.cr+1:=by
  intro hn;have Uj:(dW c M).2.1=c':=by rw [hr]
  rcases sW c M with ⟨h,e⟩|⟨h,e⟩|⟨h,e⟩|⟨h,e⟩|⟨h,e⟩|⟨h,e⟩<;>(rw [e] at Uj;subst Uj;dsimp only at hn ⊢;try omega)
 have DG:c'.d8=c.d8:=by
  have Uj:(dW c M).2.1=c':=by rw [hr]
  rcases sW c M with ⟨h,e⟩|⟨h,e⟩|⟨h,e⟩|⟨h,e⟩|⟨h,e⟩|⟨h,e⟩<;>(rw [e] at Uj;subst Uj;rfl)
 have pu:=zm cf hC.cf c.d8;dsimp only [aY.v] at pu;cases h2:c'.done
 . have h3:¬c'.cr=3:=by simpa [jj.done] using h2
   have e:dq ⟨cf,am,aF,aD,value,bT,ao,reads,ar,aA,set,bG,aC,av,aP,aN,ax,.bj c .take⟩ M c .take=(x,5+c.cr,⟨cf,am,aF,aD,value,bT,ao,reads,ar,aA,set,bG,aC,av,aP,aN,ax,.bj c' .take⟩,M'):=by
    unfold dq;rw [hr];dsimp only;rw [h2];simp
   rw [e];intro A F hw hS;refine aK Z0 λ_=>?_;dsimp only [aa,ah] at hS;obtain⟨x0,hS⟩:=bp.open hS .z;(unhygienic cases x0);dsimp only [cX,jk,dk,fi,bJ.gB,aa,ah] at hS;have hq:=gD hS hw;revert hq hS hw;clear hS;refine Wu (J7 (Tg.mk (n:=10) @fy) (od ul) (od uk) (od uj) (od ui) (dT m) (⟨⟩:Ts (λA'=>A'.bk b=qc (qi [pv eT,pv fp,dE,bF,cF,pF bT b8,pv m,qb qa c.cr,fJ,kF aP dz,ju aN dv,cK,cH,br,dG,qb qa cf.bg,qb qa cf.av,qb qa cf.base,qb qa cf.c0,qb qa cf.c1,qb qa cf.c2,qb qa cf.c3,qb qa cf.reads,qb qa cf.bU,qb qa cf.ar,qb qa cf.aA,qb qa cf.aC,qn cf.bd,qb qa am,qb qa aF,qb qa aD,qb qa 3,dP,.func (.func 177) #[] #[pv c0],qb qa c.d8,qb qj value,cJ,qb qj aC,qn ao,qb qa ax] qg 1)) [0,0,0,0,0,0,3,0,0,0,0,1,0,2,3,0] (.aM 0 (.aM 1 (.aM 2 (.aM 3 (.aM 4 (.aM 5 (.aM 7 (.aM 8 (.aM 9 (.aM 10 (.aM 11 (.aM 12 (.uW 6 (.aM 13 (.aM 14 (.aM 15 .nil))) 13 (.aM 6 (.aM 14 (.aM 15 .nil)))))))))))))))))) (J6 h2 BF iZ bC @bn.eq_1 @bh.v.eq_1) (J2 ?_ ?_)<;>(unhygienic intros)
   all_goals(have h:c'.cr=c.cr+1/\c'.d8=c.d8:=⟨nV h3,DG⟩)
   all_goals(
    refine⟨_,by simp [AW.ab];rfl,by simp [bh.v],?_⟩;apply bp.bX
    (·exact sA)
    exact fP
    (·exact pP)
    all_goals(first|exact 0|exact undef))
 cases h4:c'.iS
 . by_cases h5:c.d8<cf.bg
   . by_cases h6:c.d8∈reads
     . have h7:(if c.d8<cf.bg/\¬c.d8∈reads then (⟨cf,am,aF,aD,value,bT,ao,reads++[c.d8],ar,aA,set,bG,aC,av,aP,aN,ax,.bj c' .take⟩:aI) else ⟨cf,am,aF,aD,value,bT,ao,reads,ar,aA,set,bG,aC,av,aP,aN,ax,.bj c' .take⟩)=⟨cf,am,aF,aD,value,bT,ao,reads,ar,aA,set,bG,aC,av,aP,aN,ax,.bj c' .take⟩:=aw (λh=>h.2 h6);obtain⟨q,l2,vI⟩:∃q l2,eO cf.reads.toNat set c.iK=(q,l2):=⟨_,_,rfl⟩;have jn:=λn=>nJ n cf.reads.toNat set (gV cf c.d8) jx zU;rw [<-wY,vI] at jn;dsimp only at jn;have HZ:l2.length<=cf.reads.toNat:=by
        have h9:(eO cf.reads.toNat set c.iK).2=l2:=Yk;rw [<-h9];unfold eO;split;exact jx;split;exact jx;simp;omega
       have IU:q=qk->l2=set:=by
        intro Fh;have h9:(eO cf.reads.toNat set c.iK).2=l2:=Yk;have h8:(eO cf.reads.toNat set c.iK).1=q:=Yk;rw [<-h9];rw [Fh] at h8;unfold eO at h8 ⊢;split;rfl;split;rfl;rename_i g1 g2;rw [aw g1,aw g2] at h8;cases h8
       cases q
       . have Wk:=IU rfl;subst l2;have e:dq ⟨cf,am,aF,aD,value,bT,ao,reads,ar,aA,set,bG,aC,av,aP,aN,ax,.bj c .take⟩ M c .take=(x,5+c.cr,kE ⟨cf,am,aF,aD,value,bT,ao,reads,ar,aA,set,bG,aC,av,aP,aN,ax,.bj c' .take⟩ 3,M'):=by
          unfold dq;rw [hr];dsimp only;rw [h2,h4,vI,h7];rfl
         rw [e];intro A F hw hS;refine aK Z0 λ_=>?_;dsimp only [aa,ah] at hS;obtain⟨x0,hS⟩:=bp.open hS .z;(unhygienic cases x0);dsimp only [cX,jk,dk,fi,bJ.gB,aa,ah] at hS;have hq:=gD hS hw;rw [wY] at jn;revert hq hS hw;(repeat clear hS);refine Wu (vZ (Tg.mk (n:=10) @fy) (Tg.mk (n:=10) @eB) (Tg.mk (n:=14) @ig) (Tg.mk (n:=20) (ke b ⟨cf,am,aF,aD,value,bT,ao,reads,ar,aA,set,bG,aC,av,aP,aN,ax,.bj c' .take⟩ 3 3 .bL hC.cf hC.al hC.push (Z8 hC.oO Yf))) (od ul) (od uk) (od uj) (od ui) @pu (dT m) (jn eT) (⟨⟩:Ts (λA'=>A'.bk b=qc (qi [pv eT,pv fp,dE,bF,cF,pF bT b8,pv m,qb qa c.cr,fJ,kF aP dz,ju aN dv,cK,cH,br,dG,qb qa cf.bg,qb qa cf.av,qb qa cf.base,qb qa cf.c0,qb qa cf.c1,qb qa cf.c2,qb qa cf.c3,qb qa cf.reads,qb qa cf.bU,qb qa cf.ar,qb qa cf.aA,qb qa cf.aC,qn cf.bd,qb qa am,qb qa aF,qb qa aD,qb qa 3,dP,.func (.func 177) #[] #[pv c0],qb qa c.d8,qb qj value,cJ,qb qj aC,qn ao,qb qa ax] qg 1)) [0,0,0,0,0,0,3,0,0,0,0,1,0,2,3,0] (.aM 0 (.aM 1 (.aM 2 (.aM 3 (.aM 4 (.aM 5 (.aM 7 (.aM 8 (.aM 9 (.aM 10 (.aM 11 (.aM 12 (.uW 6 (.aM 13 (.aM 14 (.aM 15 .nil))) 13 (.aM 6 (.aM 14 (.aM 15 .nil)))))))))))))))))) (J9 h2 h4 h5 h6 BF iZ bC @bn.eq_1 @bh.v.eq_1) (J2 ?_ ?_)<;>(unhygienic intros)
         all_goals(
          refine⟨_,by simp [AW.ab];rfl,by simp [bh.v],?_⟩;apply aj.bX
          (·exact sA)
          (·exact pP))
       have e:dq ⟨cf,am,aF,aD,value,bT,ao,reads,ar,aA,set,bG,aC,av,aP,aN,ax,.bj c .take⟩ M c .take=(x,5+c.cr,AL ⟨cf,am,aF,aD,value,bT,ao,reads,ar,aA,l2,bG,aC,av,aP,aN,ax,.bL⟩ c'.val .take,M'):=by
        unfold dq;rw [hr];dsimp only;rw [h2,h4,vI,h7];rfl
       rw [e];intro A F hw hS;refine aK Z0 λ_=>?_;dsimp only [aa,ah] at hS;obtain⟨x0,hS⟩:=bp.open hS .z;(unhygienic cases x0);dsimp only [cX,jk,dk,fi,bJ.gB,aa,ah] at hS;have hq:=gD hS hw;rw [wY] at jn;revert hq hS hw;(repeat clear hS);refine Wu (mW (Tg.mk (n:=10) @fy) (Tg.mk (n:=10) @eB) (Tg.mk (n:=14) @ig) (Tg.mk (n:=10) @lL) (Tg.mk (n:=21) (rY b c0 ⟨cf,am,aF,aD,value,bT,ao,reads,ar,aA,l2,bG,aC,av,aP,aN,ax,.bL⟩ c'.val rfl)) (od ul) (od uk) (od uj) (od ui) @pu (dT m) (jn eT) (⟨⟩:Ts (λA'=>A'.bk b=qc (qi [pv eT,pv fp,dE,bF,cF,pF bT b8,pv m,qb qa c.cr,fJ,kF aP dz,ju aN dv,cK,cH,br,dG,qb qa cf.bg,qb qa cf.av,qb qa cf.base,qb qa cf.c0,qb qa cf.c1,qb qa cf.c2,qb qa cf.c3,qb qa cf.reads,qb qa cf.bU,qb qa cf.ar,qb qa cf.aA,qb qa cf.aC,qn cf.bd,qb qa am,qb qa aF,qb qa aD,qb qa 3,dP,.func (.func 177) #[] #[pv c0],qb qa c.d8,qb qj value,cJ,qb qj aC,qn ao,qb qa ax] qg 1)) [0,0,0,0,0,0,3,0,0,0,0,1,0,2,3,0] (.aM 0 (.aM 1 (.aM 2 (.aM 3 (.aM 4 (.aM 5 (.aM 7 (.aM 8 (.aM 9 (.aM 10 (.aM 11 (.aM 12 (.uW 6 (.aM 13 (.aM 14 (.aM 15 .nil))) 13 (.aM 6 (.aM 14 (.aM 15 .nil)))))))))))))))))) (J9 h2 h4 h5 h6 BF iZ bC @bn.eq_1 @bh.v.eq_1) (J2 ?_ ?_)<;>(unhygienic intros)
       all_goals(
        refine⟨_,by simp [AW.ab];rfl,by simp [bh.v],?_⟩;apply aj.bX
        (·exact sA)
        (·exact pP))
     have h7:(if c.d8<cf.bg/\¬c.d8∈reads then (⟨cf,am,aF,aD,value,bT,ao,reads++[c.d8],ar,aA,set,bG,aC,av,aP,aN,ax,.bj c' .take⟩:aI) else ⟨cf,am,aF,aD,value,bT,ao,reads,ar,aA,set,bG,aC,av,aP,aN,ax,.bj c' .take⟩)=⟨cf,am,aF,aD,value,bT,ao,reads++[c.d8],ar,aA,set,bG,aC,av,aP,aN,ax,.bj c' .take⟩:=ay ⟨h5,h6⟩;obtain⟨q,l2,vI⟩:∃q l2,eO cf.reads.toNat set c.iK=(q,l2):=⟨_,_,rfl⟩;have jn:=λn=>nJ n cf.reads.toNat set (gV cf c.d8) jx zU;rw [<-wY,vI] at jn;dsimp only at jn;have HZ:l2.length<=cf.reads.toNat:=by
      have h9:(eO cf.reads.toNat set c.iK).2=l2:=Yk;rw [<-h9];unfold eO;split;exact jx;split;exact jx;simp;omega
     have IU:q=qk->l2=set:=by
      intro Fh;have h9:(eO cf.reads.toNat set c.iK).2=l2:=Yk;have h8:(eO cf.reads.toNat set c.iK).1=q:=Yk;rw [<-h9];rw [Fh] at h8;unfold eO at h8 ⊢;split;rfl;split;rfl;rename_i g1 g2;rw [aw g1,aw g2] at h8;cases h8
     cases q
     . have Wk:=IU rfl;subst l2;have e:dq ⟨cf,am,aF,aD,value,bT,ao,reads,ar,aA,set,bG,aC,av,aP,aN,ax,.bj c .take⟩ M c .take=(x,5+c.cr,kE ⟨cf,am,aF,aD,value,bT,ao,reads++[c.d8],ar,aA,set,bG,aC,av,aP,aN,ax,.bj c' .take⟩ 3,M'):=by
        unfold dq;rw [hr];dsimp only;rw [h2,h4,vI,h7];rfl
       rw [e];intro A F hw hS;refine aK Z0 λ_=>?_;dsimp only [aa,ah] at hS;obtain⟨x0,hS⟩:=bp.open hS .z;(unhygienic cases x0);dsimp only [cX,jk,dk,fi,bJ.gB,aa,ah] at hS;have hq:=gD hS hw;rw [wY] at jn;revert hq hS hw;(repeat clear hS);refine Wu (vZ (Tg.mk (n:=10) @fy) (Tg.mk (n:=10) @eB) (Tg.mk (n:=14) @ig) (Tg.mk (n:=20) (ke b ⟨cf,am,aF,aD,value,bT,ao,reads++[c.d8],ar,aA,set,bG,aC,av,aP,aN,ax,.bj c' .take⟩ 3 3 .bL hC.cf hC.al hC.push (Z8 hC.oO Yf))) (od ul) (od uk) (od uj) (od ui) @pu (dT m) (jn eT) (⟨⟩:Ts (λA'=>A'.bk b=qc (qi [pv eT,pv fp,dE,bF,cF,pF bT b8,pv m,qb qa c.cr,fJ,kF aP dz,ju aN dv,cK,cH,br,dG,qb qa cf.bg,qb qa cf.av,qb qa cf.base,qb qa cf.c0,qb qa cf.c1,qb qa cf.c2,qb qa cf.c3,qb qa cf.reads,qb qa cf.bU,qb qa cf.ar,qb qa cf.aA,qb qa cf.aC,qn cf.bd,qb qa am,qb qa aF,qb qa aD,qb qa 3,dP,.func (.func 177) #[] #[pv c0],qb qa c.d8,qb qj value,cJ,qb qj aC,qn ao,qb qa ax] qg 1)) [0,0,0,0,0,0,3,0,0,0,0,1,0,2,3,0] (.aM 0 (.aM 1 (.aM 2 (.aM 3 (.aM 4 (.aM 5 (.aM 7 (.aM 8 (.aM 9 (.aM 10 (.aM 11 (.aM 12 (.uW 6 (.aM 13 (.aM 14 (.aM 15 .nil))) 13 (.aM 6 (.aM 14 (.aM 15 .nil)))))))))))))))))) (J9 h2 h4 h5 h6 BF iZ bC @bn.eq_1 @bh.v.eq_1) (J2 ?_ ?_)<;>(unhygienic intros)
       all_goals(
        refine⟨_,by simp [AW.ab];rfl,by simp [bh.v],?_⟩;apply aj.bX
        (·exact sA)
        (·exact pP))
     have e:dq ⟨cf,am,aF,aD,value,bT,ao,reads,ar,aA,set,bG,aC,av,aP,aN,ax,.bj c .take⟩ M c .take=(x,5+c.cr,AL ⟨cf,am,aF,aD,value,bT,ao,reads++[c.d8],ar,aA,l2,bG,aC,av,aP,aN,ax,.bL⟩ c'.val .take,M'):=by
      unfold dq;rw [hr];dsimp only;rw [h2,h4,vI,h7];rfl
     rw [e];intro A F hw hS;refine aK Z0 λ_=>?_;dsimp only [aa,ah] at hS;obtain⟨x0,hS⟩:=bp.open hS .z;(unhygienic cases x0);dsimp only [cX,jk,dk,fi,bJ.gB,aa,ah] at hS;have hq:=gD hS hw;rw [wY] at jn;revert hq hS hw;(repeat clear hS);refine Wu (mW (Tg.mk (n:=10) @fy) (Tg.mk (n:=10) @eB) (Tg.mk (n:=14) @ig) (Tg.mk (n:=10) @lL) (Tg.mk (n:=21) (rY b c0 ⟨cf,am,aF,aD,value,bT,ao,reads++[c.d8],ar,aA,l2,bG,aC,av,aP,aN,ax,.bL⟩ c'.val rfl)) (od ul) (od uk) (od uj) (od ui) @pu (dT m) (jn eT) (⟨⟩:Ts (λA'=>A'.bk b=qc (qi [pv eT,pv fp,dE,bF,cF,pF bT b8,pv m,qb qa c.cr,fJ,kF aP dz,ju aN dv,cK,cH,br,dG,qb qa cf.bg,qb qa cf.av,qb qa cf.base,qb qa cf.c0,qb qa cf.c1,qb qa cf.c2,qb qa cf.c3,qb qa cf.reads,qb qa cf.bU,qb qa cf.ar,qb qa cf.aA,qb qa cf.aC,qn cf.bd,qb qa am,qb qa aF,qb qa aD,qb qa 3,dP,.func (.func 177) #[] #[pv c0],qb qa c.d8,qb qj value,cJ,qb qj aC,qn ao,qb qa ax] qg 1)) [0,0,0,0,0,0,3,0,0,0,0,1,0,2,3,0] (.aM 0 (.aM 1 (.aM 2 (.aM 3 (.aM 4 (.aM 5 (.aM 7 (.aM 8 (.aM 9 (.aM 10 (.aM 11 (.aM 12 (.uW 6 (.aM 13 (.aM 14 (.aM 15 .nil))) 13 (.aM 6 (.aM 14 (.aM 15 .nil)))))))))))))))))) (J9 h2 h4 h5 h6 BF iZ bC @bn.eq_1 @bh.v.eq_1) (J2 ?_ ?_)<;>(unhygienic intros)
     all_goals(
      refine⟨_,by simp [AW.ab];rfl,by simp [bh.v],?_⟩;apply aj.bX
      (·exact sA)
      (·exact pP))
   have h6:True:=trivial;have h7:(if c.d8<cf.bg/\¬c.d8∈reads then (⟨cf,am,aF,aD,value,bT,ao,reads++[c.d8],ar,aA,set,bG,aC,av,aP,aN,ax,.bj c' .take⟩:aI) else ⟨cf,am,aF,aD,value,bT,ao,reads,ar,aA,set,bG,aC,av,aP,aN,ax,.bj c' .take⟩)=⟨cf,am,aF,aD,value,bT,ao,reads,ar,aA,set,bG,aC,av,aP,aN,ax,.bj c' .take⟩:=aw (λh=>h5 h.1);obtain⟨q,l2,vI⟩:∃q l2,eO cf.reads.toNat set c.iK=(q,l2):=⟨_,_,rfl⟩;have jn:=λn=>nJ n cf.reads.toNat set (gV cf c.d8) jx zU;rw [<-wY,vI] at jn;dsimp only at jn;have HZ:l2.length<=cf.reads.toNat:=by
    have h9:(eO cf.reads.toNat set c.iK).2=l2:=Yk;rw [<-h9];unfold eO;split;exact jx;split;exact jx;simp;omega
   have IU:q=qk->l2=set:=by
    intro Fh;have h9:(eO cf.reads.toNat set c.iK).2=l2:=Yk;have h8:(eO cf.reads.toNat set c.iK).1=q:=Yk;rw [<-h9];rw [Fh] at h8;unfold eO at h8 ⊢;split;rfl;split;rfl;rename_i g1 g2;rw [aw g1,aw g2] at h8;cases h8
   cases q
   . have Wk:=IU rfl;subst l2;have e:dq ⟨cf,am,aF,aD,value,bT,ao,reads,ar,aA,set,bG,aC,av,aP,aN,ax,.bj c .take⟩ M c .take=(x,5+c.cr,kE ⟨cf,am,aF,aD,value,bT,ao,reads,ar,aA,set,bG,aC,av,aP,aN,ax,.bj c' .take⟩ 3,M'):=by
      unfold dq;rw [hr];dsimp only;rw [h2,h4,vI,h7];rfl
     rw [e];intro A F hw hS;refine aK Z0 λ_=>?_;dsimp only [aa,ah] at hS;obtain⟨x0,hS⟩:=bp.open hS .z;(unhygienic cases x0);dsimp only [cX,jk,dk,fi,bJ.gB,aa,ah] at hS;have hq:=gD hS hw;rw [wY] at jn;revert hq hS hw;(repeat clear hS);refine Wu (vZ (Tg.mk (n:=10) @fy) (Tg.mk (n:=10) @eB) (Tg.mk (n:=14) @ig) (Tg.mk (n:=20) (ke b ⟨cf,am,aF,aD,value,bT,ao,reads,ar,aA,set,bG,aC,av,aP,aN,ax,.bj c' .take⟩ 3 3 .bL hC.cf hC.al hC.push (Z8 hC.oO Yf))) (od ul) (od uk) (od uj) (od ui) @pu (dT m) (jn eT) (⟨⟩:Ts (λA'=>A'.bk b=qc (qi [pv eT,pv fp,dE,bF,cF,pF bT b8,pv m,qb qa c.cr,fJ,kF aP dz,ju aN dv,cK,cH,br,dG,qb qa cf.bg,qb qa cf.av,qb qa cf.base,qb qa cf.c0,qb qa cf.c1,qb qa cf.c2,qb qa cf.c3,qb qa cf.reads,qb qa cf.bU,qb qa cf.ar,qb qa cf.aA,qb qa cf.aC,qn cf.bd,qb qa am,qb qa aF,qb qa aD,qb qa 3,dP,.func (.func 177) #[] #[pv c0],qb qa c.d8,qb qj value,cJ,qb qj aC,qn ao,qb qa ax] qg 1)) [0,0,0,0,0,0,3,0,0,0,0,1,0,2,3,0] (.aM 0 (.aM 1 (.aM 2 (.aM 3 (.aM 4 (.aM 5 (.aM 7 (.aM 8 (.aM 9 (.aM 10 (.aM 11 (.aM 12 (.uW 6 (.aM 13 (.aM 14 (.aM 15 .nil))) 13 (.aM 6 (.aM 14 (.aM 15 .nil)))))))))))))))))) (J9 h2 h4 h5 h6 BF iZ bC @bn.eq_1 @bh.v.eq_1) (J2 ?_ ?_)<;>(unhygienic intros)
     all_goals(
      refine⟨_,by simp [AW.ab];rfl,by simp [bh.v],?_⟩;apply aj.bX
      (·exact sA)
      (·exact pP))
   have e:dq ⟨cf,am,aF,aD,value,bT,ao,reads,ar,aA,set,bG,aC,av,aP,aN,ax,.bj c .take⟩ M c .take=(x,5+c.cr,AL ⟨cf,am,aF,aD,value,bT,ao,reads,ar,aA,l2,bG,aC,av,aP,aN,ax,.bL⟩ c'.val .take,M'):=by
    unfold dq;rw [hr];dsimp only;rw [h2,h4,vI,h7];rfl
   rw [e];intro A F hw hS;refine aK Z0 λ_=>?_;dsimp only [aa,ah] at hS;obtain⟨x0,hS⟩:=bp.open hS .z;(unhygienic cases x0);dsimp only [cX,jk,dk,fi,bJ.gB,aa,ah] at hS;have hq:=gD hS hw;rw [wY] at jn;revert hq hS hw;(repeat clear hS);refine Wu (mW (Tg.mk (n:=10) @fy) (Tg.mk (n:=10) @eB) (Tg.mk (n:=14) @ig) (Tg.mk (n:=10) @lL) (Tg.mk (n:=21) (rY b c0 ⟨cf,am,aF,aD,value,bT,ao,reads,ar,aA,l2,bG,aC,av,aP,aN,ax,.bL⟩ c'.val rfl)) (od ul) (od uk) (od uj) (od ui) @pu (dT m) (jn eT) (⟨⟩:Ts (λA'=>A'.bk b=qc (qi [pv eT,pv fp,dE,bF,cF,pF bT b8,pv m,qb qa c.cr,fJ,kF aP dz,ju aN dv,cK,cH,br,dG,qb qa cf.bg,qb qa cf.av,qb qa cf.base,qb qa cf.c0,qb qa cf.c1,qb qa cf.c2,qb qa cf.c3,qb qa cf.reads,qb qa cf.bU,qb qa cf.ar,qb qa cf.aA,qb qa cf.aC,qn cf.bd,qb qa am,qb qa aF,qb qa aD,qb qa 3,dP,.func (.func 177) #[] #[pv c0],qb qa c.d8,qb qj value,cJ,qb qj aC,qn ao,qb qa ax] qg 1)) [0,0,0,0,0,0,3,0,0,0,0,1,0,2,3,0] (.aM 0 (.aM 1 (.aM 2 (.aM 3 (.aM 4 (.aM 5 (.aM 7 (.aM 8 (.aM 9 (.aM 10 (.aM 11 (.aM 12 (.uW 6 (.aM 13 (.aM 14 (.aM 15 .nil))) 13 (.aM 6 (.aM 14 (.aM 15 .nil)))))))))))))))))) (J9 h2 h4 h5 h6 BF iZ bC @bn.eq_1 @bh.v.eq_1) (J2 ?_ ?_)<;>(unhygienic intros)
   all_goals(
    refine⟨_,by simp [AW.ab];rfl,by simp [bh.v],?_⟩;apply aj.bX
    (·exact sA)
    (·exact pP))
 have e:dq ⟨cf,am,aF,aD,value,bT,ao,reads,ar,aA,set,bG,aC,av,aP,aN,ax,.bj c .take⟩ M c .take=(x,5+c.cr,kE ⟨cf,am,aF,aD,value,bT,ao,reads,ar,aA,set,bG,aC,av,aP,aN,ax,.bj c' .take⟩ 9,M'):=by
  unfold dq;rw [hr];dsimp only;rw [h2,h4];simp
 rw [e];intro A F hw hS;refine aK Z0 λ_=>?_;dsimp only [aa,ah] at hS;obtain⟨x0,hS⟩:=bp.open hS .z;(unhygienic cases x0);dsimp only [cX,jk,dk,fi,bJ.gB,aa,ah] at hS;have hq:=gD hS hw;revert hq hS hw;(repeat clear hS);refine Wu (J9 (Tg.mk (n:=10) @fy) (Tg.mk (n:=10) @eB) (Tg.mk (n:=20) (ke b ⟨cf,am,aF,aD,value,bT,ao,reads,ar,aA,set,bG,aC,av,aP,aN,ax,.bj c' .take⟩ 3 9 .bL hC.cf hC.al hC.push (Z8 hC.oO Yf))) (od ul) (od uk) (od uj) (od ui) (dT m) (⟨⟩:Ts (λA'=>A'.bk b=qc (qi [pv eT,pv fp,dE,bF,cF,pF bT b8,pv m,qb qa c.cr,fJ,kF aP dz,ju aN dv,cK,cH,br,dG,qb qa cf.bg,qb qa cf.av,qb qa cf.base,qb qa cf.c0,qb qa cf.c1,qb qa cf.c2,qb qa cf.c3,qb qa cf.reads,qb qa cf.bU,qb qa cf.ar,qb qa cf.aA,qb qa cf.aC,qn cf.bd,qb qa am,qb qa aF,qb qa aD,qb qa 3,dP,.func (.func 177) #[] #[pv c0],qb qa c.d8,qb qj value,cJ,qb qj aC,qn ao,qb qa ax] qg 1)) [0,0,0,0,0,0,3,0,0,0,0,1,0,2,3,0] (.aM 0 (.aM 1 (.aM 2 (.aM 3 (.aM 4 (.aM 5 (.aM 7 (.aM 8 (.aM 9 (.aM 10 (.aM 11 (.aM 12 (.uW 6 (.aM 13 (.aM 14 (.aM 15 .nil))) 13 (.aM 6 (.aM 14 (.aM 15 .nil)))))))))))))))))) (J7 h2 h4 BF iZ bC @bn.eq_1 @bh.v.eq_1) (J2 ?_ ?_)<;>(unhygienic intros)
 all_goals(
  refine⟨_,by simp [AW.ab];rfl,by simp [bh.v],?_⟩;apply aj.bX
  (·exact sA)
  (·exact pP))
end
section
abbrev uh:List (Nat×Nat):=[(0,0),(1,0),(2,0),(3,0),(4,0),(5,0),(6,0),(7,0),(8,0),(9,0),(10,0),(11,0),(12,0),(13,0),(14,0),(15,0),(16,0),(17,0),(18,0),(19,0),(20,2),(21,0),(22,0)]
abbrev ug:List (Nat×Nat):=[(0,0),(1,0),(2,0),(3,0),(4,0),(5,0),(6,0),(7,0),(8,0),(9,0),(10,2),(11,3),(12,0),(13,0),(14,0),(15,3)]
abbrev uf:List (Nat×Nat):=[(0,0),(1,0),(2,0),(3,0),(4,0),(5,0),(6,0),(7,0),(8,0),(9,0),(10,0),(11,0),(12,0),(13,2),(14,3),(15,0)]
abbrev ue:List (Nat×Nat):=[(0,0),(1,0),(2,0),(3,0),(4,0),(5,0),(6,0),(7,0),(8,0),(9,2),(10,3)]
open T20 T13
variable [Gl]
set_option maxHeartbeats 16000000 in
theorem FO (b pb:Nat) (s:aI) (c:jj) (kb:Int) (M:Mm) (hd:s.aH=.bj c (.dy kb)) (hC:iu s) (hrl:s.reads.length+1<2^20) (hca:0<=c.cr/\c.cr<=2) (wY:c.iK=gV s.cf c.d8) (hkb:0<=kb/\kb<s.cf.nb) :
 bx Tryz.prog 152 [pv b,pv pb] [.h (bp b s),ei pb M] (λv=>v=.tuple #[(dq s M c (.dy kb)).1.v,qb qa (dq s M c (.dy kb)).2.1])
  (λ_=>[.h (bp b (dq s M c (.dy kb)).2.2.1),ei pb (dq s M c (.dy kb)).2.2.2]):=by
 (unhygienic cases s);dsimp only at hd;subst hd;dsimp only at hkb;dsimp only at wY hrl;obtain⟨hr0,Ln⟩:=hC.cf.reads;have jx:=hC.set;dsimp only at hr0 Ln jx;have zU:cf.reads.toNat<=32:=Ya
 obtain⟨x,c',M',hr⟩:∃x e' M',dW c M=(x,e',M'):=⟨_,_,_,rfl⟩;have dT:=λn=>Ak n pb c M;rw [hr] at dT;have BF:qY.wrap (5+c.cr)=5+c.cr:=af Ya Ya;have iZ:qY.wrap (c.cr+1)=c.cr+1:=af Ya Ya;have nV:¬c'.cr=3->c'.cr=c.cr+1:=by
  intro hn;have Uj:(dW c M).2.1=c':=by rw [hr]
  rcases sW c M with ⟨h,e⟩|⟨h,e⟩|⟨h,e⟩|⟨h,e⟩|⟨h,e⟩|⟨h,e⟩<;>(rw [e] at Uj;subst Uj;dsimp only at hn ⊢;try omega)
 have DG:c'.d8=c.d8:=by
  have Uj:(dW c M).2.1=c':=by rw [hr]
  rcases sW c M with ⟨h,e⟩|⟨h,e⟩|⟨h,e⟩|⟨h,e⟩|⟨h,e⟩|⟨h,e⟩<;>(rw [e] at Uj;subst Uj;rfl)
 have pu:=zm cf hC.cf c.d8;dsimp only [aY.v] at pu;have hCX:∀rd l2,rd.length<2^20->l2.length<=cf.reads.toNat->iu ⟨cf,am,aF,aD,value,bT,ao,rd,ar,aA,l2,bG,aC,av,aP,aN,ax,.bL⟩:=λrd l2 h1 h2=>⟨hC.cf,hC.Mn,hC.bG,hC.eV,hC.cg,hC.Ka,hC.Uw,hC.oO,hC.push,h2,h1,hC.E1⟩;cases h2:c'.done
 . have h3:¬c'.cr=3:=by simpa [jj.done] using h2
   have e:dq ⟨cf,am,aF,aD,value,bT,ao,reads,ar,aA,set,bG,aC,av,aP,aN,ax,.bj c (.dy kb)⟩ M c (.dy kb)=(x,5+c.cr,⟨cf,am,aF,aD,value,bT,ao,reads,ar,aA,set,bG,aC,av,aP,aN,ax,.bj c' (.dy kb)⟩,M'):=by
    unfold dq;rw [hr];dsimp only;rw [h2];simp
   rw [e];intro A F hw hS;refine aK Z0 λ_=>?_;dsimp only [aa,ah] at hS;obtain⟨x0,hS⟩:=bp.open hS .z;(unhygienic cases x0);dsimp only [cX,jk,dk,fi,bJ.gB,aa,ah] at hS;have hq:=gD hS hw;revert hq hS hw;clear hS;refine Wu (J7 (Tg.mk (n:=10) @fy) (od uh) (od ug) (od uf) (od ue) (dT m) (⟨⟩:Ts (λA'=>A'.bk b=qc (qi [pv eT,pv fp,dE,bF,cF,pF bT b8,pv m,qb qa c.cr,fJ,kF aP dz,ju aN dv,cK,cH,br,dG,qb qa cf.bg,qb qa cf.av,qb qa cf.base,qb qa cf.c0,qb qa cf.c1,qb qa cf.c2,qb qa cf.c3,qb qa cf.reads,qb qa cf.bU,qb qa cf.ar,qb qa cf.aA,qb qa cf.aC,qn cf.bd,qb qa am,qb qa aF,qb qa aD,qb qa 3,dP,.func (.func 256) #[] #[pv c0,pv c1],qb qa c.d8,qb qj value,cJ,qb qj aC,qn ao,qb qa ax] qg 1)) [0,0,0,0,0,0,3,0,0,0,0,1,0,2,3,0] (.aM 0 (.aM 1 (.aM 2 (.aM 3 (.aM 4 (.aM 5 (.aM 7 (.aM 8 (.aM 9 (.aM 10 (.aM 11 (.aM 12 (.uW 6 (.aM 13 (.aM 14 (.aM 15 .nil))) 13 (.aM 6 (.aM 14 (.aM 15 .nil)))))))))))))))))) (J6 h2 BF iZ bC @bn.eq_1 @bh.v.eq_1) (J2 ?_ ?_)<;>(unhygienic intros)
   all_goals(have h:c'.cr=c.cr+1/\c'.d8=c.d8:=⟨nV h3,DG⟩)
   all_goals(
    refine⟨_,by simp [AW.ab];rfl,by simp [bh.v],?_⟩;apply bp.bX
    (·exact sA)
    exact fP
    (·exact pP)
    all_goals(first|exact 0|exact undef))
 cases h4:c'.iS
 . by_cases h5:c.d8<cf.bg
   . by_cases h6:c.d8∈reads
     . have h7:(if c.d8<cf.bg/\¬c.d8∈reads then (⟨cf,am,aF,aD,value,bT,ao,reads++[c.d8],ar,aA,set,bG,aC,av,aP,aN,ax,.bj c' (.dy kb)⟩:aI) else ⟨cf,am,aF,aD,value,bT,ao,reads,ar,aA,set,bG,aC,av,aP,aN,ax,.bj c' (.dy kb)⟩)=⟨cf,am,aF,aD,value,bT,ao,reads,ar,aA,set,bG,aC,av,aP,aN,ax,.bj c' (.dy kb)⟩:=aw (λh=>h.2 h6);obtain⟨q,l2,vI⟩:∃q l2,eO cf.reads.toNat set c.iK=(q,l2):=⟨_,_,rfl⟩;have jn:=λn=>nJ n cf.reads.toNat set (gV cf c.d8) jx zU;rw [<-wY,vI] at jn;dsimp only at jn;have HZ:l2.length<=cf.reads.toNat:=by
        have h9:(eO cf.reads.toNat set c.iK).2=l2:=Yk;rw [<-h9];unfold eO;split;exact jx;split;exact jx;simp;omega
       have IU:q=qk->l2=set:=by
        intro Fh;have h9:(eO cf.reads.toNat set c.iK).2=l2:=Yk;have h8:(eO cf.reads.toNat set c.iK).1=q:=Yk;rw [<-h9];rw [Fh] at h8;unfold eO at h8 ⊢;split;rfl;split;rfl;rename_i g1 g2;rw [aw g1,aw g2] at h8;cases h8
       cases q
       . have Wk:=IU rfl;subst l2;have e:dq ⟨cf,am,aF,aD,value,bT,ao,reads,ar,aA,set,bG,aC,av,aP,aN,ax,.bj c (.dy kb)⟩ M c (.dy kb)=(x,5+c.cr,kE ⟨cf,am,aF,aD,value,bT,ao,reads,ar,aA,set,bG,aC,av,aP,aN,ax,.bj c' (.dy kb)⟩ 3,M'):=by
          unfold dq;rw [hr];dsimp only;rw [h2,h4,vI,h7];rfl
         rw [e];intro A F hw hS;refine aK Z0 λ_=>?_;dsimp only [aa,ah] at hS;obtain⟨x0,hS⟩:=bp.open hS .z;(unhygienic cases x0);dsimp only [cX,jk,dk,fi,bJ.gB,aa,ah] at hS;have hq:=gD hS hw;rw [wY] at jn;revert hq hS hw;(repeat clear hS);refine Wu (vZ (Tg.mk (n:=10) @fy) (Tg.mk (n:=10) @eB) (Tg.mk (n:=14) @ig) (Tg.mk (n:=20) (ke b ⟨cf,am,aF,aD,value,bT,ao,reads,ar,aA,set,bG,aC,av,aP,aN,ax,.bj c' (.dy kb)⟩ 3 3 .bL hC.cf hC.al hC.push (Z8 hC.oO Yf))) (od uh) (od ug) (od uf) (od ue) @pu (dT m) (jn eT) (⟨⟩:Ts (λA'=>A'.bk b=qc (qi [pv eT,pv fp,dE,bF,cF,pF bT b8,pv m,qb qa c.cr,fJ,kF aP dz,ju aN dv,cK,cH,br,dG,qb qa cf.bg,qb qa cf.av,qb qa cf.base,qb qa cf.c0,qb qa cf.c1,qb qa cf.c2,qb qa cf.c3,qb qa cf.reads,qb qa cf.bU,qb qa cf.ar,qb qa cf.aA,qb qa cf.aC,qn cf.bd,qb qa am,qb qa aF,qb qa aD,qb qa 3,dP,.func (.func 256) #[] #[pv c0,pv c1],qb qa c.d8,qb qj value,cJ,qb qj aC,qn ao,qb qa ax] qg 1)) [0,0,0,0,0,0,3,0,0,0,0,1,0,2,3,0] (.aM 0 (.aM 1 (.aM 2 (.aM 3 (.aM 4 (.aM 5 (.aM 7 (.aM 8 (.aM 9 (.aM 10 (.aM 11 (.aM 12 (.uW 6 (.aM 13 (.aM 14 (.aM 15 .nil))) 13 (.aM 6 (.aM 14 (.aM 15 .nil)))))))))))))))))) (J9 h2 h4 h5 h6 BF iZ bC @bn.eq_1 @bh.v.eq_1) (J2 ?_ ?_)<;>(unhygienic intros)
         all_goals(
          refine⟨_,by simp [AW.ab];rfl,by simp [bh.v],?_⟩;apply aj.bX
          (·exact sA)
          (·exact pP))
       have e:dq ⟨cf,am,aF,aD,value,bT,ao,reads,ar,aA,set,bG,aC,av,aP,aN,ax,.bj c (.dy kb)⟩ M c (.dy kb)=(x,5+c.cr,AL ⟨cf,am,aF,aD,value,bT,ao,reads,ar,aA,l2,bG,aC,av,aP,aN,ax,.bL⟩ c'.val (.dy kb),M'):=by
        unfold dq;rw [hr];dsimp only;rw [h2,h4,vI,h7];rfl
       rw [e];intro A F hw hS;refine aK Z0 λ_=>?_;dsimp only [aa,ah] at hS;obtain⟨x0,hS⟩:=bp.open hS .z;(unhygienic cases x0);dsimp only [cX,jk,dk,fi,bJ.gB,aa,ah] at hS;have hq:=gD hS hw;rw [wY] at jn;revert hq hS hw;(repeat clear hS);refine Wu (mW (Tg.mk (n:=10) @fy) (Tg.mk (n:=10) @eB) (Tg.mk (n:=14) @ig) (Tg.mk (n:=10) @lL) (Tg.mk (n:=21) (uz b c0 c1 ⟨cf,am,aF,aD,value,bT,ao,reads,ar,aA,l2,bG,aC,av,aP,aN,ax,.bL⟩ kb c'.val rfl (hCX (reads) l2 Ya HZ) hkb)) (od uh) (od ug) (od uf) (od ue) @pu (dT m) (jn eT) (⟨⟩:Ts (λA'=>A'.bk b=qc (qi [pv eT,pv fp,dE,bF,cF,pF bT b8,pv m,qb qa c.cr,fJ,kF aP dz,ju aN dv,cK,cH,br,dG,qb qa cf.bg,qb qa cf.av,qb qa cf.base,qb qa cf.c0,qb qa cf.c1,qb qa cf.c2,qb qa cf.c3,qb qa cf.reads,qb qa cf.bU,qb qa cf.ar,qb qa cf.aA,qb qa cf.aC,qn cf.bd,qb qa am,qb qa aF,qb qa aD,qb qa 3,dP,.func (.func 256) #[] #[pv c0,pv c1],qb qa c.d8,qb qj value,cJ,qb qj aC,qn ao,qb qa ax] qg 1)) [0,0,0,0,0,0,3,0,0,0,0,1,0,2,3,0] (.aM 0 (.aM 1 (.aM 2 (.aM 3 (.aM 4 (.aM 5 (.aM 7 (.aM 8 (.aM 9 (.aM 10 (.aM 11 (.aM 12 (.uW 6 (.aM 13 (.aM 14 (.aM 15 .nil))) 13 (.aM 6 (.aM 14 (.aM 15 .nil)))))))))))))))))) (J9 h2 h4 h5 h6 BF iZ bC @bn.eq_1 @bh.v.eq_1) (J2 ?_ ?_)<;>(unhygienic intros)
       all_goals(
        refine⟨_,by simp [AW.ab];rfl,by simp [bh.v],?_⟩;apply aj.bX
        (·exact sA)
        (·exact pP))
     have h7:(if c.d8<cf.bg/\¬c.d8∈reads then (⟨cf,am,aF,aD,value,bT,ao,reads++[c.d8],ar,aA,set,bG,aC,av,aP,aN,ax,.bj c' (.dy kb)⟩:aI) else ⟨cf,am,aF,aD,value,bT,ao,reads,ar,aA,set,bG,aC,av,aP,aN,ax,.bj c' (.dy kb)⟩)=⟨cf,am,aF,aD,value,bT,ao,reads++[c.d8],ar,aA,set,bG,aC,av,aP,aN,ax,.bj c' (.dy kb)⟩:=ay ⟨h5,h6⟩;obtain⟨q,l2,vI⟩:∃q l2,eO cf.reads.toNat set c.iK=(q,l2):=⟨_,_,rfl⟩;have jn:=λn=>nJ n cf.reads.toNat set (gV cf c.d8) jx zU;rw [<-wY,vI] at jn;dsimp only at jn;have HZ:l2.length<=cf.reads.toNat:=by
      have h9:(eO cf.reads.toNat set c.iK).2=l2:=Yk;rw [<-h9];unfold eO;split;exact jx;split;exact jx;simp;omega
     have IU:q=qk->l2=set:=by
      intro Fh;have h9:(eO cf.reads.toNat set c.iK).2=l2:=Yk;have h8:(eO cf.reads.toNat set c.iK).1=q:=Yk;rw [<-h9];rw [Fh] at h8;unfold eO at h8 ⊢;split;rfl;split;rfl;rename_i g1 g2;rw [aw g1,aw g2] at h8;cases h8
     cases q
     . have Wk:=IU rfl;subst l2;have e:dq ⟨cf,am,aF,aD,value,bT,ao,reads,ar,aA,set,bG,aC,av,aP,aN,ax,.bj c (.dy kb)⟩ M c (.dy kb)=(x,5+c.cr,kE ⟨cf,am,aF,aD,value,bT,ao,reads++[c.d8],ar,aA,set,bG,aC,av,aP,aN,ax,.bj c' (.dy kb)⟩ 3,M'):=by
        unfold dq;rw [hr];dsimp only;rw [h2,h4,vI,h7];rfl
       rw [e];intro A F hw hS;refine aK Z0 λ_=>?_;dsimp only [aa,ah] at hS;obtain⟨x0,hS⟩:=bp.open hS .z;(unhygienic cases x0);dsimp only [cX,jk,dk,fi,bJ.gB,aa,ah] at hS;have hq:=gD hS hw;rw [wY] at jn;revert hq hS hw;(repeat clear hS);refine Wu (vZ (Tg.mk (n:=10) @fy) (Tg.mk (n:=10) @eB) (Tg.mk (n:=14) @ig) (Tg.mk (n:=20) (ke b ⟨cf,am,aF,aD,value,bT,ao,reads++[c.d8],ar,aA,set,bG,aC,av,aP,aN,ax,.bj c' (.dy kb)⟩ 3 3 .bL hC.cf hC.al hC.push (Z8 hC.oO Yf))) (od uh) (od ug) (od uf) (od ue) @pu (dT m) (jn eT) (⟨⟩:Ts (λA'=>A'.bk b=qc (qi [pv eT,pv fp,dE,bF,cF,pF bT b8,pv m,qb qa c.cr,fJ,kF aP dz,ju aN dv,cK,cH,br,dG,qb qa cf.bg,qb qa cf.av,qb qa cf.base,qb qa cf.c0,qb qa cf.c1,qb qa cf.c2,qb qa cf.c3,qb qa cf.reads,qb qa cf.bU,qb qa cf.ar,qb qa cf.aA,qb qa cf.aC,qn cf.bd,qb qa am,qb qa aF,qb qa aD,qb qa 3,dP,.func (.func 256) #[] #[pv c0,pv c1],qb qa c.d8,qb qj value,cJ,qb qj aC,qn ao,qb qa ax] qg 1)) [0,0,0,0,0,0,3,0,0,0,0,1,0,2,3,0] (.aM 0 (.aM 1 (.aM 2 (.aM 3 (.aM 4 (.aM 5 (.aM 7 (.aM 8 (.aM 9 (.aM 10 (.aM 11 (.aM 12 (.uW 6 (.aM 13 (.aM 14 (.aM 15 .nil))) 13 (.aM 6 (.aM 14 (.aM 15 .nil)))))))))))))))))) (J9 h2 h4 h5 h6 BF iZ bC @bn.eq_1 @bh.v.eq_1) (J2 ?_ ?_)<;>(unhygienic intros)
       all_goals(
        refine⟨_,by simp [AW.ab];rfl,by simp [bh.v],?_⟩;apply aj.bX
        (·exact sA)
        (·exact pP))
     have e:dq ⟨cf,am,aF,aD,value,bT,ao,reads,ar,aA,set,bG,aC,av,aP,aN,ax,.bj c (.dy kb)⟩ M c (.dy kb)=(x,5+c.cr,AL ⟨cf,am,aF,aD,value,bT,ao,reads++[c.d8],ar,aA,l2,bG,aC,av,aP,aN,ax,.bL⟩ c'.val (.dy kb),M'):=by
      unfold dq;rw [hr];dsimp only;rw [h2,h4,vI,h7];rfl
     rw [e];intro A F hw hS;refine aK Z0 λ_=>?_;dsimp only [aa,ah] at hS;obtain⟨x0,hS⟩:=bp.open hS .z;(unhygienic cases x0);dsimp only [cX,jk,dk,fi,bJ.gB,aa,ah] at hS;have hq:=gD hS hw;rw [wY] at jn;revert hq hS hw;(repeat clear hS);refine Wu (mW (Tg.mk (n:=10) @fy) (Tg.mk (n:=10) @eB) (Tg.mk (n:=14) @ig) (Tg.mk (n:=10) @lL) (Tg.mk (n:=21) (uz b c0 c1 ⟨cf,am,aF,aD,value,bT,ao,reads++[c.d8],ar,aA,l2,bG,aC,av,aP,aN,ax,.bL⟩ kb c'.val rfl (hCX (reads++[c.d8]) l2 Yi HZ) hkb)) (od uh) (od ug) (od uf) (od ue) @pu (dT m) (jn eT) (⟨⟩:Ts (λA'=>A'.bk b=qc (qi [pv eT,pv fp,dE,bF,cF,pF bT b8,pv m,qb qa c.cr,fJ,kF aP dz,ju aN dv,cK,cH,br,dG,qb qa cf.bg,qb qa cf.av,qb qa cf.base,qb qa cf.c0,qb qa cf.c1,qb qa cf.c2,qb qa cf.c3,qb qa cf.reads,qb qa cf.bU,qb qa cf.ar,qb qa cf.aA,qb qa cf.aC,qn cf.bd,qb qa am,qb qa aF,qb qa aD,qb qa 3,dP,.func (.func 256) #[] #[pv c0,pv c1],qb qa c.d8,qb qj value,cJ,qb qj aC,qn ao,qb qa ax] qg 1)) [0,0,0,0,0,0,3,0,0,0,0,1,0,2,3,0] (.aM 0 (.aM 1 (.aM 2 (.aM 3 (.aM 4 (.aM 5 (.aM 7 (.aM 8 (.aM 9 (.aM 10 (.aM 11 (.aM 12 (.uW 6 (.aM 13 (.aM 14 (.aM 15 .nil))) 13 (.aM 6 (.aM 14 (.aM 15 .nil)))))))))))))))))) (J9 h2 h4 h5 h6 BF iZ bC @bn.eq_1 @bh.v.eq_1) (J2 ?_ ?_)<;>(unhygienic intros)
     all_goals(
      refine⟨_,by simp [AW.ab];rfl,by simp [bh.v],?_⟩;apply aj.bX
      (·exact sA)
      (·exact pP))
   have h6:True:=trivial;have h7:(if c.d8<cf.bg/\¬c.d8∈reads then (⟨cf,am,aF,aD,value,bT,ao,reads++[c.d8],ar,aA,set,bG,aC,av,aP,aN,ax,.bj c' (.dy kb)⟩:aI) else ⟨cf,am,aF,aD,value,bT,ao,reads,ar,aA,set,bG,aC,av,aP,aN,ax,.bj c' (.dy kb)⟩)=⟨cf,am,aF,aD,value,bT,ao,reads,ar,aA,set,bG,aC,av,aP,aN,ax,.bj c' (.dy kb)⟩:=aw (λh=>h5 h.1);obtain⟨q,l2,vI⟩:∃q l2,eO cf.reads.toNat set c.iK=(q,l2):=⟨_,_,rfl⟩;have jn:=λn=>nJ n cf.reads.toNat set (gV cf c.d8) jx zU;rw [<-wY,vI] at jn;dsimp only at jn;have HZ:l2.length<=cf.reads.toNat:=by
    have h9:(eO cf.reads.toNat set c.iK).2=l2:=Yk;rw [<-h9];unfold eO;split;exact jx;split;exact jx;simp;omega
   have IU:q=qk->l2=set:=by
    intro Fh;have h9:(eO cf.reads.toNat set c.iK).2=l2:=Yk;have h8:(eO cf.reads.toNat set c.iK).1=q:=Yk;rw [<-h9];rw [Fh] at h8;unfold eO at h8 ⊢;split;rfl;split;rfl;rename_i g1 g2;rw [aw g1,aw g2] at h8;cases h8
   cases q
   . have Wk:=IU rfl;subst l2;have e:dq ⟨cf,am,aF,aD,value,bT,ao,reads,ar,aA,set,bG,aC,av,aP,aN,ax,.bj c (.dy kb)⟩ M c (.dy kb)=(x,5+c.cr,kE ⟨cf,am,aF,aD,value,bT,ao,reads,ar,aA,set,bG,aC,av,aP,aN,ax,.bj c' (.dy kb)⟩ 3,M'):=by
      unfold dq;rw [hr];dsimp only;rw [h2,h4,vI,h7];rfl
     rw [e];intro A F hw hS;refine aK Z0 λ_=>?_;dsimp only [aa,ah] at hS;obtain⟨x0,hS⟩:=bp.open hS .z;(unhygienic cases x0);dsimp only [cX,jk,dk,fi,bJ.gB,aa,ah] at hS;have hq:=gD hS hw;rw [wY] at jn;revert hq hS hw;(repeat clear hS);refine Wu (vZ (Tg.mk (n:=10) @fy) (Tg.mk (n:=10) @eB) (Tg.mk (n:=14) @ig) (Tg.mk (n:=20) (ke b ⟨cf,am,aF,aD,value,bT,ao,reads,ar,aA,set,bG,aC,av,aP,aN,ax,.bj c' (.dy kb)⟩ 3 3 .bL hC.cf hC.al hC.push (Z8 hC.oO Yf))) (od uh) (od ug) (od uf) (od ue) @pu (dT m) (jn eT) (⟨⟩:Ts (λA'=>A'.bk b=qc (qi [pv eT,pv fp,dE,bF,cF,pF bT b8,pv m,qb qa c.cr,fJ,kF aP dz,ju aN dv,cK,cH,br,dG,qb qa cf.bg,qb qa cf.av,qb qa cf.base,qb qa cf.c0,qb qa cf.c1,qb qa cf.c2,qb qa cf.c3,qb qa cf.reads,qb qa cf.bU,qb qa cf.ar,qb qa cf.aA,qb qa cf.aC,qn cf.bd,qb qa am,qb qa aF,qb qa aD,qb qa 3,dP,.func (.func 256) #[] #[pv c0,pv c1],qb qa c.d8,qb qj value,cJ,qb qj aC,qn ao,qb qa ax] qg 1)) [0,0,0,0,0,0,3,0,0,0,0,1,0,2,3,0] (.aM 0 (.aM 1 (.aM 2 (.aM 3 (.aM 4 (.aM 5 (.aM 7 (.aM 8 (.aM 9 (.aM 10 (.aM 11 (.aM 12 (.uW 6 (.aM 13 (.aM 14 (.aM 15 .nil))) 13 (.aM 6 (.aM 14 (.aM 15 .nil)))))))))))))))))) (J9 h2 h4 h5 h6 BF iZ bC @bn.eq_1 @bh.v.eq_1) (J2 ?_ ?_)<;>(unhygienic intros)
     all_goals(
      refine⟨_,by simp [AW.ab];rfl,by simp [bh.v],?_⟩;apply aj.bX
      (·exact sA)
      (·exact pP))
   have e:dq ⟨cf,am,aF,aD,value,bT,ao,reads,ar,aA,set,bG,aC,av,aP,aN,ax,.bj c (.dy kb)⟩ M c (.dy kb)=(x,5+c.cr,AL ⟨cf,am,aF,aD,value,bT,ao,reads,ar,aA,l2,bG,aC,av,aP,aN,ax,.bL⟩ c'.val (.dy kb),M'):=by
    unfold dq;rw [hr];dsimp only;rw [h2,h4,vI,h7];rfl
   rw [e];intro A F hw hS;refine aK Z0 λ_=>?_;dsimp only [aa,ah] at hS;obtain⟨x0,hS⟩:=bp.open hS .z;(unhygienic cases x0);dsimp only [cX,jk,dk,fi,bJ.gB,aa,ah] at hS;have hq:=gD hS hw;rw [wY] at jn;revert hq hS hw;(repeat clear hS);refine Wu (mW (Tg.mk (n:=10) @fy) (Tg.mk (n:=10) @eB) (Tg.mk (n:=14) @ig) (Tg.mk (n:=10) @lL) (Tg.mk (n:=21) (uz b c0 c1 ⟨cf,am,aF,aD,value,bT,ao,reads,ar,aA,l2,bG,aC,av,aP,aN,ax,.bL⟩ kb c'.val rfl (hCX (reads) l2 Ya HZ) hkb)) (od uh) (od ug) (od uf) (od ue) @pu (dT m) (jn eT) (⟨⟩:Ts (λA'=>A'.bk b=qc (qi [pv eT,pv fp,dE,bF,cF,pF bT b8,pv m,qb qa c.cr,fJ,kF aP dz,ju aN dv,cK,cH,br,dG,qb qa cf.bg,qb qa cf.av,qb qa cf.base,qb qa cf.c0,qb qa cf.c1,qb qa cf.c2,qb qa cf.c3,qb qa cf.reads,qb qa cf.bU,qb qa cf.ar,qb qa cf.aA,qb qa cf.aC,qn cf.bd,qb qa am,qb qa aF,qb qa aD,qb qa 3,dP,.func (.func 256) #[] #[pv c0,pv c1],qb qa c.d8,qb qj value,cJ,qb qj aC,qn ao,qb qa ax] qg 1)) [0,0,0,0,0,0,3,0,0,0,0,1,0,2,3,0] (.aM 0 (.aM 1 (.aM 2 (.aM 3 (.aM 4 (.aM 5 (.aM 7 (.aM 8 (.aM 9 (.aM 10 (.aM 11 (.aM 12 (.uW 6 (.aM 13 (.aM 14 (.aM 15 .nil))) 13 (.aM 6 (.aM 14 (.aM 15 .nil)))))))))))))))))) (J9 h2 h4 h5 h6 BF iZ bC @bn.eq_1 @bh.v.eq_1) (J2 ?_ ?_)<;>(unhygienic intros)
   all_goals(
    refine⟨_,by simp [AW.ab];rfl,by simp [bh.v],?_⟩;apply aj.bX
    (·exact sA)
    (·exact pP))
 have e:dq ⟨cf,am,aF,aD,value,bT,ao,reads,ar,aA,set,bG,aC,av,aP,aN,ax,.bj c (.dy kb)⟩ M c (.dy kb)=(x,5+c.cr,kE ⟨cf,am,aF,aD,value,bT,ao,reads,ar,aA,set,bG,aC,av,aP,aN,ax,.bj c' (.dy kb)⟩ 9,M'):=by
  unfold dq;rw [hr];dsimp only;rw [h2,h4];simp
 rw [e];intro A F hw hS;refine aK Z0 λ_=>?_;dsimp only [aa,ah] at hS;obtain⟨x0,hS⟩:=bp.open hS .z;(unhygienic cases x0);dsimp only [cX,jk,dk,fi,bJ.gB,aa,ah] at hS;have hq:=gD hS hw;revert hq hS hw;(repeat clear hS);refine Wu (J9 (Tg.mk (n:=10) @fy) (Tg.mk (n:=10) @eB) (Tg.mk (n:=20) (ke b ⟨cf,am,aF,aD,value,bT,ao,reads,ar,aA,set,bG,aC,av,aP,aN,ax,.bj c' (.dy kb)⟩ 3 9 .bL hC.cf hC.al hC.push (Z8 hC.oO Yf))) (od uh) (od ug) (od uf) (od ue) (dT m) (⟨⟩:Ts (λA'=>A'.bk b=qc (qi [pv eT,pv fp,dE,bF,cF,pF bT b8,pv m,qb qa c.cr,fJ,kF aP dz,ju aN dv,cK,cH,br,dG,qb qa cf.bg,qb qa cf.av,qb qa cf.base,qb qa cf.c0,qb qa cf.c1,qb qa cf.c2,qb qa cf.c3,qb qa cf.reads,qb qa cf.bU,qb qa cf.ar,qb qa cf.aA,qb qa cf.aC,qn cf.bd,qb qa am,qb qa aF,qb qa aD,qb qa 3,dP,.func (.func 256) #[] #[pv c0,pv c1],qb qa c.d8,qb qj value,cJ,qb qj aC,qn ao,qb qa ax] qg 1)) [0,0,0,0,0,0,3,0,0,0,0,1,0,2,3,0] (.aM 0 (.aM 1 (.aM 2 (.aM 3 (.aM 4 (.aM 5 (.aM 7 (.aM 8 (.aM 9 (.aM 10 (.aM 11 (.aM 12 (.uW 6 (.aM 13 (.aM 14 (.aM 15 .nil))) 13 (.aM 6 (.aM 14 (.aM 15 .nil)))))))))))))))))) (J7 h2 h4 BF iZ bC @bn.eq_1 @bh.v.eq_1) (J2 ?_ ?_)<;>(unhygienic intros)
 all_goals(
  refine⟨_,by simp [AW.ab];rfl,by simp [bh.v],?_⟩;apply aj.bX
  (·exact sA)
  (·exact pP))
end
end Go.Stx
