/-
 The program's attempt: its steps, second part.
-/
import Derived.Test.YtejgooipbmnioaaGreatDoorG13
set_option linter.unusedVariables false
set_option linter.unusedSimpArgs false
set_option linter.unusedSectionVars false
set_option maxRecDepth 20000
set_option maxHeartbeats 4000000
namespace Go.Stx
open Go Go.Proofs
attribute [local irreducible] TW cg eg bn aC aV cR df
section
abbrev HV:List (Nat×Nat):=[(0,0),(1,0),(2,2),(3,3),(4,0)]
open T14 T10
variable [Gl]
set_option maxRecDepth 20000 in
set_option maxHeartbeats 4000000 in
theorem Ci (b pb:Nat) (s:aT) (p:oO) (M:Mm) (hd:s.aG=.eL p) (hC:fA s) (rX:s.ai.length<8) (i8:0≤p.d5∧p.d5≤3) (AD:(fK p M).2.1.block<s.cf.nb) (ki:(fK p M).2.1.d5=p.d5) :
 aY Tryz.prog 149 [pv b,pv pb] [.h (bf b s),dx pb M] (fun v=>v=.tuple #[(lN s M p).1.v,.int .i64 (lN s M p).2.1])
  (fun _=>[.h (bf b (lN s M p).2.2.1),dx pb (lN s M p).2.2.2]):=by
 obtain⟨cf,am,aA,ay,value,bL,aj,reads,ai,av,set,bp,ax,an,aI,aH,ao,aG⟩:=s
 dsimp only at hd
 subst hd
 dsimp only at rX AD
 obtain⟨x,p',M',hr⟩:∃x e' M',fK p M=(x,e',M'):=⟨_,_,_,rfl⟩
 have cL:=fun n=>Cx n pb p M
 rw [hr] at cL AD ki
 dsimp only at AD ki
 by_cases h:p'.bX=3
 · have e:lN ⟨cf,am,aA,ay,value,bL,aj,reads,ai,av,set,bp,ax,an,aI,aH,ao,.eL p⟩ M p=(x,mO x,fU ⟨cf,am,aA,ay,value,bL,aj,reads,ai,av,set,bp,ax,an,aI,aH,ao,.bK⟩ p.d5 p'.block,M'):=by
    unfold lN;rw [hr];dsimp only;rw [if_pos h]
   rw [e]
   have Ol:=fun m c c'=>xY b m c c' ⟨cf,am,aA,ay,value,bL,aj,reads,ai,av,set,bp,ax,an,aI,aH,ao,.bK⟩ p' ⟨hC.cf,hC.Ki,hC.bp,hC.ew,hC.dq,hC.Dn,hC.JU,hC.kT,hC.push,hC.set,hC.yx,hC.xn⟩ rX AD (by rw [ki];exact i8)
   rw [ki] at Ol
   intro A F hw hS
   refine ab Tryz.func149 rfl (by kernel_rfl) fun _=>?_
   dsimp only [af,ag] at hS
   obtain⟨⟨bD,bJ,aJ,aX,aW,m,c0,c1,c2,aZ,aE,aL,aN,bk,aS,bP,aO,aM,aB,bc,bd,bZ,bl⟩,hS⟩:=bf.open hS .z
   dsimp only [bx,ei,br,b8,aU.dT,af,ag] at hS
   have hq:=dZ hS hw
   revert hq hS hw;clear hS;refine Wp (J5 (Tg.mk (n:=10) @wx) (Tg.mk (n:=22) (Ol m c0 c1)) (Tg.mk (n:=19) (fun {A L k}=>tR (A:=A) (L:=L) (k:=k) (a:=x))) (od HV) (cL m)) (J5 h @AW.aa @ah.eq_1 @bj.eq_1 @ba.v.eq_1) (J1 ?_)<;>unhygienic intros
   refine⟨_,by simp [hq,AW.aa,ah];rfl,by first|(simp [ba.v];done)|(simp [ba.v,h];done),?_⟩
   apply ak.bS
   (·exact sA)
   (·first|exact pP|exact kP)
 · have e:lN ⟨cf,am,aA,ay,value,bL,aj,reads,ai,av,set,bp,ax,an,aI,aH,ao,.eL p⟩ M p=(x,mO x,⟨cf,am,aA,ay,value,bL,aj,reads,ai,av,set,bp,ax,an,aI,aH,ao,.eL p'⟩,M'):=by
    unfold lN;rw [hr];dsimp only;rw [if_neg h]
   rw [e]
   intro A F hw hS
   refine ab Tryz.func149 rfl (by kernel_rfl) fun _=>?_
   dsimp only [af,ag] at hS
   obtain⟨⟨bD,bJ,aJ,aX,aW,m,c0,c1,c2,aZ,aE,aL,aN,bk,aS,bP,aO,aM,aB,bc,bd,bZ,bl⟩,hS⟩:=bf.open hS .z
   dsimp only [bx,ei,br,b8,aU.dT,af,ag] at hS
   rw [←ki] at hS
   have hq:=dZ hS hw
   revert hq hS hw;(repeat first|clear hq|clear hS|clear hw|revert hc|revert zn|revert zA|revert R|revert K);refine Wp (J4 (Tg.mk (n:=10) @wx) (Tg.mk (n:=19) (fun {A L k}=>tR (A:=A) (L:=L) (k:=k) (a:=x))) (od HV) (cL m)) (J5 h @AW.aa @ah.eq_1 @bj.eq_1 @ba.v.eq_1) (J1 ?_)<;>unhygienic intros
   refine⟨_,by simp [hq,AW.aa,ah];rfl,by first|(simp [ba.v];done)|(simp [ba.v,h];done),?_⟩
   apply bf.bS
   (·exact sA)
   (dsimp only [bx,eP,ei,br,b8,aU.dT,ed,cF,cy,dk,cp,dm,eV,cq,cm,bt,dl,dh,eU,di,af,ag])
   try simp only [h]
   (·first|exact pP|exact kP)
   (·first|exact pP|exact kP)
   all_goals(first|exact 0|exact undef)
set_option maxRecDepth 20000 in
set_option maxHeartbeats 4000000 in
theorem Aj (b pb:Nat) (s:aT) (l:gy) (M:Mm) (hd:s.aG=.eR) (hl:s.aI=some l) (bW:l.eo.length≤l.an.length) (Ng:l.an.length<2^38) :
 aY Tryz.prog 150 [pv b,pv pb] [.h (bf b s),dx pb M] (fun v=>v=.tuple #[(iw s M l).1.v,.int .i64 (iw s M l).2.1])
  (fun _=>[.h (bf b (iw s M l).2.2.1),dx pb (iw s M l).2.2.2]):=by
 obtain⟨cf,am,aA,ay,value,bL,aj,reads,ai,av,set,bp,ax,an,aI,aH,ao,aG⟩:=s
 dsimp only at hd
 subst hd
 dsimp only at hl
 subst hl
 obtain⟨x,l',M',hr⟩:∃x e' M',eC l M=(x,e',M'):=⟨_,_,_,rfl⟩
 have cL:=fun n=>Gs n pb l M bW Ng
 rw [hr] at cL
 by_cases h:x.fY=3<;>cases h2:l'.done
 · have e:iw ⟨cf,am,aA,ay,value,bL,aj,reads,ai,av,set,bp,ax,an,some l,aH,ao,.eR⟩ M l=(x,12,⟨cf,am,aA,ay,value,bL,aj,reads,ai,av,set,bp,ax,an,some l',aH,ao,.eR⟩,M'):=by
    unfold iw;rw [hr];dsimp only;rw [h2];simp [h]
   rw [e]
   intro A F hw hS
   refine ab Tryz.func150 rfl (by kernel_rfl) fun _=>?_
   dsimp only [af,ag] at hS
   obtain⟨⟨bD,bJ,aJ,aX,aW,m,c0,c1,c2,aZ,aE,aL,aN,bk,aS,bP,aO,aM,aB,bc,bd,bZ,bl⟩,hS⟩:=bf.open hS .z
   dsimp only [bx,ei,br,b8,aU.dT,af,ag] at hS
   have hS:=qm.op hS (.s (.s .z))
   have hq:=dZ hS hw
   revert hq hS hw;clear hS;clear hS;refine Wp (J3 (Tg.mk (n:=10) @mE) @kG (cL aX)) (J8 h h2 @cF.eq_1 @cF.eq_2 @AW.aa @ah.eq_1 @bj.eq_1 @ba.v.eq_1) (J1 ?_)<;>unhygienic intros
   refine⟨_,by simp [hq,AW.aa,ah];rfl,by first|(simp [ba.v];done)|(simp [ba.v,h];done),?_⟩
   apply bf.bS
   (·exact sA)
   (dsimp only [bx,eP,ei,br,b8,aU.dT,ed,cF,cy,dk,cp,dm,eV,cq,cm,bt,dl,dh,eU,di,af,ag])
   try simp only [h]
   (·first|exact pP|exact kP)
   (·first|exact pP|exact kP)
   all_goals(first|exact 0|exact undef)
 · have e:iw ⟨cf,am,aA,ay,value,bL,aj,reads,ai,av,set,bp,ax,an,some l,aH,ao,.eR⟩ M l=(x,12,⟨cf,am,aA,ay,value,bL,aj,reads,ai,av,set,bp,ax,an,some l',some ⟨false,0,false⟩,ao,.db⟩,M'):=by
    unfold iw;rw [hr];dsimp only;rw [h2];simp [h]
   rw [e]
   intro A F hw hS
   refine ab Tryz.func150 rfl (by kernel_rfl) fun _=>?_
   dsimp only [af,ag] at hS
   obtain⟨⟨bD,bJ,aJ,aX,aW,m,c0,c1,c2,aZ,aE,aL,aN,bk,aS,bP,aO,aM,aB,bc,bd,bZ,bl⟩,hS⟩:=bf.open hS .z
   dsimp only [bx,ei,br,b8,aU.dT,af,ag] at hS
   have hS:=qm.op hS (.s (.s .z))
   have hq:=dZ hS hw
   revert hq hS hw;(repeat first|clear hq|clear hS|clear hw|revert hc|revert zn|revert zA|revert R|revert K);refine Wp (J3 (Tg.mk (n:=10) @mE) @kG (cL aX)) (J8 h h2 @cF.eq_1 @cF.eq_2 @AW.aa @ah.eq_1 @bj.eq_1 @ba.v.eq_1) (J1 ?_)<;>unhygienic intros
   refine⟨_,by simp [hq,AW.aa,ah];rfl,by first|(simp [ba.v];done)|(simp [ba.v,h];done),?_⟩
   apply bf.bS
   (·exact sA)
   (dsimp only [bx,eP,ei,br,b8,aU.dT,ed,cF,cy,dk,cp,dm,eV,cq,cm,bt,dl,dh,eU,di,af,ag])
   try simp only [h]
   (·first|exact pP|exact kP)
   (·first|exact pP|exact kP)
   all_goals(first|exact 0|exact undef)
 · have e:iw ⟨cf,am,aA,ay,value,bL,aj,reads,ai,av,set,bp,ax,an,some l,aH,ao,.eR⟩ M l=(x,11,⟨cf,am,aA,ay,value,bL,aj,reads,ai,av,set,bp,ax,an,some l',aH,ao,.eR⟩,M'):=by
    unfold iw;rw [hr];dsimp only;rw [h2];simp [h]
   rw [e]
   intro A F hw hS
   refine ab Tryz.func150 rfl (by kernel_rfl) fun _=>?_
   dsimp only [af,ag] at hS
   obtain⟨⟨bD,bJ,aJ,aX,aW,m,c0,c1,c2,aZ,aE,aL,aN,bk,aS,bP,aO,aM,aB,bc,bd,bZ,bl⟩,hS⟩:=bf.open hS .z
   dsimp only [bx,ei,br,b8,aU.dT,af,ag] at hS
   have hS:=qm.op hS (.s (.s .z))
   have hq:=dZ hS hw
   revert hq hS hw;(repeat first|clear hq|clear hS|clear hw|revert hc|revert zn|revert zA|revert R|revert K);refine Wp (J3 (Tg.mk (n:=10) @mE) @kG (cL aX)) (J8 h h2 @cF.eq_1 @cF.eq_2 @AW.aa @ah.eq_1 @bj.eq_1 @ba.v.eq_1) (J1 ?_)<;>unhygienic intros
   refine⟨_,by simp [hq,AW.aa,ah];rfl,by first|(simp [ba.v];done)|(simp [ba.v,h];done),?_⟩
   apply bf.bS
   (·exact sA)
   (dsimp only [bx,eP,ei,br,b8,aU.dT,ed,cF,cy,dk,cp,dm,eV,cq,cm,bt,dl,dh,eU,di,af,ag])
   try simp only [h]
   (·first|exact pP|exact kP)
   (·first|exact pP|exact kP)
   all_goals(first|exact 0|exact undef)
 · have e:iw ⟨cf,am,aA,ay,value,bL,aj,reads,ai,av,set,bp,ax,an,some l,aH,ao,.eR⟩ M l=(x,11,⟨cf,am,aA,ay,value,bL,aj,reads,ai,av,set,bp,ax,an,some l',some ⟨false,0,false⟩,ao,.db⟩,M'):=by
    unfold iw;rw [hr];dsimp only;rw [h2];simp [h]
   rw [e]
   intro A F hw hS
   refine ab Tryz.func150 rfl (by kernel_rfl) fun _=>?_
   dsimp only [af,ag] at hS
   obtain⟨⟨bD,bJ,aJ,aX,aW,m,c0,c1,c2,aZ,aE,aL,aN,bk,aS,bP,aO,aM,aB,bc,bd,bZ,bl⟩,hS⟩:=bf.open hS .z
   dsimp only [bx,ei,br,b8,aU.dT,af,ag] at hS
   have hS:=qm.op hS (.s (.s .z))
   have hq:=dZ hS hw
   revert hq hS hw;(repeat first|clear hq|clear hS|clear hw|revert hc|revert zn|revert zA|revert R|revert K);refine Wp (J3 (Tg.mk (n:=10) @mE) @kG (cL aX)) (J8 h h2 @cF.eq_1 @cF.eq_2 @AW.aa @ah.eq_1 @bj.eq_1 @ba.v.eq_1) (J1 ?_)<;>unhygienic intros
   refine⟨_,by simp [hq,AW.aa,ah];rfl,by first|(simp [ba.v];done)|(simp [ba.v,h];done),?_⟩
   apply bf.bS
   (·exact sA)
   (dsimp only [bx,eP,ei,br,b8,aU.dT,ed,cF,cy,dk,cp,dm,eV,cq,cm,bt,dl,dh,eU,di,af,ag])
   try simp only [h]
   (·first|exact pP|exact kP)
   (·first|exact pP|exact kP)
   all_goals(first|exact 0|exact undef)
theorem ft {A:AW} {L K:List It} {k:Value→AW→Prop} {v:Value} {l:List Int} {x:Int} (hw:A.Wf) (hS:ak A L) (hp:ap L (.h (au .i64 v l)) K) (hl:l.length<2^38) (hk:k (.bool (decide (x∈l))) A) :
 aC Tryz.prog 219 [v,.int .i64 x] A k:=by
 refine bT (sF v l x A (ak.nH hS hp) (by omega)) ?_
 rintro _ _ ⟨rfl,rfl⟩ _ _
 exact hk
end
section
open T14 T10
variable [Gl]
set_option maxRecDepth 20000 in
set_option maxHeartbeats 4000000 in
theorem Ah (b pb:Nat) (s:aT) (t:ju) (M:Mm) (hd:s.aG=.db) (hl:s.aH=some t) (I2:s.set.length<2^38) :
 aY Tryz.prog 151 [pv b,pv pb] [.h (bf b s),dx pb M] (fun v=>v=.tuple #[(go s M t).1.v,.int .i64 (go s M t).2.1])
  (fun _=>[.h (bf b (go s M t).2.2.1),dx pb (go s M t).2.2.2]):=by
 obtain⟨cf,am,aA,ay,value,bL,aj,reads,ai,av,set,bp,ax,an,aI,aH,ao,aG⟩:=s
 dsimp only at hd
 subst hd
 dsimp only at hl I2
 subst hl
 obtain⟨x,t',M',hr⟩:∃x e' M',gU t M=(x,e',M'):=⟨_,_,_,rfl⟩
 have cL:=fun n=>zV n pb t M
 rw [hr] at cL
 by_cases h:x.fY=4<;>cases h2:t'.done
 · have e:go ⟨cf,am,aA,ay,value,bL,aj,reads,ai,av,set,bp,ax,an,aI,some t,ao,.db⟩ M t=(x,13,⟨cf,am,aA,ay,value,bL,aj,reads,ai,av,set,bp,ax,an,aI,some t',ao,.db⟩,M'):=by
    unfold go;rw [hr];dsimp only;rw [h2];simp [h]
   rw [e]
   intro A F hw hS
   refine ab Tryz.func151 rfl (by kernel_rfl) fun _=>?_
   dsimp only [af,ag] at hS
   obtain⟨⟨bD,bJ,aJ,aX,aW,m,c0,c1,c2,aZ,aE,aL,aN,bk,aS,bP,aO,aM,aB,bc,bd,bZ,bl⟩,hS⟩:=bf.open hS .z
   dsimp only [bx,ei,br,b8,aU.dT,af,ag] at hS
   have hS:=ru.op hS (.s (.s (.s .z)))
   have hq:=dZ hS hw
   revert hq hS hw;clear hS;clear hS;refine Wp (J2 (Tg.mk (n:=10) @jy) (cL aW)) (J8 h h2 @cy.eq_1 @cy.eq_2 @AW.aa @ah.eq_1 @bj.eq_1 @ba.v.eq_1) (J1 ?_)<;>unhygienic intros
   refine⟨_,by simp [hq,AW.aa,ah];rfl,by first|(simp [ba.v];done)|(simp [ba.v,h];done),?_⟩
   apply bf.bS
   (·exact sA)
   (dsimp only [bx,eP,ei,br,b8,aU.dT,ed,cF,cy,dk,cp,dm,eV,cq,cm,bt,dl,dh,eU,di,af,ag])
   try simp only [h]
   (·first|exact pP|exact kP)
   (·first|exact pP|exact kP)
   all_goals(first|exact 0|exact undef)
 · by_cases h3:set.length=0
   · have e:go ⟨cf,am,aA,ay,value,bL,aj,reads,ai,av,set,bp,ax,an,aI,some t,ao,.db⟩ M t=(x,13,⟨cf,am,aA,ay,value,bL,aj,reads,ai,av,set,bp,ax,an,aI,some t',ao,.cu⟩,M'):=by
      unfold go;rw [hr];dsimp only;rw [h2];simp [h,h3]
     rw [e]
     intro A F hw hS
     refine ab Tryz.func151 rfl (by kernel_rfl) fun _=>?_
     dsimp only [af,ag] at hS
     obtain⟨⟨bD,bJ,aJ,aX,aW,m,c0,c1,c2,aZ,aE,aL,aN,bk,aS,bP,aO,aM,aB,bc,bd,bZ,bl⟩,hS⟩:=bf.open hS .z
     dsimp only [bx,ei,br,b8,aU.dT,af,ag] at hS
     have hS:=ru.op hS (.s (.s (.s .z)))
     have hq:=dZ hS hw
     have h4:∀rv,(gl.mk set rv false).done=true:=fun rv=>by simp [gl.done,h3]
     revert hq hS hw;(repeat first|clear hq|clear hS|clear hw|revert hc|revert zn|revert zA|revert R|revert K);refine Wp (J6 (Tg.mk (n:=10) @jy) (Tg.mk (n:=11) @nO) (Tg.mk (n:=11) @mD) (Tg.mk (n:=30) (fun A' h1 h2=>oU b ⟨cf,am,aA,ay,value,bL,aj,reads,ai,av,set,bp,ax,an,aI,some t',ao,.db⟩ 6 .db A' h1 h2)) (Tg.mk (n:=10) @iW) (cL aW)) (J9 h h2 h4 @cy.eq_1 @cy.eq_2 @AW.aa @ah.eq_1 @bj.eq_1 @ba.v.eq_1) (J1 ?_)<;>unhygienic intros
     refine⟨_,by simp [hq,AW.aa,ah];rfl,by first|(simp [ba.v];done)|(simp [ba.v,h];done),?_⟩
     apply bf.bS
     (·exact sA)
     (dsimp only [bx,eP,ei,br,b8,aU.dT,ed,cF,cy,dk,cp,dm,eV,cq,cm,bt,dl,dh,eU,di,af,ag])
     try simp only [h]
     (·first|exact pP|exact kP)
     (·first|exact pP|exact kP)
     all_goals(first|exact 0|exact undef)
   · have e:go ⟨cf,am,aA,ay,value,bL,aj,reads,ai,av,set,bp,ax,an,aI,some t,ao,.db⟩ M t=(x,13,⟨cf,am,aA,ay,value,bL,aj,reads,ai,av,set,bp,ax,an,aI,some t',ao,.dM ⟨set,aT.rv ⟨cf,am,aA,ay,value,bL,aj,reads,ai,av,set,bp,ax,an,aI,some t',ao,.db⟩,false⟩⟩,M'):=by
      unfold go;rw [hr];dsimp only;rw [h2];simp [h,h3,aT.rv]
     rw [e]
     intro A F hw hS
     refine ab Tryz.func151 rfl (by kernel_rfl) fun _=>?_
     dsimp only [af,ag] at hS
     obtain⟨⟨bD,bJ,aJ,aX,aW,m,c0,c1,c2,aZ,aE,aL,aN,bk,aS,bP,aO,aM,aB,bc,bd,bZ,bl⟩,hS⟩:=bf.open hS .z
     dsimp only [bx,ei,br,b8,aU.dT,af,ag] at hS
     have hS:=ru.op hS (.s (.s (.s .z)))
     have hq:=dZ hS hw
     have h4:∀rv,(gl.mk set rv false).done=false:=fun rv=>by simp [gl.done];exact fun h=>h3 (by rw [h];rfl)
     revert hq hS hw;(repeat first|clear hq|clear hS|clear hw|revert hc|revert zn|revert zA|revert R|revert K);refine Wp (J6 (Tg.mk (n:=10) @jy) (Tg.mk (n:=11) @nO) (Tg.mk (n:=11) @mD) (Tg.mk (n:=30) (fun A' h1 h2=>oU b ⟨cf,am,aA,ay,value,bL,aj,reads,ai,av,set,bp,ax,an,aI,some t',ao,.db⟩ 6 .db A' h1 h2)) (Tg.mk (n:=10) @iW) (cL aW)) (J9 h h2 h4 @cy.eq_1 @cy.eq_2 @AW.aa @ah.eq_1 @bj.eq_1 @ba.v.eq_1) (J1 ?_)<;>unhygienic intros
     refine⟨_,by simp [hq,AW.aa,ah];rfl,by first|(simp [ba.v];done)|(simp [ba.v,h];done),?_⟩
     apply bf.bS
     (·exact sA)
     (dsimp only [bx,eP,ei,br,b8,aU.dT,ed,cF,cy,dk,cp,dm,eV,cq,cm,bt,dl,dh,eU,di,af,ag])
     try simp only [h]
     (·first|exact pP|exact kP)
     (·first|exact pP|exact kP)
     all_goals(first|exact 0|exact undef)
 · have e:go ⟨cf,am,aA,ay,value,bL,aj,reads,ai,av,set,bp,ax,an,aI,some t,ao,.db⟩ M t=(x,14,⟨cf,am,aA,ay,value,bL,aj,reads,ai,av,set,bp,ax,an,aI,some t',ao,.db⟩,M'):=by
    unfold go;rw [hr];dsimp only;rw [h2];simp [h]
   rw [e]
   intro A F hw hS
   refine ab Tryz.func151 rfl (by kernel_rfl) fun _=>?_
   dsimp only [af,ag] at hS
   obtain⟨⟨bD,bJ,aJ,aX,aW,m,c0,c1,c2,aZ,aE,aL,aN,bk,aS,bP,aO,aM,aB,bc,bd,bZ,bl⟩,hS⟩:=bf.open hS .z
   dsimp only [bx,ei,br,b8,aU.dT,af,ag] at hS
   have hS:=ru.op hS (.s (.s (.s .z)))
   have hq:=dZ hS hw
   revert hq hS hw;(repeat first|clear hq|clear hS|clear hw|revert hc|revert zn|revert zA|revert R|revert K);refine Wp (J2 (Tg.mk (n:=10) @jy) (cL aW)) (J8 h h2 @cy.eq_1 @cy.eq_2 @AW.aa @ah.eq_1 @bj.eq_1 @ba.v.eq_1) (J1 ?_)<;>unhygienic intros
   refine⟨_,by simp [hq,AW.aa,ah];rfl,by first|(simp [ba.v];done)|(simp [ba.v,h];done),?_⟩
   apply bf.bS
   (·exact sA)
   (dsimp only [bx,eP,ei,br,b8,aU.dT,ed,cF,cy,dk,cp,dm,eV,cq,cm,bt,dl,dh,eU,di,af,ag])
   try simp only [h]
   (·first|exact pP|exact kP)
   (·first|exact pP|exact kP)
   all_goals(first|exact 0|exact undef)
 · by_cases h3:set.length=0
   · have e:go ⟨cf,am,aA,ay,value,bL,aj,reads,ai,av,set,bp,ax,an,aI,some t,ao,.db⟩ M t=(x,14,⟨cf,am,aA,ay,value,bL,aj,reads,ai,av,set,bp,ax,an,aI,some t',ao,.cu⟩,M'):=by
      unfold go;rw [hr];dsimp only;rw [h2];simp [h,h3]
     rw [e]
     intro A F hw hS
     refine ab Tryz.func151 rfl (by kernel_rfl) fun _=>?_
     dsimp only [af,ag] at hS
     obtain⟨⟨bD,bJ,aJ,aX,aW,m,c0,c1,c2,aZ,aE,aL,aN,bk,aS,bP,aO,aM,aB,bc,bd,bZ,bl⟩,hS⟩:=bf.open hS .z
     dsimp only [bx,ei,br,b8,aU.dT,af,ag] at hS
     have hS:=ru.op hS (.s (.s (.s .z)))
     have hq:=dZ hS hw
     have h4:∀rv,(gl.mk set rv false).done=true:=fun rv=>by simp [gl.done,h3]
     revert hq hS hw;(repeat first|clear hq|clear hS|clear hw|revert hc|revert zn|revert zA|revert R|revert K);refine Wp (J6 (Tg.mk (n:=10) @jy) (Tg.mk (n:=11) @nO) (Tg.mk (n:=11) @mD) (Tg.mk (n:=30) (fun A' h1 h2=>oU b ⟨cf,am,aA,ay,value,bL,aj,reads,ai,av,set,bp,ax,an,aI,some t',ao,.db⟩ 6 .db A' h1 h2)) (Tg.mk (n:=10) @iW) (cL aW)) (J9 h h2 h4 @cy.eq_1 @cy.eq_2 @AW.aa @ah.eq_1 @bj.eq_1 @ba.v.eq_1) (J1 ?_)<;>unhygienic intros
     refine⟨_,by simp [hq,AW.aa,ah];rfl,by first|(simp [ba.v];done)|(simp [ba.v,h];done),?_⟩
     apply bf.bS
     (·exact sA)
     (dsimp only [bx,eP,ei,br,b8,aU.dT,ed,cF,cy,dk,cp,dm,eV,cq,cm,bt,dl,dh,eU,di,af,ag])
     try simp only [h]
     (·first|exact pP|exact kP)
     (·first|exact pP|exact kP)
     all_goals(first|exact 0|exact undef)
   · have e:go ⟨cf,am,aA,ay,value,bL,aj,reads,ai,av,set,bp,ax,an,aI,some t,ao,.db⟩ M t=(x,14,⟨cf,am,aA,ay,value,bL,aj,reads,ai,av,set,bp,ax,an,aI,some t',ao,.dM ⟨set,aT.rv ⟨cf,am,aA,ay,value,bL,aj,reads,ai,av,set,bp,ax,an,aI,some t',ao,.db⟩,false⟩⟩,M'):=by
      unfold go;rw [hr];dsimp only;rw [h2];simp [h,h3,aT.rv]
     rw [e]
     intro A F hw hS
     refine ab Tryz.func151 rfl (by kernel_rfl) fun _=>?_
     dsimp only [af,ag] at hS
     obtain⟨⟨bD,bJ,aJ,aX,aW,m,c0,c1,c2,aZ,aE,aL,aN,bk,aS,bP,aO,aM,aB,bc,bd,bZ,bl⟩,hS⟩:=bf.open hS .z
     dsimp only [bx,ei,br,b8,aU.dT,af,ag] at hS
     have hS:=ru.op hS (.s (.s (.s .z)))
     have hq:=dZ hS hw
     have h4:∀rv,(gl.mk set rv false).done=false:=fun rv=>by simp [gl.done];exact fun h=>h3 (by rw [h];rfl)
     revert hq hS hw;(repeat first|clear hq|clear hS|clear hw|revert hc|revert zn|revert zA|revert R|revert K);refine Wp (J6 (Tg.mk (n:=10) @jy) (Tg.mk (n:=11) @nO) (Tg.mk (n:=11) @mD) (Tg.mk (n:=30) (fun A' h1 h2=>oU b ⟨cf,am,aA,ay,value,bL,aj,reads,ai,av,set,bp,ax,an,aI,some t',ao,.db⟩ 6 .db A' h1 h2)) (Tg.mk (n:=10) @iW) (cL aW)) (J9 h h2 h4 @cy.eq_1 @cy.eq_2 @AW.aa @ah.eq_1 @bj.eq_1 @ba.v.eq_1) (J1 ?_)<;>unhygienic intros
     refine⟨_,by simp [hq,AW.aa,ah];rfl,by first|(simp [ba.v];done)|(simp [ba.v,h];done),?_⟩
     apply bf.bS
     (·exact sA)
     (dsimp only [bx,eP,ei,br,b8,aU.dT,ed,cF,cy,dk,cp,dm,eV,cq,cm,bt,dl,dh,eU,di,af,ag])
     try simp only [h]
     (·first|exact pP|exact kP)
     (·first|exact pP|exact kP)
     all_goals(first|exact 0|exact undef)
set_option maxRecDepth 20000 in
set_option maxHeartbeats 4000000 in
theorem yh (b pb:Nat) (s:aT) (c:gl) (M:Mm) (hd:s.aG=.dM c) (Ou:s.an.length<2^20) (Lx:s.an.length=0∨∃l,s.aI=some l∧s.an.length=l.eo.length) :
 aY Tryz.prog 152 [pv b,pv pb] [.h (bf b s),dx pb M] (fun v=>v=.tuple #[(fZ s M c).1.v,.int .i64 (fZ s M c).2.1])
  (fun _=>[.h (bf b (fZ s M c).2.2.1),dx pb (fZ s M c).2.2.2]):=by
 obtain⟨cf,am,aA,ay,value,bL,aj,reads,ai,av,set,bp,ax,an,aI,aH,ao,aG⟩:=s
 dsimp only at hd
 subst hd
 dsimp only at Ou Lx
 obtain⟨x,c',M',hr⟩:∃x e' M',jG c M=(x,e',M'):=⟨_,_,_,rfl⟩
 have cL:=fun n=>zm n pb c M
 rw [hr] at cL
 cases h2:c'.ik
 · cases h3:c'.done
   · have e:fZ ⟨cf,am,aA,ay,value,bL,aj,reads,ai,av,set,bp,ax,an,aI,aH,ao,.dM c⟩ M c=(x,15,⟨cf,am,aA,ay,value,bL,aj,reads,ai,av,set,bp,ax,an,aI,aH,ao,.dM c'⟩,M'):=by
      unfold fZ;rw [hr];dsimp only;rw [h2,h3];simp
     rw [e]
     intro A F hw hS
     refine ab Tryz.func152 rfl (by kernel_rfl) fun _=>?_
     dsimp only [af,ag] at hS
     obtain⟨⟨bD,bJ,aJ,aX,aW,m,c0,c1,c2,aZ,aE,aL,aN,bk,aS,bP,aO,aM,aB,bc,bd,bZ,bl⟩,hS⟩:=bf.open hS .z
     dsimp only [bx,ei,br,b8,aU.dT,af,ag] at hS
     have hq:=dZ hS hw
     revert hq hS hw;clear hS;refine Wp (J3 (Tg.mk (n:=10) @mi) (Tg.mk (n:=10) @iW) (cL m)) (J6 h2 h3 @AW.aa @ah.eq_1 @bj.eq_1 @ba.v.eq_1) (J1 ?_)<;>unhygienic intros
     refine⟨_,by simp [hq,AW.aa,ah];rfl,by first|(simp [ba.v];done)|(simp [ba.v,h];done),?_⟩
     apply bf.bS
     (·exact sA)
     (dsimp only [bx,eP,ei,br,b8,aU.dT,ed,cF,cy,dk,cp,dm,eV,cq,cm,bt,dl,dh,eU,di,af,ag])
     try simp only [h]
     (·first|exact pP|exact kP)
     (·first|exact pP|exact kP)
     all_goals(first|exact 0|exact undef)
   · have e:fZ ⟨cf,am,aA,ay,value,bL,aj,reads,ai,av,set,bp,ax,an,aI,aH,ao,.dM c⟩ M c=(x,15,⟨cf,am,aA,ay,value,bL,aj,reads,ai,av,set,bp,ax,an,aI,aH,ao,.cu⟩,M'):=by
      unfold fZ;rw [hr];dsimp only;rw [h2,h3];simp
     rw [e]
     intro A F hw hS
     refine ab Tryz.func152 rfl (by kernel_rfl) fun _=>?_
     dsimp only [af,ag] at hS
     obtain⟨⟨bD,bJ,aJ,aX,aW,m,c0,c1,c2,aZ,aE,aL,aN,bk,aS,bP,aO,aM,aB,bc,bd,bZ,bl⟩,hS⟩:=bf.open hS .z
     dsimp only [bx,ei,br,b8,aU.dT,af,ag] at hS
     have hq:=dZ hS hw
     revert hq hS hw;(repeat first|clear hq|clear hS|clear hw|revert hc|revert zn|revert zA|revert R|revert K);refine Wp (J3 (Tg.mk (n:=10) @mi) (Tg.mk (n:=10) @iW) (cL m)) (J6 h2 h3 @AW.aa @ah.eq_1 @bj.eq_1 @ba.v.eq_1) (J1 ?_)<;>unhygienic intros
     refine⟨_,by simp [hq,AW.aa,ah];rfl,by first|(simp [ba.v];done)|(simp [ba.v,h];done),?_⟩
     apply bf.bS
     (·exact sA)
     (dsimp only [bx,eP,ei,br,b8,aU.dT,ed,cF,cy,dk,cp,dm,eV,cq,cm,bt,dl,dh,eU,di,af,ag])
     try simp only [h]
     (·first|exact pP|exact kP)
     (·first|exact pP|exact kP)
     all_goals(first|exact 0|exact undef)
 · have e:fZ ⟨cf,am,aA,ay,value,bL,aj,reads,ai,av,set,bp,ax,an,aI,aH,ao,.dM c⟩ M c=(x,15,ga ⟨cf,am,aA,9,value,bL,aj,reads,ai,av,set,bp,ax,an,aI,aH,ao,.dM c'⟩,M'):=by
    unfold fZ;rw [hr];dsimp only;rw [h2];simp
   rw [e]
   intro A F hw hS
   refine ab Tryz.func152 rfl (by kernel_rfl) fun _=>?_
   dsimp only [af,ag] at hS
   obtain⟨⟨bD,bJ,aJ,aX,aW,m,c0,c1,c2,aZ,aE,aL,aN,bk,aS,bP,aO,aM,aB,bc,bd,bZ,bl⟩,hS⟩:=bf.open hS .z
   dsimp only [bx,ei,br,b8,aU.dT,af,ag] at hS
   have hq:=dZ hS hw
   repeat' (first
   | (refine jx fun R hR=>?_;simp [aw,az,hq,h2,AW.aa,ah,bj,ba.v];try simp (disch:=omega) only [if_pos,if_neg,aw,az])
   | (refine hR _ _ ?_;clear hR R)|(refine hK _ _ ?_;clear hK K)|refine nx ?_
   | refine wn fun K hK=>?_
   | simp only [wS]
   | (apply aY.cA (cL m);(·exact wA);(·exact sA);(·first|exact pP|exact kP);rintro _ _ rfl hS hw _;have hS:=lA hS;have hq:=wG hS hw)
   | (apply mi;(·exact wA);(·exact sA);(·first|exact pP|exact kP);)
   | (apply aY.qz (pI b ⟨cf,am,aA,9,value,bL,aj,reads,ai,av,set,bp,ax,an,aI,aH,ao,.dM c'⟩ 7 (.dM c') (by exact Ou) (by exact Lx));(·exact wA);(·exact sA);(·exact fP);(·first|exact pP|exact kP);(rintro _ _ _ hS hw _;have hS:=lA hS);(try (have hq:=wG hS hw));all_goals(try (first|exact 0|exact undef)))
   | refine wb ?_|refine wr ?_|refine wk ?_|refine we ?_|refine ws ?_|refine wq ?_
   | (refine wc rfl (fun hc=>?_) (fun hc=>?_)<;>(try simp at hc)<;>(try omega)<;>(try (simp [h2] at hc;done))<;>(try (simp [h3] at hc;done))<;>(try (simp [h4] at hc;done)))
   | (refine ib (fun hc=>?_) (fun hc=>?_)<;>(try omega)<;>(try simp (disch:=omega) only [if_pos,if_neg])))
   refine⟨_,by simp [hq,AW.aa,ah];rfl,by first|(simp [ba.v];done)|(simp [ba.v,h];done),?_⟩
   apply ak.bS
   (·exact sA)
   (·first|exact pP|exact kP)
end
end Go.Stx
