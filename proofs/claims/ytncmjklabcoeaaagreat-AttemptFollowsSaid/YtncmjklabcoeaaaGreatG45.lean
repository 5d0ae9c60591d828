/-
 The reference's attempt: steps.
-/
import Derived.Test.YtncmjklabcoeaaaGreatG42
set_option linter.unusedVariables false
set_option linter.unusedSimpArgs false
set_option maxRecDepth 20000
set_option maxHeartbeats 4000000
namespace Go.Stx
open Go Go.Proofs
attribute [local irreducible] fj cm aH bB dK ei
abbrev uA:List (Nat×Nat):=[(0,0),(1,0),(2,0),(3,0),(4,0),(5,0),(6,0),(7,0),(8,0),(9,0),(10,0),(11,0),(12,2),(13,0),(14,0),(15,3)]
open T28 T16
theorem Ff (s:aD) (M:Mm) (q:Nat) (hq:q<s.aj.length):lC s M ⟨s.aj.drop q,(lB s).drop q⟩=(de M 2 2 (s.aj.getD q 0) (eD ((lB s).getD q 0)),18,(if q+1=s.aj.length then { s with aA:=if 0≤s.sy then .ij else .fm } else { s with aA:=.cK ⟨s.aj.drop (q+1),(lB s).drop (q+1)⟩ }),kd M 2 (s.aj.getD q 0) (eD ((lB s).getD q 0))):=by
 unfold lC j3
 rw [if_neg (by simp [gL.done];omega)]
 dsimp only
 rw [sS,sS,List.tail_drop,List.tail_drop]
 by_cases h:q+1=s.aj.length
 · rw [if_pos h]
   have:gL.done ⟨s.aj.drop (q+1),(lB s).drop (q+1)⟩=true:=by simp [gL.done];omega
   simp only [this,if_true]
 · rw [if_neg h]
   have:gL.done ⟨s.aj.drop (q+1),(lB s).drop (q+1)⟩=false:=by simp [gL.done];omega
   simp only [this,Bool.false_eq_true,if_false]
theorem sW (b mb q:Nat) (s:aD) (M:Mm) (hM:fE M) (w:gL) (hd:s.aA=.cK w) (s9:s.ai=true) (vr:Int) (hv:s.sy=vr∧0≤vr) (ho:s.aj.length≤64) (l:eM) (hl:s.aG=some l) (PF:l.aj=s.aj) (IR:l.dH.length=s.aj.length) (gJ:q<s.aj.length) (it:w=⟨s.aj.drop q,(lB s).drop q⟩):fQ b mb s M:=by
 have e:cD s M=lC s M w:=by unfold cD;rw [hd]
 subst it
 rw [Ff s M q gJ] at e
 have JF:∀d',aD.sy { s with aA:=d' }=vr:=fun d'=>hv.1
 unfold fQ
 rw [e,hv.1]
 clear e
 rw [if_pos hv.2]
 have Mr:=hv.2
 clear hv
 obtain⟨cf,ag,av,ax,value,br,ai,ah,ac,ap,set,aM,ao,aj,aG,aE,am,aA⟩:=s
 dsimp only at hd s9 hl PF IR ho gJ JF ⊢
 obtain⟨DB,iN,ml,lQ,lS⟩:=l
 dsimp only at PF IR
 subst PF
 subst s9 hl
 have R6:∀d',lB ⟨cf,ag,av,ax,value,br,true,ah,ac,ap,set,aM,ao,iN,(some ⟨DB,iN,ml,lQ,lS⟩),aE,am,d'⟩=(List.replicate iN.length (gN vr)):=fun d'=>by unfold lB;rw [if_pos rfl];rw [JF d']
 have LM:=R6 aA
 rw [LM] at hd ⊢
 clear LM
 subst hd
 have h:=JF
 intro A F hw hS
 refine ab Tryz.func33 rfl (by kernel_rfl) fun _=>?_
 dsimp only [na,zo] at hS
 obtain⟨⟨bh,aY,az,aJ,aK,m,dy,k,ja,dr,bS,aw,aB,va,vv,vi,fA,fk,dD,dL,cI,jv,dO,dP,cG,cx,dv,cH,dN,bU,bt,dM,bT⟩,hS⟩:=bF.open hS .z
 dsimp only [bE,bH,cJ,bj,cR,eQ,cO,bf,ff,bO,bP,bd,be,bL,bc,bN,aO,aI,bM,aN,bJ,aT,aQ,aD.rv,na,zo] at hS
 try simp only [cV] at hS
 have hq:=ZL hS hw
 simp only [h] at hS
 have hS:=hW.op hS (.s (.s .z))
 obtain⟨⟨EM,EL⟩,hS⟩:=an.Oj hS (.s (.s (.s (.s (.s (.s (.s (.s (.s (.s (.s (.s (.s (.s .z))))))))))))))
 have Qz:q=k:=by
  injection EM with Np Kn
  have:=congrArg List.length Np
  simp only [List.length_drop] at this
  omega
 subst Qz
 obtain⟨ol,cl,rfl,_⟩:=(an.gM hS (.s .z)).cL
 have hq:=ZL hS hw
 have Ay:=yu cf m mb 2 (.slice ol iN.length cl) dD q iN (List.replicate iN.length (gN vr)) M hM (by simp) gJ (by omega)
 have mf:=fun A' h=>kW m 2 (.slice ol iN.length cl) dD ol iN.length cl (q+1) A' rfl h
 by_cases me:q+1=iN.length
 · rw [show decide (q+1=iN.length)=true by simp [me]] at mf
   rw [if_pos me]
   revert hq hS hw;clear hq;clear hS;clear hS;clear hS;refine Wr (J3 (od uA) @mf @Ay) (J4 @AW.aa @af.eq_1 @aS.eq_1 @bq.v.eq_1) (J1 ?_)<;>unhygienic intros
   refine⟨_,by simp [hq,AW.aa,af];rfl,by first|(simp [bq.v,bq.zero];done)|(simp [bq.v,bq.zero,h];done),?_⟩
   apply bF.cC (fA:=.slice ol iN.length cl) (fk:=fk)
   · apply hW.cl (l:=⟨DB,iN,ml,lQ,lS⟩) (n:=aJ) (fA:=.slice ol iN.length cl) (fk:=fk)
     · exact sA
     · repeat' (first|apply aX.z|apply aX.s|apply ay.z|apply ay.ly|apply ay.qC|apply ay.s)
   (dsimp only [bE,bH,cJ,bj,cR,eQ,cO,bf,ff,bO,bP,bd,be,bL,bc,bN,aO,aI,bM,aN,bJ,aT,aQ,aD.rv,na,zo])
   (try simp only [cV])
   (try simp only [h])
   (·first|exact pR|exact kR)
   (·first|exact pR|exact kR)
   all_goals(first|exact 0|exact undef)
 · rw [show decide (q+1=iN.length)=false by simp [me]] at mf
   rw [if_neg me]
   revert hq hS hw;(repeat first|clear hq|clear hS|clear hw|revert hc|revert zn|revert zA|revert R|revert K);refine Wr (J3 (od uA) @mf @Ay) (J4 @AW.aa @af.eq_1 @aS.eq_1 @bq.v.eq_1) (J1 ?_)<;>unhygienic intros
   refine⟨_,by simp [hq,AW.aa,af];rfl,by first|(simp [bq.v,bq.zero];done)|(simp [bq.v,bq.zero,h];done),?_⟩
   apply bF.cC (k:=q+1) (fA:=.slice ol iN.length cl) (fk:=fk)
   · apply an.KP (p:=(⟨iN.drop (q+1),List.drop (q+1) (List.replicate iN.length (gN vr))⟩:gL)=⟨iN.drop (q+1),(lB ⟨cf,ag,av,ax,value,br,true,ah,ac,ap,set,aM,ao,iN,(some ⟨DB,iN,ml,lQ,lS⟩),aE,am,.cK ⟨iN.drop (q+1),List.drop (q+1) (List.replicate iN.length (gN vr))⟩⟩).drop (q+1)⟩∧q+1≤iN.length) ⟨by rw [R6],by omega⟩
     apply hW.cl (l:=⟨DB,iN,ml,lQ,lS⟩) (n:=aJ) (fA:=.slice ol iN.length cl) (fk:=fk)
     · exact sA
     · repeat' (first|apply aX.z|apply aX.s|apply ay.z|apply ay.ly|apply ay.qC|apply ay.s)
   (dsimp only [bE,bH,cJ,bj,cR,eQ,cO,bf,ff,bO,bP,bd,be,bL,bc,bN,aO,aI,bM,aN,bJ,aT,aQ,aD.rv,na,zo])
   (try simp only [cV])
   (try simp only [h])
   (·first|exact pR|exact kR)
   (·first|exact pR|exact kR)
   all_goals(first|exact 0|exact undef)
theorem sV (b mb q:Nat) (s:aD) (M:Mm) (hM:fE M) (w:gL) (hd:s.aA=.cK w) (s9:s.ai=false) (vr:Int) (hv:s.sy=vr∧vr = -1) (ho:s.aj.length≤64) (l:eM) (hl:s.aG=some l) (PF:l.aj=s.aj) (IR:l.dH.length=s.aj.length) (gJ:q<s.aj.length) (it:w=⟨s.aj.drop q,(lB s).drop q⟩):fQ b mb s M:=by
 have e:cD s M=lC s M w:=by unfold cD;rw [hd]
 subst it
 rw [Ff s M q gJ] at e
 have JF:∀d',aD.sy { s with aA:=d' }=vr:=fun d'=>hv.1
 unfold fQ
 rw [e,hv.1]
 clear e
 rw [if_neg (show ¬(0:Int)≤vr by rw [hv.2];decide)]
 have Mr:=hv.2
 clear hv
 obtain⟨cf,ag,av,ax,value,br,ai,ah,ac,ap,set,aM,ao,aj,aG,aE,am,aA⟩:=s
 dsimp only at hd s9 hl PF IR ho gJ JF ⊢
 obtain⟨DB,iN,ml,lQ,lS⟩:=l
 dsimp only at PF IR
 subst PF
 subst s9 hl
 have R6:∀d',lB ⟨cf,ag,av,ax,value,br,false,ah,ac,ap,set,aM,ao,iN,(some ⟨DB,iN,ml,lQ,lS⟩),aE,am,d'⟩=ml:=fun d'=>rfl
 have LM:=R6 aA
 rw [LM] at hd ⊢
 clear LM
 subst hd
 have h:=JF
 intro A F hw hS
 refine ab Tryz.func33 rfl (by kernel_rfl) fun _=>?_
 dsimp only [na,zo] at hS
 obtain⟨⟨bh,aY,az,aJ,aK,m,dy,k,ja,dr,bS,aw,aB,va,vv,vi,fA,fk,dD,dL,cI,jv,dO,dP,cG,cx,dv,cH,dN,bU,bt,dM,bT⟩,hS⟩:=bF.open hS .z
 dsimp only [bE,bH,cJ,bj,cR,eQ,cO,bf,ff,bO,bP,bd,be,bL,bc,bN,aO,aI,bM,aN,bJ,aT,aQ,aD.rv,na,zo] at hS
 try simp only [cV] at hS
 have hq:=ZL hS hw
 skip
 have hS:=hW.op hS (.s (.s .z))
 obtain⟨⟨EM,EL⟩,hS⟩:=an.Oj hS (.s (.s (.s (.s (.s (.s (.s (.s (.s (.s (.s (.s (.s .z)))))))))))))
 have Qz:q=k:=by
  injection EM with Np Kn
  have:=congrArg List.length Np
  simp only [List.length_drop] at this
  omega
 subst Qz
 obtain⟨ol,cl,rfl,_⟩:=(an.gM hS (.s .z)).cL
 have hq:=ZL hS hw
 have Ay:=yu cf m mb 2 (.slice ol iN.length cl) fk q iN ml M hM (by omega) gJ (by omega)
 have mf:=fun A' h=>kW m 2 (.slice ol iN.length cl) fk ol iN.length cl (q+1) A' rfl h
 by_cases me:q+1=iN.length
 · rw [show decide (q+1=iN.length)=true by simp [me]] at mf
   rw [if_pos me]
   revert hq hS hw;clear hq;clear hS;clear hS;clear hS;refine Wr (J3 (od uA) @mf @Ay) (J4 @AW.aa @af.eq_1 @aS.eq_1 @bq.v.eq_1) (J1 ?_)<;>unhygienic intros
   refine⟨_,by simp [hq,AW.aa,af];rfl,by first|(simp [bq.v,bq.zero];done)|(simp [bq.v,bq.zero,h];done),?_⟩
   apply bF.cC (fA:=.slice ol iN.length cl) (fk:=fk)
   · apply hW.cl (l:=⟨DB,iN,ml,lQ,lS⟩) (n:=aJ) (fA:=.slice ol iN.length cl) (fk:=fk)
     · exact sA
     · repeat' (first|apply aX.z|apply aX.s|apply ay.z|apply ay.ly|apply ay.qC|apply ay.s)
   (dsimp only [bE,bH,cJ,bj,cR,eQ,cO,bf,ff,bO,bP,bd,be,bL,bc,bN,aO,aI,bM,aN,bJ,aT,aQ,aD.rv,na,zo])
   (try simp only [cV])
   (try simp only [h])
   (·first|exact pR|exact kR)
   (·first|exact pR|exact kR)
   all_goals(first|exact 0|exact undef)
 · rw [show decide (q+1=iN.length)=false by simp [me]] at mf
   rw [if_neg me]
   revert hq hS hw;(repeat first|clear hq|clear hS|clear hw|revert hc|revert zn|revert zA|revert R|revert K);refine Wr (J3 (od uA) @mf @Ay) (J4 @AW.aa @af.eq_1 @aS.eq_1 @bq.v.eq_1) (J1 ?_)<;>unhygienic intros
   refine⟨_,by simp [hq,AW.aa,af];rfl,by first|(simp [bq.v,bq.zero];done)|(simp [bq.v,bq.zero,h];done),?_⟩
   apply bF.cC (k:=q+1) (fA:=.slice ol iN.length cl) (fk:=fk)
   · apply an.KP (p:=(⟨iN.drop (q+1),List.drop (q+1) ml⟩:gL)=⟨iN.drop (q+1),(lB ⟨cf,ag,av,ax,value,br,false,ah,ac,ap,set,aM,ao,iN,(some ⟨DB,iN,ml,lQ,lS⟩),aE,am,.cK ⟨iN.drop (q+1),List.drop (q+1) ml⟩⟩).drop (q+1)⟩∧q+1≤iN.length) ⟨by rw [R6],by omega⟩
     apply hW.cl (l:=⟨DB,iN,ml,lQ,lS⟩) (n:=aJ) (fA:=.slice ol iN.length cl) (fk:=fk)
     · exact sA
     · repeat' (first|apply aX.z|apply aX.s|apply ay.z|apply ay.ly|apply ay.qC|apply ay.s)
   (dsimp only [bE,bH,cJ,bj,cR,eQ,cO,bf,ff,bO,bP,bd,be,bL,bc,bN,aO,aI,bM,aN,bJ,aT,aQ,aD.rv,na,zo])
   (try simp only [cV])
   (try simp only [h])
   (·first|exact pR|exact kR)
   (·first|exact pR|exact kR)
   all_goals(first|exact 0|exact undef)
end Go.Stx
