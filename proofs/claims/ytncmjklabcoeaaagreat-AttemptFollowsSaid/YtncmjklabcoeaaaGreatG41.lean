/-
 The reference's attempt: steps.
-/
import Derived.Test.YtncmjklabcoeaaaGreatG40
import Derived.Test.YtncmjklabcoeaaaGreatG38
set_option linter.unusedVariables false
set_option linter.unusedSimpArgs false
set_option maxRecDepth 20000
set_option maxHeartbeats 4000000
namespace Go.Stx
open Go Go.Proofs
attribute [local irreducible] fj cm aH bB dK ei
abbrev uC:List (Nat×Nat):=[(0,0),(1,0),(2,0),(3,0),(4,0),(5,0),(6,0),(7,0),(8,0),(9,0),(10,0),(11,0),(12,2),(13,0),(14,0),(15,3)]
def DP (s:aD) (r:dY) (u:qX):aD:=if r.du=true then gy s 9 else ql s r u
theorem BJ (s:aD) (d:ba):gg { s with aA:=d }=gg s:=by
 unfold gg
 split<;>rfl
theorem lb (s:aD) (d:ba) (ax:Int):gy { s with aA:=d } ax=gy s ax:=BJ { s with ax:=ax } d
theorem MX (s:aD) (M:Mm) (r:dY) (u:qX):dZ s M r u=((cB r M).1,5+r.cj,if (cB r M).2.1.done=true then DP { s with aA:=.bm } (cB r M).2.1 u else { s with aA:=.bz (cB r M).2.1 u },M):=by
 obtain⟨i1,i2,i3,i4⟩:=rJ r M
 unfold dZ
 dsimp only
 rw [i4]
 cases jx:(cB r M).2.1.done with
 | false=>rfl
 | true=>
   simp only [Bool.true_eq_false,if_false,if_true]
   unfold DP
   cases gt:(cB r M).2.1.du with
   | true=>
     simp only [if_true]
     exact congrArg (fun x=>((cB r M).1,5+r.cj,x,M)) ((lb s (.bz (cB r M).2.1 u) 9).trans (lb s .bm 9).symm)
   | false=>
     simp only [Bool.false_eq_true,if_false]
     have pE:(cB r M).2.1.cj=3:=by simpa [dY.done] using jx
     have hv:(cB r M).2.1.val=(cB r M).2.1.value:=if_pos ⟨pE,gt⟩
     unfold ql
     dsimp only
     rw [i1,i2,hv]
     by_cases hn:r.cA<s.cf.aF∧¬r.cA∈s.ah
     · rw [if_pos hn,if_pos hn]
       by_cases hs:(cr s.cf.ah.toNat s.set r.dl).1=true
       · rw [if_pos hs,if_pos hs]
       · rw [if_neg hs,if_neg hs]
         exact congrArg (fun x=>((cB r M).1,5+r.cj,x,M)) ((lb { s with ah:=s.ah++[r.cA] } (.bz (cB r M).2.1 u) 3).trans (lb { s with ah:=s.ah++[r.cA] } .bm 3).symm)
     · rw [if_neg hn,if_neg hn]
       by_cases hs:(cr s.cf.ah.toNat s.set r.dl).1=true
       · rw [if_pos hs,if_pos hs]
       · rw [if_neg hs,if_neg hs]
         exact congrArg (fun x=>((cB r M).1,5+r.cj,x,M)) ((lb s (.bz (cB r M).2.1 u) 3).trans (lb s .bm 3).symm)
theorem ep.fI {s:aD} (hC:ep s) (hr:s.ah.length+1<2^20) (r:dY):ep (if r.cA<s.cf.aF∧¬r.cA∈s.ah then { s with ah:=s.ah++[r.cA],set:=(cr s.cf.ah.toNat s.set r.dl).2 } else { s with set:=(cr s.cf.ah.toNat s.set r.dl).2 }):=by
 split
 · refine⟨hC.cf,hC.G2,hC.aM,hC.dA,hC.cc,hC.I6,hC.GU,hC.kN,hC.push,tD _ hC.set,?_,hC.EQ⟩
   show (s.ah++[r.cA]).length<2^20
   simp only [List.length_append,List.length_cons,List.length_nil]
   omega
 · exact⟨hC.cf,hC.G2,hC.aM,hC.dA,hC.cc,hC.I6,hC.GU,hC.kN,hC.push,tD _ hC.set,hC.EG,hC.EQ⟩
theorem Jp (b:Nat) (s:aD) (r:dY) (u:qX) (hd:s.aA=.bm) (hC:ep s) (hE:fe s) (h3:r.cj=3) (hr:s.ah.length+1<2^20) (hf:(s.ap.length:Int)≤s.cf.ap) (hu:Ka s.cf u) :
 aP Tryz.prog 90 [pv b] [.h (gz b s 3 (.bz r u))] (fun _=>True) (fun _=>[.h (bF b (DP s r u))]):=by
 unfold DP
 cases gt:r.du with
 | true=>exact Bl b s r u hd hC hE h3 gt
 | false=>
   rw [if_neg (by decide)]
   have zM:=hC.fI hr r
   by_cases hn:r.cA<s.cf.aF∧¬r.cA∈s.ah
   · cases hs:(cr s.cf.ah.toNat s.set r.dl).1 with
     | false=>exact Bk b s r u hd hC hE h3 gt hn hs
     | true=>
       cases u with
       | take=>exact Bj b s r hd hC hE h3 gt hn hs
       | cM kb=>exact yO b s r kb hd hC hE h3 gt hn hs hf hu zM
   · cases hs:(cr s.cf.ah.toNat s.set r.dl).1 with
     | false=>exact Bi b s r u hd hC hE h3 gt hn hs
     | true=>
       cases u with
       | take=>exact Bh b s r hd hC hE h3 gt hn hs
       | cM kb=>exact yN b s r kb hd hC hE h3 gt hn hs hf hu zM
theorem AX (b mb:Nat) (s:aD) (M:Mm) (hM:fE M) (r:dY) (u:qX) (hd:s.aA=.bz r u) (hC:ep s) (hE:fe s) (hr:s.ah.length+1<2^20) (hf:(s.ap.length:Int)≤s.cf.ap) (hu:Ka s.cf u)
 (pE:0≤r.cj∧r.cj≤2) (gt:r.du=false):fQ b mb s M:=by
 have nM:=fun r' h3=>Jp b { s with aA:=.bm } r' u rfl (hC.to rfl rfl rfl rfl rfl rfl rfl rfl) (hE.to rfl rfl rfl rfl rfl) h3 hr hf hu
 have e:cD s M=dZ s M r u:=by unfold cD;rw [hd]
 have oF:=wD r M pE gt
 have PY:(cB r M).2.1.done=true→(cB r M).2.1.cj=3:=fun h=>by simpa [dY.done] using h
 have dn:=fun m=>yA s.cf m mb r M hM (fun h=>by rw [gt] at h;cases h)
 have oT:r.Bo=r.cj:=if_neg (by rw [gt];simp)
 have BD:IntKind.i64.wrap (5+r.cj)=5+r.cj:=ak (by omega) (by omega)
 unfold fQ
 rw [e,MX]
 clear e
 have i4:=(rJ r M).2.2.2
 obtain⟨a,r',M',F5⟩:∃a r' M',cB r M=(a,r',M'):=⟨_,_,_,rfl⟩
 rw [F5] at oF PY dn i4 ⊢
 dsimp only at oF PY dn i4 ⊢
 subst i4
 clear F5
 have Ni:∀(m:Nat) (A':AW),r'.cj≤3→A'.cy m=some (gA r')→eF 89 [pv m] A' (.bool r'.done):=fun m A' h3 h=>yB m r' A' h h3
 obtain⟨cf,ag,av,ax,value,br,ai,ah,ac,ap,set,aM,ao,aj,aG,aE,am,aA⟩:=s
 dsimp only at hd dn nM ⊢
 subst hd
 obtain⟨Sc,Sb,Sa,R9,R8⟩:=hE
 dsimp only at Sc Sb Sa R9 R8
 subst R8 Sc Sb Sa R9
 cases jx:r'.done with
 | false=>
   obtain⟨g1,g2,g3⟩:=oF jx
   rw [jx] at Ni
   rw [if_neg (by decide)]
   cases u
   all_goals(
    intro A F hw hS
    refine ab Tryz.func33 rfl (by kernel_rfl) fun _=>?_
    dsimp only [na,zo] at hS
    obtain⟨⟨bh,aY,az,aJ,aK,m,dy,k,ja,dr,bS,aw,aB,va,vv,vi,fA,fk,dD,dL,cI,jv,dO,dP,cG,cx,dv,cH,dN,bU,bt,dM,bT⟩,hS⟩:=bF.open hS .z
    dsimp only [bE,bH,cJ,bj,cR,eQ,cO,bf,ff,bO,bP,bd,be,bL,bc,bN,aO,aI,bM,aN,bJ,aT,aQ,aD.rv,na,zo] at hS
    try simp only [cV] at hS
    have hq:=ZL hS hw
    simp only [oT] at hq
    repeat' (first
    | (refine il fun R hR=>?_;simp [ak,au,hq,BD,AW.aa,af,aS,bq.v];try simp (disch:=omega) only [if_pos,if_neg,ak,au])
    | (refine hR _ _ ?_;clear hR R)|(refine hK _ _ ?_;clear hK K)|refine nx ?_
    | refine wn fun K hK=>?_
    | simp only [wS,uC]
    | refine wl Tryz.mx uC (by decide +kernel) fun K hK=>?_
    | (refine bD (Ni m _ (by omega) (by simp [hq,gA])) ?_;rintro _ _ ⟨rfl,rfl⟩ _ _)
    | (apply aP.el (dn _);(·exact wA);(·exact sA);(·first|exact pR|exact kR);rintro _ _ rfl hS hw _;have hS:=lA hS;have hq:=ZM hS hw)
    | refine wb ?_|refine wr ?_|refine wk ?_|refine we ?_|refine ws ?_|refine wq ?_
    | (refine wc rfl (fun hc=>?_) (fun hc=>?_)<;>(try simp at hc)<;>(try omega)<;>(try (simp [h2] at hc;done))<;>(try (simp [h3] at hc;done))<;>(try (simp [h4] at hc;done)))
    | (refine ib (fun hc=>?_) (fun hc=>?_)<;>(try omega)<;>(try simp (disch:=omega) only [if_pos,if_neg])))
    refine⟨_,by simp [hq,AW.aa,af];rfl,by first|(simp [bq.v,bq.zero];done)|(simp [bq.v,bq.zero,h];done),?_⟩
    apply bF.cC
    (·exact sA)
    (dsimp only [bE,bH,cJ,bj,cR,eQ,cO,bf,ff,bO,bP,bd,be,bL,bc,bN,aO,aI,bM,aN,bJ,aT,aQ,aD.rv,na,zo])
    (try simp only [cV])
    (try simp only [h])
    (·first|exact pR|exact kR)
    (·first|exact pR|exact kR)
    all_goals(first|exact 0|exact undef))
 | true=>
   have h3:=PY jx
   rw [jx] at Ni
   rw [if_pos rfl]
   have Uw:=nM r' h3
   cases u
   all_goals(
    intro A F hw hS
    refine ab Tryz.func33 rfl (by kernel_rfl) fun _=>?_
    dsimp only [na,zo] at hS
    obtain⟨⟨bh,aY,az,aJ,aK,m,dy,k,ja,dr,bS,aw,aB,va,vv,vi,fA,fk,dD,dL,cI,jv,dO,dP,cG,cx,dv,cH,dN,bU,bt,dM,bT⟩,hS⟩:=bF.open hS .z
    dsimp only [bE,bH,cJ,bj,cR,eQ,cO,bf,ff,bO,bP,bd,be,bL,bc,bN,aO,aI,bM,aN,bJ,aT,aQ,aD.rv,na,zo] at hS
    try simp only [cV] at hS
    have hq:=ZL hS hw
    simp only [oT] at hq
    repeat' (first
    | (refine il fun R hR=>?_;simp [ak,au,hq,BD,AW.aa,af,aS,bq.v];try simp (disch:=omega) only [if_pos,if_neg,ak,au])
    | (refine hR _ _ ?_;clear hR R)|(refine hK _ _ ?_;clear hK K)|refine nx ?_
    | refine wn fun K hK=>?_
    | simp only [wS,uC]
    | refine wl Tryz.mx uC (by decide +kernel) fun K hK=>?_
    | (refine bD (Ni m _ (by omega) (by simp [hq,gA])) ?_;rintro _ _ ⟨rfl,rfl⟩ _ _)
    | (apply aP.el (dn _);(·exact wA);(·exact sA);(·first|exact pR|exact kR);rintro _ _ rfl hS hw _;have hS:=lA hS;have hq:=ZM hS hw)
    | (apply aP.E6 (Uw);(·exact wA);(·exact sA);(·exact fR);(·first|exact pR|exact kR);(rintro _ _ _ hS hw _;have hS:=lA hS);(try (have hq:=ZM hS hw));all_goals(try (first|exact 0|exact undef)))
    | refine wb ?_|refine wr ?_|refine wk ?_|refine we ?_|refine ws ?_|refine wq ?_
    | (refine wc rfl (fun hc=>?_) (fun hc=>?_)<;>(try simp at hc)<;>(try omega)<;>(try (simp [h2] at hc;done))<;>(try (simp [h3] at hc;done))<;>(try (simp [h4] at hc;done)))
    | (refine ib (fun hc=>?_) (fun hc=>?_)<;>(try omega)<;>(try simp (disch:=omega) only [if_pos,if_neg])))
    refine⟨_,by simp [hq,AW.aa,af];rfl,by first|(simp [bq.v,bq.zero];done)|(simp [bq.v,bq.zero,h];done),?_⟩
    apply an.cC
    (·exact sA)
    (·first|exact pR|exact kR))
section
abbrev uB:List (Nat×Nat):=[(0,0),(1,0),(2,0),(3,0),(4,0),(5,0),(6,0),(7,0),(8,0),(9,0),(10,0),(11,0),(12,2),(13,0),(14,0),(15,3)]
open T28 T16
theorem rG (s:aD) (d:ba):fH { s with aA:=d }=fH s:=by
 unfold fH
 split<;>rfl
theorem G1 {M:Mm} (t:fL) (hn:t.done=false) (h4:(M 3).length=1) (h5:(M 4).length=1):(if (gn t M).1.eV=4 then 13 else 14:Int)=if t.pT=true then 14 else 13:=by
 have h1:dw M 4 0=true:=by
  have e:eJ M 4=M 3:=rfl
  simp [dw,e,h4]
 have h2:dw M 5 0=true:=by
  have e:eJ M 5=M 4:=rfl
  simp [dw,e,h5]
 have RP:(gX M 5 0).eV=1:=by unfold gX de;rw [if_pos h2]
 have PH:(N8 M 4 0 1).eV=4:=by unfold N8 de;rw [if_pos h1]
 unfold gn
 cases hl:t.pT with
 | true=>simp [hn,RP]
 | false=>simp [hn,PH]
theorem CI (s:aD) (rv:Int):jc s ⟨s.set,rv,false⟩={ s with aA:=if s.set.length=0 then .cN else .dG ⟨s.set,rv,false⟩ }:=by
 unfold jc
 rw [if_neg (by simp)]
 by_cases h:s.set.length=0
 · rw [if_pos (by simp [ft.done,h]),if_pos h]
 · rw [if_neg (by simp [ft.done];exact fun e=>h (by simp [e])),if_neg h]
theorem AV (b mb k:Nat) (s:aD) (M:Mm) (hM:fE M) (h4:(M 3).length=1) (h5:(M 4).length=1) (hd:s.aA=.dI) (s9:s.ai=false) (t:fL) (ht:s.aE=some t) (SS:t.done=false) (zz:0≤t.gP∧t.gP<2^50) (hL:mu k s) (ho:s.aj.length≤64) (vP:s.set.length<2^38):fQ b mb s M:=by
 have e:cD s M=im s M t:=by unfold cD;rw [hd];dsimp only;rw [ht]
 have VA:IntKind.i64.wrap t.gP=t.gP:=ak (by omega) (by omega)
 have dn:=fun pt=>yt s.cf pt mb t M hM (fun _=>by rw [VA];exact⟨zz.1,au (by omega) (by omega)⟩)
 have BD:=G1 t SS h4 h5
 unfold fQ
 rw [e]
 unfold im
 clear e
 dsimp only
 rw [BD]
 clear BD
 obtain⟨a,t',M',F5⟩:∃a t' M',gn t M=(a,t',M'):=⟨_,_,_,rfl⟩
 rw [F5] at dn ⊢
 dsimp only at dn ⊢
 clear F5
 have Pr:=td b k { s with aE:=some t' } 6 ⟨s.set,s.rv,false⟩ s9 hL ho vP
 rw [CI] at Pr
 obtain⟨cf,ag,av,ax,value,br,ai,ah,ac,ap,set,aM,ao,aj,aG,aE,am,aA⟩:=s
 dsimp only at hd ht s9 dn Pr ⊢
 subst hd ht s9
 have Rs:∀q,q=t.pT→t.eo=if q=true then t.gP else -1:=fun q hq=>by
  unfold fL.eo
  rw [VA,hq]
 cases htk2:t.pT
 all_goals(
  have Pq:=Rs _ htk2.symm
  simp only [Bool.false_eq_true,if_false,if_true] at Pq
  cases jx:t'.done with
  | false=>
    simp only [Bool.false_eq_true,if_false,if_true]
    intro A F hw hS
    refine ab Tryz.func33 rfl (by kernel_rfl) fun _=>?_
    dsimp only [na,zo] at hS
    obtain⟨⟨bh,aY,az,aJ,aK,m,dy,k,ja,dr,bS,aw,aB,va,vv,vi,fA,fk,dD,dL,cI,jv,dO,dP,cG,cx,dv,cH,dN,bU,bt,dM,bT⟩,hS⟩:=bF.open hS .z
    dsimp only [bE,bH,cJ,bj,cR,eQ,cO,bf,ff,bO,bP,bd,be,bL,bc,bN,aO,aI,bM,aN,bJ,aT,aQ,aD.rv,na,zo] at hS
    try simp only [cV] at hS
    have hq:=ZL hS hw
    have hS:=qY.op hS (.s (.s (.s .z)))
    have hq:=ZL hS hw
    simp only [Pq] at hq
    all_goals(revert hq hS hw;clear hq;clear hS;clear hS;refine Wr (J2 (od uB) @dn) (J6 zz.1 jx @AW.aa @af.eq_1 @aS.eq_1 @bq.v.eq_1) (J1 ?_)<;>unhygienic intros)
    refine⟨_,by simp [hq,AW.aa,af];rfl,by first|(simp [bq.v,bq.zero];done)|(simp [bq.v,bq.zero,h];done),?_⟩
    apply bF.cC
    (·exact sA)
    (dsimp only [bE,bH,cJ,bj,cR,eQ,cO,bf,ff,bO,bP,bd,be,bL,bc,bN,aO,aI,bM,aN,bJ,aT,aQ,aD.rv,na,zo])
    (try simp only [cV])
    (try simp only [h])
    (·first|exact pR|exact kR)
    (·first|exact pR|exact kR)
    all_goals(first|exact 0|exact undef)
  | true=>
    simp only [Bool.false_eq_true,if_false,if_true]
    intro A F hw hS
    refine ab Tryz.func33 rfl (by kernel_rfl) fun _=>?_
    dsimp only [na,zo] at hS
    obtain⟨⟨bh,aY,az,aJ,aK,m,dy,k,ja,dr,bS,aw,aB,va,vv,vi,fA,fk,dD,dL,cI,jv,dO,dP,cG,cx,dv,cH,dN,bU,bt,dM,bT⟩,hS⟩:=bF.open hS .z
    dsimp only [bE,bH,cJ,bj,cR,eQ,cO,bf,ff,bO,bP,bd,be,bL,bc,bN,aO,aI,bM,aN,bJ,aT,aQ,aD.rv,na,zo] at hS
    try simp only [cV] at hS
    have hq:=ZL hS hw
    have hS:=qY.op hS (.s (.s (.s .z)))
    obtain⟨os,cs,rfl,_⟩:=(an.gM hS (.s (.s (.s (.s (.s .z)))))).cL
    have hq:=ZL hS hw
    simp only [Pq] at hq
    all_goals(revert hq hS hw;(repeat first|clear hq|clear hS|clear hw|revert hc|revert zn|revert zA|revert R|revert K);refine Wr (J3 (od uB) @dn @yI) (J6 zz.1 jx @AW.aa @af.eq_1 @aS.eq_1 @bq.v.eq_1) (J1 ?_)<;>unhygienic intros)
    apply aP.E6 Pr (k:=0)
    · repeat' (first|assumption|apply AW.Wf.alloc|apply AW.Wf.set|exact Nat.le_refl _|(simp only [AW.aZ,AW.dq];omega)|apply an.uP hS hw|apply ay.z|apply ay.s)
    · apply an.KP (p:=set=set.drop 0∧0≤set.length) ⟨rfl,by omega⟩
      repeat' (first|exact hS|exact Nat.le_refl _|with_reducible apply an.jd|with_reducible apply an.jZ|with_reducible apply AW.gE|with_reducible apply AW.jU|with_reducible apply an.jn|with_reducible apply ay.z|with_reducible apply ay.s|assumption|apply AW.Wf.alloc|apply AW.Wf.set|(simp only [AW.aZ,AW.dq];omega)|apply an.uP hS hw|exact rfl)
    · skip
      (dsimp only [bE,bH,cJ,bj,cR,eQ,cO,bf,ff,bO,bP,bd,be,bL,bc,bN,aO,aI,bM,aN,bJ,aT,aQ,aD.rv,na,zo])
      (try simp only [cV])
      (try simp only [h])
      repeat' (first|apply aX.z|apply aX.s|apply ay.z|apply ay.ly|apply ay.qC|apply ay.s)
    · repeat' (first|apply aX.z|apply aX.s|apply ay.z|apply ay.ly|apply ay.qC|apply ay.s)
    rintro _ _ _ hS hw _
    have hS:=lA hS
    have hq:=ZL hS hw
    repeat' (first
    | (refine il fun R hR=>?_;simp [ak,au,hq,AW.aa,af,aS,bq.v];try simp (disch:=omega) only [if_pos,if_neg,ak,au])
    | (refine hR _ _ ?_;clear hR R)|(refine hK _ _ ?_;clear hK K)|refine nx ?_
    | refine wn fun K hK=>?_
    | simp only [wS,uB]
    | refine wl Tryz.mx uB (by decide +kernel) fun K hK=>?_
    | refine wb ?_|refine wr ?_|refine wk ?_|refine we ?_|refine ws ?_|refine wq ?_
    | (refine wc rfl (fun hc=>?_) (fun hc=>?_)<;>(try simp at hc)<;>(try omega)<;>(try (simp [h2] at hc;done))<;>(try (simp [h3] at hc;done))<;>(try (simp [h4] at hc;done)))
    | (refine ib (fun hc=>?_) (fun hc=>?_)<;>(try omega)<;>(try simp (disch:=omega) only [if_pos,if_neg])))
    refine⟨_,by simp [hq,AW.aa,af];rfl,by first|(simp [bq.v,bq.zero];done)|(simp [bq.v,bq.zero,h];done),?_⟩
    apply an.cC
    (·exact sA)
    (·first|exact pR|exact kR)
    all_goals(first|exact 0|exact undef))
end
end Go.Stx
