/-
 The program's attempt: the words that it has read and those that it will write.
-/
import Derived.Test.YtncmjklabcoeaaaGreatG19
import Derived.Test.YtncmjklabcoeaaaGreatG26
set_option linter.unusedVariables false
set_option linter.unusedSimpArgs false
set_option maxRecDepth 20000
set_option maxHeartbeats 4000000
namespace Go.Stx
open Go Go.Proofs
attribute [local irreducible] fj cm aH bB dK ei
section
open T23 T16
def vB (s:aD):List Int:=s.aM.bl.filter (fun a=>decide (a<s.cf.aF))
end
section
abbrev Fw:List (Nat×Nat):=[(0,0),(1,0),(2,0),(3,0),(4,0),(5,0),(6,0),(7,0),(8,0),(9,0),(10,0),(11,0),(12,0),(13,0),(14,0),(15,2),(16,0),(17,0),(18,3)]
open T28 T16
theorem yS (b k:Nat) (s:aD) (n ec:Int) (hd:s.ai=false) (hL:mu k s) (ho:s.aj.length≤64) :
 aP Tryz.prog 202 [pv b,.int .i64 ec] [.h (jz b s n .fW)] (fun _=>True) (fun _=>[.h (bF b (fH { s with ax:=ec }))]):=by
 rcases hL with ⟨h1,h2⟩|⟨l,h1,h2,h3,h4,_⟩
 · skip
   obtain⟨cf,ag,av,ax,value,br,ai,ah,ac,ap,set,aM,ao,aj,aG,aE,am,aA⟩:=s
   dsimp only at hd h1 h2
   subst hd h1 h2
   rw [show fH ⟨cf,ag,av,ec,value,br,false,ah,ac,ap,set,aM,ao,[],none,aE,am,aA⟩=⟨cf,ag,av,ec,value,br,false,ah,ac,ap,set,aM,ao,[],none,aE,am,.fm⟩ from rfl]
   intro A F hw hS
   refine ab Tryz.func202 rfl (by kernel_rfl) fun _=>?_
   dsimp only [na,zo] at hS
   obtain⟨⟨bh,aY,az,aJ,aK,m,dy,k,ja,dr,bS,aw,aB,va,vv,vi,fA,fk,dD,dL,cI,jv,dO,dP,cG,cx,dv,cH,dN,bU,bt,dM,bT⟩,hS⟩:=jz.open hS .z
   dsimp only [bE,bH,cJ,bj,cR,eQ,cO,bf,ff,bO,bP,bd,be,bL,bc,bN,aO,aI,bM,aN,bJ,aT,aQ,aD.rv,na,zo] at hS
   try simp only [cV] at hS
   have hq:=ZL hS hw
   revert hq hS hw;clear hS;refine Wr (J1 (od Fw)) (J2 @AW.aa @af.eq_1) (J1 ?_)<;>unhygienic intros
   refine⟨_,by first|rfl|(simp;rfl),trivial,?_⟩
   apply bF.cC
   (·exact sA)
   (dsimp only [bE,bH,cJ,bj,cR,eQ,cO,bf,ff,bO,bP,bd,be,bL,bc,bN,aO,aI,bM,aN,bJ,aT,aQ,aD.rv,na,zo])
   (try simp only [cV])
   (try simp only [h])
   (·first|exact pR|exact kR)
   (·first|exact pR|exact kR)
   all_goals(first|exact 0|exact undef)
 · skip
   obtain⟨cf,ag,av,ax,value,br,ai,ah,ac,ap,set,aM,ao,aj,aG,aE,am,aA⟩:=s
   dsimp only at hd h1 h2 h3 h4 ho
   subst hd h1
   obtain⟨DB,iN,ml,lQ,lS⟩:=l
   dsimp only at h2 h3 h4
   subst h2
   have e:fH ⟨cf,ag,av,ec,value,br,false,ah,ac,ap,set,aM,ao,iN,some ⟨DB,iN,ml,lQ,lS⟩,aE,am,aA⟩=⟨cf,ag,av,ec,value,br,false,ah,ac,ap,set,aM,ao,iN,some ⟨DB,iN,ml,lQ,lS⟩,aE,am,.cK ⟨iN,ml⟩⟩:=by
    unfold fH
    rw [if_neg (by dsimp only;omega)]
    rfl
   rw [e]
   intro A F hw hS
   refine ab Tryz.func202 rfl (by kernel_rfl) fun _=>?_
   dsimp only [na,zo] at hS
   obtain⟨⟨bh,aY,az,aJ,aK,m,dy,k,ja,dr,bS,aw,aB,va,vv,vi,fA,fk,dD,dL,cI,jv,dO,dP,cG,cx,dv,cH,dN,bU,bt,dM,bT⟩,hS⟩:=jz.open hS .z
   dsimp only [bE,bH,cJ,bj,cR,eQ,cO,bf,ff,bO,bP,bd,be,bL,bc,bN,aO,aI,bM,aN,bJ,aT,aQ,aD.rv,na,zo] at hS
   try simp only [cV] at hS
   have hq:=ZL hS hw
   have hS:=hW.op hS (.s (.s .z))
   obtain⟨ol,cl,rfl,iz⟩:=(an.gM hS (.s .z)).cL
   obtain⟨ow,cw,rfl,IU⟩:=(an.gM hS (.s (.s .z))).cL
   rw [h3] at hS IU
   have hq:=ZL hS hw
   revert hq hS hw;(repeat first|clear hq|clear hS|clear hw|revert hc|revert zn|revert zA|revert R|revert K);refine Wr (J2 (od Fw) (oB _ _ _ _ _ _ _ iz IU)) (J2 @AW.aa @af.eq_1) (J1 ?_)<;>unhygienic intros
   refine⟨_,by first|rfl|(simp;rfl),trivial,?_⟩
   apply bF.cC (k:=0) (fA:=.slice ol iN.length cl) (fk:=.slice ow iN.length cw)
   · apply an.KP (p:=(⟨iN,ml⟩:gL)=⟨iN.drop 0,(lB ⟨cf,ag,av,ec,value,br,false,ah,ac,ap,set,aM,ao,iN,some ⟨DB,iN,ml,lQ,lS⟩,aE,am,.cK ⟨iN,ml⟩⟩).drop 0⟩∧0≤iN.length) ⟨rfl,by omega⟩
     apply hW.cl (l:=⟨DB,iN,ml,lQ,lS⟩) (n:=aJ) (fA:=.slice ol iN.length cl) (fk:=.slice ow iN.length cw)
     · exact sA
     · repeat' (first|apply aX.z|apply aX.s|apply ay.z|apply ay.ly|apply ay.qC|apply ay.s)
   (dsimp only [bE,bH,cJ,bj,cR,eQ,cO,bf,ff,bO,bP,bd,be,bL,bc,bN,aO,aI,bM,aN,bJ,aT,aQ,aD.rv,na,zo])
   (try simp only [cV])
   (try simp only [h])
   (·first|exact pR|exact kR)
   (·first|exact pR|exact kR)
   all_goals(first|exact 0|exact undef)
def jc (s:aD) (ck:ft):aD:=if ck.ii=true then fH { s with ax:=9 } else if ck.done=true then { s with aA:=.cN } else { s with aA:=.dG ck }
theorem td (b k:Nat) (s:aD) (n:Int) (ck:ft) (hd:s.ai=false) (hL:mu k s) (ho:s.aj.length≤64) (vP:s.set.length<2^38) :
 aP Tryz.prog 98 [pv b] [.h (gz b s n (.dG ck))] (fun _=>True) (fun _=>[.h (bF b (jc s ck))]):=by
 have QF:=yS b k s 7 9 hd hL ho
 obtain⟨cf,ag,av,ax,value,br,ai,ah,ac,ap,set,aM,ao,aj,aG,aE,am,aA⟩:=s
 obtain⟨co,JT,Wt⟩:=ck
 dsimp only at hd vP
 subst hd
 have T7:True:=trivial
 cases Wt with
 | true=>
   rw [show jc ⟨cf,ag,av,ax,value,br,false,ah,ac,ap,set,aM,ao,aj,aG,aE,am,aA⟩ ⟨co,JT,true⟩=fH ⟨cf,ag,av,9,value,br,false,ah,ac,ap,set,aM,ao,aj,aG,aE,am,aA⟩ from rfl]
   intro A F hw hS
   refine ab Tryz.func98 rfl (by kernel_rfl) fun _=>?_
   dsimp only [na,zo] at hS
   obtain⟨⟨bh,aY,az,aJ,aK,m,dy,k,ja,dr,bS,aw,aB,va,vv,vi,fA,fk,dD,dL,cI,jv,dO,dP,cG,cx,dv,cH,dN,bU,bt,dM,bT⟩,hS⟩:=gz.open hS .z
   dsimp only [bE,bH,cJ,bj,cR,eQ,cO,bf,ff,bO,bP,bd,be,bL,bc,bN,aO,aI,bM,aN,bJ,aT,aQ,aD.rv,na,zo] at hS
   try simp only [cV] at hS
   have hq:=ZL hS hw
   obtain⟨⟨EM,EL⟩,hS⟩:=an.Oj hS (.s (.s (.s (.s (.s (.s (.s (.s (.s (.s (.s .z)))))))))))
   have hq:=ZL hS hw
   revert hq hS hw;clear hq;clear hS;clear hS;refine Wr (J1 (Tg.mk (n:=24) @QF)) (J2 @AW.aa @af.eq_1) (J1 ?_)<;>unhygienic intros
   refine⟨_,by first|rfl|(simp;rfl),trivial,?_⟩
   apply an.cC
   (·exact sA)
   (·first|exact pR|exact kR)
 | false=>
   intro A F hw hS
   refine ab Tryz.func98 rfl (by kernel_rfl) fun _=>?_
   dsimp only [na,zo] at hS
   obtain⟨⟨bh,aY,az,aJ,aK,m,dy,k,ja,dr,bS,aw,aB,va,vv,vi,fA,fk,dD,dL,cI,jv,dO,dP,cG,cx,dv,cH,dN,bU,bt,dM,bT⟩,hS⟩:=gz.open hS .z
   dsimp only [bE,bH,cJ,bj,cR,eQ,cO,bf,ff,bO,bP,bd,be,bL,bc,bN,aO,aI,bM,aN,bJ,aT,aQ,aD.rv,na,zo] at hS
   try simp only [cV] at hS
   have hq:=ZL hS hw
   obtain⟨⟨EM,EL⟩,hS⟩:=an.Oj hS (.s (.s (.s (.s (.s (.s (.s (.s (.s (.s (.s .z)))))))))))
   obtain⟨ov,cv,rfl,_⟩:=(an.gM hS (.s (.s (.s (.s (.s .z)))))).cL
   have hq:=ZL hS hw
   have mf:∀A':AW,A'.cy m=some (jC (.slice ov set.length cv) JT k false)→eF 203 [pv m] A' (.bool (false || decide (k=set.length))):=fun A' h=>mX m ov set.length cv k JT false A' h
   have MB:(ft.mk co JT false).done=(false || decide (k=set.length)):=by
    have:(set.length-k=0)=(k=set.length):=propext (by omega)
    simp [ft.done,EM,this]
   by_cases hk:k=set.length
   · rw [show (false || decide (k=set.length))=true by simp [hk]] at mf MB
     rw [show jc ⟨cf,ag,av,ax,value,br,false,ah,ac,ap,set,aM,ao,aj,aG,aE,am,aA⟩ ⟨co,JT,false⟩=⟨cf,ag,av,ax,value,br,false,ah,ac,ap,set,aM,ao,aj,aG,aE,am,.cN⟩ by unfold jc;rw [if_neg (by simp),if_pos MB]]
     revert hq hS hw;(repeat first|clear hq|clear hS|clear hw|revert hc|revert zn|revert zA|revert R|revert K);refine Wr (J1 @mf) (J2 @AW.aa @af.eq_1) (J1 ?_)<;>unhygienic intros
     refine⟨_,by first|rfl|(simp;rfl),trivial,?_⟩
     apply bF.cC
     (·exact sA)
     (dsimp only [bE,bH,cJ,bj,cR,eQ,cO,bf,ff,bO,bP,bd,be,bL,bc,bN,aO,aI,bM,aN,bJ,aT,aQ,aD.rv,na,zo])
     (try simp only [cV])
     (try simp only [h])
     (·first|exact pR|exact kR)
     (·first|exact pR|exact kR)
     all_goals(first|exact 0|exact undef)
   · rw [show (false || decide (k=set.length))=false by simp [hk]] at mf MB
     rw [show jc ⟨cf,ag,av,ax,value,br,false,ah,ac,ap,set,aM,ao,aj,aG,aE,am,aA⟩ ⟨co,JT,false⟩=⟨cf,ag,av,ax,value,br,false,ah,ac,ap,set,aM,ao,aj,aG,aE,am,.dG ⟨co,JT,false⟩⟩ by unfold jc;rw [if_neg (by simp),if_neg (by rw [MB];decide)]]
     revert hq hS hw;(repeat first|clear hq|clear hS|clear hw|revert hc|revert zn|revert zA|revert R|revert K);refine Wr (J1 @mf) (J2 @AW.aa @af.eq_1) (J1 ?_)<;>unhygienic intros
     refine⟨_,by first|rfl|(simp;rfl),trivial,?_⟩
     have Ga:co=set.drop k∧k≤set.length:=⟨EM,EL⟩
     apply bF.cC (k:=k)
     (·apply an.KP (Ga)
       repeat' (first|exact hS|exact Nat.le_refl _|with_reducible apply an.jd|with_reducible apply an.jZ|with_reducible apply AW.gE|with_reducible apply AW.jU|with_reducible apply an.jn|with_reducible apply ay.z|with_reducible apply ay.s|assumption|apply AW.Wf.alloc|apply AW.Wf.set|(simp only [AW.aZ,AW.dq];omega)|apply an.uP hS hw|exact rfl))
     (dsimp only [bE,bH,cJ,bj,cR,eQ,cO,bf,ff,bO,bP,bd,be,bL,bc,bN,aO,aI,bM,aN,bJ,aT,aQ,aD.rv,na,zo])
     (try simp only [cV])
     (try simp only [h])
     (·first|exact pR|exact kR)
     (·first|exact pR|exact kR)
     all_goals(first|exact 0|exact undef)
end
abbrev iR:List (Nat×Nat):=[(0,0),(1,0),(2,0),(3,0),(4,0),(5,0),(6,0),(7,0),(8,0),(9,0),(10,0),(11,0)]
abbrev iQ:List (Nat×Nat):=[(0,0),(1,0),(2,0),(3,0),(4,0),(5,0),(6,0),(7,0),(8,0),(9,0),(10,0),(11,0),(12,0),(13,0),(14,0),(15,2),(16,0),(17,0),(18,3)]
theorem Dj (b mb k:Nat) (s:aD) (M:Mm) (hd:s.aA=.cN) (hC:ep s) (s9:s.ai=false) (hL:kJ k s) (ho:s.aj.length≤64) (hk:k<2^40) (hM:fE M) (pN:0≤(gX M 3 0).fI∧(gX M 3 0).fI≤k) :
 aP Tryz.prog 100 [pv b,pv mb] [.h (bF b s),fw s.cf mb M] (fun v=>v=(fb s M).1.v) (fun _=>[.h (bF b (fb s M).2.2.1),fw s.cf mb M]):=by
 obtain⟨We,UP⟩:=hL
 have Gb:=hC.aM.xt
 have cU:=hC.len
 have zJ:=hC.cf.ao
 obtain⟨cf,ag,av,ax,value,br,ai,ah,ac,ap,set,aM,ao,aj,aG,aE,am,aA⟩:=s
 dsimp only at hd s9 UP ho Gb cU zJ
 subst hd s9
 have uT:=xp cf mb M hM 3 0
 unfold fb
 obtain⟨a,ha⟩:∃a,gX M 3 0=a:=⟨_,rfl⟩
 rw [ha] at pN uT ⊢
 have JE:IntKind.u64.wrap cf.ao=cf.ao:=au (by omega) (by omega)
 have QF:=fun n=>yS b k ⟨cf,ag,av,ax,value,br,false,ah,ac,ap,set,aM,a.fI,aj,aG,aE,am,.cN⟩ n 6 rfl We ho
 dsimp only
 rw [JE]
 by_cases dn:(⟨cf,ag,av,ax,value,br,false,ah,ac,ap,set,aM,ao,aj,aG,aE,am,.cN⟩:aD).iv=true
 · have HJ:(decide (ax=1) && decide (0<aM.bl.length))=true:=dn
   obtain⟨qi,oE⟩:ax=1∧0<aM.bl.length:=by simpa using HJ
   subst qi
   have Cl:(0:Int)<aM.bl.length:=by omega
   by_cases hfull:cf.ao≤a.fI
   · rw [if_pos ⟨dn,hfull⟩]
     intro A F hw hS
     refine ab Tryz.func100 rfl (by kernel_rfl) fun _=>?_
     dsimp only [na,zo] at hS
     obtain⟨⟨bh,aY,az,aJ,aK,m,dy,k,ja,dr,bS,aw,aB,va,vv,vi,fA,fk,dD,dL,cI,jv,dO,dP,cG,cx,dv,cH,dN,bU,bt,dM,bT⟩,hS⟩:=bF.open hS .z
     dsimp only [bE,bH,cJ,bj,cR,eQ,cO,bf,ff,bO,bP,bd,be,bL,bc,bN,aO,aI,bM,aN,bJ,aT,aQ,aD.rv,na,zo] at hS
     try simp only [cV] at hS
     have hq:=ZL hS hw
     obtain⟨la,lv,li,hS⟩:=fY.open hS (.s (.s (.s (.s (.s (.s (.s (.s (.s .z)))))))))
     obtain⟨oa,ca,rfl,QH⟩:=(an.gM hS (.s .z)).cL
     obtain⟨ov,cv,rfl,RZ⟩:=(an.gM hS (.s (.s .z))).cL
     have hq:=ZW hS hw
     repeat' (first
     | (refine il fun R hR=>?_;simp [ak,au,hq,oE,Cl,JE,hfull,AW.aa,af,aS,bq.v];try simp (disch:=omega) only [if_pos,if_neg,ak,au])
     | (refine hR _ _ ?_;clear hR R)|(refine hK _ _ ?_;clear hK K)|refine nx ?_
     | refine wn fun K hK=>?_
     | simp only [wS,iR,iQ]
     | refine wl Tryz.mx iR (by decide +kernel) fun K hK=>?_
     | refine wl Tryz.mx iQ (by decide +kernel) fun K hK=>?_
     | (apply aP.el (uT);(·exact wA);(·exact sA);(·first|exact pR|exact kR);rintro _ _ rfl hS hw _;have hS:=lA hS;have hq:=ZM hS hw)
     | refine wb ?_|refine wr ?_|refine wk ?_|refine we ?_|refine ws ?_|refine wq ?_
     | (refine wc rfl (fun hc=>?_) (fun hc=>?_)<;>(try simp at hc)<;>(try omega)<;>(try (simp [h2] at hc;done))<;>(try (simp [h3] at hc;done))<;>(try (simp [h4] at hc;done)))
     | (refine ib (fun hc=>?_) (fun hc=>?_)<;>(try omega)<;>(try simp (disch:=omega) only [if_pos,if_neg])))
     apply aP.Io (QF 8)
     · repeat' (first|assumption|apply AW.Wf.alloc|apply AW.Wf.set|exact Nat.le_refl _|(simp only [AW.aZ,AW.dq];omega)|apply an.uP hS hw|apply ay.z|apply ay.s)
     · apply fY.eh (b:=aY) (s:=aM)
       · exact sA
       · repeat' (first|apply aX.z|apply aX.s|apply ay.z|apply ay.ly|apply ay.qC|apply ay.s)
     · skip
       (dsimp only [bE,bH,cJ,bj,cR,eQ,cO,bf,ff,bO,bP,bd,be,bL,bc,bN,aO,aI,bM,aN,bJ,aT,aQ,aD.rv,na,zo])
       (try simp only [cV])
       (try simp only [h])
       repeat' (first|apply aX.z|apply aX.s|apply ay.z|apply ay.ly|apply ay.qC|apply ay.s)
     · repeat' (first|apply aX.z|apply aX.s|apply ay.z|apply ay.ly|apply ay.qC|apply ay.s)
     rintro _ _ _ hS hw _
     have hS:=lA hS
     have hq:=ZL hS hw
     repeat' (first
     | (refine il fun R hR=>?_;simp [ak,au,hq,AW.aa,af,aS,bq.v];try simp (disch:=omega) only [if_pos,if_neg,ak,au])
     | (refine hR _ _ ?_;clear hR R)|(refine hK _ _ ?_;clear hK K)|refine nx ?_
     | refine wn fun K hK=>?_
     | simp only [wS,iR,iQ]
     | refine wl Tryz.mx iR (by decide +kernel) fun K hK=>?_
     | refine wl Tryz.mx iQ (by decide +kernel) fun K hK=>?_
     | refine wb ?_|refine wr ?_|refine wk ?_|refine we ?_|refine ws ?_|refine wq ?_
     | (refine wc rfl (fun hc=>?_) (fun hc=>?_)<;>(try simp at hc)<;>(try omega)<;>(try (simp [h2] at hc;done))<;>(try (simp [h3] at hc;done))<;>(try (simp [h4] at hc;done)))
     | (refine ib (fun hc=>?_) (fun hc=>?_)<;>(try omega)<;>(try simp (disch:=omega) only [if_pos,if_neg])))
     refine⟨_,by simp [hq,AW.aa,af];rfl,by simp [bq.v],?_⟩
     apply an.cC
     (·exact sA)
     (·first|exact pR|exact kR)
     all_goals(first|exact 0|exact undef)
   · rw [if_neg (fun e=>hfull e.2),if_pos dn]
     have Mu:0<aj.length:=UP.1 dn
     rcases We with ⟨h1,_⟩|⟨l,h1,h2,h3,h4,h5⟩
     · dsimp only at h1
       rw [h1] at Mu
       simp at Mu
     dsimp only at h1 h2 h3 h4
     obtain⟨DB,iN,ml,lQ,lS⟩:=l
     dsimp only at h2 h3
     subst h1 h2
     have tp:IntKind.i64.wrap a.fI=a.fI:=ak (by omega) (by omega)
     have pM:IntKind.i64.wrap (a.fI+1)=a.fI+1:=ak (by omega) (by omega)
     have h:∀d,aD.sy ⟨cf,ag,av,1,value,br,true,ah,ac,ap,set,aM,a.fI,iN,some ⟨DB,iN,ml,lQ,lS⟩,aE,am,d⟩=a.fI+1:=fun d=>by
      unfold aD.sy
      rw [if_pos ⟨rfl,dn⟩,tp,pM]
     intro A F hw hS
     refine ab Tryz.func100 rfl (by kernel_rfl) fun _=>?_
     dsimp only [na,zo] at hS
     obtain⟨⟨bh,aY,az,aJ,aK,m,dy,k,ja,dr,bS,aw,aB,va,vv,vi,fA,fk,dD,dL,cI,jv,dO,dP,cG,cx,dv,cH,dN,bU,bt,dM,bT⟩,hS⟩:=bF.open hS .z
     dsimp only [bE,bH,cJ,bj,cR,eQ,cO,bf,ff,bO,bP,bd,be,bL,bc,bN,aO,aI,bM,aN,bJ,aT,aQ,aD.rv,na,zo] at hS
     try simp only [cV] at hS
     have hq:=ZL hS hw
     obtain⟨la,lv,li,hS⟩:=fY.open hS (.s (.s (.s (.s (.s (.s (.s (.s (.s .z)))))))))
     obtain⟨oa,ca,rfl,QH⟩:=(an.gM hS (.s .z)).cL
     obtain⟨ov,cv,rfl,RZ⟩:=(an.gM hS (.s (.s .z))).cL
     have hq:=ZW hS hw
     have hS:=hW.op hS (.s (.s (.s (.s (.s (.s .z))))))
     obtain⟨ol,cl,rfl,iz⟩:=(an.gM hS (.s .z)).cL
     obtain⟨ow,cw,rfl,IU⟩:=(an.gM hS (.s (.s .z))).cL
     rw [Gb] at hS RZ
     rw [h3] at hS IU
     have hq:=Z6 hS hw
     have VT:iN.length≤64:=ho
     repeat' (first
     | (refine il fun R hR=>?_;simp [ak,au,hq,oE,Cl,JE,hfull,tp,pM,AW.aa,af,aS,bq.v];try simp (disch:=omega) only [if_pos,if_neg,ak,au])
     | (refine hR _ _ ?_;clear hR R)|(refine hK _ _ ?_;clear hK K)|refine nx ?_
     | refine wn fun K hK=>?_
     | simp only [wS,iR,iQ]
     | refine wl Tryz.mx iR (by decide +kernel) fun K hK=>?_
     | refine wl Tryz.mx iQ (by decide +kernel) fun K hK=>?_
     | (refine bD (oB 1 oa ov aM.bl.length ca cv _ QH RZ) ?_<;>rintro _ _ ⟨rfl,rfl⟩ _ _)
     | (refine bD (Hl _ _) ?_<;>rintro _ _ ⟨⟨ee,rfl⟩,rfl⟩ _ _)
     | (apply aP.el (uT);(·exact wA);(·exact sA);(·first|exact pR|exact kR);rintro _ _ rfl hS hw _;have hS:=lA hS;have hq:=ZM hS hw)
     | refine wb ?_|refine wr ?_|refine wk ?_|refine we ?_|refine ws ?_|refine wq ?_
     | (refine wc rfl (fun hc=>?_) (fun hc=>?_)<;>(try simp at hc)<;>(try omega)<;>(try (simp [h2] at hc;done))<;>(try (simp [h3] at hc;done))<;>(try (simp [h4] at hc;done)))
     | (refine ib (fun hc=>?_) (fun hc=>?_)<;>(try omega)<;>(try simp (disch:=omega) only [if_pos,if_neg])))
     refine ed (fun kk fr A'=>A'.Wf∧∃(i:Nat),kk=iN.length-i∧i≤iN.length∧fr 0=pv b∧fr 7=.int .u64 (gN (a.fI+1))∧fr 10=.int .i64 i∧∃TA mx my v,fr 5=.pointer (some ⟨mx,0,none⟩)∧fr 4=.pointer (some ⟨my,0,none⟩)∧fr 9=v∧
      an A' (.h (ar .u64 v (List.replicate i (gN (a.fI+1))))::.at TA (gp 1 (.slice oa aM.bl.length ca) (.slice ov aM.bl.length cv) 0)::.at aJ (jA ⟨DB,iN,ml,lQ,lS⟩ (.slice ol iN.length cl) (.slice ow iN.length cw))::.h (ar .i64 (.slice ol iN.length cl) iN)::.h (ar .u64 (.slice ow iN.length cw) ml)::.at aY (gw aM.dA (.slice oa aM.bl.length ca) (.slice ov aM.bl.length cv) li)::.h (ar .i64 (.slice oa aM.bl.length ca) aM.bl)::.h (ar .u64 (.slice ov aM.bl.length cv) aM.df)::.h (ar .i64 li aM.index)::.h (xh br az)::.h (qY aE aK)::.at bh (ko cf.ah.toNat dr)::.h (ar .i64 dr set)::.h (ar .i64 bS ah)::.h (ar .i64 aw ac)::.h (ar .i64 aB ap)::.at b (bH ⟨cf,ag,av,1,value,br,true,ah,ac,ap,set,aM,a.fI,iN,some ⟨DB,iN,ml,lQ,lS⟩,aE,am,.cN⟩ 12 .fW ⟨bh,aY,az,aJ,aK,m,dy,k,ja,dr,bS,aw,aB,va,vv,vi,(.slice ol iN.length cl),(.slice ow iN.length cw),dD,dL,cI,jv,dO,dP,cG,cx,dv,cH,dN,bU,(pv TA),dM,bT⟩)::(.at mx (.cells (N9 a) true 1))::.at my (.cells aS true 1)::[fw cf mb M,.h F])) iN.length ?_ ?_
     · refine⟨?_,0,by simp,by simp,by simp,by simp,by simp,?_⟩
       · repeat' (first|assumption|apply AW.Wf.alloc|apply AW.Wf.set|exact Nat.le_refl _|(simp only [AW.aZ,AW.dq];omega)|apply an.uP hS hw|apply ay.z|apply ay.s)
       · apply Exists.intro
         apply Exists.intro
         apply Exists.intro
         apply Exists.intro
         refine⟨by simp;rfl,by simp;rfl,by simp;rfl,?_⟩
         apply an.cC
         · apply an.rV .u64
           repeat' (first|exact hS|exact Nat.le_refl _|with_reducible apply an.jd|with_reducible apply an.jZ|with_reducible apply AW.gE|with_reducible apply AW.jU|with_reducible apply an.jn|with_reducible apply ay.z|with_reducible apply ay.s|assumption|apply AW.Wf.alloc|apply AW.Wf.set|(simp only [AW.aZ,AW.dq];omega)|apply an.uP hS hw|exact rfl)
         (dsimp only [bE,bH,cJ,bj,cR,eQ,cO,bf,ff,bO,bP,bd,be,bL,bc,bN,aO,aI,bM,aN,bJ,aT,aQ,aD.rv,na,zo])
         (try simp only [cV])
         (try simp only [h])
         (·first|exact pR|exact kR)
     · clear hS hw hq
       rintro kk fr A' ⟨hw,i,rfl,hi,h0,h7,GS,TA,mx,my,v,f5,f4,h9,hS⟩
       dsimp only [bE,bH,cJ,bj,cR,eQ,cO,bf,ff,bO,bP,bd,be,bL,bc,bN,aO,aI,bM,aN,bJ,aT,aQ,aD.rv,na,zo] at hS
       simp only [h] at hS
       obtain⟨Xb,YJ,rfl,RY⟩:=(an.gM hS .z).cL
       rw [List.length_replicate] at hS RY h9
       have hq:=Z5 hS hw
       refine eW ?_
       by_cases dQ:i<iN.length
       · have ey:(i:Int)<iN.length:=by omega
         have mc:IntKind.i64.wrap ((i:Int)+1)=((i+1:Nat):Int):=ak (by omega) (by omega)
         have T6:List.replicate (i+1) (gN (a.fI+1))=List.replicate i (gN (a.fI+1))++[gN (a.fI+1)]:=List.replicate_succ'
         repeat' (first
         | (with_reducible apply SL;(·first|(simp;done)|(simp;rfl));(·first|(simp;done)|(simp;rfl));(·exact wA);(·exact sA);(·first|exact pR|exact kR);(·first|(simp;done)|(simp;rfl)|(simp [hq];done)|(simp [hq];rfl));(·first|omega|(simp;omega));(·intro _ _;trivial);rintro _ _ _ hS hw _;(try dsimp only [AW.aZ] at hS);have hq:=ZM hS hw)
         | (refine il fun R hR=>?_;simp [ak,au,h0,h7,GS,f5,f4,h9,hq,dQ,ey,mc,AW.aa,af,aS,bq.v];try simp (disch:=omega) only [if_pos,if_neg,ak,au])
         | (refine hR _ _ ?_;clear hR R)|(refine hK _ _ ?_;clear hK K)|refine nx ?_
         | refine wn fun K hK=>?_
         | simp only [wS,iR,iQ]
         | refine wl Tryz.mx iR (by decide +kernel) fun K hK=>?_
         | refine wl Tryz.mx iQ (by decide +kernel) fun K hK=>?_
         | refine wb ?_|refine wr ?_|refine wk ?_|refine we ?_|refine ws ?_|refine wq ?_
         | (refine wc rfl (fun hc=>?_) (fun hc=>?_)<;>(try simp at hc)<;>(try omega)<;>(try (simp [h2] at hc;done))<;>(try (simp [h3] at hc;done))<;>(try (simp [h4] at hc;done)))
         | (refine ib (fun hc=>?_) (fun hc=>?_)<;>(try omega)<;>(try simp (disch:=omega) only [if_pos,if_neg])))
         simp only [List.length_replicate] at hS
         refine⟨iN.length-(i+1),by omega,hw,i+1,rfl,by omega,by simp [h0],by simp [h7],by simp,?_⟩
         apply Exists.intro
         apply Exists.intro
         apply Exists.intro
         apply Exists.intro
         refine⟨by simp [f5];rfl,by simp [f4];rfl,by simp;rfl,?_⟩
         rw [T6]
         apply an.cC
         · exact sA
         (dsimp only [bE,bH,cJ,bj,cR,eQ,cO,bf,ff,bO,bP,bd,be,bL,bc,bN,aO,aI,bM,aN,bJ,aT,aQ,aD.rv,na,zo])
         (try simp only [cV])
         (try simp only [h])
         (·first|exact pR|exact kR)
       · have zG:i=iN.length:=by omega
         subst zG
         repeat' (first
         | (refine il fun R hR=>?_;simp [ak,au,h0,h7,GS,f5,f4,h9,hq,AW.aa,af,aS,bq.v];try simp (disch:=omega) only [if_pos,if_neg,ak,au])
         | (refine hR _ _ ?_;clear hR R)|(refine hK _ _ ?_;clear hK K)|refine nx ?_
         | refine wn fun K hK=>?_
         | simp only [wS,iR,iQ]
         | refine wl Tryz.mx iR (by decide +kernel) fun K hK=>?_
         | refine wl Tryz.mx iQ (by decide +kernel) fun K hK=>?_
         | (refine bD (oB 2 ol Xb iN.length cl YJ _ iz RY) ?_<;>rintro _ _ ⟨rfl,rfl⟩ _ _)
         | refine wb ?_|refine wr ?_|refine wk ?_|refine we ?_|refine ws ?_|refine wq ?_
         | (refine wc rfl (fun hc=>?_) (fun hc=>?_)<;>(try simp at hc)<;>(try omega)<;>(try (simp [h2] at hc;done))<;>(try (simp [h3] at hc;done))<;>(try (simp [h4] at hc;done)))
         | (refine ib (fun hc=>?_) (fun hc=>?_)<;>(try omega)<;>(try simp (disch:=omega) only [if_pos,if_neg])))
         refine⟨_,by simp [f4,f5,hq,AW.aa,af];rfl,by simp [bq.v],?_⟩
         apply bF.cC (k:=0) (fA:=.slice ol iN.length cl) (fk:=.slice ow iN.length cw)
         · apply an.KP (p:=(⟨aM.bl,aM.df⟩:gL)=⟨aM.bl.drop 0,aM.df.drop 0⟩∧0≤aM.bl.length) ⟨rfl,by omega⟩
           apply hW.cl (l:=⟨DB,iN,ml,lQ,lS⟩) (n:=aJ) (fA:=.slice ol iN.length cl) (fk:=.slice ow iN.length cw)
           · exact sA
           · repeat' (first|apply aX.z|apply aX.s|apply ay.z|apply ay.ly|apply ay.qC|apply ay.s)
         (dsimp only [bE,bH,cJ,bj,cR,eQ,cO,bf,ff,bO,bP,bd,be,bL,bc,bN,aO,aI,bM,aN,bJ,aT,aQ,aD.rv,na,zo])
         (try simp only [cV])
         (try simp only [h])
         (·first|exact pR|exact kR)
         (·first|exact pR|exact kR)
         all_goals(first|exact 0|exact undef)
 · rw [if_neg (fun e=>dn e.1),if_neg dn]
   have uc:¬0<aj.length:=fun e=>dn (UP.2 e)
   have Ub:aj.length=0:=by omega
   have Ua:=List.eq_nil_of_length_eq_zero Ub
   subst Ua
   rw [show fH ⟨cf,ag,av,ax,value,br,true,ah,ac,ap,set,aM,a.fI,[],aG,aE,am,.cN⟩=⟨cf,ag,av,ax,value,br,true,ah,ac,ap,set,aM,a.fI,[],aG,aE,am,.fm⟩ from rfl]
   have HJ:(decide (ax=1) && decide (0<aM.bl.length))=false:=by
    have h9:¬(decide (ax=1) && decide (0<aM.bl.length))=true:=dn
    simpa using h9
   by_cases qi:ax=1
   · subst qi
     have hz:aM.bl.length=0:=by simpa using HJ
     have h:∀d,aD.sy ⟨cf,ag,av,1,value,br,true,ah,ac,ap,set,aM,a.fI,[],aG,aE,am,d⟩ = -1:=fun d=>if_neg (fun e=>dn e.2)
     intro A F hw hS
     refine ab Tryz.func100 rfl (by kernel_rfl) fun _=>?_
     dsimp only [na,zo] at hS
     obtain⟨⟨bh,aY,az,aJ,aK,m,dy,k,ja,dr,bS,aw,aB,va,vv,vi,fA,fk,dD,dL,cI,jv,dO,dP,cG,cx,dv,cH,dN,bU,bt,dM,bT⟩,hS⟩:=bF.open hS .z
     dsimp only [bE,bH,cJ,bj,cR,eQ,cO,bf,ff,bO,bP,bd,be,bL,bc,bN,aO,aI,bM,aN,bJ,aT,aQ,aD.rv,na,zo] at hS
     try simp only [cV] at hS
     have hq:=ZL hS hw
     obtain⟨la,lv,li,hS⟩:=fY.open hS (.s (.s (.s (.s (.s (.s (.s (.s (.s .z)))))))))
     obtain⟨oa,ca,rfl,QH⟩:=(an.gM hS (.s .z)).cL
     obtain⟨ov,cv,rfl,RZ⟩:=(an.gM hS (.s (.s .z))).cL
     have hq:=ZW hS hw
     repeat' (first
     | (refine il fun R hR=>?_;simp [ak,au,hq,hz,AW.aa,af,aS,bq.v];try simp (disch:=omega) only [if_pos,if_neg,ak,au])
     | (refine hR _ _ ?_;clear hR R)|(refine hK _ _ ?_;clear hK K)|refine nx ?_
     | refine wn fun K hK=>?_
     | simp only [wS,iR,iQ]
     | refine wl Tryz.mx iR (by decide +kernel) fun K hK=>?_
     | refine wl Tryz.mx iQ (by decide +kernel) fun K hK=>?_
     | (apply aP.el (uT);(·exact wA);(·exact sA);(·first|exact pR|exact kR);rintro _ _ rfl hS hw _;have hS:=lA hS;have hq:=ZM hS hw)
     | refine wb ?_|refine wr ?_|refine wk ?_|refine we ?_|refine ws ?_|refine wq ?_
     | (refine wc rfl (fun hc=>?_) (fun hc=>?_)<;>(try simp at hc)<;>(try omega)<;>(try (simp [h2] at hc;done))<;>(try (simp [h3] at hc;done))<;>(try (simp [h4] at hc;done)))
     | (refine ib (fun hc=>?_) (fun hc=>?_)<;>(try omega)<;>(try simp (disch:=omega) only [if_pos,if_neg])))
     refine⟨_,by simp [hq,AW.aa,af];rfl,by simp [bq.v],?_⟩
     apply bF.cC
     · apply fY.eh (b:=aY) (s:=aM)
       · exact sA
       · repeat' (first|apply aX.z|apply aX.s|apply ay.z|apply ay.ly|apply ay.qC|apply ay.s)
     (dsimp only [bE,bH,cJ,bj,cR,eQ,cO,bf,ff,bO,bP,bd,be,bL,bc,bN,aO,aI,bM,aN,bJ,aT,aQ,aD.rv,na,zo])
     (try simp only [cV])
     (try simp only [h])
     (·first|exact pR|exact kR)
     (·first|exact pR|exact kR)
     all_goals(first|exact 0|exact undef)
   · have h:∀d,aD.sy ⟨cf,ag,av,ax,value,br,true,ah,ac,ap,set,aM,a.fI,[],aG,aE,am,d⟩ = -1:=fun d=>if_neg (fun e=>dn e.2)
     intro A F hw hS
     refine ab Tryz.func100 rfl (by kernel_rfl) fun _=>?_
     dsimp only [na,zo] at hS
     obtain⟨⟨bh,aY,az,aJ,aK,m,dy,k,ja,dr,bS,aw,aB,va,vv,vi,fA,fk,dD,dL,cI,jv,dO,dP,cG,cx,dv,cH,dN,bU,bt,dM,bT⟩,hS⟩:=bF.open hS .z
     dsimp only [bE,bH,cJ,bj,cR,eQ,cO,bf,ff,bO,bP,bd,be,bL,bc,bN,aO,aI,bM,aN,bJ,aT,aQ,aD.rv,na,zo] at hS
     try simp only [cV] at hS
     have hq:=ZL hS hw
     obtain⟨la,lv,li,hS⟩:=fY.open hS (.s (.s (.s (.s (.s (.s (.s (.s (.s .z)))))))))
     obtain⟨oa,ca,rfl,QH⟩:=(an.gM hS (.s .z)).cL
     obtain⟨ov,cv,rfl,RZ⟩:=(an.gM hS (.s (.s .z))).cL
     have hq:=ZW hS hw
     repeat' (first
     | (refine il fun R hR=>?_;simp [ak,au,hq,qi,AW.aa,af,aS,bq.v];try simp (disch:=omega) only [if_pos,if_neg,ak,au])
     | (refine hR _ _ ?_;clear hR R)|(refine hK _ _ ?_;clear hK K)|refine nx ?_
     | refine wn fun K hK=>?_
     | simp only [wS,iR,iQ]
     | refine wl Tryz.mx iR (by decide +kernel) fun K hK=>?_
     | refine wl Tryz.mx iQ (by decide +kernel) fun K hK=>?_
     | (apply aP.el (uT);(·exact wA);(·exact sA);(·first|exact pR|exact kR);rintro _ _ rfl hS hw _;have hS:=lA hS;have hq:=ZM hS hw)
     | refine wb ?_|refine wr ?_|refine wk ?_|refine we ?_|refine ws ?_|refine wq ?_
     | (refine wc rfl (fun hc=>?_) (fun hc=>?_)<;>(try simp at hc)<;>(try omega)<;>(try (simp [h2] at hc;done))<;>(try (simp [h3] at hc;done))<;>(try (simp [h4] at hc;done)))
     | (refine ib (fun hc=>?_) (fun hc=>?_)<;>(try omega)<;>(try simp (disch:=omega) only [if_pos,if_neg])))
     refine⟨_,by simp [hq,AW.aa,af];rfl,by simp [bq.v],?_⟩
     apply bF.cC
     · apply fY.eh (b:=aY) (s:=aM)
       · exact sA
       · repeat' (first|apply aX.z|apply aX.s|apply ay.z|apply ay.ly|apply ay.qC|apply ay.s)
     (dsimp only [bE,bH,cJ,bj,cR,eQ,cO,bf,ff,bO,bP,bd,be,bL,bc,bN,aO,aI,bM,aN,bJ,aT,aQ,aD.rv,na,zo])
     (try simp only [cV])
     (try simp only [h])
     (·first|exact pR|exact kR)
     (·first|exact pR|exact kR)
     all_goals(first|exact 0|exact undef)
theorem E9 {A:AW} {L:List It} {k:Value→AW→Prop} {w:Nat} (DF:w≤32) (hw:A.Wf) (hS:an A L) (hk:∀n A',an A' (.h (fY n (gv w))::L)→A'.Wf→k (pv n) A'):aH Tryz.prog 67 [.int .i64 w] A k:=by
 refine bD (Da w DF A L hw hS) ?_
 rintro _ A' ⟨n,rfl,h1⟩ gY _
 exact hk n A' h1 gY
theorem Jo (c:bG) (hc:dt c) (t:Int) (A:AW) (F:HP) (hw:A.Wf) (hS:an A [.h F]) :
 aH Tryz.prog 25 [c.v,.int .i64 t] A (fun v A'=>∃b,v=pv b∧an A' [.h (bF b (iD c t)),.h F]):=by
 refine ab Tryz.func25 rfl (by kernel_rfl) fun _=>?_
 obtain⟨r0,r1⟩:=hc.ah
 obtain⟨w0,w1⟩:=hc.bX
 obtain⟨w,Mq⟩:∃w:Nat,c.bX=w:=⟨c.bX.toNat,by omega⟩
 dsimp only [bG.v]
 rw [Mq]
 repeat' (first
 | (refine il fun R hR=>?_;simp [ak,au,AW.aa,af];try simp (disch:=omega) only [if_pos,if_neg,ak,au])
 | (refine hR _ _ ?_;clear hR R)|(refine hK _ _ ?_;clear hK K)|refine nx ?_
 | refine wn fun K hK=>?_
 | simp only [wS]
 | (refine bD (C8 c.ah _ ⟨by omega,r1⟩) ?_;rintro _ _ ⟨rfl,rfl⟩ _ _)
 | (refine ⟨fun A' kL=>by simp [AW.aa,kL],?_⟩)
 | (refine ⟨by simp [hq],?_⟩)
 | (refine AC (fun A'=>A'.cy A.next=some (.cells [.int .i64 c.aF,.int .i64 c.aj,.int .i64 c.base,.int .i64 c.c0,.int .i64 c.c1,.int .i64 c.c2,.int .i64 c.c3,.int .i64 c.ah,.int .i64 w,.int .i64 c.ac,.int .i64 c.ap,.int .i64 c.ao,.bool c.cT] true 1)) Tryz.mx [(0,1),(1,0),(2,0),(3,0),(5,0),(6,0),(4,2),(7,3),(8,0),(9,2),(10,0)] (by decide +kernel) fun K hK=>?_)
 | (apply E9 (by omega);(·exact wA);(·exact sA);((first|rintro _ _ _ hS hw eG|rintro _ _ hS hw eG|rintro _ _ hS hw);(try refine⟨eG,?_⟩);(try dsimp only [AW.aZ] at hS);have hq:=ZM hS hw))
 | refine wb ?_|refine wr ?_|refine wk ?_|refine we ?_|refine ws ?_|refine wq ?_
 | (refine wc rfl (fun hc=>?_) (fun hc=>?_)<;>(try simp at hc)<;>(try omega)<;>(try (simp [h2] at hc;done))<;>(try (simp [h3] at hc;done))<;>(try (simp [h4] at hc;done)))
 | (refine ib (fun hc=>?_) (fun hc=>?_)<;>(try omega)<;>(try simp (disch:=omega) only [if_pos,if_neg])))
 have e:iD c t=⟨c,t,0,0,0,none,false,[],[],[],[],gv w,0,[],none,none,0,.bm⟩:=by unfold iD;rw [Mq]
 have h:=Mq
 refine⟨_,by first|rfl|(simp;rfl),_,rfl,?_⟩
 rw [e]
 apply bF.cC (dr:=.slice none 0 0) (cx:=.bool false) (dv:=.bool false)
 · apply an.rV .i64
   apply an.rV .i64
   apply an.rV .i64
   apply an.rV .i64
   apply an.JS
   apply an.JS
   apply an.JS
   (·exact sA)
 (dsimp only [bE,bH,cJ,bj,cR,eQ,cO,bf,ff,bO,bP,bd,be,bL,bc,bN,aO,aI,bM,aN,bJ,aT,aQ,aD.rv,na,zo])
 (try simp only [cV])
 (try simp only [h])
 (try simp only [m8,gK,ms])
 (·first|exact pR|exact kR)
 (·first|exact pR|exact kR)
 all_goals(first|exact 0|exact undef)
end Go.Stx
