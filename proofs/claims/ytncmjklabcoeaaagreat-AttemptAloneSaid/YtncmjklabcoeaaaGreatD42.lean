/-
 The reference's attempt: the requests that read.
-/
import Derived.Test.YtncmjklabcoeaaaGreatD41
set_option linter.unusedVariables false
set_option linter.unusedSimpArgs false
set_option maxRecDepth 20000
set_option maxHeartbeats 4000000
namespace Go.Stx
open Go Go.Proofs
attribute [local irreducible] fj cm aH bB dK ei
section
abbrev rR:List (Nat×Nat):=[(0,0),(1,0),(2,0),(3,0),(4,0),(5,0),(6,0),(7,0),(8,0),(9,0),(10,0),(11,3)]
open T28 T16
theorem ul (b:Nat) (s:aD) (a:Int) (hC:ep s) :
 aP Tryz.prog 73 [pv b,.int .u64 a] [.h (bF b s)] (fun u=>u=.int .i64 (AB s a).1) (fun _=>[.h (bF b (AB s a).2)]):=by
 by_cases hf:s.jY 1=true
 case neg=>
  intro A F hw hS
  refine ab Tryz.func73 rfl (by kernel_rfl) fun _=>?_
  dsimp only [na,zo] at hS
  have kK:=rD b s hf A _ _ hw hS .z
  revert hS hw;refine Wr (J2 (od rR) @kK) trivial (J1 ?_)<;>unhygienic intros
  refine⟨_,by first|(simp;done)|(simp;rfl),?_,?_⟩
  · unfold AB;rw [if_neg hf]
  · have e:AB s a=(1,s):=by unfold AB;rw [if_neg hf]
    rw [e];exact hS
 have iK:=hC.aM
 have cU:=hC.len
 have gt:=hC.cf
 obtain⟨w0,w1⟩:=hC.cf.aF
 have ND:=Fe s.cf gt a
 have tS:=Gn gt a
 by_cases qK:gT s.cf a<0
 · have e:AB s a=(0,{ s with aA:=.jV .Gw }):=by unfold AB;rw [if_pos hf,if_pos qK]
   rw [e]
   obtain⟨hd,dn⟩:=ip hf
   obtain⟨cf,ag,av,ax,value,br,ai,ah,ac,ap,set,aM,ao,aj,aG,aE,am,aA⟩:=s
   dsimp only at hd dn
   subst hd dn
   intro A F hw hS
   refine ab Tryz.func73 rfl (by kernel_rfl) fun _=>?_
   dsimp only [na,zo] at hS
   obtain⟨⟨bh,aY,az,aJ,aK,m,dy,k,ja,dr,bS,aw,aB,va,vv,vi,fA,fk,dD,dL,cI,jv,dO,dP,cG,cx,dv,cH,dN,bU,bt,dM,bT⟩,hS⟩:=bF.open hS .z
   dsimp only [bE,bH,cJ,bj,cR,eQ,cO,bf,ff,bO,bP,bd,be,bL,bc,bN,aO,aI,bM,aN,bJ,aT,aQ,aD.rv,na,zo] at hS
   try simp only [cV] at hS
   have hq:=ZL hS hw
   have kK:=iP b _ 0 1 rfl rfl A hq.1.1
   simp only [decide_true,Bool.and_self] at kK
   simp only [gK] at hS hq kK
   dsimp only at iK cU w0 w1 gt qK ND tS
   dsimp only [bG.v] at ND
   generalize gT cf a=bk at *
   repeat' (first
   | (refine il fun R hR=>?_;simp [ak,au,hq,qK,AW.aa,af];try simp (disch:=omega) only [if_pos,if_neg,ak,au])
   | (refine hR _ _ ?_;clear hR R)|(refine hK _ _ ?_;clear hK K)|refine nx ?_
   | refine wn fun K hK=>?_
   | simp only [wS,rR]
   | refine wl Tryz.mx rR (by decide +kernel) fun K hK=>?_
   | (refine bD (kK) ?_;rintro _ _ ⟨rfl,rfl⟩ _ _)
   | (refine bD (ND _) ?_;rintro _ _ ⟨rfl,rfl⟩ _ _)
   | (apply oe (by decide);(·exact wA);(·exact sA);(·first|exact pR|exact kR);((first|rintro _ _ _ hS hw eG|rintro _ _ hS hw eG|rintro _ _ hS hw);(try refine⟨eG,?_⟩);(try dsimp only [AW.aZ] at hS);have hq:=ZM hS hw))
   | refine wb ?_|refine wr ?_|refine wk ?_|refine we ?_|refine ws ?_|refine wq ?_
   | (refine wc rfl (fun hc=>?_) (fun hc=>?_)<;>(try simp at hc)<;>(try omega)<;>(try (simp [h2] at hc;done))<;>(try (simp [h3] at hc;done))<;>(try (simp [h4] at hc;done)))
   | (refine ib (fun hc=>?_) (fun hc=>?_)<;>(try omega)<;>(try simp (disch:=omega) only [if_pos,if_neg])))
   refine⟨_,by first|(simp;done)|(simp;rfl),rfl,?_⟩
   apply bF.cC
   (·exact sA)
   (dsimp only [bE,bH,cJ,bj,cR,eQ,cO,bf,ff,bO,bP,bd,be,bL,bc,bN,aO,aI,bM,aN,bJ,aT,aQ,aD.rv,na,zo])
   (try simp only [cV])
   (try simp only [h])
   (·first|exact pR|exact kR)
   (·first|exact pR|exact kR)
   all_goals(first|exact 0|exact undef)
 · by_cases hg:(eC s.aM (s.cf.aF+gT s.cf a)).2=true
   · have e:AB s a=(0,{ s with aA:=.jV (.cM (gT s.cf a) (eC s.aM (s.cf.aF+gT s.cf a)).1) }):=by unfold AB;rw [if_pos hf,if_neg qK,if_pos hg]
     rw [e]
     obtain⟨hd,dn⟩:=ip hf
     obtain⟨cf,ag,av,ax,value,br,ai,ah,ac,ap,set,aM,ao,aj,aG,aE,am,aA⟩:=s
     dsimp only at hd dn
     subst hd dn
     intro A F hw hS
     refine ab Tryz.func73 rfl (by kernel_rfl) fun _=>?_
     dsimp only [na,zo] at hS
     obtain⟨⟨bh,aY,az,aJ,aK,m,dy,k,ja,dr,bS,aw,aB,va,vv,vi,fA,fk,dD,dL,cI,jv,dO,dP,cG,cx,dv,cH,dN,bU,bt,dM,bT⟩,hS⟩:=bF.open hS .z
     dsimp only [bE,bH,cJ,bj,cR,eQ,cO,bf,ff,bO,bP,bd,be,bL,bc,bN,aO,aI,bM,aN,bJ,aT,aQ,aD.rv,na,zo] at hS
     try simp only [cV] at hS
     have hq:=ZL hS hw
     have kK:=iP b _ 0 1 rfl rfl A hq.1.1
     simp only [decide_true,Bool.and_self] at kK
     simp only [gK] at hS hq kK
     dsimp only at iK cU w0 w1 gt qK ND tS hg
     dsimp only [bG.v] at ND
     generalize gT cf a=bk at *
     have Ow:IntKind.i64.wrap (cf.aF+bk)=cf.aF+bk:=ak (by omega) (by omega)
     revert hq hS hw;(repeat first|clear hq|clear hS|clear hw|revert hc|revert zn|revert zA|revert R|revert K);refine Wr (J4 (od rR) @kK @ND (yR (c:=cf) (cf.aF+bk) iK cU hg)) (J4 qK Ow @AW.aa @af.eq_1) (J1 ?_)<;>unhygienic intros
     refine⟨_,by first|(simp;done)|(simp;rfl),rfl,?_⟩
     have Ga:eC aM (cf.aF+bk)=((eC aM (cf.aF+bk)).1,true):=by rw [←hg]
     apply bF.cC 
     (·apply an.KP (Ga)
       repeat' (first|exact hS|exact Nat.le_refl _|with_reducible apply an.jd|with_reducible apply an.jZ|with_reducible apply AW.gE|with_reducible apply AW.jU|with_reducible apply an.jn|with_reducible apply ay.z|with_reducible apply ay.s|assumption|apply AW.Wf.alloc|apply AW.Wf.set|(simp only [AW.aZ,AW.dq];omega)|apply an.uP hS hw|exact rfl))
     (dsimp only [bE,bH,cJ,bj,cR,eQ,cO,bf,ff,bO,bP,bd,be,bL,bc,bN,aO,aI,bM,aN,bJ,aT,aQ,aD.rv,na,zo])
     (try simp only [cV])
     (try simp only [h])
     (·first|exact pR|exact kR)
     (·first|exact pR|exact kR)
     all_goals(first|exact 0|exact undef)
   · have e:AB s a=(0,nD s (s.cf.aF+gT s.cf a) (.cM (gT s.cf a))):=by unfold AB;rw [if_pos hf,if_neg qK,if_neg hg]
     rw [e]
     obtain⟨hd,dn⟩:=ip hf
     obtain⟨cf,ag,av,ax,value,br,ai,ah,ac,ap,set,aM,ao,aj,aG,aE,am,aA⟩:=s
     dsimp only at hd dn
     subst hd dn
     intro A F hw hS
     refine ab Tryz.func73 rfl (by kernel_rfl) fun _=>?_
     dsimp only [na,zo] at hS
     obtain⟨⟨bh,aY,az,aJ,aK,m,dy,k,ja,dr,bS,aw,aB,va,vv,vi,fA,fk,dD,dL,cI,jv,dO,dP,cG,cx,dv,cH,dN,bU,bt,dM,bT⟩,hS⟩:=bF.open hS .z
     dsimp only [bE,bH,cJ,bj,cR,eQ,cO,bf,ff,bO,bP,bd,be,bL,bc,bN,aO,aI,bM,aN,bJ,aT,aQ,aD.rv,na,zo] at hS
     try simp only [cV] at hS
     have hq:=ZL hS hw
     have kK:=iP b _ 0 1 rfl rfl A hq.1.1
     simp only [decide_true,Bool.and_self] at kK
     simp only [gK] at hS hq kK
     dsimp only at iK cU w0 w1 gt qK ND tS hg
     dsimp only [bG.v] at ND
     dsimp only [nD,aD.rv]
     generalize gT cf a=bk at *
     have Ow:IntKind.i64.wrap (cf.aF+bk)=cf.aF+bk:=ak (by omega) (by omega)
     revert hq hS hw;(repeat first|clear hq|clear hS|clear hw|revert hc|revert zn|revert zA|revert R|revert K);refine Wr (J4 (Tg.mk (n:=17) (fun {A L K k aY}=>wC (A:=A) (L:=L) (K:=K) (k:=k) (aY:=aY) (c:=cf) (cf.aF+bk) gt iK cU hg)) (od rR) @kK @ND) (J4 qK Ow @AW.aa @af.eq_1) (J1 ?_)<;>unhygienic intros
     refine⟨_,by first|(simp;done)|(simp;rfl),rfl,?_⟩
     apply bF.cC
     (·exact sA)
     (dsimp only [bE,bH,cJ,bj,cR,eQ,cO,bf,ff,bO,bP,bd,be,bL,bc,bN,aO,aI,bM,aN,bJ,aT,aQ,aD.rv,na,zo])
     (try simp only [cV])
     (try simp only [h])
     (·first|exact pR|exact kR)
     (·first|exact pR|exact kR)
     all_goals(first|exact 0|exact undef)
end
end Go.Stx
