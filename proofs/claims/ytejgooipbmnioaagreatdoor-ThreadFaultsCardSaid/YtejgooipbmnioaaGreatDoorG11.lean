/-
 The program's attempt: restoring and ending.
-/
import Derived.Test.YtejgooipbmnioaaGreatDoorG10
set_option linter.unusedVariables false
set_option linter.unusedSimpArgs false
set_option linter.unusedSectionVars false
set_option maxRecDepth 20000
set_option maxHeartbeats 4000000
namespace Go.Stx
open Go Go.Proofs
attribute [local irreducible] TW cg eg bn aC aV cR df
section
abbrev HX:List (Nat×Nat):=[(0,0),(1,0),(2,0),(3,0),(4,0),(5,0),(6,0),(7,0),(8,0),(9,0),(10,0),(11,2),(12,2),(13,0),(14,0),(15,3),(16,0),(17,0),(18,0),(19,3)]
abbrev uf:List (Nat×Nat):=[(0,0),(1,0),(2,0),(3,0),(4,0),(5,0),(6,0),(7,0),(8,0),(9,0),(10,3),(11,0),(12,0),(13,3),(14,0),(15,0),(16,0),(17,3)]
open T9 T10
variable [Gl]
set_option maxRecDepth 20000 in
set_option maxHeartbeats 2000000 in
theorem pI (b:Nat) (s:aT) (bX:Int) (d:aU) (hl:s.an.length<2^20) (Lx:s.an.length=0∨∃l,s.aI=some l∧s.an.length=l.eo.length) :
 aY Tryz.prog 237 [pv b] [.h (gM b s bX d)] (fun _=>True) (fun _=>[.h (bf b (ga s))]):=by
 obtain⟨cf,am,aA,ay,value,bL,aj,reads,ai,av,set,bp,ax,an,aI,aH,ao,aG⟩:=s
 dsimp only at hl Lx
 by_cases h0:an.length=0
 · have e:ga ⟨cf,am,aA,ay,value,bL,aj,reads,ai,av,set,bp,ax,an,aI,aH,ao,aG⟩=⟨cf,am,aA,ay,value,bL,aj,reads,ai,av,set,bp,ax,an,aI,aH,ao,.fL⟩:=if_pos h0
   intro A F hw hS
   refine ab Tryz.func237 rfl (by kernel_rfl) fun _=>?_
   obtain⟨⟨bD,bJ,aJ,aX,aW,m,c0,c1,c2,aZ,aE,aL,aN,bk,aS,bP,aO,aM,aB,bc,bd,bZ,bl⟩,hS⟩:=gM.open hS .z
   dsimp only [bx,af,ag] at hS
   have hq:=dZ hS hw
   obtain⟨oo,co,rfl,_⟩:=(ak.nH hS (.s (.s (.s (.s (.s (.s (.s (.s (.s .z)))))))))).dJ
   have h1:(an.length:Int)=0:=by omega
   revert hq hS hw;clear hS;refine Wp (J1 (od HX)) (J3 h1 @AW.aa @ah.eq_1) (J1 ?_)<;>unhygienic intros
   rw [e]
   refine⟨_,by first|rfl|(simp;rfl),trivial,?_⟩
   apply bf.bS
   (·exact sA)
   (dsimp only [bx,eP,ei,br,b8,aU.dT,ed,cF,cy,dk,cp,dm,eV,cq,cm,bt,dl,dh,eU,di,af,ag])
   try simp only [h]
   (·first|exact pP|exact kP)
   (·first|exact pP|exact kP)
   all_goals(first|exact 0|exact undef)
 · obtain⟨l,rfl,rM⟩:∃l,aI=some l∧an.length=l.eo.length:=by
    rcases Lx with h|h
    · exact absurd h h0
    · exact h
   have e:ga ⟨cf,am,aA,ay,value,bL,aj,reads,ai,av,set,bp,ax,an,some l,aH,ao,aG⟩=⟨cf,am,aA,ay,value,bL,aj,reads,ai,av,set,bp,ax,an,some l,aH,ao,.cD ⟨an,l.eo⟩⟩:=if_neg h0
   intro A F hw hS
   refine ab Tryz.func237 rfl (by kernel_rfl) fun _=>?_
   obtain⟨⟨bD,bJ,aJ,aX,aW,m,c0,c1,c2,aZ,aE,aL,aN,bk,aS,bP,aO,aM,aB,bc,bd,bZ,bl⟩,hS⟩:=gM.open hS .z
   dsimp only [bx,af,ag] at hS
   have hq:=dZ hS hw
   have hS:=qm.op hS (.s (.s .z))
   obtain⟨oo,co,rfl,_⟩:=(ak.nH hS (.s (.s (.s (.s (.s (.s (.s (.s (.s .z)))))))))).dJ
   dsimp only [cF] at hq
   have h1:¬(an.length:Int)=0:=by omega
   have h2:¬an=[]:=fun h=>by rw [h] at h0;exact h0 rfl
   revert hq hS hw;(repeat first|clear hq|clear hS|clear hw|revert hc|revert zn|revert zA|revert R|revert K);refine Wp (J3 (Tg.mk (n:=11) @EJ) (Tg.mk (n:=12) @qX) (od HX)) (J4 h1 h2 @AW.aa @ah.eq_1) (J1 ?_)<;>unhygienic intros
   rw [e]
   refine⟨_,by first|rfl|(simp;rfl),trivial,?_⟩
   apply bf.bS
   (·exact sA)
   (dsimp only [bx,eP,ei,br,b8,aU.dT,ed,cF,cy,dk,cp,dm,eV,cq,cm,bt,dl,dh,eU,di,af,ag])
   try simp only [h]
   (·first|exact pP|exact kP)
   (·first|exact pP|exact kP)
   all_goals(first|exact 0|exact undef)
theorem Ak (l:List Int):(dV l).length≤l.length:=by
 have:=rk (nN l)
 simpa [dV,nN] using this
theorem Jt (s:aT) (ay:Int):((decide (ay=1) && decide (0<s.bp.bU.length))=false∧nk s ay={ s with ay:=ay,aH:=some ⟨false,0,false⟩,aG:=.db }) ∨
 ((decide (ay=1) && decide (0<s.bp.bU.length))=true∧nk s ay={ s with ay:=ay,an:=dV (s.bp.bU.map (fD s.cf)),aI:=some ⟨s.am,dV (dV (s.bp.bU.map (fD s.cf))),[],0,false⟩,aG:=.eR }):=by
 unfold nk
 cases h:(decide (ay=1) && decide (0<s.bp.bU.length))<;>simp
set_option maxRecDepth 20000 in
set_option maxHeartbeats 2000000 in
theorem rj (b:Nat) (s:aT) (lR:Int) (hd:s.aG=.bK) (hC:fA s) :
 aY Tryz.prog 170 [pv b,.int .i64 lR] [.h (bf b s)] (fun _=>True) (fun _=>[.h (bf b (nk s lR))]):=by
 have vE:=Jt s lR
 obtain⟨cf,am,aA,ay,value,bL,aj,reads,ai,av,set,bp,ax,an,aI,aH,ao,aG⟩:=s
 dsimp only at hd
 subst hd
 intro A F hw hS
 refine ab Tryz.func170 rfl (by kernel_rfl) fun _=>?_
 obtain⟨⟨bD,bJ,aJ,aX,aW,m,c0,c1,c2,aZ,aE,aL,aN,bk,aS,bP,aO,aM,aB,bc,bd,bZ,bl⟩,hS⟩:=bf.open hS .z
 dsimp only [bx,ei,br,b8,aU.dT,af,ag] at hS
 have hq:=dZ hS hw
 dsimp only at vE
 have bW:=hC.len
 dsimp only at bW
 have cX:∀A',A'.Wf→ak A' [.h (gM b ⟨cf,am,aA,lR,value,bL,aj,reads,ai,av,set,bp,ax,an,aI,aH,ao,.bK⟩ 0 .bK)]→eF 238 [pv b] A' (.bool (decide (lR=1) && decide (0<bp.bU.length))):=
  fun A' h1 h2=>jg b _ 0 .bK A' h1 h2
 rcases vE with ⟨h,e⟩|⟨h,e⟩
 · rw [h] at cX
   rw [e]
   revert hq hS hw;clear hS;refine Wp (J3 (Tg.mk (n:=30) @cX) (od uf) @kG) (J2 @AW.aa @ah.eq_1) (J1 ?_)<;>unhygienic intros
   refine⟨_,by first|rfl|(simp;rfl),trivial,?_⟩
   apply bf.bS
   (·exact sA)
   (dsimp only [bx,eP,ei,br,b8,aU.dT,ed,cF,cy,dk,cp,dm,eV,cq,cm,bt,dl,dh,eU,di,af,ag])
   try simp only [h]
   (·first|exact pP|exact kP)
   (·first|exact pP|exact kP)
   all_goals(first|exact 0|exact undef)
 · rw [h] at cX
   rw [e]
   revert hq hS hw;(repeat first|clear hq|clear hS|clear hw|revert hc|revert zn|revert zA|revert R|revert K);refine Wp (J2 (Tg.mk (n:=30) @cX) (od uf)) (J2 @AW.aa @ah.eq_1) (J1 ?_)<;>unhygienic intros
   apply pZ (n:=bJ) (s:=bp)
   (·exact wA)
   (·exact sA)
   (·first|exact pP|exact kP)
   · omega
   intro o1 c3 A1 hS hw _
   have hS:ak A1 (.h (au .i64 (.slice o1 bp.bU.length c3) bp.bU)::(bx b ⟨cf,am,aA,lR,value,bL,aj,reads,ai,av,set,bp,ax,an,aI,aH,ao,.bK⟩ 0 .bK ⟨bD,bJ,aJ,aX,aW,m,c0,c1,c2,aZ,aE,aL,aN,bk,aS,bP,aO,aM,aB,bc,bd,bZ,bl⟩++[.h F])):=by
    apply ak.bS hS
    dsimp only [bx,eP,ei,br,b8,aU.dT,dk,cp,dm,eV,cq,cm,bt,dl,dh,eU,di,af,ag]
    (·first|exact pP|exact kP)
   have lc:=rC cf hC.cf
   dsimp only [bC.v] at lc
   generalize hn:bp.bU=ad at *
   revert hq hS hw;(repeat first|clear hq|clear hS|clear hw|revert hc|revert zn|revert zA|revert R|revert K);refine Wp (J1 (od uf)) (J2 @AW.aa @ah.eq_1) (J1 ?_)<;>unhygienic intros
   refine eS (fun k fr A'=>A'.Wf∧∃(i:Nat) (v:Value) (q:List Int),q=(ad.take i).map (fD cf)∧k=ad.length-i∧i≤ad.length∧fr 0=pv b∧fr 4=v∧fr 27=.slice o1 ad.length c3∧fr 28=.int .i64 ad.length∧fr 29=.int .i64 i∧
    ak A' (.h (au .i64 v q)::.h (au .i64 (.slice o1 ad.length c3) ad)::(bx b ⟨cf,am,aA,lR,value,bL,aj,reads,ai,av,set,bp,ax,an,aI,aH,ao,.bK⟩ 0 .bK ⟨bD,bJ,aJ,aX,aW,m,c0,c1,c2,aZ,aE,aL,aN,bk,aS,bP,aO,aM,aB,bc,bd,bZ,bl⟩++[.h F]))) ad.length ?_ ?_
   · refine⟨hw,0,.slice none 0 0,[],by simp,by simp,by simp,by simp,by simp,by simp,by simp,by simp,?_⟩
     simpa using ak.oD .i64 hS
   · rintro k fr A' ⟨hw,i,v,q,xD,rfl,hi,h0,h4,Si,V1,Q4,hS⟩
     have hI:=ak.nH hS (.s .z)
     have OF:=ak.nH hS .z
     have TG:q.length=i:=by rw [xD];simp;omega
     obtain⟨ov,cv,rfl,_⟩:=OF.dJ
     dsimp only [bx,eP,ei,br,b8,aU.dT,dk,cp,dm,eV,cq,cm,bt,dl,dh,eU,di,af,ag] at hS
     have hq:=H5 hS hw
     refine dI ?_
     by_cases dO:i<ad.length
     · have fG:(i:Int)<ad.length:=by omega
       have mf:IntKind.i64.wrap ((i:Int)+1)=((i+1:Nat):Int):=aw (by omega) (by omega)
       obtain⟨p,cK,rfl,dG,bA⟩:=hI.at dO
       revert hq hS hw;(repeat first|clear hq|clear hS|clear hw|revert hc|revert zn|revert zA|revert R|revert K);refine Wu (J2 (od uf) @lc) (AT h0 h4 Si V1 Q4 dG bA dO fG mf @AW.aa @ah.eq_1) (J1 ?_)<;>unhygienic intros
       refine⟨ad.length-(i+1),by omega,hw,i+1,_,q++[fD cf ad[i]],?_,rfl,by omega,by simp [h0],by simp;rfl,by simp [Si],by simp [V1],by simp,?_⟩
       · rw [xD,List.take_succ_eq_append_getElem dO,List.map_append];rfl
       · apply ak.bS hS
         dsimp only [bx,eP,ei,br,b8,aU.dT,dk,cp,dm,eV,cq,cm,bt,dl,dh,eU,di,af,ag]
         (·first|exact pP|exact kP)
     · have GQ:i=ad.length:=by omega
       subst GQ
       rw [List.take_length] at xD
       have I2:(dV q).length≤q.length:=Ak q
       revert hq hS hw;(repeat first|clear hq|clear hS|clear hw|revert hc|revert zn|revert zA|revert R|revert K);refine Wp (J3 (Tg.mk (n:=11) @FX) (Tg.mk (n:=11) @EA) (od uf)) (J7 h0 h4 Si V1 Q4 @AW.aa @ah.eq_1) (J1 ?_)<;>unhygienic intros
       rw [←xD]
       refine⟨_,by first|rfl|(simp;rfl),trivial,?_⟩
       apply bf.bS
       (·exact sA)
       (dsimp only [bx,eP,ei,br,b8,aU.dT,ed,cF,cy,dk,cp,dm,eV,cq,cm,bt,dl,dh,eU,di,af,ag])
       try simp only [h]
       (·first|exact pP|exact kP)
       (·first|exact pP|exact kP)
       all_goals(first|exact 0|exact undef)
end
section
abbrev ue:List (Nat×Nat):=[(0,0),(1,0),(2,0),(3,0),(4,0),(5,0),(6,0),(7,0),(8,0),(9,0),(10,0),(11,0),(12,0)]
open T9 T10
variable [Gl]
theorem pX (s:nK) (a v:Int):(eB s a v).2.ew=s.ew∧(eB s a v).2.index.length=s.index.length∧(∀x∈(eB s a v).2.bU,x∈s.bU∨x=a):=by
 unfold eB
 split
 · exact⟨rfl,rfl,fun x hx=>.inl hx⟩
 · split
   · exact⟨rfl,rfl,fun x hx=>.inl hx⟩
   · exact⟨rfl,by simp,fun x hx=>by simpa using hx⟩
theorem fA.put {s:aT} (hC:fA s) {a:Int} (ha:0≤a∧a<2^40) (v:Int):fA { s with bp:=(eB s.bp a v).2 }:=by
 obtain⟨h1,h2,h3⟩:=pX s.bp a v
 refine⟨hC.cf,hC.Ki,Bu hC.bp ha.1 v,?_,?_,?_,hC.JU,hC.kT,hC.push,hC.set,hC.yx,hC.xn⟩
 · show (eB s.bp a v).2.ew≤32
   rw [h1];exact hC.ew
 · show (eB s.bp a v).2.index.length≤64
   rw [h2];exact hC.dq
 · intro x hx
   rcases h3 x hx with h|rfl
   · exact hC.Dn x h
   · exact ha.2
theorem E2 (s:aT) (b st:Int):(¬st=IntKind.u64.wrap (IntKind.u64.wrap (cG s.cf b)+1)∧jK s b st=nk s 8) ∨
 ((st=IntKind.u64.wrap (IntKind.u64.wrap (cG s.cf b)+1)∧s.cf.av≤s.av.length)∧jK s b st=iY s 3) ∨
 (((st=IntKind.u64.wrap (IntKind.u64.wrap (cG s.cf b)+1)∧¬s.cf.av≤s.av.length)∧(eB s.bp (s.cf.aQ+b) 0).1=true)∧jK s b st={ s with bp:=(eB s.bp (s.cf.aQ+b) 0).2,av:=s.av++[b] }) ∨
 (((st=IntKind.u64.wrap (IntKind.u64.wrap (cG s.cf b)+1)∧¬s.cf.av≤s.av.length)∧(eB s.bp (s.cf.aQ+b) 0).1=false)∧jK s b st=iY s 3):=by
 unfold jK
 by_cases h1:st=IntKind.u64.wrap (IntKind.u64.wrap (cG s.cf b)+1)
 · by_cases h2:s.cf.av≤s.av.length
   · simp [h1,h2]
   · cases h3:(eB s.bp (s.cf.aQ+b) 0).1<;>simp [h1,h2,jj,h3]
 · simp [h1]
set_option maxRecDepth 20000 in
set_option maxHeartbeats 4000000 in
theorem y7 (b:Nat) (s:aT) (k st:Int) (hd:s.aG=.bK) (hC:fA s) (hk:0≤k∧k<s.cf.nb) :
 aY Tryz.prog 268 [pv b,.int .i64 k,.int .u64 st] [.h (bf b s)] (fun _=>True) (fun _=>[.h (bf b (jK s k st))]):=by
 have vE:=E2 s k st
 have ki:=rB s (s.cf.aQ+k) 0
 obtain⟨cf,am,aA,ay,value,bL,aj,reads,ai,av,set,bp,ax,an,aI,aH,ao,aG⟩:=s
 dsimp only at hd
 subst hd
 intro A F hw hS
 refine ab Tryz.func268 rfl (by kernel_rfl) fun _=>?_
 obtain⟨⟨bD,bJ,aJ,aX,aW,m,c0,c1,c2,aZ,aE,aL,aN,bk,aS,bP,aO,aM,aB,bc,bd,bZ,bl⟩,hS⟩:=bf.open hS .z
 dsimp only [bx,ei,br,b8,aU.dT,af,ag] at hS
 have hq:=dZ hS hw
 dsimp only at vE hk ki
 have Mw:=hC.xn
 dsimp only at Mw
 have xj:=hC.cf.nb
 have JN:=hC.cf.aQ
 dsimp only at xj JN
 have i8:=qe cf hC.cf k (by omega)
 dsimp only [bC.v] at i8
 obtain⟨ofr,cfr,rfl,_⟩:=(ak.nH hS (.s (.s (.s (.s (.s (.s (.s (.s .z))))))))).dJ
 have Ln:IntKind.i64.wrap (cf.aQ+k)=cf.aQ+k:=aw (by omega) (by omega)
 rcases vE with ⟨h,e⟩|⟨h,e⟩|⟨h,e⟩|⟨h,e⟩
 · rw [e]
   revert hq hS hw;clear hS;refine Wp (J3 (Tg.mk (n:=21) (rj b ⟨cf,am,aA,ay,value,bL,aj,reads,ai,av,set,bp,ax,an,aI,aH,ao,.bK⟩ 8 rfl hC)) (od ue) @i8) (J3 h @AW.aa @ah.eq_1) (J1 ?_)<;>unhygienic intros
   exact⟨_,by first|rfl|(simp;rfl),trivial,ak.bS hS (.s .z (.s .z .z))⟩
 · rw [e]
   revert hq hS hw;(repeat first|clear hq|clear hS|clear hw|revert hc|revert zn|revert zA|revert R|revert K);refine Wp (J3 (Tg.mk (n:=20) (gT b ⟨cf,am,aA,ay,value,bL,aj,reads,ai,av,set,bp,ax,an,aI,aH,ao,.bK⟩ 0 3 .bK hC.cf hC.al hC.push (Nat.lt_of_le_of_lt hC.kT (by decide)))) (od ue) @i8) (J3 h @AW.aa @ah.eq_1) (J1 ?_)<;>unhygienic intros
   exact⟨_,by first|rfl|(simp;rfl),trivial,ak.bS hS (.s .z (.s .z .z))⟩
 · rw [e]
   have I5:=qS b ⟨cf,am,aA,ay,value,bL,aj,reads,ai,av,set,bp,ax,an,aI,aH,ao,.bK⟩ (cf.aQ+k) 0 rfl hC (by omega)
   rcases ki with ⟨h9,e9⟩|⟨h9,e9⟩
   · rw [e9] at I5
     repeat' (first
     | (with_reducible apply Tw;(·first|(simp;done)|(simp;rfl));(·first|(simp;done)|(simp;rfl));(·exact wA);(·exact sA);(·first|exact pP|exact kP);(·first|(simp;done)|(simp;rfl)|(simp [hq];done)|(simp [hq];rfl));(·first|omega|(simp;omega));(·intro _ _;trivial);rintro _ _ _ hS hw _;(try dsimp only [AW.bq] at hS);have hq:=Bz hS hw)
     | (refine jx fun R hR=>?_;simp [aw,az,hq,h,Ln,AW.aa,ah];try simp (disch:=omega) only [if_pos,if_neg,aw,az])
     | (refine hR _ _ ?_;clear hR R)|(refine hK _ _ ?_;clear hK K)|refine nx ?_
     | refine wn fun K hK=>?_
     | simp only [wS,ue]
     | refine wl Tryz.mx ue (by decide +kernel) fun K hK=>?_
     | (refine bT (i8 _) ?_;rintro _ _ ⟨rfl,rfl⟩ _ _)
     | (apply aY.Ke (I5);(·exact wA);(·exact sA);(·exact fP);(·first|exact pP|exact kP);(rintro _ _ rfl hS hw _;have hS:=lA hS;(obtain ⟨⟨bD,bJ,aJ,aX,aW,m,c0,c1,c2,aZ,aE,aL,aN,bk,aS,bP,aO,aM,aB,bc,bd,bZ,bl⟩,hS⟩:=bf.open hS .z;dsimp only [bx,ei,br,b8,aU.dT,af,ag] at hS;have hq:=dZ hS hw));all_goals(try (first|exact 0|exact undef)))
     | refine wb ?_|refine wr ?_|refine wk ?_|refine we ?_|refine ws ?_|refine wq ?_
     | (refine wc rfl (fun hc=>?_) (fun hc=>?_)<;>(try simp at hc)<;>(try omega)<;>(try (simp [h2] at hc;done))<;>(try (simp [h3] at hc;done))<;>(try (simp [h4] at hc;done)))
     | (refine ib (fun hc=>?_) (fun hc=>?_)<;>(try omega)<;>(try simp (disch:=omega) only [if_pos,if_neg])))
     refine⟨_,by first|rfl|(simp;rfl),trivial,?_⟩
     apply bf.bS
     (·exact sA)
     (dsimp only [bx,eP,ei,br,b8,aU.dT,ed,cF,cy,dk,cp,dm,eV,cq,cm,bt,dl,dh,eU,di,af,ag])
     try simp only [h]
     (·first|exact pP|exact kP)
     (·first|exact pP|exact kP)
     all_goals(first|exact 0|exact undef)
   · rw [h.2] at h9;cases h9
 · rw [e]
   have I5:=qS b ⟨cf,am,aA,ay,value,bL,aj,reads,ai,av,set,bp,ax,an,aI,aH,ao,.bK⟩ (cf.aQ+k) 0 rfl hC (by omega)
   rcases ki with ⟨h9,e9⟩|⟨h9,e9⟩
   · rw [h.2] at h9;cases h9
   · rw [e9] at I5
     revert hq hS hw;(repeat first|clear hq|clear hS|clear hw|revert hc|revert zn|revert zA|revert R|revert K);refine Wp (J3 (Tg.mk (n:=21) @I5) (od ue) @i8) (J4 h Ln @AW.aa @ah.eq_1) (J1 ?_)<;>unhygienic intros
     exact⟨_,by first|rfl|(simp;rfl),trivial,ak.bS hS (.s .z (.s .z .z))⟩
end
section
open T9 T10
variable [Gl]
def JF (b:Nat) (s:aT) (bX:Int) (p:oO):HP:=nI fun f:nL=>aR (bx b s bX (.eL p) f++[.at f.m (kY p)])
theorem JF.open {A:AW} {L K:List It} {b:Nat} {s:aT} {bX:Int} {p:oO} (h:ak A L) (hp:ap L (.h (JF b s bX p)) K):∃f,ak A (bx b s bX (.eL p) f++[.at f.m (kY p)]++K):=jE h hp
theorem aY.Re {P:Program} {f:FuncId} {args:List Value} {nG:List It} {φ:Value→Prop} {post:Value→List It} {b:Nat} {s:aT} {bX:Int} {p:oO} (hc:aY P f args (.h (JF b s bX p)::nG) φ post) {A:AW} {L K:List It} {bD bJ aJ aX aW m c0 c1 c2:Nat} {aZ aE aL aN bk aS bP aO aM aB bc bd bZ bl:Value} {K0:List It} {k:Value→AW→Prop} (hw:A.Wf) (hS:ak A L)
 (e:aD L (bx b s bX (.eL p) ⟨bD,bJ,aJ,aX,aW,m,c0,c1,c2,aZ,aE,aL,aN,bk,aS,bP,aO,aM,aB,bc,bd,bZ,bl⟩++[.at m (kY p)]) K0) (e2:aD K0 nG K) (hk:∀v A',φ v→ak A' (post v++K)→A'.Wf→A.next≤A'.next→k v A'):aC P f args A k:=
 aY.cA hc hw (ii (g:=fun f:nL=>bx b s bX (.eL p) f++[.at f.m (kY p)]) ⟨bD,bJ,aJ,aX,aW,m,c0,c1,c2,aZ,aE,aL,aN,bk,aS,bP,aO,aM,aB,bc,bd,bZ,bl⟩ hS e) (.s .z e2) hk
theorem DR (n:Nat) (a:Int) (s:aT):gO (n+1) a s=if (jj s a 0).1=true then gO n (a+1) (jj s a 0).2 else (false,(jj s a 0).2):=rfl
theorem DQ (a:Int) (s:aT):gO 0 a s=(true,s):=rfl
set_option maxRecDepth 20000 in
set_option maxHeartbeats 4000000 in
theorem zF (b:Nat) (s:aT) (p:oO) (hC:fA { s with aG:=.bK }) (rX:s.ai.length<8) (hp:p.block<s.cf.nb) (i8:0≤p.d5∧p.d5≤3) :
 aY Tryz.prog 264 [pv b,.int .i64 p.d5] [.h (JF b { s with aG:=.bK } 0 p)] (fun _=>True) (fun _=>[.h (bf b (fU { s with aG:=.bK } p.d5 p.block))]):=by
 obtain⟨cf,am,aA,ay,value,bL,aj,reads,ai,av,set,bp,ax,an,aI,aH,ao,aG⟩:=s
 obtain⟨d5,WF,N8,N7,iD⟩:=p
 dsimp only at hC rX hp i8 ⊢
 intro A F hw hS
 refine ab Tryz.func264 rfl (by kernel_rfl) fun _=>?_
 obtain⟨⟨bD,bJ,aJ,aX,aW,m,c0,c1,c2,aZ,aE,aL,aN,bk,aS,bP,aO,aM,aB,bc,bd,bZ,bl⟩,hS⟩:=JF.open hS .z
 dsimp only [bx,ei,br,b8,aU.dT,af,ag] at hS
 have hq:=dZ hS hw
 have xj:=hC.cf.nb
 have JN:=hC.cf.aQ
 dsimp only at xj JN
 have AD:=Am m ⟨d5,WF,N8,N7,iD⟩
 by_cases h:iD<0
 · have e:fU ⟨cf,am,aA,ay,value,bL,aj,reads,ai,av,set,bp,ax,an,aI,aH,ao,.bK⟩ d5 iD=iY ⟨cf,am,aA,ay,value,bL,aj,reads,ai,av,set,bp,ax,an,aI,aH,ao,.bK⟩ 4:=if_pos h
   rw [e]
   repeat' (first
   | (refine jx fun R hR=>?_;simp [aw,az,hq,h,AW.aa,ah];try simp (disch:=omega) only [if_pos,if_neg,aw,az])
   | (refine hR _ _ ?_;clear hR R)|(refine hK _ _ ?_;clear hK K)|refine nx ?_
   | refine wn fun K hK=>?_
   | simp only [wS]
   | (refine bT (AD _ (by simp [hq])) ?_;rintro _ _ ⟨rfl,rfl⟩ _ _)
   | (apply aY.qz (gT b ⟨cf,am,aA,ay,value,bL,aj,reads,ai,av,set,bp,ax,an,aI,aH,ao,.bK⟩ 0 4 (.eL ⟨d5,WF,N8,N7,iD⟩) hC.cf hC.al hC.push (Nat.lt_of_le_of_lt hC.kT (by decide)));(·exact wA);(·exact sA);(·exact fP);(·first|exact pP|exact kP);(rintro _ _ _ hS hw _;have hS:=lA hS);(try (have hq:=Bz hS hw));all_goals(try (first|exact 0|exact undef)))
   | refine wb ?_|refine wr ?_|refine wk ?_|refine we ?_|refine ws ?_|refine wq ?_
   | (refine wc rfl (fun hc=>?_) (fun hc=>?_)<;>(try simp at hc)<;>(try omega)<;>(try (simp [h2] at hc;done))<;>(try (simp [h3] at hc;done))<;>(try (simp [h4] at hc;done)))
   | (refine ib (fun hc=>?_) (fun hc=>?_)<;>(try omega)<;>(try simp (disch:=omega) only [if_pos,if_neg])))
   refine⟨_,by first|rfl|(simp;rfl),trivial,?_⟩
   apply ak.bS hS
   (·first|exact pP|exact kP)
 · have Ln:IntKind.i64.wrap (cf.aQ+iD)=cf.aQ+iD:=aw (by omega) (by omega)
   have PA:IntKind.u64.wrap (IntKind.u64.wrap d5+1)=d5+1:=by
    rw [az (x:=d5) (by omega) (by omega),az (by omega) (by omega)]
   have Xp:fA ⟨cf,am,aA,ay,value,bL,aj,reads,ai++[iD],av,set,bp,ax,an,aI,aH,ao,.bK⟩:=by
    refine⟨hC.cf,hC.Ki,hC.bp,hC.ew,hC.dq,hC.Dn,?_,?_,?_,hC.set,hC.yx,hC.xn⟩
    · intro x hx
      rcases List.mem_append.1 hx with h1|h1
      · exact hC.JU x h1
      · simp at h1;subst h1;omega
    · show (ai++[iD]).length≤8
      simp;omega
    · show ao≤(ai++[iD]).length
      have:=hC.push
      dsimp only at this
      simp;omega
   have I5:=qS b ⟨cf,am,aA,ay,value,bL,aj,reads,ai++[iD],av,set,bp,ax,an,aI,aH,ao,.bK⟩ (cf.aQ+iD) (d5+1) rfl Xp (by omega)
   have e:fU ⟨cf,am,aA,ay,value,bL,aj,reads,ai,av,set,bp,ax,an,aI,aH,ao,.bK⟩ d5 iD =
    if (jj ⟨cf,am,aA,ay,value,bL,aj,reads,ai++[iD],av,set,bp,ax,an,aI,aH,ao,.bK⟩ (cf.aQ+iD) (d5+1)).1=true then
     if (gO (2 ^ d5.toNat) (gs cf iD) (jj ⟨cf,am,aA,ay,value,bL,aj,reads,ai++[iD],av,set,bp,ax,an,aI,aH,ao,.bK⟩ (cf.aQ+iD) (d5+1)).2).1=true then { (gO (2 ^ d5.toNat) (gs cf iD) (jj ⟨cf,am,aA,ay,value,bL,aj,reads,ai++[iD],av,set,bp,ax,an,aI,aH,ao,.bK⟩ (cf.aQ+iD) (d5+1)).2).2 with value:=IntKind.u64.wrap (gs cf iD) }
     else (gO (2 ^ d5.toNat) (gs cf iD) (jj ⟨cf,am,aA,ay,value,bL,aj,reads,ai++[iD],av,set,bp,ax,an,aI,aH,ao,.bK⟩ (cf.aQ+iD) (d5+1)).2).2
    else (jj ⟨cf,am,aA,ay,value,bL,aj,reads,ai++[iD],av,set,bp,ax,an,aI,aH,ao,.bK⟩ (cf.aQ+iD) (d5+1)).2:=if_neg h
   rcases rB ⟨cf,am,aA,ay,value,bL,aj,reads,ai++[iD],av,set,bp,ax,an,aI,aH,ao,.bK⟩ (cf.aQ+iD) (d5+1) with ⟨h9,e9⟩|⟨h9,e9⟩
   · have Xo:=Xp.put (a:=cf.aQ+iD) (by omega) (d5+1)
     rw [e9] at I5 e
     rw [if_pos rfl] at e
     rw [e]
     dsimp only at I5 Xo ⊢
     have Nl:=y9 cf hC.cf iD (by omega)
     dsimp only [bC.v] at Nl
     have ER:¬d5<0:=by omega
     obtain⟨n,hn⟩:∃n,2 ^ d5.toNat=n:=⟨_,rfl⟩
     have hn8:n≤8:=by
      have h4:d5=0∨d5=1∨d5=2∨d5=3:=by omega
      rcases h4 with rfl|rfl|rfl|rfl<;>(rw [←hn];decide)
     have hsh:mj .shl .i64 1 d5=some (.int .i64 (n:Int)):=by
      have h4:d5=0∨d5=1∨d5=2∨d5=3:=by omega
      rw [←hn]
      rcases h4 with rfl|rfl|rfl|rfl<;>rfl
     obtain⟨_,Nm,TR⟩:=ul hC.cf iD (by dsimp only;omega)
     dsimp only at Nm TR
     have FE:gs cf iD≤64:=by
      have h5:(0:Int)<2 ^ (cG cf iD).toNat:=Int.pow_pos (by omega)
      omega
     rw [hn]
     generalize gs cf iD=fst at *
     repeat' (first
     | (with_reducible apply Tw;(·first|(simp;done)|(simp;rfl));(·first|(simp;done)|(simp;rfl));(·exact wA);(·exact sA);(·first|exact pP|exact kP);(·first|(simp;done)|(simp;rfl)|(simp [hq];done)|(simp [hq];rfl));(·first|omega|(simp;omega));(·intro _ _;trivial);rintro _ _ _ hS hw _;(try dsimp only [AW.bq] at hS);have hq:=Bz hS hw)
     | (refine jx fun R hR=>?_;simp [aw,az,hq,h,Ln,PA,hsh,AW.aa,ah];try simp (disch:=omega) only [if_pos,if_neg,aw,az])
     | (refine hR _ _ ?_;clear hR R)|(refine hK _ _ ?_;clear hK K)|refine nx ?_
     | refine wn fun K hK=>?_
     | simp only [wS]
     | (refine bT (AD _ (by simp [hq])) ?_;rintro _ _ ⟨rfl,rfl⟩ _ _)
     | (refine bT (Nl _) ?_;rintro _ _ ⟨rfl,rfl⟩ _ _)
     | (apply aY.Ke (I5);(·exact wA);(·exact sA);(·exact fP);(·first|exact pP|exact kP);(rintro _ _ rfl hS hw _;have hS:=lA hS;(obtain ⟨⟨bD,bJ,aJ,aX,aW,m,c0,c1,c2,aZ,aE,aL,aN,bk,aS,bP,aO,aM,aB,bc,bd,bZ,bl⟩,hS⟩:=bf.open hS .z;dsimp only [bx,ei,br,b8,aU.dT,af,ag] at hS;have hq:=dZ hS hw));all_goals(try (first|exact 0|exact undef)))
     | refine wb ?_|refine wr ?_|refine wk ?_|refine we ?_|refine ws ?_|refine wq ?_
     | (refine wc rfl (fun hc=>?_) (fun hc=>?_)<;>(try simp at hc)<;>(try omega)<;>(try (simp [h2] at hc;done))<;>(try (simp [h3] at hc;done))<;>(try (simp [h4] at hc;done)))
     | (refine ib (fun hc=>?_) (fun hc=>?_)<;>(try omega)<;>(try simp (disch:=omega) only [if_pos,if_neg])))
     refine eS (fun kk fr A'=>A'.Wf∧∃(i:Nat) (si:aT),kk=n-i∧i≤n∧fr 0=pv b∧fr 5=.int .i64 fst∧fr 49=.int .i64 n∧fr 50=.int .i64 i∧si.aG=.bK∧fA si∧
      gO n fst ⟨cf,am,aA,ay,value,bL,aj,reads,ai++[iD],av,set,(eB bp (cf.aQ+iD) (d5+1)).2,ax,an,aI,aH,ao,.bK⟩=gO (n-i) (fst+i) si∧ak A' [.h (bf b si),.h F]) n ?_ ?_
     · refine⟨hw,0,⟨cf,am,aA,ay,value,bL,aj,reads,ai++[iD],av,set,(eB bp (cf.aQ+iD) (d5+1)).2,ax,an,aI,aH,ao,.bK⟩,by simp,by simp,by simp,by simp,by simp,by simp,rfl,Xo,by simp,?_⟩
       apply bf.bS
       (·exact sA)
       (dsimp only [bx,eP,ei,br,b8,aU.dT,ed,cF,cy,dk,cp,dm,eV,cq,cm,bt,dl,dh,eU,di,af,ag])
       try simp only [h]
       (·first|exact pP|exact kP)
       (·first|exact pP|exact kP)
       all_goals(first|exact 0|exact undef)
     · clear hS hq
       rintro kk fr A' ⟨hw,i,si,rfl,hi,h0,h5,TY,VZ,TE,Xn,hz,hS⟩
       refine dI ?_
       by_cases dO:i<n
       · have fG:(i:Int)<n:=by omega
         have mf:IntKind.i64.wrap ((i:Int)+1)=((i+1:Nat):Int):=aw (by omega) (by omega)
         have Pz:IntKind.i64.wrap (fst+(i:Int))=fst+(i:Int):=aw (by omega) (by omega)
         have Y0:n-i=(n-(i+1))+1:=by omega
         have M9:=qS b si (fst+i) 0 TE Xn (by omega)
         rw [Y0,DR] at hz
         rcases rB si (fst+i) 0 with ⟨g9,f9⟩|⟨g9,f9⟩
         · rw [f9] at M9 hz
           rw [if_pos rfl] at hz
           revert hq hS hw;(repeat first|clear hq|clear hS|clear hw|revert hc|revert zn|revert zA|revert R|revert K);refine Wp (J1 @M9) (J9 h0 h5 TY VZ fG mf Pz @AW.aa @ah.eq_1) (J1 ?_)<;>unhygienic intros
           refine⟨n-(i+1),by omega,hw,i+1,{ si with bp:=(eB si.bp (fst+i) 0).2 },rfl,by omega,by simp [h0],by simp [h5],by simp [TY],by simp,TE,Xn.put (by omega) 0,?_,hS⟩
           rw [hz]
           have:fst+(i:Int)+1=fst+((i+1:Nat):Int):=by omega
           rw [this]
         · rw [f9] at M9 hz
           rw [if_neg (by simp)] at hz
           revert hq hS hw;(repeat first|clear hq|clear hS|clear hw|revert hc|revert zn|revert zA|revert R|revert K);refine Wp (J1 @M9) (J9 h0 h5 TY VZ fG mf Pz @AW.aa @ah.eq_1) (J1 ?_)<;>unhygienic intros
           refine⟨_,by first|rfl|(simp;rfl),trivial,?_⟩
           rw [hz,if_neg (by simp)]
           exact hS
       · have GQ:i=n:=by omega
         subst GQ
         rw [Nat.sub_self,DQ] at hz
         obtain⟨cf,am,aA,ay,value,bL,aj,reads,ai,av,set,bp,ax,an,aI,aH,ao,aG⟩:=si
         dsimp only at TE
         subst TE
         obtain⟨⟨bD,bJ,aJ,aX,aW,m,c0,c1,c2,aZ,aE,aL,aN,bk,aS,bP,aO,aM,aB,bc,bd,bZ,bl⟩,hS⟩:=bf.open hS .z
         dsimp only [bx,ei,br,b8,aU.dT,af,ag] at hS
         have hq:=dZ hS hw
         revert hq hS hw;(repeat first|clear hq|clear hS|clear hw|revert hc|revert zn|revert zA|revert R|revert K);refine Wp trivial (J6 h0 h5 TY VZ @AW.aa @ah.eq_1) (J1 ?_)<;>unhygienic intros
         refine⟨_,by first|rfl|(simp;rfl),trivial,?_⟩
         rw [hz,if_pos rfl,show IntKind.u64.wrap fst=fst from az (by omega) (by omega)]
         apply bf.bS
         (·exact sA)
         (dsimp only [bx,eP,ei,br,b8,aU.dT,ed,cF,cy,dk,cp,dm,eV,cq,cm,bt,dl,dh,eU,di,af,ag])
         try simp only [h]
         (·first|exact pP|exact kP)
         (·first|exact pP|exact kP)
         all_goals(first|exact 0|exact undef)
   · rw [e9] at I5 e
     rw [if_neg (by simp)] at e
     rw [e]
     dsimp only at I5 ⊢
     repeat' (first
     | (with_reducible apply Tw;(·first|(simp;done)|(simp;rfl));(·first|(simp;done)|(simp;rfl));(·exact wA);(·exact sA);(·first|exact pP|exact kP);(·first|(simp;done)|(simp;rfl)|(simp [hq];done)|(simp [hq];rfl));(·first|omega|(simp;omega));(·intro _ _;trivial);rintro _ _ _ hS hw _;(try dsimp only [AW.bq] at hS);have hq:=Bz hS hw)
     | (refine jx fun R hR=>?_;simp [aw,az,hq,h,Ln,PA,AW.aa,ah];try simp (disch:=omega) only [if_pos,if_neg,aw,az])
     | (refine hR _ _ ?_;clear hR R)|(refine hK _ _ ?_;clear hK K)|refine nx ?_
     | refine wn fun K hK=>?_
     | simp only [wS]
     | (refine bT (AD _ (by simp [hq])) ?_;rintro _ _ ⟨rfl,rfl⟩ _ _)
     | (apply aY.Ke (I5);(·exact wA);(·exact sA);(·exact fP);(·first|exact pP|exact kP);(rintro _ _ rfl hS hw _;have hS:=lA hS);(try (have hq:=Bz hS hw));all_goals(try (first|exact 0|exact undef)))
     | refine wb ?_|refine wr ?_|refine wk ?_|refine we ?_|refine ws ?_|refine wq ?_
     | (refine wc rfl (fun hc=>?_) (fun hc=>?_)<;>(try simp at hc)<;>(try omega)<;>(try (simp [h2] at hc;done))<;>(try (simp [h3] at hc;done))<;>(try (simp [h4] at hc;done)))
     | (refine ib (fun hc=>?_) (fun hc=>?_)<;>(try omega)<;>(try simp (disch:=omega) only [if_pos,if_neg])))
     refine⟨_,by first|rfl|(simp;rfl),trivial,?_⟩
     apply ak.bS hS
     (·first|exact pP|exact kP)
end
end Go.Stx
