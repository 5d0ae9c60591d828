/-
 The program's attempt: what ends it.
-/
import Derived.Test.YtejgooipbmnioaaGreatDoorG09
set_option linter.unusedVariables false
set_option linter.unusedSimpArgs false
set_option linter.unusedSectionVars false
set_option maxRecDepth 20000
set_option maxHeartbeats 4000000
namespace Go.Stx
open Go Go.Proofs
attribute [local irreducible] TW cg eg bn aC aV cR df
section
abbrev CF:List (Nat×Nat):=[(0,0),(1,0),(2,0),(3,0),(4,0),(5,0),(6,0),(7,0),(8,0),(9,0),(10,0),(11,0),(12,0),(13,0),(14,0),(15,0),(16,0),(17,0)]
abbrev CE:List (Nat×Nat):=[(0,0),(1,0),(2,0),(3,0),(4,0),(5,0),(6,0),(7,0),(8,0),(9,0),(10,0),(11,0)]
open T9 T10
variable [Gl]
theorem CY (s:aT):(s.ay=1∧gJ s={ s with aG:=.hP })∨((¬s.ay=1∧(s.ao:Int)=s.ai.length)∧gJ s={ s with aG:=.hP }) ∨
 ((¬s.ay=1∧¬(s.ao:Int)=s.ai.length)∧gJ s={ s with aG:=.eK ⟨cG s.cf (s.ai.getD s.ao 0),s.ai.getD s.ao 0,0,0⟩ }):=by
 unfold gJ
 by_cases h1:s.ay=1
 · simp [h1]
 by_cases h2:s.ao=s.ai.length
 · simp [h1,h2]
 · have h3:¬(s.ao:Int)=s.ai.length:=by omega
   simp [h1,h2,h3]
set_option maxRecDepth 20000 in
set_option maxHeartbeats 2000000 in
theorem q8 (b:Nat) (s:aT) (bX:Int) (d:aU) (hc:b9 s.cf) (rX:∀x∈s.ai,x<2^62) (hp:s.ao≤s.ai.length) (hl:s.ai.length<2^38) :
 aY Tryz.prog 159 [pv b] [.h (gM b s bX d)] (fun _=>True) (fun _=>[.h (bf b (gJ s))]):=by
 intro A F hw hS
 refine ab Tryz.func159 rfl (by kernel_rfl) fun _=>?_
 obtain⟨⟨bD,bJ,aJ,aX,aW,m,c0,c1,c2,aZ,aE,aL,aN,bk,aS,bP,aO,aM,aB,bc,bd,bZ,bl⟩,hS⟩:=gM.open hS .z
 dsimp only [bx,af,ag] at hS
 have hq:=H5 hS hw
 have hI:=ak.nH hS (.s (.s (.s (.s (.s (.s (.s .z)))))))
 obtain⟨oa,ca,rfl,_⟩:=hI.dJ
 rcases CY s with ⟨h,e⟩|⟨h,e⟩|⟨h,e⟩
 · revert hq hS hw;(try revert hc);clear hS;refine Wp (J2 (od CF) (od CE)) (J3 h @AW.aa @ah.eq_1) (J1 ?_)<;>unhygienic intros
   refine⟨_,by first|rfl|(simp;rfl),trivial,?_⟩
   rw [e]
   apply bf.bS
   (·exact sA)
   (dsimp only [bx,eP,ei,br,b8,aU.dT,ed,cF,cy,dk,cp,dm,eV,cq,cm,bt,dl,dh,eU,di,af,ag])
   try simp only [h]
   (·first|exact pP|exact kP)
   (·first|exact pP|exact kP)
   all_goals(first|exact 0|exact undef)
 · revert hq hS hw;(repeat first|clear hq|clear hS|clear hw|revert hc|revert zn|revert zA|revert R|revert K);refine Wp (J2 (od CF) (od CE)) (J3 h @AW.aa @ah.eq_1) (J1 ?_)<;>unhygienic intros
   refine⟨_,by first|rfl|(simp;rfl),trivial,?_⟩
   rw [e]
   apply bf.bS
   (·exact sA)
   (dsimp only [bx,eP,ei,br,b8,aU.dT,ed,cF,cy,dk,cp,dm,eV,cq,cm,bt,dl,dh,eU,di,af,ag])
   try simp only [h]
   (·first|exact pP|exact kP)
   (·first|exact pP|exact kP)
   all_goals(first|exact 0|exact undef)
 · have dO:s.ao<s.ai.length:=by omega
   have fG:(s.ao:Int)<s.ai.length:=by omega
   obtain⟨p,cK,rfl,dG,bA⟩:=hI.at dO
   have TQ:s.ai[s.ao]=s.ai.getD s.ao 0:=by rw [List.getD_eq_getElem?_getD,List.getElem?_eq_getElem dO];rfl
   have hx:s.ai.getD s.ao 0<2^62:=by rw [←TQ];exact rX _ (List.getElem_mem dO)
   rw [TQ] at bA
   generalize s.ai.getD s.ao 0=x at *
   have i8:=qe s.cf hc x hx
   dsimp only [bC.v] at i8
   revert hq hS hw;(repeat first|clear hq|clear hS|clear hw|revert hc|revert zn|revert zA|revert R|revert K);refine Wp (J4 (od CF) (od CE) @i8 @uh) (J7 h dG bA dO fG @AW.aa @ah.eq_1) (J1 ?_)<;>unhygienic intros
   refine⟨_,by first|rfl|(simp;rfl),trivial,?_⟩
   rw [e]
   apply bf.bS
   (·exact sA)
   (dsimp only [bx,eP,ei,br,b8,aU.dT,ed,cF,cy,dk,cp,dm,eV,cq,cm,bt,dl,dh,eU,di,af,ag])
   try simp only [h]
   (·first|exact pP|exact kP)
   (·first|exact pP|exact kP)
   all_goals(first|exact 0|exact undef)
set_option maxRecDepth 20000 in
set_option maxHeartbeats 2000000 in
theorem gT (b:Nat) (s:aT) (bX ay:Int) (d:aU) (hc:b9 s.cf) (rX:∀x∈s.ai,x<2^62) (hp:s.ao≤s.ai.length) (hl:s.ai.length<2^38) :
 aY Tryz.prog 218 [pv b,.int .i64 ay] [.h (gM b s bX d)] (fun _=>True) (fun _=>[.h (bf b (iY s ay))]):=by
 intro A F hw hS
 refine ab Tryz.func218 rfl (by kernel_rfl) fun _=>?_
 obtain⟨⟨bD,bJ,aJ,aX,aW,m,c0,c1,c2,aZ,aE,aL,aN,bk,aS,bP,aO,aM,aB,bc,bd,bZ,bl⟩,hS⟩:=gM.open hS .z
 dsimp only [bx,af,ag] at hS
 have hq:=H5 hS hw
 repeat' (first
 | (refine jx fun R hR=>?_;simp [aw,az,hq,AW.aa,ah];try simp (disch:=omega) only [if_pos,if_neg,aw,az])
 | (refine hR _ _ ?_;clear hR R)|(refine hK _ _ ?_;clear hK K)|refine nx ?_
 | refine wn fun K hK=>?_
 | simp only [wS]
 | (apply aY.qz (q8 b { s with ay:=ay } bX d hc rX hp hl);(·exact wA);(·exact sA);(·exact fP);(·first|exact pP|exact kP);(rintro _ _ _ hS hw _;have hS:=lA hS);(try (have hq:=Bz hS hw));all_goals(try (first|exact 0|exact undef)))
 | refine wb ?_|refine wr ?_|refine wk ?_|refine we ?_|refine ws ?_|refine wq ?_
 | (refine wc rfl (fun hc=>?_) (fun hc=>?_)<;>(try simp at hc)<;>(try omega)<;>(try (simp [h2] at hc;done))<;>(try (simp [h3] at hc;done))<;>(try (simp [h4] at hc;done)))
 | (refine ib (fun hc=>?_) (fun hc=>?_)<;>(try omega)<;>(try simp (disch:=omega) only [if_pos,if_neg])))
 exact⟨_,by first|rfl|(simp;rfl),trivial,ak.bS hS (.s .z (.s .z .z))⟩
end
section
open T9 T10
variable [Gl]
theorem BJ (b:Nat) (s:aT) (d:aU) (A:AW) (hw:A.Wf) (hS:ak A [.h (gM b s s.aG.dT d)]):eF 57 [pv b] A (.bool s.jt):=by
 refine ab Tryz.func57 rfl (by kernel_rfl) fun _=>?_
 obtain⟨⟨bD,bJ,aJ,aX,aW,m,c0,c1,c2,aZ,aE,aL,aN,bk,aS,bP,aO,aM,aB,bc,bd,bZ,bl⟩,hS⟩:=gM.open hS .z
 dsimp only [bx,af,ag] at hS
 have hq:=dZ hS hw
 revert hq hS hw;clear hS;refine Wp trivial (J1 @AW.aa) (J1 ?_)<;>unhygienic intros
 exact⟨_,rfl,by simp [aT.jt],rfl⟩
theorem yu (b:Nat) (s:aT) (st:Int) (d:aU) (A:AW) (hw:A.Wf) (hS:ak A [.h (gM b s s.aG.dT d)]):eF 167 [pv b,.int .i64 st] A (.int .i64 (if s.kO st=true then 0 else 1)):=by
 refine ab Tryz.func167 rfl (by kernel_rfl) fun _=>?_
 have hb:=BJ b s d A hw hS
 obtain⟨⟨bD,bJ,aJ,aX,aW,m,c0,c1,c2,aZ,aE,aL,aN,bk,aS,bP,aO,aM,aB,bc,bd,bZ,bl⟩,hS⟩:=gM.open hS .z
 dsimp only [bx,af,ag] at hS
 have hq:=dZ hS hw
 by_cases h1:s.aG.dT=0
 · have h2:s.jt=false:=by simp [aT.jt,h1]
   rw [h2] at hb
   by_cases h3:s.aA=st
   · revert hq hS hw;clear hS;refine Wp (J1 @hb) (J3 h1 h3 @AW.aa) (J1 ?_)<;>unhygienic intros
     exact⟨_,rfl,by simp [aT.kO,h1,h3],rfl⟩
   · revert hq hS hw;(repeat first|clear hq|clear hS|clear hw|revert hc|revert zn|revert zA|revert R|revert K);refine Wp (J1 @hb) (J3 h1 h3 @AW.aa) (J1 ?_)<;>unhygienic intros
     exact⟨_,rfl,by simp [aT.kO,h1,h3],rfl⟩
 · have h2:s.jt=true:=by simp [aT.jt,h1]
   rw [h2] at hb
   repeat' (first
   | (refine jx fun R hR=>?_;simp [aw,az,hq,h1,AW.aa];try simp (disch:=omega) only [if_pos,if_neg,aw,az])
   | (refine hR _ _ ?_;clear hR R)|(refine hK _ _ ?_;clear hK K)|refine nx ?_
   | refine wn fun K hK=>?_
   | simp only [wS]
   | (refine bT (hb) ?_;rintro _ _ ⟨rfl,rfl⟩ _ _)
   | refine wb ?_|refine wr ?_|refine wk ?_|refine we ?_|refine ws ?_|refine wq ?_
   | (refine wc rfl (fun hc=>?_) (fun hc=>?_)<;>(try simp at hc)<;>(try omega)<;>(try (simp [h2] at hc;done))<;>(try (simp [h3] at hc;done))<;>(try (simp [h4] at hc;done)))
   | (refine ib (fun hc=>?_) (fun hc=>?_)<;>(try omega)<;>(try simp (disch:=omega) only [if_pos,if_neg])))
   exact⟨_,rfl,by simp [aT.kO,h1],rfl⟩
theorem mB (b:Nat) (s:aT) (bX a:Int) (d:aU) (hc:b9 s.cf) (A:AW) (hw:A.Wf) (hS:ak A [.h (gM b s bX d)]):eF 171 [pv b,.int .u64 a] A (.bool (decide (s.cf.aQ≤a))):=by
 refine ab Tryz.func171 rfl (by kernel_rfl) fun _=>?_
 obtain⟨⟨bD,bJ,aJ,aX,aW,m,c0,c1,c2,aZ,aE,aL,aN,bk,aS,bP,aO,aM,aB,bc,bd,bZ,bl⟩,hS⟩:=gM.open hS .z
 dsimp only [bx,af,ag] at hS
 have hq:=dZ hS hw
 obtain⟨w0,w1⟩:=hc.aQ
 have Ln:IntKind.u64.wrap s.cf.aQ=s.cf.aQ:=az (by omega) (by omega)
 revert hq hS hw;(try revert hc);clear hS;refine Wp trivial (J2 Ln @AW.aa) (J1 ?_)<;>unhygienic intros
 exact⟨_,rfl,by simp,rfl⟩
theorem FW (b:Nat) (s:aT) (bX:Int) (d:aU) (A:AW) (hw:A.Wf) (hS:ak A [.h (gM b s bX d)]):eF 163 [pv b] A (.int .i64 s.aA):=by
 refine ab Tryz.func163 rfl (by kernel_rfl) fun _=>?_
 obtain⟨⟨bD,bJ,aJ,aX,aW,m,c0,c1,c2,aZ,aE,aL,aN,bk,aS,bP,aO,aM,aB,bc,bd,bZ,bl⟩,hS⟩:=gM.open hS .z
 dsimp only [bx,af,ag] at hS
 have hq:=dZ hS hw
 revert hq hS hw;clear hS;refine Wp trivial (J1 @AW.aa) (J1 ?_)<;>unhygienic intros
 exact⟨_,rfl,rfl,rfl⟩
theorem Jv (b:Nat) (s:aT) (bX:Int) (d:aU) (A:AW) (hw:A.Wf) (hS:ak A [.h (gM b s bX d)]):eF 109 [pv b] A (.int .i64 s.ay):=by
 refine ab Tryz.func109 rfl (by kernel_rfl) fun _=>?_
 obtain⟨⟨bD,bJ,aJ,aX,aW,m,c0,c1,c2,aZ,aE,aL,aN,bk,aS,bP,aO,aM,aB,bc,bd,bZ,bl⟩,hS⟩:=gM.open hS .z
 dsimp only [bx,af,ag] at hS
 have hq:=dZ hS hw
 revert hq hS hw;clear hS;refine Wp trivial (J1 @AW.aa) (J1 ?_)<;>unhygienic intros
 exact⟨_,rfl,rfl,rfl⟩
theorem FM (b:Nat) (s:aT) (bX:Int) (d:aU) (A:AW) (hw:A.Wf) (hS:ak A [.h (gM b s bX d)]):eF 249 [pv b] A (.int .u64 s.value):=by
 refine ab Tryz.func249 rfl (by kernel_rfl) fun _=>?_
 obtain⟨⟨bD,bJ,aJ,aX,aW,m,c0,c1,c2,aZ,aE,aL,aN,bk,aS,bP,aO,aM,aB,bc,bd,bZ,bl⟩,hS⟩:=gM.open hS .z
 dsimp only [bx,af,ag] at hS
 have hq:=dZ hS hw
 revert hq hS hw;clear hS;refine Wp trivial (J1 @AW.aa) (J1 ?_)<;>unhygienic intros
 exact⟨_,rfl,rfl,rfl⟩
theorem C4 (b:Nat) (s:aT) (bX:Int) (d:aU) (A:AW) (hw:A.Wf) (hS:ak A [.h (gM b s bX d)]):eF 107 [pv b] A (.bool s.aj):=by
 refine ab Tryz.func107 rfl (by kernel_rfl) fun _=>?_
 obtain⟨⟨bD,bJ,aJ,aX,aW,m,c0,c1,c2,aZ,aE,aL,aN,bk,aS,bP,aO,aM,aB,bc,bd,bZ,bl⟩,hS⟩:=gM.open hS .z
 dsimp only [bx,af,ag] at hS
 have hq:=dZ hS hw
 revert hq hS hw;clear hS;refine Wp trivial (J1 @AW.aa) (J1 ?_)<;>unhygienic intros
 exact⟨_,rfl,rfl,rfl⟩
theorem jg (b:Nat) (s:aT) (bX:Int) (d:aU) (A:AW) (hw:A.Wf) (hS:ak A [.h (gM b s bX d)]):eF 238 [pv b] A (.bool s.gQ):=by
 refine ab Tryz.func238 rfl (by kernel_rfl) fun _=>?_
 obtain⟨⟨bD,bJ,aJ,aX,aW,m,c0,c1,c2,aZ,aE,aL,aN,bk,aS,bP,aO,aM,aB,bc,bd,bZ,bl⟩,hS⟩:=gM.open hS .z
 dsimp only [bx,af,ag] at hS
 obtain⟨va,vv,vi,hS⟩:=mK.open hS (.s (.s (.s (.s (.s .z)))))
 obtain⟨oa,ca,rfl,_⟩:=(ak.nH hS (.s .z)).dJ
 have Jb:=EG bJ _ oa _ ca vv vi A (hS.g 0 rfl)
 have hq:=dZ hS hw
 by_cases h:s.ay=1
 · revert hq hS hw;clear hS;clear hS;refine Wp (J1 @Jb) (J2 h @AW.aa) (J1 ?_)<;>unhygienic intros
   exact⟨_,rfl,by simp [aT.gQ,h],rfl⟩
 · revert hq hS hw;(repeat first|clear hq|clear hS|clear hw|revert hc|revert zn|revert zA|revert R|revert K);refine Wp (J1 @Jb) (J2 h @AW.aa) (J1 ?_)<;>unhygienic intros
   exact⟨_,rfl,by simp [aT.gQ,h],rfl⟩
theorem my (b:Nat) (s:aT) (bX:Int) (d:aU) (A:AW) (hw:A.Wf) (hS:ak A [.h (gM b s bX d)]):eF 244 [pv b] A (.int .i64 s.qE):=by
 refine ab Tryz.func244 rfl (by kernel_rfl) fun _=>?_
 have cX:=jg b s bX d A hw hS
 obtain⟨⟨bD,bJ,aJ,aX,aW,m,c0,c1,c2,aZ,aE,aL,aN,bk,aS,bP,aO,aM,aB,bc,bd,bZ,bl⟩,hS⟩:=gM.open hS .z
 dsimp only [bx,af,ag] at hS
 have hq:=dZ hS hw
 cases h:s.aj<;>cases h2:s.gQ
 all_goals(rw [h2] at cX)
 all_goals(revert hq hS hw;clear hS;refine Wp (J1 @cX) (J2 h @AW.aa) (J1 ?_)<;>unhygienic intros)
 all_goals exact⟨_,rfl,by simp [aT.qE,h,h2],rfl⟩
theorem oU (b:Nat) (s:aT) (bX:Int) (d:aU) (A:AW) (hw:A.Wf) (hS:ak A [.h (gM b s bX d)]):eF 233 [pv b] A (.int .i64 s.rv):=by
 refine ab Tryz.func233 rfl (by kernel_rfl) fun _=>?_
 obtain⟨⟨bD,bJ,aJ,aX,aW,m,c0,c1,c2,aZ,aE,aL,aN,bk,aS,bP,aO,aM,aB,bc,bd,bZ,bl⟩,hS⟩:=gM.open hS .z
 dsimp only [bx,af,ag] at hS
 cases he:s.bL with
 | none=>
   have hq:=dZ hS hw
   rw [he] at hq
   dsimp only [ed] at hq
   revert hq hS hw;clear hS;refine Wp trivial (J1 @AW.aa) (J1 ?_)<;>unhygienic intros
   exact⟨_,rfl,by simp [aT.rv,he],rfl⟩
 | some en=>
   rw [he] at hS
   have PR:A.bR aJ=some (fJ en):=(Fw.op hS (.s .z)).g 0 rfl
   have W0:=rh aJ en A PR
   have hq:=dZ hS hw
   rw [he] at hq
   dsimp only [ed] at hq
   revert hq hS hw;(repeat first|clear hq|clear hS|clear hw|revert hc|revert zn|revert zA|revert R|revert K);refine Wp (J1 @W0) (J1 @AW.aa) (J1 ?_)<;>unhygienic intros
   exact⟨_,rfl,by simp [aT.rv,he],rfl⟩
end
section
open T6
variable [Gl]
theorem CH (a o rv:Int) (A:AW):aC Tryz.prog 256 [.int .i64 a,.int .i64 o,.int .i64 rv] A (fun v A'=>v=.pointer (some ⟨A.next,0,none⟩)∧A'=A.alloc (gm ⟨a,o,rv,0,0,0,false⟩)):=by
 refine ab Tryz.func256 rfl (by kernel_rfl) fun _=>?_
 refine W trivial (J1 @gm.eq_1) (J1 ?_)<;>unhygienic intros
 exact⟨_,rfl,rfl,rfl⟩
theorem CL (b:Nat) (s:gy) (A:AW) (F:HP) (h:bz A (fW b s*F)) (hl:s.eo.length<2^38) :
 aC Tryz.prog 287 [.pointer (some ⟨b,0,none⟩)] A (fun v A'=>fe A.next A' .u64 v s.eo∧A.le A'):=by
 refine ab Tryz.func287 rfl (by kernel_rfl) fun hw=>?_
 obtain⟨vo,vw,hS⟩:=fW.open h
 have hg:=hS.bR
 revert hS hw;refine W trivial (J2 hg @AW.aa) (J1 ?_)<;>unhygienic intros
 refine bT (gw vw s.eo A (au.is hS.right.right) (by omega)) ?_
 rintro u A1 ⟨h1,h2⟩ iV _
 revert hS hw;(repeat first|clear hS|clear hw|revert hc|revert zn|revert zA|revert R|revert K);refine W trivial trivial (J1 ?_)<;>unhygienic intros
 exact⟨_,by first|(simp;done)|(simp;rfl),h1,h2⟩
section
variable {A:AW} {L K K2:List It} {k:Value→AW→Prop}
theorem EA {t:Int} {vi:Value} {l:List Int} (hw:A.Wf) (hS:ak A L) (hp:ap L (.h (au .i64 vi l)) K) (hl:l.length<2^38)
 (hk:∀n A',ak A' (.h (fW n ⟨t,dV l,[],0,false⟩)::L)→A'.Wf→k (pv n) A'):aC Tryz.prog 254 [.int .i64 t,vi] A k:=by
 refine bT (CI t vi l A (aR L) (ak.nH hS hp) hl hw hS) ?_
 rintro _ A' ⟨n,rfl,h1⟩ km _
 exact hk n A' h1 km
theorem qX {vi vw:Value} {l ws:List Int} (hw:A.Wf) (hS:ak A L) (hp:ap L (.h (au .i64 vi l)) K) (JQ:ap L (.h (au .u64 vw ws)) K2) (hl:l.length<2^38) (he:l.length=ws.length)
 (hk:∀n A',ak A' (.h (gg n ⟨l,ws⟩)::L)→A'.Wf→A.le A'→k (pv n) A'):aC Tryz.prog 245 [vi,vw] A k:=by
 refine bT (Ap vi vw l ws A (aR L) (ak.nH hS hp) (ak.nH hS JQ) he hl hw hS) ?_
 rintro _ A' ⟨n,rfl,h1,h2⟩ km _
 exact hk n A' h1 km h2
theorem CG {vi vw:Value} {l ws:List Int} (hw:A.Wf) (hS:ak A L) (hp:ap L (.h (au .i64 vi l)) K) (JQ:ap L (.h (au .u64 vw ws)) K2) (hl:l.length<2^38) (he:l.length=ws.length)
 (hk:∀n A',ak A' (.h (gg n ⟨l,ws⟩)::L)→A'.Wf→A.le A'→k (pv n) A'):aC Tryz.prog 239 [vi,vw] A k:=by
 refine bT (Ev vi vw l ws A (aR L) (ak.nH hS hp) (ak.nH hS JQ) he hl hw hS) ?_
 rintro _ A' ⟨n,rfl,h1,h2⟩ km _
 exact hk n A' h1 km h2
theorem mD {v:Value} {l:List Int} {rv:Int} (hw:A.Wf) (hS:ak A L) (hp:ap L (.h (au .i64 v l)) K) (hl:l.length<2^38)
 (hk:∀n A',ak A' (.h (io n ⟨l,rv,false⟩)::L)→A'.Wf→A.le A'→k (pv n) A'):aC Tryz.prog 231 [v,.int .i64 rv] A k:=by
 refine bT (EB v l rv A (aR L) (ak.nH hS hp) hl hw hS) ?_
 rintro _ A' ⟨n,rfl,h1,h2⟩ km _
 exact hk n A' h1 km h2
theorem FX {vi:Value} {l:List Int} (hw:A.Wf) (hS:ak A L) (hp:ap L (.h (au .i64 vi l)) K) (hl:l.length<2^38)
 (hk:∀o c A',ak A' (.h (au .i64 (.slice o (dV l).length c) (dV l))::L)→A'.Wf→A.le A'→k (.slice o (dV l).length c) A'):aC Tryz.prog 253 [vi] A k:=by
 refine bT (wu vi l A (ak.nH hS hp) (by omega)) ?_
 rintro u A' ⟨h1,h2⟩ km _
 obtain⟨o,c,rfl,_⟩:=h1.is.dJ
 exact hk o c A' (au.gG hS hw h2 h1) km h2
theorem pZ {n:Nat} {s:nK} (hw:A.Wf) (hS:ak A L) (hp:ap L (.h (mK n s)) K) (hl:s.bU.length<2^38)
 (hk:∀o c A',ak A' (.h (au .i64 (.slice o s.bU.length c) s.bU)::L)→A'.Wf→A.le A'→k (.slice o s.bU.length c) A'):aC Tryz.prog 162 [pv n] A k:=by
 obtain⟨va,vv,vi,h0⟩:=mK.open hS hp
 refine bT (Au n s.ew va vv vi s.bU A (h0.g 0 rfl) (ak.nH h0 (.s .z)) (by omega)) ?_
 rintro u A' ⟨h1,h2⟩ km _
 obtain⟨o,c,rfl,_⟩:=h1.is.dJ
 exact hk o c A' (au.gG hS hw h2 h1) km h2
theorem At {n:Nat} {s:nK} (hw:A.Wf) (hS:ak A L) (hp:ap L (.h (mK n s)) K) (hl:s.ey.length<2^38)
 (hk:∀o c A',ak A' (.h (au .u64 (.slice o s.ey.length c) s.ey)::L)→A'.Wf→A.le A'→k (.slice o s.ey.length c) A'):aC Tryz.prog 240 [pv n] A k:=by
 obtain⟨va,vv,vi,h0⟩:=mK.open hS hp
 refine bT (yL n s.ew va vv vi s.ey A (h0.g 0 rfl) (ak.nH h0 (.s (.s .z))) (by omega)) ?_
 rintro u A' ⟨h1,h2⟩ km _
 obtain⟨o,c,rfl,_⟩:=h1.is.dJ
 exact hk o c A' (au.gG hS hw h2 h1) km h2
theorem nO {n ew:Nat} {l:List Int} (hw:A.Wf) (hS:ak A L) (hp:ap L (.h (rZ n ew l)) K) (hl:l.length<2^38)
 (hk:∀o c A',ak A' (.h (au .i64 (.slice o l.length c) l)::L)→A'.Wf→A.le A'→k (.slice o l.length c) A'):aC Tryz.prog 232 [pv n] A k:=by
 obtain⟨v,h0⟩:=rZ.open hS hp
 refine bT (Cp n ew v l A (h0.g 0 rfl) (ak.nH h0 (.s .z)) (by omega)) ?_
 rintro u A' ⟨h1,h2⟩ km _
 obtain⟨o,c,rfl,_⟩:=h1.is.dJ
 exact hk o c A' (au.gG hS hw h2 h1) km h2
theorem pY {n:Nat} {s:nK} {a:Int} (ko:lV s) (DO:s.ew≤32) (OA:s.index.length≤64) (ha:0≤a) (hw:A.Wf) (hS:ak A L) (hp:ap L (.h (mK n s)) K)
 (hk:k (.tuple #[.int .u64 (jo s a).1,.bool (jo s a).2]) A):aC Tryz.prog 174 [pv n,.int .i64 a] A k:=by
 obtain⟨va,vv,vi,h0⟩:=mK.open hS hp
 refine bT (EH n va vv vi s a A ko ha DO OA (h0.g 0 rfl) (ak.nH h0 (.s .z)) (ak.nH h0 (.s (.s .z))) (ak.nH h0 (.s (.s (.s .z))))) ?_
 rintro _ _ ⟨rfl,rfl⟩ _ _
 exact hk
theorem EJ {n:Nat} {s:gy} (hw:A.Wf) (hS:ak A L) (hp:ap L (.h (fW n s)) K) (hl:s.eo.length<2^38)
 (hk:∀o c A',ak A' (.h (au .u64 (.slice o s.eo.length c) s.eo)::L)→A'.Wf→A.le A'→k (.slice o s.eo.length c) A'):aC Tryz.prog 287 [pv n] A k:=by
 have h0:bz A (fW n s*aR K):=by
  unfold ak at hS
  rw [hp.aR] at hS
  exact hS
 refine bT (CL n s A (aR K) h0 hl) ?_
 rintro u A' ⟨h1,h2⟩ km _
 obtain⟨o,c,rfl,_⟩:=h1.is.dJ
 exact hk o c A' (au.gG hS hw h2 h1) km h2
end
end
section
open T9 T10
variable [Gl]
structure fA (s:aT):Prop where
 cf:b9 s.cf
 Ki:0≤s.am∧s.am<1024
 bp:lV s.bp
 ew:s.bp.ew≤32
 dq:s.bp.index.length≤64
 Dn:∀a∈s.bp.bU,a<2^40
 JU:∀x∈s.ai,0≤x∧x<2^40
 kT:s.ai.length≤8
 push:s.ao≤s.ai.length
 set:s.set.length≤s.cf.reads.toNat
 yx:s.reads.length<2^20
 xn:s.av.length≤8
theorem fA.al {s:aT} (h:fA s):∀x∈s.ai,x<2^62:=fun x hx=>by have:=(h.JU x hx).2;omega
theorem fA.len {s:aT} (h:fA s):s.bp.bU.length≤32:=Nat.le_trans h.bp.ew h.ew
theorem rB (s:aT) (a v:Int):((eB s.bp a v).1=true∧jj s a v=(true,{ s with bp:=(eB s.bp a v).2 }))∨((eB s.bp a v).1=false∧jj s a v=(false,iY s 3)):=by
 unfold jj
 cases h:(eB s.bp a v).1<;>simp
set_option maxRecDepth 20000 in
set_option maxHeartbeats 2000000 in
theorem qS (b:Nat) (s:aT) (a v:Int) (hd:s.aG=.bK) (hC:fA s) (ha:0≤a) :
 aY Tryz.prog 179 [pv b,.int .i64 a,.int .u64 v] [.h (bf b s)] (fun u=>u=.bool (jj s a v).1) (fun _=>[.h (bf b (jj s a v).2)]):=by
 have vE:=rB s a v
 obtain⟨cf,am,aA,ay,value,bL,aj,reads,ai,av,set,bp,ax,an,aI,aH,ao,aG⟩:=s
 dsimp only at hd
 subst hd
 intro A F hw hS
 refine ab Tryz.func179 rfl (by kernel_rfl) fun _=>?_
 obtain⟨⟨bD,bJ,aJ,aX,aW,m,c0,c1,c2,aZ,aE,aL,aN,bk,aS,bP,aO,aM,aB,bc,bd,bZ,bl⟩,hS⟩:=bf.open hS .z
 dsimp only [bx,ei,br,b8,aU.dT,af,ag] at hS
 have hq:=dZ hS hw
 dsimp only at vE
 rcases vE with ⟨h,e⟩|⟨h,e⟩
 · have ki:=wD bJ bp a v hC.bp ha hC.ew hC.dq
   rw [h] at ki
   revert hq hS hw;clear hS;refine Wp (J1 @ki) (J2 @AW.aa @ah.eq_1) (J1 ?_)<;>unhygienic intros
   rw [e]
   refine⟨_,by first|rfl|(simp;rfl),rfl,?_⟩
   apply bf.bS
   (·exact sA)
   (dsimp only [bx,eP,ei,br,b8,aU.dT,ed,cF,cy,dk,cp,dm,eV,cq,cm,bt,dl,dh,eU,di,af,ag])
   try simp only [h]
   (·first|exact pP|exact kP)
   (·first|exact pP|exact kP)
   all_goals(first|exact 0|exact undef)
 · have ki:=wD bJ bp a v hC.bp ha hC.ew hC.dq
   rw [h] at ki
   have iX:(eB bp a v).2=bp:=by
    revert h
    unfold eB
    split
    · simp
    · split<;>simp
   rw [iX] at ki
   revert hq hS hw;(repeat first|clear hq|clear hS|clear hw|revert hc|revert zn|revert zA|revert R|revert K);refine Wp (J2 (Tg.mk (n:=20) (gT b ⟨cf,am,aA,ay,value,bL,aj,reads,ai,av,set,bp,ax,an,aI,aH,ao,.bK⟩ 0 3 .bK hC.cf hC.al hC.push (Nat.lt_of_le_of_lt hC.kT (by decide)))) @ki) (J2 @AW.aa @ah.eq_1) (J1 ?_)<;>unhygienic intros
   rw [e]
   exact⟨_,by first|rfl|(simp;rfl),rfl,ak.bS hS (.s .z (.s .z .z))⟩
theorem fA.to {s s':aT} (hC:fA s) (h1:s'.cf=s.cf) (h2:s'.am=s.am) (h3:s'.bp=s.bp) (h4:s'.ai=s.ai) (h5:s'.ao=s.ao) (h6:s'.set=s.set) (h7:s'.reads=s.reads) (h8:s'.av=s.av):fA s':=by
 obtain⟨cf,am,aA,ay,value,bL,aj,reads,ai,av,set,bp,ax,an,aI,aH,ao,aG⟩:=s
 obtain⟨ZN,MK,O7,lR,O3,V8,L1,Pf,NU,P7,Up,UL,Qn,Pj,RA,Rg,MO,Qj⟩:=s'
 dsimp only at h1 h2 h3 h4 h5 h6 h7 h8
 subst h1 h2 h3 h4 h5 h6 h7 h8
 exact⟨hC.cf,hC.Ki,hC.bp,hC.ew,hC.dq,hC.Dn,hC.JU,hC.kT,hC.push,hC.set,hC.yx,hC.xn⟩
theorem Eg (p:oO) (M:Mm):(fK p M).2.1.d5=p.d5:=by
 rcases Bo p M with ⟨h,e⟩|⟨h,e⟩|⟨h,e⟩|⟨w,h,e⟩|⟨w,h,e⟩|⟨h,e⟩<;>rw [e]
end
end Go.Stx
