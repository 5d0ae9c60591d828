/-
 The program's attempt: what ends it.
-/
import Derived.Test.YtncmjklabcoeaaaGreatD17
import Derived.Test.YtncmjklabcoeaaaGreatD16
import Derived.Test.YtncmjklabcoeaaaGreatD15
import Derived.Test.YtncmjklabcoeaaaGreatD18
set_option linter.unusedVariables false
set_option linter.unusedSimpArgs false
set_option maxRecDepth 20000
set_option maxHeartbeats 4000000
namespace Go.Stx
open Go Go.Proofs
attribute [local irreducible] fj cm aH bB dK ei
section
abbrev Du:List (Nat×Nat):=[(0,0),(1,0),(2,0),(3,0),(4,0),(5,0),(6,0),(7,0),(8,0),(9,0),(10,0),(11,0),(12,0),(13,0),(14,0),(15,0),(16,0),(17,0)]
abbrev Dt:List (Nat×Nat):=[(0,0),(1,0),(2,0),(3,0),(4,0),(5,0),(6,0),(7,0),(8,0),(9,0),(10,0),(11,0)]
open T15 T16
theorem DS (s:aD):(s.ax=1∧gg s={ s with aA:=.fW })∨((¬s.ax=1∧(s.am:Int)=s.ac.length)∧gg s={ s with aA:=.fW }) ∨
 ((¬s.ax=1∧¬(s.am:Int)=s.ac.length)∧gg s={ s with aA:=.eZ ⟨ds s.cf (s.ac.getD s.am 0),s.ac.getD s.am 0,0,0⟩ }):=by
 unfold gg
 by_cases h1:s.ax=1
 · simp [h1]
 by_cases h2:s.am=s.ac.length
 · simp [h1,h2]
 · have h3:¬(s.am:Int)=s.ac.length:=by omega
   simp [h1,h2,h3]
theorem se (b:Nat) (s:aD) (cj:Int) (d:ba) (hc:dt s.cf) (uZ:∀x∈s.ac,x<2^62) (hp:s.am≤s.ac.length) (hl:s.ac.length<2^38) :
 aP Tryz.prog 55 [pv b] [.h (gW b s cj d)] (fun _=>True) (fun _=>[.h (bI b (gg s))]):=by
 intro A F hw hS
 refine ab Tryz.func55 rfl (by kernel_rfl) fun _=>?_
 obtain⟨⟨bh,aY,az,aJ,aK,m,c0,c1,c2,bx,aw,aB,aV,bQ,bg,cE,aW,aU,aC,bA,bC,cP,bR⟩,hS⟩:=gW.open hS .z
 dsimp only [cg,na,zo] at hS
 have hq:=Z0 hS hw
 have hI:=an.gM hS (.s (.s (.s (.s (.s (.s (.s .z)))))))
 obtain⟨oa,ca,rfl,_⟩:=hI.cL
 rcases DS s with ⟨h,e⟩|⟨h,e⟩|⟨h,e⟩
 · revert hq hS hw hc;clear hS;refine Wp (J2 (od Du) (od Dt)) (J3 h @AW.aa @af.eq_1) (J1 ?_)<;>unhygienic intros
   refine⟨_,by first|rfl|(simp;rfl),trivial,?_⟩
   rw [e]
   apply bI.cC
   (·exact sA)
   (dsimp only [cg,fi,fq,bW,da,ba.eo,bJ,aT,aQ,dT,cY,dV,fC,cZ,cW,bV,dU,dR,fB,dS,na,zo])
   try simp only [h]
   (·first|exact pP|exact kP)
   (·first|exact pP|exact kP)
   all_goals(first|exact 0|exact undef)
 · revert hq hS hw;(repeat first|clear hq|clear hS|clear hw|revert hc|revert zn|revert zA|revert R|revert K);refine Wp (J2 (od Du) (od Dt)) (J3 h @AW.aa @af.eq_1) (J1 ?_)<;>unhygienic intros
   refine⟨_,by first|rfl|(simp;rfl),trivial,?_⟩
   rw [e]
   apply bI.cC
   (·exact sA)
   (dsimp only [cg,fi,fq,bW,da,ba.eo,bJ,aT,aQ,dT,cY,dV,fC,cZ,cW,bV,dU,dR,fB,dS,na,zo])
   try simp only [h]
   (·first|exact pP|exact kP)
   (·first|exact pP|exact kP)
   all_goals(first|exact 0|exact undef)
 · have dQ:s.am<s.ac.length:=by omega
   have ey:(s.am:Int)<s.ac.length:=by omega
   obtain⟨p,dh,rfl,eH,dg⟩:=hI.at dQ
   have Mz:s.ac[s.am]=s.ac.getD s.am 0:=by rw [List.getD_eq_getElem?_getD,List.getElem?_eq_getElem dQ];rfl
   have hx:s.ac.getD s.am 0<2^62:=by rw [←Mz];exact uZ _ (List.getElem_mem dQ)
   rw [Mz] at dg
   generalize s.ac.getD s.am 0=x at *
   have iz:=zZ s.cf hc x hx
   dsimp only [bG.v] at iz
   revert hq hS hw;(repeat first|clear hq|clear hS|clear hw|revert hc|revert zn|revert zA|revert R|revert K);refine Wp (J4 (od Du) (od Dt) @iz @Dx) (J7 h eH dg dQ ey @AW.aa @af.eq_1) (J1 ?_)<;>unhygienic intros
   refine⟨_,by first|rfl|(simp;rfl),trivial,?_⟩
   rw [e]
   apply bI.cC
   (·exact sA)
   (dsimp only [cg,fi,fq,bW,da,ba.eo,bJ,aT,aQ,dT,cY,dV,fC,cZ,cW,bV,dU,dR,fB,dS,na,zo])
   try simp only [h]
   (·first|exact pP|exact kP)
   (·first|exact pP|exact kP)
   all_goals(first|exact 0|exact undef)
theorem iO (b:Nat) (s:aD) (cj ax:Int) (d:ba) (hc:dt s.cf) (uZ:∀x∈s.ac,x<2^62) (hp:s.am≤s.ac.length) (hl:s.ac.length<2^38) :
 aP Tryz.prog 78 [pv b,.int .i64 ax] [.h (gW b s cj d)] (fun _=>True) (fun _=>[.h (bI b (gy s ax))]):=by
 intro A F hw hS
 refine ab Tryz.func78 rfl (by kernel_rfl) fun _=>?_
 obtain⟨⟨bh,aY,az,aJ,aK,m,c0,c1,c2,bx,aw,aB,aV,bQ,bg,cE,aW,aU,aC,bA,bC,cP,bR⟩,hS⟩:=gW.open hS .z
 dsimp only [cg,na,zo] at hS
 have hq:=Z0 hS hw
 repeat' (first
 | (refine il fun R hR=>?_;simp [ak,au,hq,AW.aa,af];try simp (disch:=omega) only [if_pos,if_neg,ak,au])
 | (refine hR _ _ ?_;clear hR R)|(refine hK _ _ ?_;clear hK K)|refine nx ?_
 | refine wn fun K hK=>?_
 | simp only [wS]
 | (apply aP.Jb (se b { s with ax:=ax } cj d hc uZ hp hl);(·exact wA);(·exact sA);(·exact fP);(·first|exact pP|exact kP);(rintro _ _ _ hS hw _;have hS:=lA hS);(try (have hq:=ZT hS hw));all_goals(try (first|exact 0|exact undef)))
 | refine wb ?_|refine wr ?_|refine wk ?_|refine we ?_|refine ws ?_|refine wq ?_
 | (refine wc rfl (fun hc=>?_) (fun hc=>?_)<;>(try simp at hc)<;>(try omega)<;>(try (simp [h2] at hc;done))<;>(try (simp [h3] at hc;done))<;>(try (simp [h4] at hc;done)))
 | (refine ib (fun hc=>?_) (fun hc=>?_)<;>(try omega)<;>(try simp (disch:=omega) only [if_pos,if_neg])))
 exact⟨_,by first|rfl|(simp;rfl),trivial,an.cC hS (.s .z (.s .z .z))⟩
end
section
open T0
theorem DC (b:Nat) (s:eM) (A:AW) (F:HP) (h:bK A (gG b s*F)) (hl:s.dH.length<2^38) :
 aH Tryz.prog 227 [.pointer (some ⟨b,0,none⟩)] A (fun v A'=>dk A.next A' .u64 v s.dH∧A.le A'):=by
 refine ab Tryz.func227 rfl (by kernel_rfl) fun hw=>?_
 obtain⟨vo,vw,hS⟩:=gG.open h
 have hg:=hS.cy
 revert hS hw;refine W trivial (J2 hg @AW.aa) (J1 ?_)<;>unhygienic intros
 refine bD (ir vw s.dH A (ar.is hS.right.right) (by omega)) ?_
 rintro u A1 ⟨h1,h2⟩ gJ _
 revert hS hw;(repeat first|clear hS|clear hw|revert hc|revert zn|revert zA|revert R|revert K);refine W trivial trivial (J1 ?_)<;>unhygienic intros
 exact⟨_,by first|(simp;done)|(simp;rfl),h1,h2⟩
section
variable {A:AW} {L K K2:List It} {k:Value→AW→Prop}
theorem FM {t:Int} {vi:Value} {l:List Int} (hw:A.Wf) (hS:an A L) (hp:ay L (.h (ar .i64 vi l)) K) (hl:l.length<2^38)
 (hk:∀n A',an A' (.h (gG n ⟨t,dX l,[],0,false⟩)::L)→A'.Wf→k (pv n) A'):aH Tryz.prog 166 [.int .i64 t,vi] A k:=by
 refine bD (Dy t vi l A (bn L) (an.gM hS hp) hl hw hS) ?_
 rintro _ A' ⟨n,rfl,h1⟩ gY _
 exact hk n A' h1 gY
theorem rW {vi vw:Value} {l ws:List Int} (hw:A.Wf) (hS:an A L) (hp:ay L (.h (ar .i64 vi l)) K) (EL:ay L (.h (ar .u64 vw ws)) K2) (hl:l.length<2^38) (he:l.length=ws.length)
 (hk:∀n A',an A' (.h (gV n ⟨l,ws⟩)::L)→A'.Wf→A.le A'→k (pv n) A'):aH Tryz.prog 155 [vi,vw] A k:=by
 refine bD (Bu vi vw l ws A (bn L) (an.gM hS hp) (an.gM hS EL) he hl hw hS) ?_
 rintro _ A' ⟨n,rfl,h1,h2⟩ gY _
 exact hk n A' h1 gY h2
theorem Dv {vi vw:Value} {l ws:List Int} (hw:A.Wf) (hS:an A L) (hp:ay L (.h (ar .i64 vi l)) K) (EL:ay L (.h (ar .u64 vw ws)) K2) (hl:l.length<2^38) (he:l.length=ws.length)
 (hk:∀n A',an A' (.h (gV n ⟨l,ws⟩)::L)→A'.Wf→A.le A'→k (pv n) A'):aH Tryz.prog 149 [vi,vw] A k:=by
 refine bD (FI vi vw l ws A (bn L) (an.gM hS hp) (an.gM hS EL) he hl hw hS) ?_
 rintro _ A' ⟨n,rfl,h1,h2⟩ gY _
 exact hk n A' h1 gY h2
theorem nI {v:Value} {l:List Int} {rv:Int} (hw:A.Wf) (hS:an A L) (hp:ay L (.h (ar .i64 v l)) K) (hl:l.length<2^38)
 (hk:∀n A',an A' (.h (iV n ⟨l,rv,false⟩)::L)→A'.Wf→A.le A'→k (pv n) A'):aH Tryz.prog 142 [v,.int .i64 rv] A k:=by
 refine bD (FN v l rv A (bn L) (an.gM hS hp) hl hw hS) ?_
 rintro _ A' ⟨n,rfl,h1,h2⟩ gY _
 exact hk n A' h1 gY h2
theorem G9 {vi:Value} {l:List Int} (hw:A.Wf) (hS:an A L) (hp:ay L (.h (ar .i64 vi l)) K) (hl:l.length<2^38)
 (hk:∀o c A',an A' (.h (ar .i64 (.slice o (dX l).length c) (dX l))::L)→A'.Wf→A.le A'→k (.slice o (dX l).length c) A'):aH Tryz.prog 165 [vi] A k:=by
 refine bD (wy vi l A (an.gM hS hp) (by omega)) ?_
 rintro u A' ⟨h1,h2⟩ gY _
 obtain⟨o,c,rfl,_⟩:=h1.is.cL
 exact hk o c A' (ar.kZ hS hw h2 h1) gY h2
theorem uQ {n:Nat} {s:ln} (hw:A.Wf) (hS:an A L) (hp:ay L (.h (fY n s)) K) (hl:s.bl.length<2^38)
 (hk:∀o c A',an A' (.h (ar .i64 (.slice o s.bl.length c) s.bl)::L)→A'.Wf→A.le A'→k (.slice o s.bl.length c) A'):aH Tryz.prog 150 [pv n] A k:=by
 obtain⟨va,vv,vi,h0⟩:=fY.open hS hp
 refine bD (tk n s.dA va vv vi s.bl A (h0.g 0 rfl) (an.gM h0 (.s .z)) (by omega)) ?_
 rintro u A' ⟨h1,h2⟩ gY _
 obtain⟨o,c,rfl,_⟩:=h1.is.cL
 exact hk o c A' (ar.kZ hS hw h2 h1) gY h2
theorem Bx {n:Nat} {s:ln} (hw:A.Wf) (hS:an A L) (hp:ay L (.h (fY n s)) K) (hl:s.df.length<2^38)
 (hk:∀o c A',an A' (.h (ar .u64 (.slice o s.df.length c) s.df)::L)→A'.Wf→A.le A'→k (.slice o s.df.length c) A'):aH Tryz.prog 151 [pv n] A k:=by
 obtain⟨va,vv,vi,h0⟩:=fY.open hS hp
 refine bD (zr n s.dA va vv vi s.df A (h0.g 0 rfl) (an.gM h0 (.s (.s .z))) (by omega)) ?_
 rintro u A' ⟨h1,h2⟩ gY _
 obtain⟨o,c,rfl,_⟩:=h1.is.cL
 exact hk o c A' (ar.kZ hS hw h2 h1) gY h2
theorem oY {n dA:Nat} {l:List Int} (hw:A.Wf) (hS:an A L) (hp:ay L (.h (oV n dA l)) K) (hl:l.length<2^38)
 (hk:∀o c A',an A' (.h (ar .i64 (.slice o l.length c) l)::L)→A'.Wf→A.le A'→k (.slice o l.length c) A'):aH Tryz.prog 143 [pv n] A k:=by
 obtain⟨v,h0⟩:=oV.open hS hp
 refine bD (C2 n dA v l A (h0.g 0 rfl) (an.gM h0 (.s .z)) (by omega)) ?_
 rintro u A' ⟨h1,h2⟩ gY _
 obtain⟨o,c,rfl,_⟩:=h1.is.cL
 exact hk o c A' (ar.kZ hS hw h2 h1) gY h2
theorem FV {n:Nat} {s:eM} (hw:A.Wf) (hS:an A L) (hp:ay L (.h (gG n s)) K) (hl:s.dH.length<2^38)
 (hk:∀o c A',an A' (.h (ar .u64 (.slice o s.dH.length c) s.dH)::L)→A'.Wf→A.le A'→k (.slice o s.dH.length c) A'):aH Tryz.prog 227 [pv n] A k:=by
 have h0:bK A (gG n s*bn K):=by
  unfold an at hS
  rw [hp.bn] at hS
  exact hS
 refine bD (DC n s A (bn K) h0 hl) ?_
 rintro u A' ⟨h1,h2⟩ gY _
 obtain⟨o,c,rfl,_⟩:=h1.is.cL
 exact hk o c A' (ar.kZ hS hw h2 h1) gY h2
end
end
section
open T15 T16
structure ep (s:aD):Prop where
 cf:dt s.cf
 G2:0≤s.ag∧s.ag<1024
 aM:jq s.aM
 dA:s.aM.dA≤32
 cc:s.aM.index.length≤64
 I6:∀a∈s.aM.bl,a<2^40
 GU:∀x∈s.ac,0≤x∧x<2^40
 kN:s.ac.length≤8
 push:s.am≤s.ac.length
 set:s.set.length≤s.cf.ah.toNat
 EG:s.ah.length<2^20
 EQ:s.ap.length≤8
theorem ep.al {s:aD} (h:ep s):∀x∈s.ac,x<2^62:=fun x hx=>by have:=(h.GU x hx).2;omega
theorem ep.len {s:aD} (h:ep s):s.aM.bl.length≤32:=Nat.le_trans h.aM.dA h.dA
theorem sD (s:aD) (a v:Int):((di s.aM a v).1=true∧iI s a v=(true,{ s with aM:=(di s.aM a v).2 }))∨((di s.aM a v).1=false∧iI s a v=(false,gy s 3)):=by
 unfold iI
 cases h:(di s.aM a v).1<;>simp
theorem rL (b:Nat) (s:aD) (a v:Int) (hd:s.aA=.bm) (hC:ep s) (ha:0≤a) :
 aP Tryz.prog 62 [pv b,.int .i64 a,.int .u64 v] [.h (bI b s)] (fun u=>u=.bool (iI s a v).1) (fun _=>[.h (bI b (iI s a v).2)]):=by
 have pO:=sD s a v
 obtain⟨cf,ag,av,ax,value,br,ai,ah,ac,ap,set,aM,ao,aj,aG,aE,am,aA⟩:=s
 dsimp only at hd
 subst hd
 intro A F hw hS
 refine ab Tryz.func62 rfl (by kernel_rfl) fun _=>?_
 obtain⟨⟨bh,aY,az,aJ,aK,m,c0,c1,c2,bx,aw,aB,aV,bQ,bg,cE,aW,aU,aC,bA,bC,cP,bR⟩,hS⟩:=bI.open hS .z
 dsimp only [cg,fq,bW,da,ba.eo,na,zo] at hS
 have hq:=ZN hS hw
 dsimp only at pO
 rcases pO with ⟨h,e⟩|⟨h,e⟩
 · have GP:=wN aY aM a v hC.aM ha hC.dA hC.cc
   rw [h] at GP
   revert hq hS hw;clear hS;refine Wp (J1 @GP) (J2 @AW.aa @af.eq_1) (J1 ?_)<;>unhygienic intros
   rw [e]
   refine⟨_,by first|rfl|(simp;rfl),rfl,?_⟩
   apply bI.cC
   (·exact sA)
   (dsimp only [cg,fi,fq,bW,da,ba.eo,bJ,aT,aQ,dT,cY,dV,fC,cZ,cW,bV,dU,dR,fB,dS,na,zo])
   try simp only [h]
   (·first|exact pP|exact kP)
   (·first|exact pP|exact kP)
   all_goals(first|exact 0|exact undef)
 · have GP:=wN aY aM a v hC.aM ha hC.dA hC.cc
   rw [h] at GP
   have ke:(di aM a v).2=aM:=by
    revert h
    unfold di
    split
    · simp
    · split<;>simp
   rw [ke] at GP
   revert hq hS hw;(repeat first|clear hq|clear hS|clear hw|revert hc|revert zn|revert zA|revert R|revert K);refine Wp (J2 (Tg.mk (n:=20) (iO b ⟨cf,ag,av,ax,value,br,ai,ah,ac,ap,set,aM,ao,aj,aG,aE,am,.bm⟩ 0 3 .bm hC.cf hC.al hC.push (Nat.lt_of_le_of_lt hC.kN (by decide)))) @GP) (J2 @AW.aa @af.eq_1) (J1 ?_)<;>unhygienic intros
   rw [e]
   exact⟨_,by first|rfl|(simp;rfl),rfl,an.cC hS (.s .z (.s .z .z))⟩
theorem ep.to {s s':aD} (hC:ep s) (h1:s'.cf=s.cf) (h2:s'.ag=s.ag) (h3:s'.aM=s.aM) (h4:s'.ac=s.ac) (h5:s'.am=s.am) (h6:s'.set=s.set) (h7:s'.ah=s.ah) (h8:s'.ap=s.ap):ep s':=by
 obtain⟨cf,ag,av,ax,value,br,ai,ah,ac,ap,set,aM,ao,aj,aG,aE,am,aA⟩:=s
 obtain⟨YO,MR,O0,mL,OX,UY,LY,O8,N7,P6,Tl,TB,Qe,Pc,Rk,Q0,M1,Qa⟩:=s'
 dsimp only at h1 h2 h3 h4 h5 h6 h7 h8
 subst h1 h2 h3 h4 h5 h6 h7 h8
 exact⟨hC.cf,hC.G2,hC.aM,hC.dA,hC.cc,hC.I6,hC.GU,hC.kN,hC.push,hC.set,hC.EG,hC.EQ⟩
theorem wI (p:mN) (M:Mm):(fx p M).2.1.dB=p.dB:=by
 rcases vK p M with ⟨h,e⟩|⟨h,e⟩|⟨h,e⟩|⟨w,h,e⟩|⟨w,h,e⟩|⟨h,e⟩<;>rw [e]
end
section
abbrev IA:List (Nat×Nat):=[(0,0),(1,0),(2,0),(3,0),(4,0),(5,0),(6,0),(7,0),(8,0),(9,0),(10,0),(11,2),(12,2),(13,0),(14,0),(15,3),(16,0),(17,0),(18,0),(19,3)]
abbrev uN:List (Nat×Nat):=[(0,0),(1,0),(2,0),(3,0),(4,0),(5,0),(6,0),(7,0),(8,0),(9,0),(10,3),(11,0),(12,0),(13,3),(14,0),(15,0),(16,0),(17,3)]
open T15 T16
theorem qA (b:Nat) (s:aD) (cj:Int) (d:ba) (hl:s.aj.length<2^20) (IQ:s.aj.length=0∨∃l,s.aG=some l∧s.aj.length=l.dH.length) :
 aP Tryz.prog 147 [pv b] [.h (gW b s cj d)] (fun _=>True) (fun _=>[.h (bI b (fH s))]):=by
 obtain⟨cf,ag,av,ax,value,br,ai,ah,ac,ap,set,aM,ao,aj,aG,aE,am,aA⟩:=s
 dsimp only at hl IQ
 by_cases h0:aj.length=0
 · have e:fH ⟨cf,ag,av,ax,value,br,ai,ah,ac,ap,set,aM,ao,aj,aG,aE,am,aA⟩=⟨cf,ag,av,ax,value,br,ai,ah,ac,ap,set,aM,ao,aj,aG,aE,am,.fm⟩:=if_pos h0
   intro A F hw hS
   refine ab Tryz.func147 rfl (by kernel_rfl) fun _=>?_
   obtain⟨⟨bh,aY,az,aJ,aK,m,c0,c1,c2,bx,aw,aB,aV,bQ,bg,cE,aW,aU,aC,bA,bC,cP,bR⟩,hS⟩:=gW.open hS .z
   dsimp only [cg,na,zo] at hS
   have hq:=ZN hS hw
   obtain⟨oo,co,rfl,_⟩:=(an.gM hS (.s (.s (.s (.s (.s (.s (.s (.s (.s .z)))))))))).cL
   have h1:(aj.length:Int)=0:=by omega
   revert hq hS hw;clear hS;refine Wp (J1 (od IA)) (J3 h1 @AW.aa @af.eq_1) (J1 ?_)<;>unhygienic intros
   rw [e]
   refine⟨_,by first|rfl|(simp;rfl),trivial,?_⟩
   apply bI.cC
   (·exact sA)
   (dsimp only [cg,fi,fq,bW,da,ba.eo,bJ,aT,aQ,dT,cY,dV,fC,cZ,cW,bV,dU,dR,fB,dS,na,zo])
   try simp only [h]
   (·first|exact pP|exact kP)
   (·first|exact pP|exact kP)
   all_goals(first|exact 0|exact undef)
 · obtain⟨l,rfl,AA⟩:∃l,aG=some l∧aj.length=l.dH.length:=by
    rcases IQ with h|h
    · exact absurd h h0
    · exact h
   have e:fH ⟨cf,ag,av,ax,value,br,ai,ah,ac,ap,set,aM,ao,aj,some l,aE,am,aA⟩=⟨cf,ag,av,ax,value,br,ai,ah,ac,ap,set,aM,ao,aj,some l,aE,am,.cK ⟨aj,l.dH⟩⟩:=if_neg h0
   intro A F hw hS
   refine ab Tryz.func147 rfl (by kernel_rfl) fun _=>?_
   obtain⟨⟨bh,aY,az,aJ,aK,m,c0,c1,c2,bx,aw,aB,aV,bQ,bg,cE,aW,aU,aC,bA,bC,cP,bR⟩,hS⟩:=gW.open hS .z
   dsimp only [cg,na,zo] at hS
   have hq:=ZN hS hw
   have hS:=oO.op hS (.s (.s .z))
   obtain⟨oo,co,rfl,_⟩:=(an.gM hS (.s (.s (.s (.s (.s (.s (.s (.s (.s .z)))))))))).cL
   dsimp only [aT] at hq
   have h1:¬(aj.length:Int)=0:=by omega
   have h2:¬aj=[]:=fun h=>by rw [h] at h0;exact h0 rfl
   revert hq hS hw;(repeat first|clear hq|clear hS|clear hw|revert hc|revert zn|revert zA|revert R|revert K);refine Wp (J3 (Tg.mk (n:=11) @FV) (Tg.mk (n:=12) @rW) (od IA)) (J4 h1 h2 @AW.aa @af.eq_1) (J1 ?_)<;>unhygienic intros
   rw [e]
   refine⟨_,by first|rfl|(simp;rfl),trivial,?_⟩
   apply bI.cC
   (·exact sA)
   (dsimp only [cg,fi,fq,bW,da,ba.eo,bJ,aT,aQ,dT,cY,dV,fC,cZ,cW,bV,dU,dR,fB,dS,na,zo])
   try simp only [h]
   (·first|exact pP|exact kP)
   (·first|exact pP|exact kP)
   all_goals(first|exact 0|exact undef)
theorem AS (l:List Int):(dX l).length≤l.length:=by
 have:=sq (oX l)
 simpa [dX,oX] using this
theorem Cv (s:aD) (ax:Int):((decide (ax=1) && decide (0<s.aM.bl.length))=false∧nN s ax={ s with ax:=ax,aE:=some ⟨false,0,false⟩,aA:=.dI }) ∨
 ((decide (ax=1) && decide (0<s.aM.bl.length))=true∧nN s ax={ s with ax:=ax,aj:=dX (s.aM.bl.map (fJ s.cf)),aG:=some ⟨s.ag,dX (dX (s.aM.bl.map (fJ s.cf))),[],0,false⟩,aA:=.fF }):=by
 unfold nN
 cases h:(decide (ax=1) && decide (0<s.aM.bl.length))<;>simp
theorem sk (b:Nat) (s:aD) (mL:Int) (hd:s.aA=.bm) (hC:ep s) :
 aP Tryz.prog 61 [pv b,.int .i64 mL] [.h (bI b s)] (fun _=>True) (fun _=>[.h (bI b (nN s mL))]):=by
 have pO:=Cv s mL
 obtain⟨cf,ag,av,ax,value,br,ai,ah,ac,ap,set,aM,ao,aj,aG,aE,am,aA⟩:=s
 dsimp only at hd
 subst hd
 intro A F hw hS
 refine ab Tryz.func61 rfl (by kernel_rfl) fun _=>?_
 obtain⟨⟨bh,aY,az,aJ,aK,m,c0,c1,c2,bx,aw,aB,aV,bQ,bg,cE,aW,aU,aC,bA,bC,cP,bR⟩,hS⟩:=bI.open hS .z
 dsimp only [cg,fq,bW,da,ba.eo,na,zo] at hS
 have hq:=ZN hS hw
 dsimp only at pO
 have cU:=hC.len
 dsimp only at cU
 have dn:∀A',A'.Wf→an A' [.h (gW b ⟨cf,ag,av,mL,value,br,ai,ah,ac,ap,set,aM,ao,aj,aG,aE,am,.bm⟩ 0 .bm)]→eF 119 [pv b] A' (.bool (decide (mL=1) && decide (0<aM.bl.length))):=
  fun A' h1 h2=>kj b _ 0 .bm A' h1 h2
 rcases pO with ⟨h,e⟩|⟨h,e⟩
 · rw [h] at dn
   rw [e]
   revert hq hS hw;clear hS;refine Wp (J3 (Tg.mk (n:=30) @dn) (od uN) @lP) (J2 @AW.aa @af.eq_1) (J1 ?_)<;>unhygienic intros
   refine⟨_,by first|rfl|(simp;rfl),trivial,?_⟩
   apply bI.cC
   (·exact sA)
   (dsimp only [cg,fi,fq,bW,da,ba.eo,bJ,aT,aQ,dT,cY,dV,fC,cZ,cW,bV,dU,dR,fB,dS,na,zo])
   try simp only [h]
   (·first|exact pP|exact kP)
   (·first|exact pP|exact kP)
   all_goals(first|exact 0|exact undef)
 · rw [h] at dn
   rw [e]
   revert hq hS hw;(repeat first|clear hq|clear hS|clear hw|revert hc|revert zn|revert zA|revert R|revert K);refine Wp (J2 (Tg.mk (n:=30) @dn) (od uN)) (J2 @AW.aa @af.eq_1) (J1 ?_)<;>unhygienic intros
   apply uQ (n:=aY) (s:=aM)
   (·exact wA)
   (·exact sA)
   (·first|exact pP|exact kP)
   · omega
   intro o1 c3 A1 hS hw _
   have hS:an A1 (.h (ar .i64 (.slice o1 aM.bl.length c3) aM.bl)::(cg b ⟨cf,ag,av,mL,value,br,ai,ah,ac,ap,set,aM,ao,aj,aG,aE,am,.bm⟩ 0 .bm ⟨bh,aY,az,aJ,aK,m,c0,c1,c2,bx,aw,aB,aV,bQ,bg,cE,aW,aU,aC,bA,bC,cP,bR⟩++[.h F])):=by
    apply an.cC hS
    dsimp only [cg,fi,fq,bW,da,ba.eo,dT,cY,dV,fC,cZ,cW,bV,dU,dR,fB,dS,na,zo]
    (·first|exact pP|exact kP)
   have kU:=sE cf hC.cf
   dsimp only [bG.v] at kU
   generalize hn:aM.bl=ad at *
   revert hq hS hw;(repeat first|clear hq|clear hS|clear hw|revert hc|revert zn|revert zA|revert R|revert K);refine Wp (J1 (od uN)) (J2 @AW.aa @af.eq_1) (J1 ?_)<;>unhygienic intros
   refine ed (fun k fr A'=>A'.Wf∧∃(i:Nat) (v:Value) (q:List Int),q=(ad.take i).map (fJ cf)∧k=ad.length-i∧i≤ad.length∧fr 0=pv b∧fr 4=v∧fr 27=.slice o1 ad.length c3∧fr 28=.int .i64 ad.length∧fr 29=.int .i64 i∧
    an A' (.h (ar .i64 v q)::.h (ar .i64 (.slice o1 ad.length c3) ad)::(cg b ⟨cf,ag,av,mL,value,br,ai,ah,ac,ap,set,aM,ao,aj,aG,aE,am,.bm⟩ 0 .bm ⟨bh,aY,az,aJ,aK,m,c0,c1,c2,bx,aw,aB,aV,bQ,bg,cE,aW,aU,aC,bA,bC,cP,bR⟩++[.h F]))) ad.length ?_ ?_
   · refine⟨hw,0,.slice none 0 0,[],by simp,by simp,by simp,by simp,by simp,by simp,by simp,by simp,?_⟩
     simpa using an.rV .i64 hS
   · rintro k fr A' ⟨hw,i,v,q,zD,rfl,hi,h0,h4,Sd,UU,QN,hS⟩
     have hI:=an.gM hS (.s .z)
     have ME:=an.gM hS .z
     have Lu:q.length=i:=by rw [zD];simp;omega
     obtain⟨ov,cv,rfl,_⟩:=ME.cL
     dsimp only [cg,fi,fq,bW,da,ba.eo,dT,cY,dV,fC,cZ,cW,bV,dU,dR,fB,dS,na,zo] at hS
     have hq:=Z0 hS hw
     refine eW ?_
     by_cases dQ:i<ad.length
     · have ey:(i:Int)<ad.length:=by omega
       have mc:IntKind.i64.wrap ((i:Int)+1)=((i+1:Nat):Int):=ak (by omega) (by omega)
       obtain⟨p,dh,rfl,eH,dg⟩:=hI.at dQ
       revert hq hS hw;(repeat first|clear hq|clear hS|clear hw|revert hc|revert zn|revert zA|revert R|revert K);refine Kv (J2 (od uN) @kU) (Ml h0 h4 Sd UU QN eH dg dQ ey mc @AW.aa @af.eq_1) (J1 ?_)<;>unhygienic intros
       refine⟨ad.length-(i+1),by omega,hw,i+1,_,q++[fJ cf ad[i]],?_,rfl,by omega,by simp [h0],by simp;rfl,by simp [Sd],by simp [UU],by simp,?_⟩
       · rw [zD,List.take_succ_eq_append_getElem dQ,List.map_append];rfl
       · apply an.cC hS
         dsimp only [cg,fi,fq,bW,da,ba.eo,dT,cY,dV,fC,cZ,cW,bV,dU,dR,fB,dS,na,zo]
         (·first|exact pP|exact kP)
     · have zG:i=ad.length:=by omega
       subst zG
       rw [List.take_length] at zD
       have vP:(dX q).length≤q.length:=AS q
       revert hq hS hw;(repeat first|clear hq|clear hS|clear hw|revert hc|revert zn|revert zA|revert R|revert K);refine Wp (J3 (Tg.mk (n:=11) @G9) (Tg.mk (n:=11) @FM) (od uN)) (J7 h0 h4 Sd UU QN @AW.aa @af.eq_1) (J1 ?_)<;>unhygienic intros
       rw [←zD]
       refine⟨_,by first|rfl|(simp;rfl),trivial,?_⟩
       apply bI.cC
       (·exact sA)
       (dsimp only [cg,fi,fq,bW,da,ba.eo,bJ,aT,aQ,dT,cY,dV,fC,cZ,cW,bV,dU,dR,fB,dS,na,zo])
       try simp only [h]
       (·first|exact pP|exact kP)
       (·first|exact pP|exact kP)
       all_goals(first|exact 0|exact undef)
end
section
open T15 T16
section
variable {A:AW} {L K:List It} {k:Value→AW→Prop} {b:Nat} {s:aD} {cj:Int}
theorem jw {fn:Fn} {cs:Array Value} {bh aY az aJ aK m c0 c1 c2:Nat} {bx aw aB aV bQ bg cE aW aU aC bA bC cP bR:Value} (hw:A.Wf) (hS:an A L) (e:aX L (cg b s cj .bm ⟨bh,aY,az,aJ,aK,m,c0,c1,c2,bx,aw,aB,aV,bQ,bg,cE,aW,aU,aC,bA,bC,cP,bR⟩) K)
 (hk:∀v A',an A' (cg b s 1 .bm ⟨bh,aY,az,aJ,aK,m,c0,c1,c2,bx,aw,aB,aV,bQ,bg,cE,aW,aU,aC,bA,.func fn #[] cs,cP,bR⟩++K)→A'.Wf→k v A'):aH Tryz.prog 58 [pv b,.func fn #[] cs] A k:=by
 have key:aP Tryz.prog 58 [pv b,.func fn #[] cs] (cg b s cj .bm ⟨bh,aY,az,aJ,aK,m,c0,c1,c2,bx,aw,aB,aV,bQ,bg,cE,aW,aU,aC,bA,bC,cP,bR⟩) (fun _=>True) (fun _=>cg b s 1 .bm ⟨bh,aY,az,aJ,aK,m,c0,c1,c2,bx,aw,aB,aV,bQ,bg,cE,aW,aU,aC,bA,.func fn #[] cs,cP,bR⟩):=by
  intro A F hw hS
  refine ab Tryz.func58 rfl (by kernel_rfl) fun _=>?_
  dsimp only [cg,na,zo] at hS
  have hq:=ZN hS hw
  revert hq hS hw;clear hS;clear hw;refine Wp trivial (J2 @AW.aa @af.eq_1) (J1 ?_)<;>unhygienic intros
  refine⟨_,by first|rfl|(simp;rfl),trivial,?_⟩
  apply an.cC
  (·exact sA)
  (dsimp only [cg,fi,dT,cY,dV,fC,cZ,cW,bV,dU,dR,fB,dS,na,zo])
  (·first|exact pP|exact kP)
 exact key.el hw hS e fun v A' _ h1 h2 _=>hk v A' h1 h2
end
end
end Go.Stx
