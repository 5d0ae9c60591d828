/-
 The reference's attempt: steps.
-/
import Derived.Test.YtncmjklabcoeaaaGreatG37
import Derived.Test.YtncmjklabcoeaaaGreatG39
import Derived.Test.YtncmjklabcoeaaaGreatG45
set_option linter.unusedVariables false
set_option linter.unusedSimpArgs false
set_option maxRecDepth 20000
set_option maxHeartbeats 4000000
namespace Go.Stx
open Go Go.Proofs
attribute [local irreducible] fj cm aH bB dK ei
section
abbrev y9:List (Nat×Nat):=[(0,0),(1,0),(2,0),(3,0),(4,0),(5,0),(6,0),(7,0),(8,0),(9,0),(10,0),(11,0),(12,2),(13,0),(14,0),(15,3)]
open T28 T16
theorem Hr {c:bG} {nt k:Nat} {M:Mm} (hM:oR c nt k M) (p:kM) (iz:0≤p.dB∧p.dB≤3) (hb:0≤p.block∧p.block<c.nb) (pE:0≤p.cj∧p.cj≤2):gu (dE p M).1=21+p.cj:=by
 have h6:dw M 7 p.dB=true:=by
  have:=hM.l6
  have e:eJ M 7=M 6:=rfl
  simp [dw,e,this];omega
 have h7:dw M 8 p.block=true:=by
  have:=hM.l7
  have e:eJ M 8=M 7:=rfl
  simp [dw,e];omega
 rcases rM p M pE with ⟨h0,e0⟩|⟨h0,w,hw,e0⟩|⟨h0,w,hw,e0⟩
 · rw [e0,h0]
   show gu (de M 1 7 p.dB gF)=_
   unfold de gu
   rw [if_pos h6]
   rfl
 · rw [e0,h0]
   show gu (de M 2 8 p.block (eD w))=_
   unfold de gu
   rw [if_pos h7]
   rfl
 · rw [e0,h0]
   show gu (de M 3 7 p.dB (hQ p.eP w))=_
   unfold de gu
   rw [if_pos h6]
   rfl
theorem tB {A:AW} {L K:List It} {v:Value} {l:List Int} (h:an A L) (hp:ay L (.h (ar .i64 v l)) K) (d:Nat) (c:bG) (p:Value) (j:Nat):∀A':AW,A'.cy d=some (iA c (mA v j) p)→eF 108 [pv d] A' (.bool (decide (l.length-j=0))):=by
 obtain⟨o,n,e⟩:=BX h hp j
 rw [e]
 exact fun A' hg=>kY d c o _ n p A' hg
theorem AY (b mb:Nat) (s:aD) (M:Mm) (hM:fE M) (p:kM) (hd:s.aA=.eZ p) (hc:dt s.cf) (qi:s.ax≠1) (dQ:s.am<s.ac.length) (pE:0≤p.cj∧p.cj≤2) (BD:gu (dE p M).1=21+p.cj):fQ b mb s M:=by
 have e:cD s M=kv s M p:=by unfold cD;rw [hd]
 have nM:=fun d m va (h3:(dE p M).2.1.cj≠3)=>Ju s.cf d m mb s.am va s.ac p M hM dQ h3
 have SY:=fun d m va (h3:(dE p M).2.1.cj=3) (hj:s.am+1<s.ac.length)=>Fk s.cf hc d m mb s.am va s.ac p M hM dQ h3 hj
 have Mw:=fun d m va (h3:(dE p M).2.1.cj=3) (hj:s.am+1=s.ac.length)=>Fl s.cf hc d m mb s.am va s.ac p M hM dQ h3 hj
 have QA:IntKind.i64.wrap (21+p.cj)=21+p.cj:=ak (by omega) (by omega)
 unfold fQ
 rw [e]
 unfold kv gg
 clear e
 obtain⟨a,p',M',F5⟩:∃a p' M',dE p M=(a,p',M'):=⟨_,_,_,rfl⟩
 rw [F5] at nM SY Mw BD ⊢
 dsimp only at nM SY Mw BD ⊢
 rw [BD]
 clear F5 BD
 obtain⟨cf,ag,av,ax,value,br,ai,ah,ac,ap,set,aM,ao,aj,aG,aE,am,aA⟩:=s
 dsimp only at hd nM SY Mw qi dQ ⊢
 subst hd
 by_cases h3:p'.cj=3
 · rw [if_pos h3]
   by_cases hl:am+1=ac.length
   · rw [if_pos (.inr hl)]
     intro A F hw hS
     refine ab Tryz.func33 rfl (by kernel_rfl) fun _=>?_
     dsimp only [na,zo] at hS
     obtain⟨⟨bh,aY,az,aJ,aK,m,dy,k,ja,dr,bS,aw,aB,va,vv,vi,fA,fk,dD,dL,cI,jv,dO,dP,cG,cx,dv,cH,dN,bU,bt,dM,bT⟩,hS⟩:=bF.open hS .z
     dsimp only [bE,bH,cJ,bj,cR,eQ,cO,bf,ff,bO,bP,bd,be,bL,bc,bN,aO,aI,bM,aN,bJ,aT,aQ,aD.rv,na,zo] at hS
     try simp only [cV] at hS
     have hq:=ZL hS hw
     have jx:=tB hS (.s (.s (.s (.s (.s (.s (.s .z))))))) m cf (pv dy) (am+1)
     rw [show decide (ac.length-(am+1)=0)=true by simp;omega] at jx
     have iz:=Mw m dy aw h3 hl
     have hq:=ZL hS hw
     revert hq hS hw hc;clear hq;clear hS;refine Wr (J4 (od y9) @mU @jx @iz) (J6 h3 QA @AW.aa @af.eq_1 @aS.eq_1 @bq.v.eq_1) (J1 ?_)<;>unhygienic intros
     refine⟨_,by simp [hq,AW.aa,af];rfl,by first|(simp [bq.v,bq.zero];done)|(simp [bq.v,bq.zero,h];done),?_⟩
     apply bF.cC
     (·exact sA)
     (dsimp only [bE,bH,cJ,bj,cR,eQ,cO,bf,ff,bO,bP,bd,be,bL,bc,bN,aO,aI,bM,aN,bJ,aT,aQ,aD.rv,na,zo])
     (try simp only [cV])
     (try simp only [h])
     (·first|exact pR|exact kR)
     (·first|exact pR|exact kR)
     all_goals(first|exact 0|exact undef)
   · rw [if_neg (fun h=>h.elim qi hl)]
     intro A F hw hS
     refine ab Tryz.func33 rfl (by kernel_rfl) fun _=>?_
     dsimp only [na,zo] at hS
     obtain⟨⟨bh,aY,az,aJ,aK,m,dy,k,ja,dr,bS,aw,aB,va,vv,vi,fA,fk,dD,dL,cI,jv,dO,dP,cG,cx,dv,cH,dN,bU,bt,dM,bT⟩,hS⟩:=bF.open hS .z
     dsimp only [bE,bH,cJ,bj,cR,eQ,cO,bf,ff,bO,bP,bd,be,bL,bc,bN,aO,aI,bM,aN,bJ,aT,aQ,aD.rv,na,zo] at hS
     try simp only [cV] at hS
     have hq:=ZL hS hw
     have jx:=fun mr=>tB hS (.s (.s (.s (.s (.s (.s (.s .z))))))) m cf (pv mr) (am+1)
     rw [show decide (ac.length-(am+1)=0)=false by simp;omega] at jx
     have iz:=SY m dy aw h3 (by omega)
     have hq:=ZL hS hw
     revert hq hS hw;(repeat first|clear hq|clear hS|clear hw|revert hc|revert zn|revert zA|revert xw|revert R|revert K);refine Wr (J4 (Tg.mk (n:=32) @iz) (od y9) @mU @jx) (J6 h3 QA @AW.aa @af.eq_1 @aS.eq_1 @bq.v.eq_1) (J1 ?_)<;>unhygienic intros
     refine⟨_,by simp [hq,AW.aa,af];rfl,by first|(simp [bq.v,bq.zero];done)|(simp [bq.v,bq.zero,h];done),?_⟩
     apply bF.cC
     (·exact sA)
     (dsimp only [bE,bH,cJ,bj,cR,eQ,cO,bf,ff,bO,bP,bd,be,bL,bc,bN,aO,aI,bM,aN,bJ,aT,aQ,aD.rv,na,zo])
     (try simp only [cV])
     (try simp only [h])
     (·first|exact pR|exact kR)
     (·first|exact pR|exact kR)
     all_goals(first|exact 0|exact undef)
 · rw [if_neg h3]
   intro A F hw hS
   refine ab Tryz.func33 rfl (by kernel_rfl) fun _=>?_
   dsimp only [na,zo] at hS
   obtain⟨⟨bh,aY,az,aJ,aK,m,dy,k,ja,dr,bS,aw,aB,va,vv,vi,fA,fk,dD,dL,cI,jv,dO,dP,cG,cx,dv,cH,dN,bU,bt,dM,bT⟩,hS⟩:=bF.open hS .z
   dsimp only [bE,bH,cJ,bj,cR,eQ,cO,bf,ff,bO,bP,bd,be,bL,bc,bN,aO,aI,bM,aN,bJ,aT,aQ,aD.rv,na,zo] at hS
   try simp only [cV] at hS
   have hq:=ZL hS hw
   have jx:=tB hS (.s (.s (.s (.s (.s (.s (.s .z))))))) m cf (pv dy) am
   rw [show decide (ac.length-am=0)=false by simp;omega] at jx
   have iz:=nM m dy aw h3
   have hq:=ZL hS hw
   revert hq hS hw;(repeat first|clear hq|clear hS|clear hw|revert hc|revert zn|revert zA|revert xw|revert R|revert K);refine Wr (J4 (od y9) @mU @jx @iz) (J6 h3 QA @AW.aa @af.eq_1 @aS.eq_1 @bq.v.eq_1) (J1 ?_)<;>unhygienic intros
   refine⟨_,by simp [hq,AW.aa,af];rfl,by first|(simp [bq.v,bq.zero];done)|(simp [bq.v,bq.zero,h];done),?_⟩
   apply bF.cC
   (·exact sA)
   (dsimp only [bE,bH,cJ,bj,cR,eQ,cO,bf,ff,bO,bP,bd,be,bL,bc,bN,aO,aI,bM,aN,bJ,aT,aQ,aD.rv,na,zo])
   (try simp only [cV])
   (try simp only [h])
   (·first|exact pR|exact kR)
   (·first|exact pR|exact kR)
   all_goals(first|exact 0|exact undef)
end
section
theorem ze:∀(n:Nat) (l:List Int),l.Nodup→(∀a∈l,0≤a∧a<(n:Int))→l.length≤n
 | 0,l,_,h=>by
   cases l with
   | nil=>simp
   | cons a t=>have:=h a (by simp);omega
 | n+1,l,hn,h=>by
   have h1:=ze n (l.erase (n:Int)) (hn.erase _) fun a ha=>by
    have h2:=(List.Nodup.mem_erase_iff hn).1 ha
    have h3:=h a h2.2
    have h4:=h2.1
    omega
   rw [List.length_erase] at h1
   split at h1<;>omega
variable {c:bG} {nt k:Nat} {M:Mm} {s:aD}
theorem oR.Vi (h:oR c nt k M):fE M:=⟨h.l2,h.l3,h.l4⟩
theorem iW.Gy (hc:dt c) (h:iW c k s):ep s:=by
 have gt:=h.cf
 have xv:=hc.nb
 have hw:=hc.aF
 refine⟨gt▸hc,?_,h.aM,?_,h.cc,?_,?_,?_,h.push,gt▸h.set,?_,?_⟩
 · have:=h.G2;omega
 · have:=h.dA;have:=hc.bX;omega
 · intro a ha;have:=h.I6 a ha;omega
 · intro a ha;have:=h.GU a ha;omega
 · have:=h.kN;have:=hc.ac;omega
 · have:=ze c.aF.toNat s.ah h.O6 fun a ha=>by have:=h.O3 a ha;omega
   omega
 · have:=h.EQ;have:=hc.ap;omega
theorem iW.EG (hc:dt c) (h:iW c k s):s.ah.length≤64:=by
 have hw:=hc.aF
 have:=ze c.aF.toNat s.ah h.O6 fun a ha=>by have:=h.O3 a ha;omega
 omega
theorem iW.sl (hc:dt c) (h:iW c k s):s.set.length<2^38:=by
 have:=h.set
 have:=hc.ah
 omega
theorem mu.Q9 (h:mu k s) (ho:s.aj.length≤64):Mj s:=by
 refine⟨by omega,?_⟩
 rcases h with h|⟨l,h1,h2,h3,h4,h5⟩
 · left;rw [h.1];rfl
 · right;exact⟨l,h1,h3.symm⟩
theorem oW.KE (hc:dt c) (h:oW c k s) (hM:oR c nt k M):Mi s M:=by
 have hb:=h.b
 have hC:=hb.Gy hc
 have gt:=hb.cf
 have hd:=h.d
 refine⟨hC,?_⟩
 have ho:=hb.Qt
 cases e:s.aA with
 | bm=>trivial
 | jV l=>
   rw [e] at hd
   cases l with
   | fu a v=>exact hd.2
   | cM b v=>show 0≤b∧b<s.cf.nb;rw [gt];exact hd.2
   | _=>trivial
 | ej=>
   rw [e] at hd
   obtain⟨h0,en,h1,h2⟩:=hd
   exact⟨en,h1⟩
 | bz r u=>
   rw [e] at hd
   obtain⟨h0,h1,h2,h3,h4,h5,h6⟩:=hd
   refine⟨by have:=hb.EG hc;omega,h1,gt▸h2,?_⟩
   cases u with
   | take=>trivial
   | cM b=>show 0≤b∧b<s.cf.nb;rw [gt];exact h4
 | eE p=>
   rw [e] at hd
   obtain⟨h0,h1,h2,h3,h4,h5,h6,h7⟩:=hd
   refine⟨?_,h2,?_⟩
   · have:=hc.ac;omega
   · rw [gt];exact Ce p h6 hc h3 h5
 | fF=>
   rw [e] at hd
   obtain⟨h0,OL,l,h1,h2,h3,h4,h5⟩:=hd
   exact⟨l,h1,by omega,by rw [h2];omega⟩
 | dI=>
   rw [e] at hd
   obtain⟨h0,hl,t,h1,h2,h3⟩:=hd
   exact⟨t,h1⟩
 | dG ck=>
   rw [e] at hd
   exact hd.2.1.1.Q9 ho
 | cN=>
   rw [e] at hd
   exact hd.2.1.1.Q9 ho
 | et w=>
   rw [e] at hd
   obtain⟨_,_,_,_,q,h1,h2⟩:=hd
   have:=hb.aM.xt
   refine⟨by rw [h2];simp only [List.length_drop];omega,by omega⟩
 | cK w=>
   rw [e] at hd
   obtain⟨_,_,hl,_,q,h1,h2⟩:=hd
   show w.os.length=w.ws.length
   rw [h2]
   have:(lB s).length=s.aj.length:=by
    unfold lB
    split
    · simp
    · rcases hl with hl|⟨l,h3,h4,h5,h6,h7⟩
      · rw [hl.1] at h1;simp at h1
      · unfold aD.dH;rw [h3];exact h5
   simp only [List.length_drop]
   omega
 | ij=>trivial
 | fm=>
   rw [e] at hd
   exact hd.2
 | eZ p=>
   rw [e] at hd
   exact hd.2.1
 | fW=>trivial
theorem Hd (b mb:Nat) (hc:dt c) (hk:k<2^40) (h:oW c k s) (hM:oR c nt k M):fQ b mb s M:=by
 have hb:=h.b
 have hC:=hb.Gy hc
 have gt:=hb.cf
 have hd:=h.d
 have hR:=hM.Vi
 have ho:=hb.Qt
 have vP:=hb.sl hc
 cases e:s.aA with
 | bm=>exact Hc b mb s M e
 | jV l=>
   rw [e] at hd
   exact Jm b mb s M l e hC hd.1 (gt▸hb.EQ) (gt▸hd.2)
 | ej=>
   rw [e] at hd
   obtain⟨h0,en,h1,h2,h3,h4⟩:=hd
   exact yx b mb k s M hR e hk en h1 h2 h3 (xL hM 1 gF)
 | bz r u=>
   rw [e] at hd
   obtain⟨h0,h1,h2,h3,h4,h5,h6⟩:=hd
   exact AX b mb s M hR r u e hC h0 (by have:=hb.EG hc;omega) (gt▸hb.EQ) (gt▸h4) h1 h3
 | eE p=>
   rw [e] at hd
   obtain⟨h0,h1,h2,h3,h4,h5,h6,h7⟩:=hd
   refine AZ b mb s M hR p e hC h0 (by have:=hc.ac;omega) h2 h6 (by rw [gt];exact Ce p h6 hc h3 h5) (Jx hM p h2 h6 fun h8=>⟨h7 h8,h3.2.1⟩)
 | fF=>
   rw [e] at hd
   obtain⟨h0,OL,l,h1,h2,h3,h4,h5⟩:=hd
   refine A9 b mb s M hR e h0.2.2 l h1 h4 (by rw [h2];omega) (fun hl=>MU hk h5 hl (by rw [h3];exact hb.G2)) ?_
   have h6:=hb.Q8 (ew l) (by unfold ew;rw [←h2];exact zN h4)
   have h7:=hM.l1
   have e:eJ M 2=M 1:=rfl
   simp [dw,e]
   omega
 | dI=>
   rw [e] at hd
   obtain⟨h0,hl,t,h1,h2,h3⟩:=hd
   exact AV b mb k s M hR hM.l3 hM.l4 e h0.2 t h1 h2 ⟨h3.1,by omega⟩ hl.1 ho vP
 | dG ck=>
   rw [e] at hd
   obtain⟨h0,hl,ht,h1,⟨q,h2,h3⟩,h4⟩:=hd
   refine yz b mb k s M hR ck e h0.2 h1 hl.1 ho vP ?_
   intro h5
   rw [h3,List.drop_eq_nil_iff] at h5
   omega
 | cN=>
   rw [e] at hd
   obtain⟨h0,hl,ht⟩:=hd
   exact yy b mb k s M e hC h0.2 hl ho hk hR (xL hM 1 gF)
 | et w=>
   rw [e] at hd
   obtain⟨_,h0,_,_,q,h1,h2⟩:=hd
   exact AU b mb q s M hR w e h0.1 hb.aM.xt (Nat.le_trans hb.aM.dA (by have:=hb.dA;have:=hc.bX;omega)) h1 h2
 | cK w=>
   rw [e] at hd
   obtain⟨_,h0,hl,_,q,h1,h2⟩:=hd
   obtain⟨l,h3,h4,h5⟩:∃l,s.aG=some l∧l.aj=s.aj∧l.dH.length=s.aj.length:=by
    rcases hl with hl|⟨l,h3,h4,h5,h6,h7⟩
    · rw [hl.1] at h1;simp at h1
    · exact⟨l,h3,h4,h5⟩
   cases s9:s.ai with
   | true=>
     have hv:=xT hb hk ⟨s9,h0 s9⟩
     have:=hb.H2
     exact sW b mb q s M hR w e s9 _ ⟨rfl,by rw [hv];omega⟩ ho l h3 h4 h5 h1 h2
   | false=>
     exact sV b mb q s M hR w e s9 (-1) ⟨by unfold aD.sy;rw [if_neg (by simp [s9])],rfl⟩ ho l h3 h4 h5 h1 h2
 | ij=>exact yw b mb s M hR e
 | fm=>
   rw [e] at hd
   obtain⟨h0,t,h1⟩:=hd
   exact A8 b mb s M hR e (gt▸hc) h0 t h1
 | eZ p=>
   rw [e] at hd
   obtain⟨h0,h1,h2,h3,h4,h5⟩:=hd
   have uZ:=hb.GU _ (zN h1)
   rw [←h2] at uZ
   have AA:=nL hc p.block uZ
   rw [←h3] at AA
   refine AY b mb s M hR p e (gt▸hc) h0 h1 h5 (Hr hM p (by have:=AA.1;omega) uZ h5)
 | fW=>exact Ba b mb s M hR e
end
section
open T28 T16
theorem an.So {A:AW} {x y z:It} {L:List It} (h:an A (x::y::z::L)):an A (y::x::L):=by
 have h1:bK A (x.hp*(y.hp*(z.hp*bn L))):=h
 have h2:bK A (z.hp*(y.hp*(x.hp*bn L))):=h1.dp (by ac_rfl)
 exact h2.right
theorem Dq {P:Program} {fn:FuncId} {args:List Value} {X:Nat→It} {A:AW} (h:∀F,an A [.h F]→aH P fn args A (fun v A'=>∃b,v=pv b∧an A' [X b,.h F])) {L:List It} {k:Value→AW→Prop} (hS:an A L) (hk:∀b A',an A' (X b::L)→A'.Wf→k (pv b) A'):aH P fn args A k:=by
 have oG:an A [.h (bn L)]:=by
  unfold an at *
  show bK A (bn L*fa)
  rwa [dx]
 refine bD (h (bn L) oG) ?_
 rintro _ A' ⟨b,rfl,h2⟩ gY _
 refine hk b A' ?_ gY
 unfold an at *
 have h3:bK A' ((X b).hp*(bn L*fa)):=h2
 rwa [dx] at h3
theorem HW (c:bG) (hc:dt c) (t:Int) (A:AW) (L:List It) (hw:A.Wf) (hS:an A L) :
 aH Tryz.prog 11 [c.v,.int .i64 t] A (fun v A'=>∃x:Nat×Nat,v=.tuple #[.agg #[pv x.1,pv x.2],.bool true]∧an A' (.h (bI x.1 (iD c t))::.h (bF x.2 (iD c t))::L)):=by
 refine ab Tryz.func11 rfl (by kernel_rfl) fun _=>?_
 have OD:=fun(A':AW) (F:HP) (gY:A'.Wf) (h:an A' [.h F])=>FH c hc t A' F gY h
 have VG:=fun(A':AW) (F:HP) (gY:A'.Wf) (h:an A' [.h F])=>Jo c hc t A' F gY h
 have mg:=an.jn (o:=.cells [.pointer none,.pointer none] true 1) (an.jn (o:=.cells c.cells true 1) hS hw) (hw.alloc _)
 have gJ:=(hw.alloc (.cells c.cells true 1)).alloc (.cells [.pointer none,.pointer none] true 1)
 simp only [AW.aZ] at mg
 dsimp only [bG.v,bG.cells] at OD VG mg gJ ⊢
 revert hS hw hc;refine Wr trivial (J2 @AW.aa @af.eq_1) (J1 ?_)<;>unhygienic intros
 refine Dq (fun F h=>OD _ F gJ h) mg ?_
 intro a A1 hS hw
 have hq:=ZQ hS hw
 revert hq hS hw;(repeat first|clear hq|clear hS|clear hw|revert hc|revert zn|revert zA|revert R|revert K);refine Wr trivial (J2 @AW.aa @af.eq_1) (J1 ?_)<;>unhygienic intros
 refine Dq (fun F h=>VG _ F hw h) hS ?_
 intro r A2 hS hw
 have hq:=ZQ hS hw
 revert hq hS hw;(repeat first|clear hq|clear hS|clear hw|revert hc|revert zn|revert zA|revert R|revert K);refine Wr trivial (J2 @AW.aa @af.eq_1) (J1 ?_)<;>unhygienic intros
 refine⟨_,by first|(simp [hq,AW.aa,af];done)|(simp [hq,AW.aa,af];rfl),(a,r),rfl,?_⟩
 exact an.So (an.tail (an.jd hS (.s (.s .z))))
end
end Go.Stx
