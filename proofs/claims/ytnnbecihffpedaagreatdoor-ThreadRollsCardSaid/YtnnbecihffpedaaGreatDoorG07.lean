/-
 The program's attempt: how it lies in memory.
-/
import Derived.Test.YtnnbecihffpedaaGreatDoorG06
set_option linter.unusedVariables false
set_option linter.unusedSimpArgs false
set_option linter.unusedSectionVars false
set_option maxRecDepth 20000
set_option maxHeartbeats 4000000
namespace Go.Stx
open Go Go.Proofs
attribute [local irreducible] cB aW az aG bZ cz TW bC
section
variable [Gl]
abbrev pv (n:Nat):Value:=.pointer (some ⟨n,0,none⟩)
abbrev aY (v:Value):dG:=.cells [v] true 1
structure pi where
 dP:Nat
 d9:Nat
 bG:Nat
 cJ:Nat
 cA:Nat
 m:Nat
 c0:Nat
 c1:Nat
 c2:Nat
 cX:Value
 bj:Value
 bO:Value
 bQ:Value
 dQ:Value
 cY:Value
 eB:Value
 bR:Value
 bP:Value
 aZ:Value
 cZ:Value
 db:Value
 fR:Value
 dR:Value
def mv:Option gn->Nat->Value|none,_=>.pointer none|some _,n=>pv n
def iM:Option hW->Nat->Value|none,_=>.pointer none|some _,n=>pv n
def gN:Option jw->Nat->Value|none,_=>.pointer none|some _,n=>pv n
def oz:bm->pi->Value | .aP _ _,f=>pv f.m|_,f=>f.dQ
def kR:bm->pi->Value | .aP r _,_=>.int .i64 r.br|_,f=>f.cY
def oR:bm->pi->Value | .aP r _,_=>.int .i64 r.cg|_,f=>f.dR
def vU:bm->pi->Value | .eh _,f=>pv f.m|_,f=>f.eB
def kV:bm->pi->Value | .cG _,f=>pv f.m|_,f=>f.bR
def kN:bm->pi->Value | .dI _,f=>pv f.m|_,f=>f.bP
def ig:bm->pi->Value | .bX _,f=>pv f.m|_,f=>f.aZ
def oA:bm->pi->Value | .dX _,f=>pv f.m|_,f=>f.cZ
def og:D4->pi->Value
 | .rO,f=>.func (.func 134) #[] #[pv f.c0]
 | .NB,f=>.func (.func 228) #[] #[pv f.c0]
 | .bI _,f=>.func (.func 131) #[] #[pv f.c0,pv f.c1]
 | .take _,f=>.func (.func 137) #[] #[pv f.c0,pv f.c1]
 | .kX _ _,f=>.func (.func 140) #[] #[pv f.c0,pv f.c1,pv f.c2]
 | .yV,f=>.func (.func 223) #[] #[pv f.c0]
 | .cU _ _,f=>.func (.func 229) #[] #[pv f.c0,pv f.c1,pv f.c2]
def oe:bm->pi->Value
 | .gE k,f=>og k f
 | .eh _,f=>.func (.func 225) #[] #[pv f.c0,pv f.c1]
 | _,f=>f.db
def vF:bm->pi->Value
 | .aP _ .take,f=>.func (.func 135) #[] #[pv f.c0]
 | .aP _ (.cU _),f=>.func (.func 231) #[] #[pv f.c0,pv f.c1]
 | _,f=>f.fR
def s9 (s:aF) (br:Int) (d:bm) (f:pi):dG:=.cells [pv f.dP,pv f.d9,f.cX,f.bj,f.bO,
 mv s.bS f.bG,oz d f,kR d f,vU d f,iM s.aJ f.cJ,gN s.aI f.cA,kV d f,kN d f,ig d f,oA d f,
 .int .i64 s.cf.aR,.int .i64 s.cf.am,.int .i64 s.cf.base,.int .i64 s.cf.c0,.int .i64 s.cf.c1,.int .i64 s.cf.c2,.int .i64 s.cf.c3,.int .i64 s.cf.reads,.int .i64 s.cf.cM,.int .i64 s.cf.ag,.int .i64 s.cf.ar,.int .i64 s.cf.aw,.bool s.cf.aT,
 .int .i64 s.ak,.int .i64 s.aA,.int .i64 s.av,.int .i64 br,oe d f,vF d f,oR d f,.int .u64 s.value,f.bQ,.int .u64 s.aw,.bool s.ai,.int .i64 s.aj] true 1
def IQ:Option gn->Nat->HP|none,_=>eP|some e,n=>pt n (gm e)
def sM:Option hW->Nat->HP|none,_=>eP|some l,n=>gz n l
def uf:Option jw->Nat->HP|none,_=>eP|some t,n=>pt n (iU t)
def b9 (b:Nat):D4->pi->List It
 | .rO,f | .NB,f | .yV,f=>[.at f.c0 (aY (pv b))]
 | .bI av,f=>[.at f.c0 (aY (pv b)),.at f.c1 (aY (.int .i64 av))]
 | .take v,f=>[.at f.c0 (aY (.func (.func 135) #[] #[pv f.c2])),.at f.c1 (aY (.int .u64 v)),.at f.c2 (aY (pv b))]
 | .kX a v,f=>[.at f.c0 (aY (pv b)),.at f.c1 (aY (.int .u64 a)),.at f.c2 (aY (.int .u64 v))]
 | .cU k v,f=>[.at f.c0 (aY (pv b)),.at f.c1 (aY (.int .i64 k)),.at f.c2 (aY (.int .u64 v))]
def dZ (b:Nat):yf->pi->List It
 | .take,f=>[.at f.c0 (aY (pv b))]
 | .cU k,f=>[.at f.c0 (aY (pv b)),.at f.c1 (aY (.int .i64 k))]
def gH (b:Nat):bm->pi->List It
 | .gE k,f=>b9 b k f
 | .aP r u,f=>.at f.m (gO r)::dZ b u f
 | .eh p,f=>[.at f.m (lX p),.at f.c0 (aY (pv b)),.at f.c1 (aY (.int .i64 p.dC))]
 | .cG c,f=>[.h (iK f.m c)]
 | .dI w,f=>[.h (gG f.m w)]
 | .bX w,f=>[.h (gG f.m w)]
 | .dX p,f=>[.at f.m (gt p)]
 | _,_=>[]
def bW (b:Nat) (s:aF) (br:Int) (d:bm) (f:pi):List It:=[.at b (s9 s br d f),.h (IQ s.bS f.bG),.h (sM s.aJ f.cJ),.h (uf s.aI f.cA),
 .h (uO f.dP s.cf.reads.toNat s.set),.h (nR f.d9 s.bp),.h (au .i64 f.cX s.reads),.h (au .i64 f.bj s.ag),.h (au .i64 f.bO s.ar),.h (au .i64 f.bQ s.am)]
def ip (b:Nat) (s:aF) (br:Int) (d:bm):HP:=pe λf:pi=>aL (bW b s br d f)
def aX (b:Nat) (s:aF):HP:=pe λf:pi=>aL (bW b s s.aC.fA s.aC f++gH b s.aC f)
theorem aB.aI {n:Nat} {t:jw} {L:List It}:aB (.at n (iU t)::L) (.h (uf (some t) n)) L:=.e rfl
theorem aB.bS {n:Nat} {t:gn} {L:List It}:aB (.at n (gm t)::L) (.h (IQ (some t) n)) L:=.e rfl
theorem aB.OP {n:Nat} {t:hW} {L:List It}:aB (.h (gz n t)::L) (.h (sM (some t) n)) L:=.e rfl
section
variable {A:AW} {L K:List It} {b:Nat} {s:aF} {br:Int} {d:bm}
theorem ip.open (h:ah A L) (hp:aB L (.h (ip b s br d)) K):∃f,ah A (bW b s br d f++K):=ld h hp
theorem aX.open (h:ah A L) (hp:aB L (.h (aX b s)) K):∃f,ah A (bW b s s.aC.fA s.aC f++gH b s.aC f++K):=ld h hp
theorem ip.dU {dP d9 bG cJ cA m c0 c1 c2:Nat} {cX bj bO bQ dQ cY eB bR bP aZ cZ db fR dR:Value} (h:ah A L)
 (e:aQ L (bW b s br d ⟨dP,d9,bG,cJ,cA,m,c0,c1,c2,cX,bj,bO,bQ,dQ,cY,eB,bR,bP,aZ,cZ,db,fR,dR⟩) K):ah A (.h (ip b s br d)::K):=iH ⟨dP,d9,bG,cJ,cA,m,c0,c1,c2,cX,bj,bO,bQ,dQ,cY,eB,bR,bP,aZ,cZ,db,fR,dR⟩ h e
theorem aX.dU {dP d9 bG cJ cA m c0 c1 c2:Nat} {cX bj bO bQ dQ cY eB bR bP aZ cZ db fR dR:Value} (h:ah A L)
 (e:aQ L (bW b s s.aC.fA s.aC ⟨dP,d9,bG,cJ,cA,m,c0,c1,c2,cX,bj,bO,bQ,dQ,cY,eB,bR,bP,aZ,cZ,db,fR,dR⟩++gH b s.aC ⟨dP,d9,bG,cJ,cA,m,c0,c1,c2,cX,bj,bO,bQ,dQ,cY,eB,bR,bP,aZ,cZ,db,fR,dR⟩) K):ah A (.h (aX b s)::K):=iH ⟨dP,d9,bG,cJ,cA,m,c0,c1,c2,cX,bj,bO,bQ,dQ,cY,eB,bR,bP,aZ,cZ,db,fR,dR⟩ h e
theorem aX.bI {dP d9 bG cJ cA m c0 c1 c2:Nat} {cX bj bO bQ dQ cY eB bR bP aZ cZ db fR dR:Value} {G K2:List It} (h:ah A L)
 (e:aQ L (bW b s s.aC.fA s.aC ⟨dP,d9,bG,cJ,cA,m,c0,c1,c2,cX,bj,bO,bQ,dQ,cY,eB,bR,bP,aZ,cZ,db,fR,dR⟩++gH b s.aC ⟨dP,d9,bG,cJ,cA,m,c0,c1,c2,cX,bj,bO,bQ,dQ,cY,eB,bR,bP,aZ,cZ,db,fR,dR⟩) K) (e2:aQ K G K2):ah A (.h (aX b s)::G):=
 ah.bI (aX.dU h e) (.s .z e2)
theorem ip.view {dP d9 bG cJ cA m c0 c1 c2:Nat} {cX bj bO bQ dQ cY eB bR bP aZ cZ db fR dR:Value} (h:ah A L)
 (e:aQ L (bW b s br d ⟨dP,d9,bG,cJ,cA,m,c0,c1,c2,cX,bj,bO,bQ,dQ,cY,eB,bR,bP,aZ,cZ,db,fR,dR⟩) K):ah A [.h (ip b s br d)]:=ah.bI (ip.dU h e) (.s .z .z)
theorem aX.Qz (h:ah A L) (hp:aB L (.h (aX b s)) K):ah A (.h (ip b s s.aC.fA s.aC)::K):=by
 obtain⟨f,h⟩:=aX.open h hp;have h1:ah A (bW b s s.aC.fA s.aC f++(gH b s.aC f++K)):=by rw [<-List.append_assoc];exact h
 have h2:ah A (.h (ip b s s.aC.fA s.aC)::(gH b s.aC f++K)):=iH (g:=bW b s s.aC.fA s.aC) f h1 (by
  repeat' (first|apply aQ.z|apply aQ.s|apply aB.z))
 unfold ah at h2 ⊢;have h3:bn A (ip b s s.aC.fA s.aC*aL (gH b s.aC f++K)):=h2;rw [fi] at h3;have h4:bn A (aL (gH b s.aC f)*(ip b s s.aC.fA s.aC*aL K)):=h3.dV (by ac_rfl);exact bn.right h4
theorem bf.jd {P:Program} {f:FuncId} {args:List Value} {rk:List It} {φ:Value->Prop} {post:Value->List It} (hc:bf P f args (.h (ip b s br d)::rk) φ post) {dP d9 bG cJ cA m c0 c1 c2:Nat} {cX bj bO bQ dQ cY eB bR bP aZ cZ db fR dR:Value} {K0:List It} {k:Value->AW->Prop} (hw:A.Wf) (hS:ah A L)
 (e:aQ L (bW b s br d ⟨dP,d9,bG,cJ,cA,m,c0,c1,c2,cX,bj,bO,bQ,dQ,cY,eB,bR,bP,aZ,cZ,db,fR,dR⟩) K0) (e2:aQ K0 rk K) (hk:∀v A',φ v->ah A' (post v++K)->A'.Wf->A.next<=A'.next->k v A'):az P f args A k:=
 bf.eH hc hw (ip.dU hS e) (.s .z e2) hk
theorem bf.Oi {P:Program} {f:FuncId} {args:List Value} {rk:List It} {φ:Value->Prop} {post:Value->List It} (hc:bf P f args (.h (aX b s)::rk) φ post) {dP d9 bG cJ cA m c0 c1 c2:Nat} {cX bj bO bQ dQ cY eB bR bP aZ cZ db fR dR:Value} {K0:List It} {k:Value->AW->Prop} (hw:A.Wf) (hS:ah A L)
 (e:aQ L (bW b s s.aC.fA s.aC ⟨dP,d9,bG,cJ,cA,m,c0,c1,c2,cX,bj,bO,bQ,dQ,cY,eB,bR,bP,aZ,cZ,db,fR,dR⟩++gH b s.aC ⟨dP,d9,bG,cJ,cA,m,c0,c1,c2,cX,bj,bO,bQ,dQ,cY,eB,bR,bP,aZ,cZ,db,fR,dR⟩) K0) (e2:aQ K0 rk K) (hk:∀v A',φ v->ah A' (post v++K)->A'.Wf->A.next<=A'.next->k v A'):az P f args A k:=
 bf.eH hc hw (aX.dU hS e) (.s .z e2) hk
theorem IQ.op {n:Nat} {e:gn} (h:ah A L) (hp:aB L (.h (IQ (some e) n)) K):ah A (.at n (gm e)::K):=by
 unfold ah at h ⊢;rw [hp.aL] at h;exact h
theorem uf.op {n:Nat} {e:jw} (h:ah A L) (hp:aB L (.h (uf (some e) n)) K):ah A (.at n (iU e)::K):=by
 unfold ah at h ⊢;rw [hp.aL] at h;exact h
theorem sM.op {n:Nat} {e:hW} (h:ah A L) (hp:aB L (.h (sM (some e) n)) K):ah A (.h (gz n e)::K):=by
 unfold ah at h ⊢;rw [hp.aL] at h;exact h
theorem zL {f:FuncId} {args:List Value} {V:Value} {b:Nat} {s:aF} {br:Int} {d:bm} (hC:∀A':AW,A'.Wf->ah A' [.h (ip b s br d)]->et f args A' V)
 {A:AW} {L K0:List It} {dP d9 bG cJ cA m c0 c1 c2:Nat} {cX bj bO bQ dQ cY eB bR bP aZ cZ db fR dR:Value} {k:Value->AW->Prop} (hw:A.Wf) (hS:ah A L) (e:aQ L (bW b s br d ⟨dP,d9,bG,cJ,cA,m,c0,c1,c2,cX,bj,bO,bQ,dQ,cY,eB,bR,bP,aZ,cZ,db,fR,dR⟩) K0) (hk:k V A):az Tryz.prog f args A k:=by
 refine bV (hC A hw (ip.view hS e)) ?_;rintro _ _ ⟨rfl,rfl⟩ _ _;exact hk
end
theorem pP {L G K:List It} (h':aQ L G K:=by first|((repeat' (first|apply aQ.z|apply aQ.s|apply aB.z|apply aB.aI|apply aB.bS|apply aB.OP|apply aB.s));done)|fail):aQ L G K:=h'
theorem kP {L K:List It} {x:It} (h':aB L x K:=by first|((repeat' (first|apply aQ.z|apply aQ.s|apply aB.z|apply aB.aI|apply aB.bS|apply aB.OP|apply aB.s));done)|fail):aB L x K:=h'
theorem fP {L G K:List It} (h':aQ L G K:=by first|((dsimp only [bW,s9,oz,kR,oR,vU,kV,kN,ig,oA,oe,vF,og,mv,iM,gN,gH,b9,dZ,bm.fA,aa,af]);(try simp only [h]);(repeat' (first|apply aQ.z|apply aQ.s|apply aB.z|apply aB.aI|apply aB.bS|apply aB.OP|apply aB.s));done)|fail):aQ L G K:=h'
end
section
abbrev FM:List (Nat×Nat):=[(0,0),(1,0),(2,0),(3,0),(4,0),(5,0),(6,0),(7,0),(8,0),(9,0),(10,0),(11,0),(12,0),(13,0),(14,0),(15,0),(16,0),(17,0)]
abbrev FL:List (Nat×Nat):=[(0,0),(1,0),(2,0),(3,0),(4,0),(5,0),(6,0),(7,0),(8,0),(9,0),(10,0),(11,0)]
open T12 T13
variable [Gl]
theorem F5 (s:aF):(s.av=1/\fC s={ s with aC:=.go })\/((¬s.av=1/\(s.aj:Int)=s.ag.length)/\fC s={ s with aC:=.go }) \/
 ((¬s.av=1/\¬(s.aj:Int)=s.ag.length)/\fC s={ s with aC:=.dX ⟨c8 s.cf (s.ag.getD s.aj 0),s.ag.getD s.aj 0,0,0⟩ }):=by
 unfold fC;by_cases h1:s.av=1;simp [h1];by_cases h2:s.aj=s.ag.length;simp [h1,h2];have h3:¬(s.aj:Int)=s.ag.length:=by omega
 simp [h1,h2,h3]
theorem tL (b:Nat) (s:aF) (br:Int) (d:bm) (hc:cx s.cf) (sS:∀x∈s.ag,x<2^62) (hp:s.aj<=s.ag.length) (hl:s.ag.length<2^38) :
 bf Tryz.prog 121 [pv b] [.h (ip b s br d)] (λ_=>True) (λ_=>[.h (aX b (fC s))]):=by
 intro A F hw hS;refine aH Tryz.func121 λ_=>?_;obtain⟨x0,hS⟩:=ip.open hS .z;(unhygienic cases x0);dsimp only [bW,aa,af] at hS;have hq:=LN hS hw;have hI:=ah.pG hS (.s (.s (.s (.s (.s (.s (.s .z)))))));obtain⟨oa,ca,rfl,_⟩:=hI.dO;rcases F5 s with ⟨h,e⟩|⟨h,e⟩|⟨h,e⟩
 . revert hq hS hw;(try revert hc);clear hS;refine Wp (J2 (od FM) (od FL)) (J2 h bF) ?_<;>(unhygienic intros);refine⟨_,by first|rfl|(simp;rfl),trivial,?_⟩;rw [e];apply aX.bI
   (·exact sA)
   exact fP
   (·first|exact pP|exact kP)
   all_goals(first|exact 0|exact undef)
 . revert hq hS hw;(repeat first|clear hq|clear hS|clear hw|revert hc|revert R|revert K);refine Wp (J2 (od FM) (od FL)) (J2 h bF) ?_<;>(unhygienic intros);refine⟨_,by first|rfl|(simp;rfl),trivial,?_⟩;rw [e];apply aX.bI
   (·exact sA)
   exact fP
   (·first|exact pP|exact kP)
   all_goals(first|exact 0|exact undef)
 have cF:s.aj<s.ag.length:=by omega
 have fZ:(s.aj:Int)<s.ag.length:=by omega
 obtain⟨p,cD,rfl,cH,hcell⟩:=hI.at cF;have hgd:s.ag[s.aj]=s.ag.getD s.aj 0:=by rw [List.getD_eq_getElem?_getD,List.getElem?_eq_getElem cF];rfl
 have hx:s.ag.getD s.aj 0<2^62:=by rw [<-hgd];exact sS _ (List.getElem_mem cF)
 rw [hgd] at hcell;generalize s.ag.getD s.aj 0=x at *;have iR:=sE s.cf hc x hx;dsimp only [bH.v] at iR;revert hq hS hw;(repeat first|clear hq|clear hS|clear hw|revert hc|revert R|revert K);refine Wp (J4 (od FM) (od FL) @iR @xx) (J6 h cH hcell cF fZ bF) ?_<;>(unhygienic intros);refine⟨_,by first|rfl|(simp;rfl),trivial,?_⟩;rw [e];apply aX.bI
 (·exact sA)
 exact fP
 (·first|exact pP|exact kP)
 all_goals(first|exact 0|exact undef)
theorem iz (b:Nat) (s:aF) (br av:Int) (d:bm) (hc:cx s.cf) (sS:∀x∈s.ag,x<2^62) (hp:s.aj<=s.ag.length) (hl:s.ag.length<2^38) :
 bf Tryz.prog 180 [pv b,.int .i64 av] [.h (ip b s br d)] (λ_=>True) (λ_=>[.h (aX b (iL s av))]):=by
 intro A F hw hS;refine aH Tryz.func180 λ_=>?_;obtain⟨x0,hS⟩:=ip.open hS .z;(unhygienic cases x0);dsimp only [bW,aa,af] at hS;have hq:=LN hS hw
 repeat' (first|(refine jK λR hR=>?_;simp [an,ax,hq,AW.ab,aD];try simp (disch:=omega) only [ay,ap,an,ax])|(refine hR _ _ ?_;clear hR R)|(refine hK _ _ ?_;clear hK K)|refine nx ?_|refine wn λK hK=>?_|simp only [wS]|(apply bf.jd (tL b { s with av:=av } br d hc sS hp hl);(·exact wA);(·exact sA);(·exact fP);(·first|exact pP|exact kP);(rintro _ _ _ hS hw _;have hS:=lA hS);(try (have hq:=EF hS hw));all_goals(try (first|exact 0|exact undef)))|(show cB _ _ _ _ _ _;refine nx ?_)|(refine wc rfl (λhc=>?_) (λhc=>?_)<;>(try simp at hc)<;>(try omega)<;>(try (simp [h2] at hc;done))<;>(try (simp [h3] at hc;done))<;>(try (simp [h4] at hc;done)))|(refine ib (λhc=>?_) (λhc=>?_)<;>(try omega)<;>(try simp (disch:=omega) only [ay,ap])))
 exact⟨_,by first|rfl|(simp;rfl),trivial,ah.bI hS (.s .z (.s .z .z))⟩
end
section
open T12 T13
variable [Gl]
theorem ES (b:Nat) (s:aF) (d:bm) (A:AW) (hw:A.Wf) (hS:ah A [.h (ip b s s.aC.fA d)]):et 34 [pv b] A (.bool s.gD):=by
 refine aH Tryz.func34 λ_=>?_;obtain⟨x0,hS⟩:=ip.open hS .z;(unhygienic cases x0);dsimp only [bW,aa,af] at hS;have hq:=ed hS hw;revert hq hS hw;clear hS;refine Wp cy (J1 @AW.ab) ?_<;>intros;exact⟨_,rfl,by simp [aF.gD],rfl⟩
theorem By (b:Nat) (s:aF) (st:Int) (d:bm) (A:AW) (hw:A.Wf) (hS:ah A [.h (ip b s s.aC.fA d)]):et 129 [pv b,.int .i64 st] A (.int .i64 (if s.kF st=true then 0 else 1)):=by
 refine aH Tryz.func129 λ_=>?_;have hb:=ES b s d A hw hS;obtain⟨x0,hS⟩:=ip.open hS .z;(unhygienic cases x0);dsimp only [bW,aa,af] at hS;have hq:=ed hS hw;by_cases h1:s.aC.fA=0;have h2:s.gD=false:=by simp [aF.gD,h1]
 rw [h2] at hb;by_cases h3:s.aA=st;revert hq hS hw;clear hS;refine Wp (J1 @hb) (J3 h1 h3 @AW.ab) ?_<;>intros;exact⟨_,rfl,by simp [aF.kF,h1,h3],rfl⟩;refine Wp (J1 @hb) (J3 h1 h3 @AW.ab) ?_<;>intros;exact⟨_,rfl,by simp [aF.kF,h1,h3],rfl⟩;have h2:s.gD=true:=by simp [aF.gD,h1]
 rw [h2] at hb
 repeat' (first|(refine jK λR hR=>?_;simp [an,ax,hq,h1,AW.ab];try simp (disch:=omega) only [ay,ap,an,ax])|(refine hR _ _ ?_;clear hR R)|(refine hK _ _ ?_;clear hK K)|refine nx ?_|refine wn λK hK=>?_|simp only [wS]|(refine bV (hb) ?_;rintro _ _ ⟨rfl,rfl⟩ _ _)|(show cB _ _ _ _ _ _;refine nx ?_)|(refine wc rfl (λhc=>?_) (λhc=>?_)<;>(try simp at hc)<;>(try omega)<;>(try (simp [h2] at hc;done))<;>(try (simp [h3] at hc;done))<;>(try (simp [h4] at hc;done)))|(refine ib (λhc=>?_) (λhc=>?_)<;>(try omega)<;>(try simp (disch:=omega) only [ay,ap])))
 exact⟨_,rfl,by simp [aF.kF,h1],rfl⟩
theorem nH (b:Nat) (s:aF) (br a:Int) (d:bm) (hc:cx s.cf) (A:AW) (hw:A.Wf) (hS:ah A [.h (ip b s br d)]):et 133 [pv b,.int .u64 a] A (.bool (decide (s.cf.aR<=a))):=by
 refine aH Tryz.func133 λ_=>?_;obtain⟨x0,hS⟩:=ip.open hS .z;(unhygienic cases x0);dsimp only [bW,aa,af] at hS;have hq:=ed hS hw;obtain⟨w0,w1⟩:=hc.aR;have Pm:IntKind.u64.wrap s.cf.aR=s.cf.aR:=ax (by omega) (by omega);revert hq hS hw;(try revert hc);clear hS;refine Wp cy (J2 Pm @AW.ab) ?_<;>intros;exact⟨_,rfl,by simp,rfl⟩
theorem Je (b:Nat) (s:aF) (br:Int) (d:bm) (A:AW) (hw:A.Wf) (hS:ah A [.h (ip b s br d)]):et 125 [pv b] A (.int .i64 s.aA):=by
 refine aH Tryz.func125 λ_=>?_;obtain⟨x0,hS⟩:=ip.open hS .z;(unhygienic cases x0);dsimp only [bW,aa,af] at hS;have hq:=ed hS hw;revert hq hS hw;clear hS;refine Wp cy (J1 @AW.ab) ?_<;>intros;exact⟨_,rfl,rfl,rfl⟩
theorem Nv (b:Nat) (s:aF) (br:Int) (d:bm) (A:AW) (hw:A.Wf) (hS:ah A [.h (ip b s br d)]):et 72 [pv b] A (.int .i64 s.av):=by
 refine aH Tryz.func72 λ_=>?_;obtain⟨x0,hS⟩:=ip.open hS .z;(unhygienic cases x0);dsimp only [bW,aa,af] at hS;have hq:=ed hS hw;revert hq hS hw;clear hS;refine Wp cy (J1 @AW.ab) ?_<;>intros;exact⟨_,rfl,rfl,rfl⟩
theorem I4 (b:Nat) (s:aF) (br:Int) (d:bm) (A:AW) (hw:A.Wf) (hS:ah A [.h (ip b s br d)]):et 211 [pv b] A (.int .u64 s.value):=by
 refine aH Tryz.func211 λ_=>?_;obtain⟨x0,hS⟩:=ip.open hS .z;(unhygienic cases x0);dsimp only [bW,aa,af] at hS;have hq:=ed hS hw;revert hq hS hw;clear hS;refine Wp cy (J1 @AW.ab) ?_<;>intros;exact⟨_,rfl,rfl,rfl⟩
theorem Gb (b:Nat) (s:aF) (br:Int) (d:bm) (A:AW) (hw:A.Wf) (hS:ah A [.h (ip b s br d)]):et 70 [pv b] A (.bool s.ai):=by
 refine aH Tryz.func70 λ_=>?_;obtain⟨x0,hS⟩:=ip.open hS .z;(unhygienic cases x0);dsimp only [bW,aa,af] at hS;have hq:=ed hS hw;revert hq hS hw;clear hS;refine Wp cy (J1 @AW.ab) ?_<;>intros;exact⟨_,rfl,rfl,rfl⟩
theorem jN (b:Nat) (s:aF) (br:Int) (d:bm) (A:AW) (hw:A.Wf) (hS:ah A [.h (ip b s br d)]):et 200 [pv b] A (.bool s.fU):=by
 refine aH Tryz.func200 λ_=>?_;obtain⟨x0,hS⟩:=ip.open hS .z;(unhygienic cases x0);dsimp only [bW,aa,af] at hS;obtain⟨va,vv,vi,hS⟩:=nR.open hS (.s (.s (.s (.s (.s .z)))));obtain⟨oa,ca,rfl,_⟩:=(ah.pG hS (.s .z)).dO;have hll:=HL d9 _ oa _ ca vv vi A (hS.g 0 rfl);have hq:=ed hS hw;by_cases h:s.av=1;revert hq hS hw;clear hS;clear hS;refine Wp (J1 @hll) (J2 h @AW.ab) ?_<;>intros;exact⟨_,rfl,by simp [aF.fU,h],rfl⟩;refine Wp (J1 @hll) (J2 h @AW.ab) ?_<;>intros;exact⟨_,rfl,by simp [aF.fU,h],rfl⟩
theorem nE (b:Nat) (s:aF) (br:Int) (d:bm) (A:AW) (hw:A.Wf) (hS:ah A [.h (ip b s br d)]):et 206 [pv b] A (.int .i64 s.sX):=by
 refine aH Tryz.func206 λ_=>?_;have cL:=jN b s br d A hw hS;obtain⟨x0,hS⟩:=ip.open hS .z;(unhygienic cases x0);dsimp only [bW,aa,af] at hS;have hq:=ed hS hw;cases h:s.ai<;>cases h2:s.fU
 all_goals(rw [h2] at cL)
 all_goals(revert hq hS hw;clear hS;refine Wp (J1 @cL) (J2 h @AW.ab) ?_<;>unhygienic intros)
 all_goals exact⟨_,rfl,by simp [aF.sX,h,h2],rfl⟩
theorem rp (b:Nat) (s:aF) (br:Int) (d:bm) (A:AW) (hw:A.Wf) (hS:ah A [.h (ip b s br d)]):et 195 [pv b] A (.int .i64 s.rv):=by
 refine aH Tryz.func195 λ_=>?_;obtain⟨x0,hS⟩:=ip.open hS .z;(unhygienic cases x0);dsimp only [bW,aa,af] at hS;cases he:s.bS with
 | none=>
   have hq:=ed hS hw;rw [he] at hq;dsimp only [mv] at hq;revert hq hS hw;clear hS;refine Wp cy (J1 @AW.ab) ?_<;>intros;exact⟨_,rfl,by simp [aF.rv,he],rfl⟩
 | some en=>
   rw [he] at hS;have UM:A.bt bG=some (gm en):=(IQ.op hS (.s .z)).g 0 rfl;have hsn:=tR bG en A UM;have hq:=ed hS hw;rw [he] at hq;dsimp only [mv] at hq;refine Wp (J1 @hsn) (J1 @AW.ab) ?_<;>intros;exact⟨_,rfl,by simp [aF.rv,he],rfl⟩
end
section
open T7
variable [Gl]
theorem FO (a o rv:Int) (A:AW):az Tryz.prog 218 [.int .i64 a,.int .i64 o,.int .i64 rv] A (λv A'=>v=.pointer (some ⟨A.next,0,none⟩)/\A'=A.alloc (gO ⟨a,o,rv,0,0,0,false⟩)):=by
 refine aH Tryz.func218 λ_=>?_;refine W cy (J1 @gO.eq_1) ?_<;>intros;exact⟨_,rfl,rfl,rfl⟩
theorem FS (b:Nat) (s:hW) (A:AW) (F:HP) (h:bn A (gz b s*F)) (hl:s.eL.length<2^38) :
 az Tryz.prog 249 [.pointer (some ⟨b,0,none⟩)] A (λv A'=>eA A.next A' .u64 v s.eL/\A.le A'):=by
 refine aH Tryz.func249 λhw=>?_;obtain⟨vo,vw,hS⟩:=gz.open h;have hg:=hS.bt;revert hS hw;refine W cy (J2 hg @AW.ab) ?_<;>(unhygienic intros);refine bV (mV vw s.eL A (au.is hS.right.right) (by omega)) ?_;rintro u A1 ⟨h1,h2⟩ i5 _;refine W cy cy ?_<;>intros;exact⟨_,by first|(simp;done)|(simp;rfl),h1,h2⟩
section
variable {A:AW} {L K K2:List It} {k:Value->AW->Prop}
theorem HG {t:Int} {vi:Value} {l:List Int} (hw:A.Wf) (hS:ah A L) (hp:aB L (.h (au .i64 vi l)) K) (hl:l.length<2^38)
 (hk:∀n A',ah A' (.h (gz n ⟨t,eb l,[],0,false⟩)::L)->A'.Wf->k (pv n) A'):az Tryz.prog 216 [.int .i64 t,vi] A k:=by
 refine bV (FP t vi l A (aL L) (ah.pG hS hp) hl hw hS) ?_;rintro _ A' ⟨n,rfl,h1⟩ lp _;exact hk n A' h1 lp
theorem tE {vi vw:Value} {l ws:List Int} (hw:A.Wf) (hS:ah A L) (hp:aB L (.h (au .i64 vi l)) K) (LP:aB L (.h (au .u64 vw ws)) K2) (hl:l.length<2^38) (he:l.length=ws.length)
 (hk:∀n A',ah A' (.h (gG n ⟨l,ws⟩)::L)->A'.Wf->A.le A'->k (pv n) A'):az Tryz.prog 207 [vi,vw] A k:=by
 refine bV (DA vi vw l ws A (aL L) (ah.pG hS hp) (ah.pG hS LP) he hl hw hS) ?_;rintro _ A' ⟨n,rfl,h1,h2⟩ lp _;exact hk n A' h1 lp h2
theorem FN {vi vw:Value} {l ws:List Int} (hw:A.Wf) (hS:ah A L) (hp:aB L (.h (au .i64 vi l)) K) (LP:aB L (.h (au .u64 vw ws)) K2) (hl:l.length<2^38) (he:l.length=ws.length)
 (hk:∀n A',ah A' (.h (gG n ⟨l,ws⟩)::L)->A'.Wf->A.le A'->k (pv n) A'):az Tryz.prog 201 [vi,vw] A k:=by
 refine bV (HB vi vw l ws A (aL L) (ah.pG hS hp) (ah.pG hS LP) he hl hw hS) ?_;rintro _ A' ⟨n,rfl,h1,h2⟩ lp _;exact hk n A' h1 lp h2
theorem nJ {v:Value} {l:List Int} {rv:Int} (hw:A.Wf) (hS:ah A L) (hp:aB L (.h (au .i64 v l)) K) (hl:l.length<2^38)
 (hk:∀n A',ah A' (.h (iK n ⟨l,rv,false⟩)::L)->A'.Wf->A.le A'->k (pv n) A'):az Tryz.prog 193 [v,.int .i64 rv] A k:=by
 refine bV (HH v l rv A (aL L) (ah.pG hS hp) hl hw hS) ?_;rintro _ A' ⟨n,rfl,h1,h2⟩ lp _;exact hk n A' h1 lp h2
theorem Jh {vi:Value} {l:List Int} (hw:A.Wf) (hS:ah A L) (hp:aB L (.h (au .i64 vi l)) K) (hl:l.length<2^38)
 (hk:∀o c A',ah A' (.h (au .i64 (.slice o (eb l).length c) (eb l))::L)->A'.Wf->A.le A'->k (.slice o (eb l).length c) A'):az Tryz.prog 215 [vi] A k:=by
 refine bV (zo vi l A (ah.pG hS hp) (by omega)) ?_;rintro u A' ⟨h1,h2⟩ lp _;obtain⟨o,c,rfl,_⟩:=h1.is.dO;exact hk o c A' (au.jF hS hw h2 h1) lp h2
theorem sw {n:Nat} {s:ri} (hw:A.Wf) (hS:ah A L) (hp:aB L (.h (nR n s)) K) (hl:s.bK.length<2^38)
 (hk:∀o c A',ah A' (.h (au .i64 (.slice o s.bK.length c) s.bK)::L)->A'.Wf->A.le A'->k (.slice o s.bK.length c) A'):az Tryz.prog 124 [pv n] A k:=by
 obtain⟨va,vv,vi,h0⟩:=nR.open hS hp;refine bV (DG n s.ee va vv vi s.bK A (h0.g 0 rfl) (ah.pG h0 (.s .z)) (by omega)) ?_;rintro u A' ⟨h1,h2⟩ lp _;obtain⟨o,c,rfl,_⟩:=h1.is.dO;exact hk o c A' (au.jF hS hw h2 h1) lp h2
theorem DF {n:Nat} {s:ri} (hw:A.Wf) (hS:ah A L) (hp:aB L (.h (nR n s)) K) (hl:s.eM.length<2^38)
 (hk:∀o c A',ah A' (.h (au .u64 (.slice o s.eM.length c) s.eM)::L)->A'.Wf->A.le A'->k (.slice o s.eM.length c) A'):az Tryz.prog 202 [pv n] A k:=by
 obtain⟨va,vv,vi,h0⟩:=nR.open hS hp;refine bV (BV n s.ee va vv vi s.eM A (h0.g 0 rfl) (ah.pG h0 (.s (.s .z))) (by omega)) ?_;rintro u A' ⟨h1,h2⟩ lp _;obtain⟨o,c,rfl,_⟩:=h1.is.dO;exact hk o c A' (au.jF hS hw h2 h1) lp h2
theorem pk {n ee:Nat} {l:List Int} (hw:A.Wf) (hS:ah A L) (hp:aB L (.h (uO n ee l)) K) (hl:l.length<2^38)
 (hk:∀o c A',ah A' (.h (au .i64 (.slice o l.length c) l)::L)->A'.Wf->A.le A'->k (.slice o l.length c) A'):az Tryz.prog 194 [pv n] A k:=by
 obtain⟨v,h0⟩:=uO.open hS hp;refine bV (Fu n ee v l A (h0.g 0 rfl) (ah.pG h0 (.s .z)) (by omega)) ?_;rintro u A' ⟨h1,h2⟩ lp _;obtain⟨o,c,rfl,_⟩:=h1.is.dO;exact hk o c A' (au.jF hS hw h2 h1) lp h2
theorem su {n:Nat} {s:ri} {a:Int} (lq:mZ s) (yR:s.ee<=32) (RH:s.index.length<=64) (ha:0<=a) (hw:A.Wf) (hS:ah A L) (hp:aB L (.h (nR n s)) K)
 (hk:k (.tuple #[.int .u64 (jU s a).1,.bool (jU s a).2]) A):az Tryz.prog 136 [pv n,.int .i64 a] A k:=by
 obtain⟨va,vv,vi,h0⟩:=nR.open hS hp;refine bV (HM n va vv vi s a A lq ha yR RH (h0.g 0 rfl) (ah.pG h0 (.s .z)) (ah.pG h0 (.s (.s .z))) (ah.pG h0 (.s (.s (.s .z))))) ?_;rintro _ _ ⟨rfl,rfl⟩ _ _;exact hk
theorem HO {n:Nat} {s:hW} (hw:A.Wf) (hS:ah A L) (hp:aB L (.h (gz n s)) K) (hl:s.eL.length<2^38)
 (hk:∀o c A',ah A' (.h (au .u64 (.slice o s.eL.length c) s.eL)::L)->A'.Wf->A.le A'->k (.slice o s.eL.length c) A'):az Tryz.prog 249 [pv n] A k:=by
 have h0:bn A (gz n s*aL K):=by
  unfold ah at hS;rw [hp.aL] at hS;exact hS
 refine bV (FS n s A (aL K) h0 hl) ?_;rintro u A' ⟨h1,h2⟩ lp _;obtain⟨o,c,rfl,_⟩:=h1.is.dO;exact hk o c A' (au.jF hS hw h2 h1) lp h2
end
end
section
open T12 T13
variable [Gl]
structure fN (s:aF):Prop where
 cf:cx s.cf
 Om:0<=s.ak/\s.ak<1024
 bp:mZ s.bp
 ee:s.bp.ee<=32
 dm:s.bp.index.length<=64
 Gx:∀a∈s.bp.bK,a<2^40
 NH:∀x∈s.ag,0<=x/\x<2^40
 ln:s.ag.length<=8
 push:s.aj<=s.ag.length
 set:s.set.length<=s.cf.reads.toNat
 BA:s.reads.length<2^20
 An:s.ar.length<=8
theorem fN.al {s:aF} (h:fN s):∀x∈s.ag,x<2^62:=λx hx=>by have:=(h.NH x hx).2;omega
theorem fN.len {s:aF} (h:fN s):s.bp.bK.length<=32:=Nat.le_trans h.bp.ee h.ee
theorem uk (s:aF) (a v:Int):((fj s.bp a v).1=true/\ia s a v=(true,{ s with bp:=(fj s.bp a v).2 }))\/((fj s.bp a v).1=false/\ia s a v=(false,iL s 3)):=by
 unfold ia;cases h:(fj s.bp a v).1<;>simp
theorem tA (b:Nat) (s:aF) (a v:Int) (hd:s.aC=.bq) (hC:fN s) (ha:0<=a) :
 bf Tryz.prog 141 [pv b,.int .i64 a,.int .u64 v] [.h (aX b s)] (λu=>u=.bool (ia s a v).1) (λ_=>[.h (aX b (ia s a v).2)]):=by
 have hcs:=uk s a v;(unhygienic cases s);dsimp only at hd;subst hd;intro A F hw hS;refine aH Tryz.func141 λ_=>?_;obtain⟨x0,hS⟩:=aX.open hS .z;(unhygienic cases x0);dsimp only [bW,gH,b9,dZ,bm.fA,aa,af] at hS;have hq:=ed hS hw;dsimp only at hcs;rcases hcs with ⟨h,e⟩|⟨h,e⟩
 . have jV:=zB d9 bp a v hC.bp ha hC.ee hC.dm;rw [h] at jV;revert hq hS hw;clear hS;refine Wp (J1 @jV) (J1 bF) ?_<;>(unhygienic intros);rw [e];refine⟨_,by first|rfl|(simp;rfl),rfl,?_⟩;apply aX.bI
   (·exact sA)
   exact fP
   (·first|exact pP|exact kP)
   all_goals(first|exact 0|exact undef)
 have jV:=zB d9 bp a v hC.bp ha hC.ee hC.dm;rw [h] at jV;have gl:(fj bp a v).2=bp:=by
  revert h;unfold fj;split;simp;split<;>simp
 rw [gl] at jV;revert hq hS hw;(repeat first|clear hq|clear hS|clear hw|revert hc|revert R|revert K);refine Wp (J2 (Tg.mk (n:=20) (iz b ⟨cf,ak,aA,av,value,bS,ai,reads,ag,ar,set,bp,aw,am,aJ,aI,aj,.bq⟩ 0 3 .bq hC.cf hC.al hC.push (Nat.lt_of_le_of_lt hC.ln (by decide)))) @jV) (J1 bF) ?_<;>(unhygienic intros);rw [e];exact⟨_,by first|rfl|(simp;rfl),rfl,ah.bI hS (.s .z (.s .z .z))⟩
theorem fN.to {s s':aF} (hC:fN s) (h1:s'.cf=s.cf) (h2:s'.ak=s.ak) (h3:s'.bp=s.bp) (h4:s'.ag=s.ag) (h5:s'.aj=s.aj) (h6:s'.set=s.set) (h7:s'.reads=s.reads) (h8:s'.ar=s.ar):fN s':=by
 (unhygienic cases s);obtain⟨cf',Q1,TI,mU,TD,ent',P7,TT,Sl,U3,set',log',Vj,T3,WL,Wo,Q9,Vf⟩:=s';dsimp only at h1 h2 h3 h4 h5 h6 h7 h8;subst h1 h2 h3 h4 h5 h6 h7 h8;exact⟨hC.cf,hC.Om,hC.bp,hC.ee,hC.dm,hC.Gx,hC.NH,hC.ln,hC.push,hC.set,hC.BA,hC.An⟩
theorem Ho (p:nQ) (M:Mm):(dY p M).2.1.dC=p.dC:=by
 rcases Et p M with ⟨h,e⟩|⟨h,e⟩|⟨h,e⟩|⟨w,h,e⟩|⟨w,h,e⟩|⟨h,e⟩<;>rw [e]
end
section
abbrev LF:List (Nat×Nat):=[(0,0),(1,0),(2,0),(3,0),(4,0),(5,0),(6,0),(7,0),(8,0),(9,0),(10,0),(11,2),(12,2),(13,0),(14,0),(15,3),(16,0),(17,0),(18,0),(19,3)]
abbrev xu:List (Nat×Nat):=[(0,0),(1,0),(2,0),(3,0),(4,0),(5,0),(6,0),(7,0),(8,0),(9,0),(10,3),(11,0),(12,0),(13,3),(14,0),(15,0),(16,0),(17,3)]
open T12 T13
variable [Gl]
theorem rZ (b:Nat) (s:aF) (br:Int) (d:bm) (hl:s.am.length<2^20) (PA:s.am.length=0\/∃l,s.aJ=some l/\s.am.length=l.eL.length) :
 bf Tryz.prog 199 [pv b] [.h (ip b s br d)] (λ_=>True) (λ_=>[.h (aX b (fK s))]):=by
 (unhygienic cases s);dsimp only at hl PA;by_cases h0:am.length=0
 . have e:fK ⟨cf,ak,aA,av,value,bS,ai,reads,ag,ar,set,bp,aw,am,aJ,aI,aj,aC⟩=⟨cf,ak,aA,av,value,bS,ai,reads,ag,ar,set,bp,aw,am,aJ,aI,aj,.eT⟩:=ay h0;intro A F hw hS;refine aH Tryz.func199 λ_=>?_;obtain⟨x0,hS⟩:=ip.open hS .z;(unhygienic cases x0);dsimp only [bW,aa,af] at hS;have hq:=ed hS hw;obtain⟨oo,co,rfl,_⟩:=(ah.pG hS (.s (.s (.s (.s (.s (.s (.s (.s (.s .z)))))))))).dO;have h1:(am.length:Int)=0:=(by omega);revert hq hS hw;clear hS;refine Wp (J1 (od LF)) (J2 h1 bF) ?_<;>(unhygienic intros);rw [e];refine⟨_,by first|rfl|(simp;rfl),trivial,?_⟩;apply aX.bI
   (·exact sA)
   exact fP
   (·first|exact pP|exact kP)
   all_goals(first|exact 0|exact undef)
 obtain⟨l,rfl,uz⟩:∃l,aJ=some l/\am.length=l.eL.length:=by
  rcases PA with h|h;exact absurd h h0;exact h
 have e:fK ⟨cf,ak,aA,av,value,bS,ai,reads,ag,ar,set,bp,aw,am,some l,aI,aj,aC⟩=⟨cf,ak,aA,av,value,bS,ai,reads,ag,ar,set,bp,aw,am,some l,aI,aj,.bX ⟨am,l.eL⟩⟩:=ap h0;intro A F hw hS;refine aH Tryz.func199 λ_=>?_;obtain⟨x0,hS⟩:=ip.open hS .z;(unhygienic cases x0);dsimp only [bW,aa,af] at hS;have hq:=ed hS hw;have hS:=sM.op hS (.s (.s .z));obtain⟨oo,co,rfl,_⟩:=(ah.pG hS (.s (.s (.s (.s (.s (.s (.s (.s (.s .z)))))))))).dO;dsimp only [iM] at hq;have h1:¬(am.length:Int)=0:=by omega
 have h2:¬am=[]:=λh=>by rw [h] at h0;exact h0 rfl
 revert hq hS hw;(repeat first|clear hq|clear hS|clear hw|revert hc|revert R|revert K);refine Wp (J3 (Tg.mk (n:=11) @HO) (Tg.mk (n:=12) @tE) (od LF)) (J3 h1 h2 bF) ?_<;>(unhygienic intros);rw [e];refine⟨_,by first|rfl|(simp;rfl),trivial,?_⟩;apply aX.bI
 (·exact sA)
 exact fP
 (·first|exact pP|exact kP)
 all_goals(first|exact 0|exact undef)
theorem Dr (l:List Int):(eb l).length<=l.length:=by
 have:=tU (pj l)
 simpa [eb,pj] using this
theorem Nt (s:aF) (av:Int):((decide (av=1) && decide (0<s.bp.bK.length))=false/\lZ s av={ s with av:=av,aI:=some ⟨false,0,false⟩,aC:=.cq }) \/
 ((decide (av=1) && decide (0<s.bp.bK.length))=true/\lZ s av={ s with av:=av,am:=eb (s.bp.bK.map (fF s.cf)),aJ:=some ⟨s.ak,eb (eb (s.bp.bK.map (fF s.cf))),[],0,false⟩,aC:=.ei }):=by
 unfold lZ;cases h:(decide (av=1) && decide (0<s.bp.bK.length))<;>simp
theorem tT (b:Nat) (s:aF) (mU:Int) (hd:s.aC=.bq) (hC:fN s) :
 bf Tryz.prog 132 [pv b,.int .i64 mU] [.h (aX b s)] (λ_=>True) (λ_=>[.h (aX b (lZ s mU))]):=by
 have hcs:=Nt s mU;(unhygienic cases s);dsimp only at hd;subst hd;intro A F hw hS;refine aH Tryz.func132 λ_=>?_;obtain⟨x0,hS⟩:=aX.open hS .z;(unhygienic cases x0);dsimp only [bW,gH,b9,dZ,bm.fA,aa,af] at hS;have hq:=ed hS hw;dsimp only at hcs;have b6:=hC.len;dsimp only at b6
 have cL:∀A',A'.Wf->ah A' [.h (ip b ⟨cf,ak,aA,mU,value,bS,ai,reads,ag,ar,set,bp,aw,am,aJ,aI,aj,.bq⟩ 0 .bq)]->et 200 [pv b] A' (.bool (decide (mU=1) && decide (0<bp.bK.length))):=
  λA' h1 h2=>jN b _ 0 .bq A' h1 h2
 rcases hcs with ⟨h,e⟩|⟨h,e⟩
 . rw [h] at cL;rw [e];revert hq hS hw;clear hS;refine Wp (J3 (Tg.mk (n:=30) @cL) (od xu) @lI) (J1 bF) ?_<;>(unhygienic intros);refine⟨_,by first|rfl|(simp;rfl),trivial,?_⟩;apply aX.bI
   (·exact sA)
   exact fP
   (·first|exact pP|exact kP)
   all_goals(first|exact 0|exact undef)
 rw [h] at cL;rw [e];revert hq hS hw;(repeat first|clear hq|clear hS|clear hw|revert hc|revert R|revert K);refine Wp (J2 (Tg.mk (n:=30) @cL) (od xu)) (J1 bF) ?_<;>(unhygienic intros);apply sw (n:=d9) (s:=bp)
 (·exact wA)
 (·exact sA)
 (·first|exact pP|exact kP)
 omega;intro o1 c3 A1 hS hw _;have hS:ah A1 (.h (au .i64 (.slice o1 bp.bK.length c3) bp.bK)::(bW b ⟨cf,ak,aA,mU,value,bS,ai,reads,ag,ar,set,bp,aw,am,aJ,aI,aj,.bq⟩ 0 .bq ⟨dP,d9,bG,cJ,cA,m,c0,c1,c2,cX,bj,bO,bQ,dQ,cY,eB,bR,bP,aZ,cZ,db,fR,dR⟩++[.h F])):=by
  apply ah.bI hS;dsimp only [bW,s9,gH,b9,dZ,bm.fA,oz,kR,oR,vU,kV,kN,ig,oA,oe,vF,og,aa,af]
  (·first|exact pP|exact kP)
 have mf:=ul cf hC.cf;dsimp only [bH.v] at mf;generalize hn:bp.bK=ad at *;revert hq hS hw;(repeat first|clear hq|clear hS|clear hw|revert hc|revert R|revert K);refine Wp (J1 (od xu)) (J1 bF) ?_<;>(unhygienic intros)
 refine dW (λk fr A'=>A'.Wf/\∃(i:Nat) (v:Value) (q:List Int),q=(ad.take i).map (fF cf)/\k=ad.length-i/\i<=ad.length/\fr 0=pv b/\fr 4=v/\fr 27=.slice o1 ad.length c3/\fr 28=.int .i64 ad.length/\fr 29=.int .i64 i/\
  ah A' (.h (au .i64 v q)::.h (au .i64 (.slice o1 ad.length c3) ad)::(bW b ⟨cf,ak,aA,mU,value,bS,ai,reads,ag,ar,set,bp,aw,am,aJ,aI,aj,.bq⟩ 0 .bq ⟨dP,d9,bG,cJ,cA,m,c0,c1,c2,cX,bj,bO,bQ,dQ,cY,eB,bR,bP,aZ,cZ,db,fR,dR⟩++[.h F]))) ad.length ?_ ?_
 refine⟨hw,0,.slice none 0 0,[],by simp,by simp,by simp,by simp,by simp,by simp,by simp,by simp,?_⟩
 simpa using ah.pS .i64 hS
 rintro k fr A' ⟨hw,i,v,q,zF,rfl,hi,h0,h4,h27,h28,Wb,hS⟩;have hI:=ah.pG hS (.s .z);have Tb:=ah.pG hS .z;have hql:q.length=i:=by rw [zF];simp;omega
 obtain⟨ov,cv,rfl,_⟩:=Tb.dO;dsimp only [bW,s9,gH,b9,dZ,bm.fA,oz,kR,oR,vU,kV,kN,ig,oA,oe,vF,og,aa,af] at hS;have hq:=LN hS hw;refine bh ?_;by_cases cF:i<ad.length
 . have fZ:(i:Int)<ad.length:=(by omega);have hP:=D9 (i:=i);obtain⟨p,cD,rfl,cH,hcell⟩:=hI.at cF;revert hq hS hw;(repeat first|clear hq|clear hS|clear hw|revert hc|revert R|revert K);refine Wu (J2 (od xu) @mf) (IX h0 h4 h27 h28 Wb cH hcell cF fZ hP bF) ?_<;>(unhygienic intros);refine⟨ad.length-(i+1),by omega,hw,i+1,_,q++[fF cf ad[i]],?_,rfl,by omega,by simp [h0],by simp;rfl,by simp [h27],by simp [h28],by simp,?_⟩;rw [zF,List.take_succ_eq_append_getElem cF,List.map_append];rfl;apply ah.bI hS;dsimp only [bW,s9,gH,b9,dZ,bm.fA,oz,kR,oR,vU,kV,kN,ig,oA,oe,vF,og,aa,af]
   (·first|exact pP|exact kP)
 have Ki:i=ad.length:=by omega
 subst Ki;rw [List.take_length] at zF;have Kb:(eb q).length<=q.length:=Dr q;revert hq hS hw;(repeat first|clear hq|clear hS|clear hw|revert hc|revert R|revert K);refine Wp (J3 (Tg.mk (n:=11) @Jh) (Tg.mk (n:=11) @HG) (od xu)) (J6 h0 h4 h27 h28 Wb bF) ?_<;>(unhygienic intros);rw [<-zF];refine⟨_,by first|rfl|(simp;rfl),trivial,?_⟩;apply aX.bI
 (·exact sA)
 exact fP
 (·first|exact pP|exact kP)
 all_goals(first|exact 0|exact undef)
end
section
abbrev xt:List (Nat×Nat):=[(0,0),(1,0),(2,0),(3,0),(4,0),(5,0),(6,0),(7,0),(8,0),(9,0),(10,0),(11,0),(12,0)]
open T12 T13
variable [Gl]
theorem xA (s:ri) (a v:Int):(fj s a v).2.ee=s.ee/\(fj s a v).2.index.length=s.index.length/\(∀x∈(fj s a v).2.bK,x∈s.bK\/x=a):=by
 unfold fj;split;exact⟨rfl,rfl,λx hx=>.inl hx⟩;split;exact⟨rfl,rfl,λx hx=>.inl hx⟩;exact⟨rfl,by simp,λx hx=>by simpa using hx⟩
theorem fN.put {s:aF} (hC:fN s) {a:Int} (ha:0<=a/\a<2^40) (v:Int):fN { s with bp:=(fj s.bp a v).2 }:=by
 obtain⟨h1,h2,h3⟩:=xA s.bp a v;refine⟨hC.cf,hC.Om,Ey hC.bp ha.1 v,?_,?_,?_,hC.NH,hC.ln,hC.push,hC.set,hC.BA,hC.An⟩;show (fj s.bp a v).2.ee<=32;rw [h1];exact hC.ee;show (fj s.bp a v).2.index.length<=64;rw [h2];exact hC.dm;intro x hx;rcases h3 x hx with h|rfl;exact hC.Gx x h;exact ha.2
theorem Id (s:aF) (b st:Int):(¬st=IntKind.u64.wrap (IntKind.u64.wrap (c8 s.cf b)+1)/\jG s b st=lZ s 8) \/
 ((st=IntKind.u64.wrap (IntKind.u64.wrap (c8 s.cf b)+1)/\s.cf.ar<=s.ar.length)/\jG s b st=iL s 3) \/
 (((st=IntKind.u64.wrap (IntKind.u64.wrap (c8 s.cf b)+1)/\¬s.cf.ar<=s.ar.length)/\(fj s.bp (s.cf.aR+b) 0).1=true)/\jG s b st={ s with bp:=(fj s.bp (s.cf.aR+b) 0).2,ar:=s.ar++[b] }) \/
 (((st=IntKind.u64.wrap (IntKind.u64.wrap (c8 s.cf b)+1)/\¬s.cf.ar<=s.ar.length)/\(fj s.bp (s.cf.aR+b) 0).1=false)/\jG s b st=iL s 3):=by
 unfold jG;by_cases h1:st=IntKind.u64.wrap (IntKind.u64.wrap (c8 s.cf b)+1);by_cases h2:s.cf.ar<=s.ar.length;simp [h1,h2];cases h3:(fj s.bp (s.cf.aR+b) 0).1<;>simp [h1,h2,ia,h3];simp [h1]
theorem Ch (b:Nat) (s:aF) (k st:Int) (hd:s.aC=.bq) (hC:fN s) (hk:0<=k/\k<s.cf.nb) :
 bf Tryz.prog 230 [pv b,.int .i64 k,.int .u64 st] [.h (aX b s)] (λ_=>True) (λ_=>[.h (aX b (jG s k st))]):=by
 have hcs:=Id s k st;have jV:=uk s (s.cf.aR+k) 0;(unhygienic cases s);dsimp only at hd;subst hd;intro A F hw hS;refine aH Tryz.func230 λ_=>?_;obtain⟨x0,hS⟩:=aX.open hS .z;(unhygienic cases x0);dsimp only [bW,gH,b9,dZ,bm.fA,aa,af] at hS;have hq:=ed hS hw;dsimp only at hcs hk jV;have QJ:=hC.An;dsimp only at QJ;have Aj:=hC.cf.nb;have QD:=hC.cf.aR;dsimp only at Aj QD;have iR:=sE cf hC.cf k (by omega);dsimp only [bH.v] at iR;obtain⟨ofr,cfr,rfl,_⟩:=(ah.pG hS (.s (.s (.s (.s (.s (.s (.s (.s .z))))))))).dO;have Pm:IntKind.i64.wrap (cf.aR+k)=cf.aR+k:=an (by omega) (by omega);rcases hcs with ⟨h,e⟩|⟨h,e⟩|⟨h,e⟩|⟨h,e⟩;rw [e];revert hq hS hw;clear hS;refine Wp (J3 (Tg.mk (n:=21) (tT b ⟨cf,ak,aA,av,value,bS,ai,reads,ag,ar,set,bp,aw,am,aJ,aI,aj,.bq⟩ 8 rfl hC)) (od xt) @iR) (J2 h bF) ?_<;>(unhygienic intros);exact⟨_,by first|rfl|(simp;rfl),trivial,ah.bI hS (.s .z (.s .z .z))⟩
 . rw [e];revert hq hS hw;(repeat first|clear hq|clear hS|clear hw|revert hc|revert R|revert K);refine Wp (J3 (Tg.mk (n:=20) (iz b ⟨cf,ak,aA,av,value,bS,ai,reads,ag,ar,set,bp,aw,am,aJ,aI,aj,.bq⟩ 0 3 .bq hC.cf hC.al hC.push (Nat.lt_of_le_of_lt hC.ln (by decide)))) (od xt) @iR) (J2 h bF) ?_<;>(unhygienic intros);exact⟨_,by first|rfl|(simp;rfl),trivial,ah.bI hS (.s .z (.s .z .z))⟩
 . rw [e];have MY:=tA b ⟨cf,ak,aA,av,value,bS,ai,reads,ag,ar,set,bp,aw,am,aJ,aI,aj,.bq⟩ (cf.aR+k) 0 rfl hC (by omega);rcases jV with ⟨h9,e9⟩|⟨h9,e9⟩
   . rw [e9] at MY
     repeat' (first|(with_reducible apply lwI;(·first|(simp;done)|(simp;rfl));(·first|(simp;done)|(simp;rfl));(·exact wA);(·exact sA);(·first|exact pP|exact kP);(·first|(simp;done)|(simp;rfl)|(simp [hq];done)|(simp [hq];rfl));(·first|omega|(simp;omega));(·intro _ _;trivial);rintro _ _ _ hS hw _;(try dsimp only [AW.bx] at hS);have hq:=EF hS hw)|(refine jK λR hR=>?_;simp [an,ax,hq,h,Pm,AW.ab,aD];try simp (disch:=omega) only [ay,ap,an,ax])|(refine hR _ _ ?_;clear hR R)|(refine hK _ _ ?_;clear hK K)|refine nx ?_|refine wn λK hK=>?_|simp only [wS,xt]|refine wl Tryz.mx xt (by decide +kernel) λK hK=>?_|(refine bV (iR _) ?_;rintro _ _ ⟨rfl,rfl⟩ _ _)|(apply bf.Oi (MY);(·exact wA);(·exact sA);(·exact fP);(·first|exact pP|exact kP);(rintro _ _ rfl hS hw _;have hS:=lA hS;(obtain ⟨x0,hS⟩:=aX.open hS .z;(unhygienic cases x0);dsimp only [bW,gH,b9,dZ,bm.fA,aa,af] at hS;have hq:=ed hS hw));all_goals(try (first|exact 0|exact undef)))|(show cB _ _ _ _ _ _;refine nx ?_)|(refine wc rfl (λhc=>?_) (λhc=>?_)<;>(try simp at hc)<;>(try omega)<;>(try (simp [h2] at hc;done))<;>(try (simp [h3] at hc;done))<;>(try (simp [h4] at hc;done)))|(refine ib (λhc=>?_) (λhc=>?_)<;>(try omega)<;>(try simp (disch:=omega) only [ay,ap])))
     refine⟨_,by first|rfl|(simp;rfl),trivial,?_⟩;apply aX.bI
     (·exact sA)
     exact fP
     (·first|exact pP|exact kP)
     all_goals(first|exact 0|exact undef)
   rw [h.2] at h9;cases h9
 rw [e];have MY:=tA b ⟨cf,ak,aA,av,value,bS,ai,reads,ag,ar,set,bp,aw,am,aJ,aI,aj,.bq⟩ (cf.aR+k) 0 rfl hC (by omega);rcases jV with ⟨h9,e9⟩|⟨h9,e9⟩;rw [h.2] at h9;cases h9;rw [e9] at MY;revert hq hS hw;(repeat first|clear hq|clear hS|clear hw|revert hc|revert R|revert K);refine Wp (J3 (Tg.mk (n:=21) @MY) (od xt) @iR) (J3 h Pm bF) ?_<;>(unhygienic intros);exact⟨_,by first|rfl|(simp;rfl),trivial,ah.bI hS (.s .z (.s .z .z))⟩
end
section
open T12 T13
variable [Gl]
def NP (b:Nat) (s:aF) (br:Int) (p:nQ):HP:=pe λf:pi=>aL (bW b s br (.eh p) f++[.at f.m (lX p)])
theorem NP.open {A:AW} {L K:List It} {b:Nat} {s:aF} {br:Int} {p:nQ} (h:ah A L) (hp:aB L (.h (NP b s br p)) K):∃f,ah A (bW b s br (.eh p) f++[.at f.m (lX p)]++K):=ld h hp
theorem bf.useX {P:Program} {f:FuncId} {args:List Value} {rk:List It} {φ:Value->Prop} {post:Value->List It} {b:Nat} {s:aF} {br:Int} {p:nQ} (hc:bf P f args (.h (NP b s br p)::rk) φ post) {A:AW} {L K:List It} {dP d9 bG cJ cA m c0 c1 c2:Nat} {cX bj bO bQ dQ cY eB bR bP aZ cZ db fR dR:Value} {K0:List It} {k:Value->AW->Prop} (hw:A.Wf) (hS:ah A L)
 (e:aQ L (bW b s br (.eh p) ⟨dP,d9,bG,cJ,cA,m,c0,c1,c2,cX,bj,bO,bQ,dQ,cY,eB,bR,bP,aZ,cZ,db,fR,dR⟩++[.at m (lX p)]) K0) (e2:aQ K0 rk K) (hk:∀v A',φ v->ah A' (post v++K)->A'.Wf->A.next<=A'.next->k v A'):az P f args A k:=
 bf.eH hc hw (iH (g:=λf:pi=>bW b s br (.eh p) f++[.at f.m (lX p)]) ⟨dP,d9,bG,cJ,cA,m,c0,c1,c2,cX,bj,bO,bQ,dQ,cY,eB,bR,bP,aZ,cZ,db,fR,dR⟩ hS e) (.s .z e2) hk
theorem GX (n:Nat) (a:Int) (s:aF):gh (n+1) a s=if (ia s a 0).1=true then gh n (a+1) (ia s a 0).2 else (false,(ia s a 0).2):=rfl
theorem GW (a:Int) (s:aF):gh 0 a s=(true,s):=rfl
theorem CS (b:Nat) (s:aF) (p:nQ) (hC:fN { s with aC:=.bq }) (sS:s.ag.length<8) (hp:p.block<s.cf.nb) (iR:0<=p.dC/\p.dC<=3) :
 bf Tryz.prog 226 [pv b,.int .i64 p.dC] [.h (NP b { s with aC:=.bq } 0 p)] (λ_=>True) (λ_=>[.h (aX b (fu { s with aC:=.bq } p.dC p.block))]):=by
 (unhygienic cases s);obtain⟨dC,pat,SF,SE,iy⟩:=p;dsimp only at hC sS hp iR ⊢;intro A F hw hS;refine aH Tryz.func226 λ_=>?_;obtain⟨⟨dP,d9,bG,cJ,cA,m,c0,c1,c2,cX,bj,bO,bQ,dQ,cY,eB,bR,bP,aZ,cZ,db,fR,dR⟩,hS⟩:=NP.open hS .z;dsimp only [bW,gH,b9,dZ,bm.fA,aa,af] at hS;have hq:=ed hS hw;have Aj:=hC.cf.nb;have QD:=hC.cf.aR;dsimp only at Aj QD;have B6:=Dw m ⟨dC,pat,SF,SE,iy⟩;by_cases h:iy<0
 . have e:fu ⟨cf,ak,aA,av,value,bS,ai,reads,ag,ar,set,bp,aw,am,aJ,aI,aj,.bq⟩ dC iy=iL ⟨cf,ak,aA,av,value,bS,ai,reads,ag,ar,set,bp,aw,am,aJ,aI,aj,.bq⟩ 4:=ay h;rw [e]
   repeat' (first|(refine jK λR hR=>?_;simp [an,ax,hq,h,AW.ab,aD];try simp (disch:=omega) only [ay,ap,an,ax])|(refine hR _ _ ?_;clear hR R)|(refine hK _ _ ?_;clear hK K)|refine nx ?_|refine wn λK hK=>?_|simp only [wS]|(refine bV (B6 _ (by simp [hq])) ?_;rintro _ _ ⟨rfl,rfl⟩ _ _)|(apply bf.jd (iz b ⟨cf,ak,aA,av,value,bS,ai,reads,ag,ar,set,bp,aw,am,aJ,aI,aj,.bq⟩ 0 4 (.eh ⟨dC,pat,SF,SE,iy⟩) hC.cf hC.al hC.push (Nat.lt_of_le_of_lt hC.ln (by decide)));(·exact wA);(·exact sA);(·exact fP);(·first|exact pP|exact kP);(rintro _ _ _ hS hw _;have hS:=lA hS);(try (have hq:=EF hS hw));all_goals(try (first|exact 0|exact undef)))|(show cB _ _ _ _ _ _;refine nx ?_)|(refine wc rfl (λhc=>?_) (λhc=>?_)<;>(try simp at hc)<;>(try omega)<;>(try (simp [h2] at hc;done))<;>(try (simp [h3] at hc;done))<;>(try (simp [h4] at hc;done)))|(refine ib (λhc=>?_) (λhc=>?_)<;>(try omega)<;>(try simp (disch:=omega) only [ay,ap])))
   refine⟨_,by first|rfl|(simp;rfl),trivial,?_⟩;apply ah.bI hS
   (·first|exact pP|exact kP)
 have Pm:IntKind.i64.wrap (cf.aR+iy)=cf.aR+iy:=an (by omega) (by omega);have Up:IntKind.u64.wrap (IntKind.u64.wrap dC+1)=dC+1:=by
  rw [ax (x:=dC) (by omega) (by omega),ax (by omega) (by omega)]
 have hC1:fN ⟨cf,ak,aA,av,value,bS,ai,reads,ag++[iy],ar,set,bp,aw,am,aJ,aI,aj,.bq⟩:=by
  refine⟨hC.cf,hC.Om,hC.bp,hC.ee,hC.dm,hC.Gx,?_,?_,?_,hC.set,hC.BA,hC.An⟩;intro x hx;rcases List.mem_append.1 hx with h1|h1;exact hC.NH x h1;simp at h1;subst h1;omega;show (ag++[iy]).length<=8;simp;omega;show aj<=(ag++[iy]).length;have:=hC.push;dsimp only at this;simp;omega
 have MY:=tA b ⟨cf,ak,aA,av,value,bS,ai,reads,ag++[iy],ar,set,bp,aw,am,aJ,aI,aj,.bq⟩ (cf.aR+iy) (dC+1) rfl hC1 (by omega)
 have e:fu ⟨cf,ak,aA,av,value,bS,ai,reads,ag,ar,set,bp,aw,am,aJ,aI,aj,.bq⟩ dC iy =
  if (ia ⟨cf,ak,aA,av,value,bS,ai,reads,ag++[iy],ar,set,bp,aw,am,aJ,aI,aj,.bq⟩ (cf.aR+iy) (dC+1)).1=true then
   if (gh (2 ^ dC.toNat) (gv cf iy) (ia ⟨cf,ak,aA,av,value,bS,ai,reads,ag++[iy],ar,set,bp,aw,am,aJ,aI,aj,.bq⟩ (cf.aR+iy) (dC+1)).2).1=true then { (gh (2 ^ dC.toNat) (gv cf iy) (ia ⟨cf,ak,aA,av,value,bS,ai,reads,ag++[iy],ar,set,bp,aw,am,aJ,aI,aj,.bq⟩ (cf.aR+iy) (dC+1)).2).2 with value:=IntKind.u64.wrap (gv cf iy) }
   else (gh (2 ^ dC.toNat) (gv cf iy) (ia ⟨cf,ak,aA,av,value,bS,ai,reads,ag++[iy],ar,set,bp,aw,am,aJ,aI,aj,.bq⟩ (cf.aR+iy) (dC+1)).2).2
  else (ia ⟨cf,ak,aA,av,value,bS,ai,reads,ag++[iy],ar,set,bp,aw,am,aJ,aI,aj,.bq⟩ (cf.aR+iy) (dC+1)).2:=ap h
 rcases uk ⟨cf,ak,aA,av,value,bS,ai,reads,ag++[iy],ar,set,bp,aw,am,aJ,aI,aj,.bq⟩ (cf.aR+iy) (dC+1) with ⟨h9,e9⟩|⟨h9,e9⟩
 . have hC2:=hC1.put (a:=cf.aR+iy) (by omega) (dC+1);rw [e9] at MY e;rw [ay rfl] at e;rw [e];dsimp only at MY hC2 ⊢;have RK:=Cj cf hC.cf iy (by omega);dsimp only [bH.v] at RK;have Ai:¬dC<0:=(by omega);obtain⟨n,hn⟩:∃n,2 ^ dC.toNat=n:=⟨_,rfl⟩;have hn8:n<=8:=by
    have h4:dC=0\/dC=1\/dC=2\/dC=3:=(by omega);rcases h4 with rfl|rfl|rfl|rfl<;>(rw [<-hn];decide)
   have hsh:nh .shl .i64 1 dC=some (.int .i64 (n:Int)):=by
    have h4:dC=0\/dC=1\/dC=2\/dC=3:=(by omega);rw [<-hn];rcases h4 with rfl|rfl|rfl|rfl<;>rfl
   obtain⟨_,RL,hf1⟩:=uy hC.cf iy (by dsimp only;omega);dsimp only at RL hf1;have IU:gv cf iy<=64:=by
    have h5:(0:Int)<2 ^ (c8 cf iy).toNat:=Int.pow_pos (by omega);omega
   rw [hn];generalize gv cf iy=fst at *
   repeat' (first|(with_reducible apply lwI;(·first|(simp;done)|(simp;rfl));(·first|(simp;done)|(simp;rfl));(·exact wA);(·exact sA);(·first|exact pP|exact kP);(·first|(simp;done)|(simp;rfl)|(simp [hq];done)|(simp [hq];rfl));(·first|omega|(simp;omega));(·intro _ _;trivial);rintro _ _ _ hS hw _;(try dsimp only [AW.bx] at hS);have hq:=EF hS hw)|(refine jK λR hR=>?_;simp [an,ax,hq,h,Pm,Up,hsh,AW.ab,aD];try simp (disch:=omega) only [ay,ap,an,ax])|(refine hR _ _ ?_;clear hR R)|(refine hK _ _ ?_;clear hK K)|refine nx ?_|refine wn λK hK=>?_|simp only [wS]|(refine bV (B6 _ (by simp [hq])) ?_;rintro _ _ ⟨rfl,rfl⟩ _ _)|(refine bV (RK _) ?_;rintro _ _ ⟨rfl,rfl⟩ _ _)|(apply bf.Oi (MY);(·exact wA);(·exact sA);(·exact fP);(·first|exact pP|exact kP);(rintro _ _ rfl hS hw _;have hS:=lA hS;(obtain ⟨x0,hS⟩:=aX.open hS .z;(unhygienic cases x0);dsimp only [bW,gH,b9,dZ,bm.fA,aa,af] at hS;have hq:=ed hS hw));all_goals(try (first|exact 0|exact undef)))|(show cB _ _ _ _ _ _;refine nx ?_)|(refine wc rfl (λhc=>?_) (λhc=>?_)<;>(try simp at hc)<;>(try omega)<;>(try (simp [h2] at hc;done))<;>(try (simp [h3] at hc;done))<;>(try (simp [h4] at hc;done)))|(refine ib (λhc=>?_) (λhc=>?_)<;>(try omega)<;>(try simp (disch:=omega) only [ay,ap])))
   refine dW (λkk fr A'=>A'.Wf/\∃(i:Nat) (si:aF),kk=n-i/\i<=n/\fr 0=pv b/\fr 5=.int .i64 fst/\fr 49=.int .i64 n/\fr 50=.int .i64 i/\si.aC=.bq/\fN si/\
    gh n fst ⟨cf,ak,aA,av,value,bS,ai,reads,ag++[iy],ar,set,(fj bp (cf.aR+iy) (dC+1)).2,aw,am,aJ,aI,aj,.bq⟩=gh (n-i) (fst+i) si/\ah A' [.h (aX b si),.h F]) n ?_ ?_
   . refine⟨hw,0,⟨cf,ak,aA,av,value,bS,ai,reads,ag++[iy],ar,set,(fj bp (cf.aR+iy) (dC+1)).2,aw,am,aJ,aI,aj,.bq⟩,by simp,by simp,by simp,by simp,by simp,by simp,rfl,hC2,by simp,?_⟩;apply aX.bI
     (·exact sA)
     exact fP
     (·first|exact pP|exact kP)
     all_goals(first|exact 0|exact undef)
   clear hS hq;rintro kk fr A' ⟨hw,i,si,rfl,hi,h0,h5,h49,h50,hsd,hCs,hz,hS⟩;refine bh ?_;by_cases cF:i<n
   . have fZ:(i:Int)<n:=(by omega);have hP:=D9 (i:=i);have Uo:IntKind.i64.wrap (fst+(i:Int))=fst+(i:Int):=an (by omega) (by omega);have hni:n-i=(n-(i+1))+1:=(by omega);have Ry:=tA b si (fst+i) 0 hsd hCs (by omega);rw [hni,GX] at hz;rcases uk si (fst+i) 0 with ⟨g9,f9⟩|⟨g9,f9⟩
     . rw [f9] at Ry hz;rw [ay rfl] at hz;revert hq hS hw;(repeat first|clear hq|clear hS|clear hw|revert hc|revert R|revert K);refine Wp (J1 @Ry) (J8 h0 h5 h49 h50 fZ hP Uo bF) ?_<;>(unhygienic intros);refine⟨n-(i+1),by omega,hw,i+1,{ si with bp:=(fj si.bp (fst+i) 0).2 },rfl,by omega,by simp [h0],by simp [h5],by simp [h49],by simp,hsd,hCs.put (by omega) 0,?_,hS⟩;rw [hz];have:fst+(i:Int)+1=fst+((i+1:Nat):Int):=by omega
       rw [this]
     rw [f9] at Ry hz;rw [ap (by simp)] at hz;revert hq hS hw;(repeat first|clear hq|clear hS|clear hw|revert hc|revert R|revert K);refine Wp (J1 @Ry) (J8 h0 h5 h49 h50 fZ hP Uo bF) ?_<;>(unhygienic intros);refine⟨_,by first|rfl|(simp;rfl),trivial,?_⟩;rw [hz,ap (by simp)];exact hS
   have Ki:i=n:=(by omega);subst Ki;rw [Nat.sub_self,GW] at hz;obtain⟨cf,ak,aA,av,value,bS,ai,reads,ag,ar,set,bp,aw,am,aJ,aI,aj,aC⟩:=si;dsimp only at hsd;subst hsd;obtain⟨x0,hS⟩:=aX.open hS .z;(unhygienic cases x0);dsimp only [bW,gH,b9,dZ,bm.fA,aa,af] at hS;have hq:=ed hS hw;revert hq hS hw;(repeat first|clear hq|clear hS|clear hw|revert hc|revert R|revert K);refine Wp cy (J5 h0 h5 h49 h50 bF) ?_<;>(unhygienic intros);refine⟨_,by first|rfl|(simp;rfl),trivial,?_⟩;rw [hz,ay rfl,show IntKind.u64.wrap fst=fst from ax (by omega) (by omega)];apply aX.bI
   (·exact sA)
   exact fP
   (·first|exact pP|exact kP)
   all_goals(first|exact 0|exact undef)
 rw [e9] at MY e;rw [ap (by simp)] at e;rw [e];dsimp only at MY ⊢
 repeat' (first|(with_reducible apply lwI;(·first|(simp;done)|(simp;rfl));(·first|(simp;done)|(simp;rfl));(·exact wA);(·exact sA);(·first|exact pP|exact kP);(·first|(simp;done)|(simp;rfl)|(simp [hq];done)|(simp [hq];rfl));(·first|omega|(simp;omega));(·intro _ _;trivial);rintro _ _ _ hS hw _;(try dsimp only [AW.bx] at hS);have hq:=EF hS hw)|(refine jK λR hR=>?_;simp [an,ax,hq,h,Pm,Up,AW.ab,aD];try simp (disch:=omega) only [ay,ap,an,ax])|(refine hR _ _ ?_;clear hR R)|(refine hK _ _ ?_;clear hK K)|refine nx ?_|refine wn λK hK=>?_|simp only [wS]|(refine bV (B6 _ (by simp [hq])) ?_;rintro _ _ ⟨rfl,rfl⟩ _ _)|(apply bf.Oi (MY);(·exact wA);(·exact sA);(·exact fP);(·first|exact pP|exact kP);(rintro _ _ rfl hS hw _;have hS:=lA hS);(try (have hq:=EF hS hw));all_goals(try (first|exact 0|exact undef)))|(show cB _ _ _ _ _ _;refine nx ?_)|(refine wc rfl (λhc=>?_) (λhc=>?_)<;>(try simp at hc)<;>(try omega)<;>(try (simp [h2] at hc;done))<;>(try (simp [h3] at hc;done))<;>(try (simp [h4] at hc;done)))|(refine ib (λhc=>?_) (λhc=>?_)<;>(try omega)<;>(try simp (disch:=omega) only [ay,ap])))
 refine⟨_,by first|rfl|(simp;rfl),trivial,?_⟩;apply ah.bI hS
 (·first|exact pP|exact kP)
end
section
open T12 T13
variable [Gl]
section
variable {A:AW} {L K:List It} {k:Value->AW->Prop} {b:Nat} {s:aF} {br:Int}
theorem ji {fn:Fn} {cs:Array Value} {dP d9 bG cJ cA m c0 c1 c2:Nat} {cX bj bO bQ dQ cY eB bR bP aZ cZ db fR dR:Value} (hw:A.Wf) (hS:ah A L) (e:aQ L (bW b s br .bq ⟨dP,d9,bG,cJ,cA,m,c0,c1,c2,cX,bj,bO,bQ,dQ,cY,eB,bR,bP,aZ,cZ,db,fR,dR⟩) K)
 (hk:∀v A',ah A' (bW b s 1 .bq ⟨dP,d9,bG,cJ,cA,m,c0,c1,c2,cX,bj,bO,bQ,dQ,cY,eB,bR,bP,aZ,cZ,.func fn #[] cs,fR,dR⟩++K)->A'.Wf->k v A'):az Tryz.prog 130 [pv b,.func fn #[] cs] A k:=by
 have key:bf Tryz.prog 130 [pv b,.func fn #[] cs] (bW b s br .bq ⟨dP,d9,bG,cJ,cA,m,c0,c1,c2,cX,bj,bO,bQ,dQ,cY,eB,bR,bP,aZ,cZ,db,fR,dR⟩) (λ_=>True) (λ_=>bW b s 1 .bq ⟨dP,d9,bG,cJ,cA,m,c0,c1,c2,cX,bj,bO,bQ,dQ,cY,eB,bR,bP,aZ,cZ,.func fn #[] cs,fR,dR⟩):=by
  intro A F hw hS;refine aH Tryz.func130 λ_=>?_;dsimp only [bW,aa,af] at hS;have hq:=ed hS hw;revert hq hS hw;clear hS;clear hw;refine Wp cy (J1 bF) ?_<;>(unhygienic intros);refine⟨_,by first|rfl|(simp;rfl),trivial,?_⟩;apply ah.bI
  (·exact sA)
  (dsimp only [bW,s9,oz,kR,oR,vU,kV,kN,ig,oA,oe,vF,og,aa,af])
  (·first|exact pP|exact kP)
 exact key.eH hw hS e λv A' _ h1 h2 _=>hk v A' h1 h2
theorem Bo {a:Int} {fn:Fn} {cs:Array Value} (hc:cx s.cf) {dP d9 bG cJ cA m c0 c1 c2:Nat} {cX bj bO bQ dQ cY eB bR bP aZ cZ db fR dR:Value} (hw:A.Wf) (hS:ah A L) (e:aQ L (bW b s br .bq ⟨dP,d9,bG,cJ,cA,m,c0,c1,c2,cX,bj,bO,bQ,dQ,cY,eB,bR,bP,aZ,cZ,db,fR,dR⟩) K)
 (hk:∀v n A',ah A' (.at n (gO ⟨a,fF s.cf a,s.rv,0,0,0,false⟩)::(bW b s 3 .bq ⟨dP,d9,bG,cJ,cA,m,c0,c1,c2,cX,bj,bO,bQ,pv n,.int .i64 0,eB,bR,bP,aZ,cZ,db,.func fn #[] cs,.int .i64 a⟩++K))->A'.Wf->k v A') :
 az Tryz.prog 138 [pv b,.int .i64 a,.func fn #[] cs] A k:=by
 have key:bf Tryz.prog 138 [pv b,.int .i64 a,.func fn #[] cs] (bW b s br .bq ⟨dP,d9,bG,cJ,cA,m,c0,c1,c2,cX,bj,bO,bQ,dQ,cY,eB,bR,bP,aZ,cZ,db,fR,dR⟩) (λ_=>True)
  (λ_=>[.h (pe λn=>aL (.at n (gO ⟨a,fF s.cf a,s.rv,0,0,0,false⟩)::bW b s 3 .bq ⟨dP,d9,bG,cJ,cA,m,c0,c1,c2,cX,bj,bO,bQ,pv n,.int .i64 0,eB,bR,bP,aZ,cZ,db,.func fn #[] cs,.int .i64 a⟩))]):=by
  intro A F hw hS;refine aH Tryz.func138 λ_=>?_;dsimp only [bW,aa,af] at hS;have hq:=ed hS hw;have zG:=ul s.cf hc a;dsimp only [bH.v] at zG;revert hq hS hw;(try revert hc);clear hS;clear hw;refine Wp (J3 (Tg.mk (n:=30) (λA' h1 h2=>rp b s 3 .bq A' h1 h2)) @zG @FO) (J1 bF) ?_<;>(unhygienic intros);refine⟨_,by first|rfl|(simp;rfl),trivial,?_⟩;apply ah.bI (L:=.h (pe λn=>aL (.at n (gO ⟨a,fF s.cf a,s.rv,0,0,0,false⟩)::bW b s 3 .bq ⟨dP,d9,bG,cJ,cA,m,c0,c1,c2,cX,bj,bO,bQ,pv n,.int .i64 0,eB,bR,bP,aZ,cZ,db,.func fn #[] cs,.int .i64 a⟩))::[.h F]) ?_ (.s .z (.s .z .z));apply ah.bI;apply iH (g:=λn=>.at n (gO ⟨a,fF s.cf a,s.rv,0,0,0,false⟩)::bW b s 3 .bq ⟨dP,d9,bG,cJ,cA,m,c0,c1,c2,cX,bj,bO,bQ,pv n,.int .i64 0,eB,bR,bP,aZ,cZ,db,.func fn #[] cs,.int .i64 a⟩)
  (·exact sA)
  (dsimp only [bW,s9,oz,kR,oR,vU,kV,kN,ig,oA,oe,vF,og,aa,af])
  (·first|exact pP|exact kP)
  (·first|exact pP|exact kP)
 refine key.eH hw hS e λv A' _ h1 h2 _=>?_;obtain⟨n,h3⟩:=ld h1 .z;exact hk v n A' h3 h2
end
end
section
abbrev xr:List (Nat×Nat):=[(0,0),(1,0),(2,0),(3,0),(4,0),(5,0),(6,0),(7,0),(8,0),(9,0),(10,0),(11,0)]
abbrev uv:List (Nat×Nat):=[(0,0),(1,0),(2,0),(3,0),(4,0),(5,0),(6,0),(7,0)]
open T12 T13
variable [Gl]
theorem eF {f:FuncId} {args:List Value} {V:Value} {b:Nat} {s:aF} (hC:∀A':AW,A'.Wf->ah A' [.h (aX b s)]->et f args A' V)
 {A:AW} {L K:List It} {k:Value->AW->Prop} (hw:A.Wf) (hS:ah A L) (hp:aB L (.h (aX b s)) K) (hk:k V A):az Tryz.prog f args A k:=by
 refine bV (hC A hw (ah.bI hS (.s hp .z))) ?_;rintro _ _ ⟨rfl,rfl⟩ _ _;exact hk
theorem ii (b:Nat) (s:aF) (st:Int) (h:s.kF st=true):∀A':AW,A'.Wf->ah A' [.h (ip b s 0 .bq)]->et 129 [pv b,.int .i64 st] A' (.int .i64 0):=by
 intro A' h1 h2;have h3:s.aC.fA=0:=by
  unfold aF.kF at h;simp at h;exact h.1
 have:=By b s st .bq A' h1 (by rw [h3];exact h2);rwa [ay h] at this
theorem ru (b:Nat) (s:aF) (st:Int) (h:¬s.kF st=true):∀A':AW,A'.Wf->ah A' [.h (aX b s)]->et 129 [pv b,.int .i64 st] A' (.int .i64 1):=by
 intro A' h1 h2;have:=By b s st s.aC A' h1 (aX.Qz h2 .z);rwa [ap h] at this
theorem uF {s:aF} {st:Int} (h:s.kF st=true):s.aC=.bq/\s.aA=st:=by
 unfold aF.kF at h;simp at h;refine⟨?_,h.2⟩;have h1:=h.1;revert h1;cases s.aC<;>simp [bm.fA]
theorem PX {c:bH} (hc:cx c) (a:Int):ju c a<=64:=by
 have:=hc.nb;unfold ju;split;rename_i b h;have h1:=List.mem_range.1 (List.mem_of_find?_eq_some h);omega;omega
theorem KM (b:Nat) (s:aF) :
 bf Tryz.prog 143 [pv b] [.h (aX b s)] (λv=>v=.int .i64 (fy s).1) (λ_=>[.h (aX b (fy s).2)]):=by
 by_cases hf:s.kF 0=true
 . skip
   obtain⟨h1,h2⟩:=uF hf;(unhygienic cases s);dsimp only at h1 h2;subst h1 h2;intro A F hw hS;refine aH Tryz.func143 λ_=>?_;obtain⟨x0,hS⟩:=aX.open hS .z;(unhygienic cases x0);dsimp only [bW,gH,b9,dZ,bm.fA,aa,af] at hS;have hq:=ed hS hw;have Py:=hw.lt (hS.g 0 rfl);have mq:(b=A.next+1+1)=False:=eq_false (by omega);have uI:(A.next+1+1=b)=False:=eq_false (by omega);have wh:(A.next=A.next+1+1)=False:=eq_false (by omega);have e:fy ⟨cf,ak,0,av,value,bS,ai,reads,ag,ar,set,bp,aw,am,aJ,aI,aj,.bq⟩=(0,_):=ay hf;revert hq hS hw;clear hS;refine Wp (J2 (Tg.mk (n:=30) (ii b ⟨cf,ak,0,av,value,bS,ai,reads,ag,ar,set,bp,aw,am,aJ,aI,aj,.bq⟩ 0 hf)) @DC) (J4 mq uI wh bF) ?_<;>(unhygienic intros);rw [e];refine⟨_,by first|rfl|(simp;rfl),rfl,?_⟩;apply aX.bI
   (·exact sA)
   exact fP
   (·first|exact pP|exact kP)
   all_goals(first|exact 0|exact undef)
 have e:fy s=(1,s):=ap hf;intro A F hw hS;refine aH Tryz.func143 λ_=>?_
 try dsimp only [aa,af] at hS
 have hr:=ru b s 0 hf;revert hS hw;(repeat first|clear hS|clear hw|revert hc|revert R|revert K);refine Wp (J1 (Tg.mk (n:=10) (λ{A L K k}=>eF (A:=A) (L:=L) (K:=K) (k:=k) hr))) (J1 bF) ?_<;>(unhygienic intros);rw [e];refine⟨_,by first|rfl|(simp;rfl),rfl,?_⟩;apply ah.bI
 (·exact sA)
 (·first|exact pP|exact kP)
theorem AR (b:Nat) (s:aF) (a v:Int) :
 bf Tryz.prog 77 [pv b,.int .u64 a,.int .u64 v] [.h (aX b s)] (λu=>u=.int .i64 (E4 s a v).1) (λ_=>[.h (aX b (E4 s a v).2)]):=by
 by_cases hf:s.kF 1=true
 . skip
   obtain⟨h1,h2⟩:=uF hf;(unhygienic cases s);dsimp only at h1 h2;subst h1 h2;intro A F hw hS;refine aH Tryz.func77 λ_=>?_;obtain⟨x0,hS⟩:=aX.open hS .z;(unhygienic cases x0);dsimp only [bW,gH,b9,dZ,bm.fA,aa,af] at hS;have hq:=ed hS hw;have Py:=hw.lt (hS.g 0 rfl);have mq:(b=A.next+1+1)=False:=eq_false (by omega);have uI:(A.next+1+1=b)=False:=eq_false (by omega);have wh:(A.next=A.next+1+1)=False:=eq_false (by omega);have e:E4 ⟨cf,ak,1,av,value,bS,ai,reads,ag,ar,set,bp,aw,am,aJ,aI,aj,.bq⟩ a v=(0,_):=ay hf;revert hq hS hw;clear hS;refine Wp (J2 (Tg.mk (n:=30) (ii b ⟨cf,ak,1,av,value,bS,ai,reads,ag,ar,set,bp,aw,am,aJ,aI,aj,.bq⟩ 1 hf)) (Tg.mk (n:=31) (λ{A L K k fn cs dP d9 bG cJ cA m c0 c1 c2 cX bj bO bQ dQ cY eB bR bP aZ cZ db fR dR}=>ji (A:=A) (L:=L) (K:=K) (k:=k) (fn:=fn) (cs:=cs) (dP:=dP) (d9:=d9) (bG:=bG) (cJ:=cJ) (cA:=cA) (m:=m) (c0:=c0) (c1:=c1) (c2:=c2) (cX:=cX) (bj:=bj) (bO:=bO) (bQ:=bQ) (dQ:=dQ) (cY:=cY) (eB:=eB) (bR:=bR) (bP:=bP) (aZ:=aZ) (cZ:=cZ) (db:=db) (fR:=fR) (dR:=dR) (s:=⟨cf,ak,1,av,value,bS,ai,reads,ag,ar,set,bp,aw,am,aJ,aI,aj,.bq⟩) (br:=0)))) (J4 mq uI wh bF) ?_<;>(unhygienic intros)
   rw [e];refine⟨_,by first|rfl|(simp;rfl),rfl,?_⟩;apply aX.bI
   (·exact sA)
   exact fP
   (·first|exact pP|exact kP)
   all_goals(first|exact 0|exact undef)
 have e:E4 s a v=(1,s):=ap hf;intro A F hw hS;refine aH Tryz.func77 λ_=>?_
 try dsimp only [aa,af] at hS
 have hr:=ru b s 1 hf;revert hS hw;(repeat first|clear hS|clear hw|revert hc|revert R|revert K);refine Wp (J1 (Tg.mk (n:=10) (λ{A L K k}=>eF (A:=A) (L:=L) (K:=K) (k:=k) hr))) (J1 bF) ?_<;>(unhygienic intros);rw [e];refine⟨_,by first|rfl|(simp;rfl),rfl,?_⟩;apply ah.bI
 (·exact sA)
 (·first|exact pP|exact kP)
theorem tS (b:Nat) (s:aF) (mU:Int) :
 bf Tryz.prog 74 [pv b,.int .i64 mU] [.h (aX b s)] (λu=>u=.int .i64 (Cq s mU).1) (λ_=>[.h (aX b (Cq s mU).2)]):=by
 by_cases hf:s.kF 1=true
 . skip
   obtain⟨h1,h2⟩:=uF hf;(unhygienic cases s);dsimp only at h1 h2;subst h1 h2;intro A F hw hS;refine aH Tryz.func74 λ_=>?_;obtain⟨x0,hS⟩:=aX.open hS .z;(unhygienic cases x0);dsimp only [bW,gH,b9,dZ,bm.fA,aa,af] at hS;have hq:=ed hS hw;have Py:=hw.lt (hS.g 0 rfl);have mq:(b=A.next+1+1)=False:=eq_false (by omega);have uI:(A.next+1+1=b)=False:=eq_false (by omega);have wh:(A.next=A.next+1+1)=False:=eq_false (by omega);have e0:Cq ⟨cf,ak,1,av,value,bS,ai,reads,ag,ar,set,bp,aw,am,aJ,aI,aj,.bq⟩ mU=_:=ay hf;dsimp only at e0;by_cases g1:mU=1
   . have e:=e0.trans (ap (by omega));revert hq hS hw;clear hS;refine Wp (J2 (Tg.mk (n:=30) (ii b ⟨cf,ak,1,av,value,bS,ai,reads,ag,ar,set,bp,aw,am,aJ,aI,aj,.bq⟩ 1 hf)) (Tg.mk (n:=31) (λ{A L K k fn cs dP d9 bG cJ cA m c0 c1 c2 cX bj bO bQ dQ cY eB bR bP aZ cZ db fR dR}=>ji (A:=A) (L:=L) (K:=K) (k:=k) (fn:=fn) (cs:=cs) (dP:=dP) (d9:=d9) (bG:=bG) (cJ:=cJ) (cA:=cA) (m:=m) (c0:=c0) (c1:=c1) (c2:=c2) (cX:=cX) (bj:=bj) (bO:=bO) (bQ:=bQ) (dQ:=dQ) (cY:=cY) (eB:=eB) (bR:=bR) (bP:=bP) (aZ:=aZ) (cZ:=cZ) (db:=db) (fR:=fR) (dR:=dR) (s:=⟨cf,ak,1,av,value,bS,ai,reads,ag,ar,set,bp,aw,am,aJ,aI,aj,.bq⟩) (br:=0)))) (J5 mq uI wh g1 bF) ?_<;>(unhygienic intros);subst g1;rw [e];refine⟨_,by first|rfl|(simp;rfl),rfl,?_⟩;apply aX.bI
     (·exact sA)
     exact fP
     (·first|exact pP|exact kP)
     all_goals(first|exact 0|exact undef)
   by_cases g2:mU=2
   . have e:=e0.trans (ap (by omega));revert hq hS hw;(repeat first|clear hq|clear hS|clear hw|revert hc|revert R|revert K);refine Wp (J2 (Tg.mk (n:=30) (ii b ⟨cf,ak,1,av,value,bS,ai,reads,ag,ar,set,bp,aw,am,aJ,aI,aj,.bq⟩ 1 hf)) (Tg.mk (n:=31) (λ{A L K k fn cs dP d9 bG cJ cA m c0 c1 c2 cX bj bO bQ dQ cY eB bR bP aZ cZ db fR dR}=>ji (A:=A) (L:=L) (K:=K) (k:=k) (fn:=fn) (cs:=cs) (dP:=dP) (d9:=d9) (bG:=bG) (cJ:=cJ) (cA:=cA) (m:=m) (c0:=c0) (c1:=c1) (c2:=c2) (cX:=cX) (bj:=bj) (bO:=bO) (bQ:=bQ) (dQ:=dQ) (cY:=cY) (eB:=eB) (bR:=bR) (bP:=bP) (aZ:=aZ) (cZ:=cZ) (db:=db) (fR:=fR) (dR:=dR) (s:=⟨cf,ak,1,av,value,bS,ai,reads,ag,ar,set,bp,aw,am,aJ,aI,aj,.bq⟩) (br:=0)))) (J6 mq uI wh g1 g2 bF) ?_<;>(unhygienic intros);subst g2;rw [e];refine⟨_,by first|rfl|(simp;rfl),rfl,?_⟩;apply aX.bI
     (·exact sA)
     exact fP
     (·first|exact pP|exact kP)
     all_goals(first|exact 0|exact undef)
   have e:=e0.trans (ay ⟨g1,g2⟩);revert hq hS hw;(repeat first|clear hq|clear hS|clear hw|revert hc|revert R|revert K);refine Wp (J1 (Tg.mk (n:=30) (ii b ⟨cf,ak,1,av,value,bS,ai,reads,ag,ar,set,bp,aw,am,aJ,aI,aj,.bq⟩ 1 hf))) (J6 mq uI wh g1 g2 bF) ?_<;>(unhygienic intros);rw [e];refine⟨_,by first|rfl|(simp;rfl),rfl,?_⟩;apply aX.bI
   (·exact sA)
   exact fP
   (·first|exact pP|exact kP)
   all_goals(first|exact 0|exact undef)
 have e:Cq s mU=(1,s):=ap hf;intro A F hw hS;refine aH Tryz.func74 λ_=>?_
 try dsimp only [aa,af] at hS
 have hr:=ru b s 1 hf;revert hS hw;(repeat first|clear hS|clear hw|revert hc|revert R|revert K);refine Wp (J1 (Tg.mk (n:=10) (λ{A L K k}=>eF (A:=A) (L:=L) (K:=K) (k:=k) hr))) (J1 bF) ?_<;>(unhygienic intros);rw [e];refine⟨_,by first|rfl|(simp;rfl),rfl,?_⟩;apply ah.bI
 (·exact sA)
 (·first|exact pP|exact kP)
theorem Ep (b:Nat) (s:aF) (a:Int) (hC:fN s) (ha:0<=a) :
 bf Tryz.prog 75 [pv b,.int .u64 a] [.h (aX b s)] (λu=>u=.int .i64 (GP s a).1) (λ_=>[.h (aX b (GP s a).2)]):=by
 by_cases hf:s.kF 1=true
 . skip
   obtain⟨h1,h2⟩:=uF hf;(unhygienic cases s);dsimp only at h1 h2;subst h1 h2;intro A F hw hS;refine aH Tryz.func75 λ_=>?_;obtain⟨x0,hS⟩:=aX.open hS .z;(unhygienic cases x0);dsimp only [bW,gH,b9,dZ,bm.fA,aa,af] at hS;have hq:=ed hS hw;have Py:=hw.lt (hS.g 0 rfl);have mq:(b=A.next+1+1)=False:=eq_false (by omega);have uI:(A.next+1+1=b)=False:=eq_false (by omega);have wh:(A.next=A.next+1+1)=False:=eq_false (by omega);have QD:=hC.cf.aR;dsimp only at QD;have e0:GP ⟨cf,ak,1,av,value,bS,ai,reads,ag,ar,set,bp,aw,am,aJ,aI,aj,.bq⟩ a=_:=ay hf;dsimp only at e0;by_cases g1:cf.aR<=a
   . have e:=e0.trans (ay g1);revert hq hS hw;clear hS;refine Wp (J3 (Tg.mk (n:=30) (ii b ⟨cf,ak,1,av,value,bS,ai,reads,ag,ar,set,bp,aw,am,aJ,aI,aj,.bq⟩ 1 hf)) (Tg.mk (n:=30) (nH b ⟨cf,ak,1,av,value,bS,ai,reads,ag,ar,set,bp,aw,am,aJ,aI,aj,.bq⟩ 0 a .bq hC.cf)) (Tg.mk (n:=31) (λ{A L K k fn cs dP d9 bG cJ cA m c0 c1 c2 cX bj bO bQ dQ cY eB bR bP aZ cZ db fR dR}=>ji (A:=A) (L:=L) (K:=K) (k:=k) (fn:=fn) (cs:=cs) (dP:=dP) (d9:=d9) (bG:=bG) (cJ:=cJ) (cA:=cA) (m:=m) (c0:=c0) (c1:=c1) (c2:=c2) (cX:=cX) (bj:=bj) (bO:=bO) (bQ:=bQ) (dQ:=dQ) (cY:=cY) (eB:=eB) (bR:=bR) (bP:=bP) (aZ:=aZ) (cZ:=cZ) (db:=db) (fR:=fR) (dR:=dR) (s:=⟨cf,ak,1,av,value,bS,ai,reads,ag,ar,set,bp,aw,am,aJ,aI,aj,.bq⟩) (br:=0)))) (J5 mq uI wh g1 bF) ?_<;>(unhygienic intros);rw [e];refine⟨_,by first|rfl|(simp;rfl),rfl,?_⟩;apply aX.bI
     (·exact sA)
     exact fP
     (·first|exact pP|exact kP)
     all_goals(first|exact 0|exact undef)
   have Uq:IntKind.i64.wrap a=a:=an (by omega) (by omega);have hlg:∀x y,jU bp a=(x,y)->(jU bp a).1=x/\(jU bp a).2=y:=λx y h=>by rw [h];exact⟨rfl,rfl⟩
   cases g2:(jU bp a).2
   . have e:=e0.trans ((ap g1).trans (ap (by rw [g2];simp)));revert hq hS hw;(repeat first|clear hq|clear hS|clear hw|revert hc|revert R|revert K);refine Wp (J4 (Tg.mk (n:=30) (ii b ⟨cf,ak,1,av,value,bS,ai,reads,ag,ar,set,bp,aw,am,aJ,aI,aj,.bq⟩ 1 hf)) (Tg.mk (n:=30) (nH b ⟨cf,ak,1,av,value,bS,ai,reads,ag,ar,set,bp,aw,am,aJ,aI,aj,.bq⟩ 0 a .bq hC.cf)) (Tg.mk (n:=10) (λ{A L K k n}=>su (A:=A) (L:=L) (K:=K) (k:=k) (n:=n) hC.bp hC.ee hC.dm ha)) (Tg.mk (n:=31) (λ{A L K k fn cs dP d9 bG cJ cA m c0 c1 c2 cX bj bO bQ dQ cY eB bR bP aZ cZ db fR dR}=>Bo (A:=A) (L:=L) (K:=K) (k:=k) (fn:=fn) (cs:=cs) (dP:=dP) (d9:=d9) (bG:=bG) (cJ:=cJ) (cA:=cA) (m:=m) (c0:=c0) (c1:=c1) (c2:=c2) (cX:=cX) (bj:=bj) (bO:=bO) (bQ:=bQ) (dQ:=dQ) (cY:=cY) (eB:=eB) (bR:=bR) (bP:=bP) (aZ:=aZ) (cZ:=cZ) (db:=db) (fR:=fR) (dR:=dR) (s:=⟨cf,ak,1,av,value,bS,ai,reads,ag,ar,set,bp,aw,am,aJ,aI,aj,.bq⟩) (br:=0) hC.cf))) (J7 mq uI wh g1 g2 Uq bF) ?_<;>(unhygienic intros)
     rw [e];refine⟨_,by first|rfl|(simp;rfl),rfl,?_⟩;apply aX.bI
     (·exact sA)
     exact fP
     (·first|exact pP|exact kP)
     all_goals(first|exact 0|exact undef)
   have e:=e0.trans ((ap g1).trans (ay g2));revert hq hS hw;(repeat first|clear hq|clear hS|clear hw|revert hc|revert R|revert K);refine Wp (J4 (Tg.mk (n:=30) (ii b ⟨cf,ak,1,av,value,bS,ai,reads,ag,ar,set,bp,aw,am,aJ,aI,aj,.bq⟩ 1 hf)) (Tg.mk (n:=30) (nH b ⟨cf,ak,1,av,value,bS,ai,reads,ag,ar,set,bp,aw,am,aJ,aI,aj,.bq⟩ 0 a .bq hC.cf)) (Tg.mk (n:=10) (λ{A L K k n}=>su (A:=A) (L:=L) (K:=K) (k:=k) (n:=n) hC.bp hC.ee hC.dm ha)) (Tg.mk (n:=31) (λ{A L K k fn cs dP d9 bG cJ cA m c0 c1 c2 cX bj bO bQ dQ cY eB bR bP aZ cZ db fR dR}=>ji (A:=A) (L:=L) (K:=K) (k:=k) (fn:=fn) (cs:=cs) (dP:=dP) (d9:=d9) (bG:=bG) (cJ:=cJ) (cA:=cA) (m:=m) (c0:=c0) (c1:=c1) (c2:=c2) (cX:=cX) (bj:=bj) (bO:=bO) (bQ:=bQ) (dQ:=dQ) (cY:=cY) (eB:=eB) (bR:=bR) (bP:=bP) (aZ:=aZ) (cZ:=cZ) (db:=db) (fR:=fR) (dR:=dR) (s:=⟨cf,ak,1,av,value,bS,ai,reads,ag,ar,set,bp,aw,am,aJ,aI,aj,.bq⟩) (br:=0)))) (J7 mq uI wh g1 g2 Uq bF) ?_<;>(unhygienic intros)
   rw [e];refine⟨_,by first|rfl|(simp;rfl),rfl,?_⟩;apply aX.bI
   (·exact sA)
   exact fP
   (·first|exact pP|exact kP)
   all_goals(first|exact 0|exact undef)
 have e:GP s a=(1,s):=ap hf;intro A F hw hS;refine aH Tryz.func75 λ_=>?_
 try dsimp only [aa,af] at hS
 have hr:=ru b s 1 hf;revert hS hw;(repeat first|clear hS|clear hw|revert hc|revert R|revert K);refine Wp (J1 (Tg.mk (n:=10) (λ{A L K k}=>eF (A:=A) (L:=L) (K:=K) (k:=k) hr))) (J1 bF) ?_<;>(unhygienic intros);rw [e];refine⟨_,by first|rfl|(simp;rfl),rfl,?_⟩;apply ah.bI
 (·exact sA)
 (·first|exact pP|exact kP)
theorem KX (b:Nat) (s:aF) (dC:Int) (hC:fN s) :
 bf Tryz.prog 144 [pv b,.int .i64 dC] [.h (aX b s)] (λu=>u=.int .i64 (K4 s dC).1) (λ_=>[.h (aX b (K4 s dC).2)]):=by
 by_cases hf:s.kF 1=true
 . skip
   obtain⟨h1,h2⟩:=uF hf;(unhygienic cases s);dsimp only at h1 h2;subst h1 h2;intro A F hw hS;refine aH Tryz.func144 λ_=>?_;obtain⟨x0,hS⟩:=aX.open hS .z;(unhygienic cases x0);dsimp only [bW,gH,b9,dZ,bm.fA,aa,af] at hS;have hq:=ed hS hw;have Py:=hw.lt (hS.g 0 rfl);have mq:(b=A.next+1+1)=False:=eq_false (by omega);have uI:(A.next+1+1=b)=False:=eq_false (by omega);have wh:(A.next=A.next+1+1)=False:=eq_false (by omega);have sS:=hC.ln;dsimp only at sS;obtain⟨oa,ca,rfl,_⟩:=(ah.pG hS (.s (.s (.s (.s (.s (.s (.s .z)))))))).dO;have e0:K4 ⟨cf,ak,1,av,value,bS,ai,reads,ag,ar,set,bp,aw,am,aJ,aI,aj,.bq⟩ dC=_:=ay hf;dsimp only at e0;by_cases g1:dC<0
   . have e:=e0.trans (ay (.inl g1));revert hq hS hw;clear hS;refine Wp (J2 (Tg.mk (n:=30) (ii b ⟨cf,ak,1,av,value,bS,ai,reads,ag,ar,set,bp,aw,am,aJ,aI,aj,.bq⟩ 1 hf)) (od xr)) (J5 mq uI wh g1 bF) ?_<;>(unhygienic intros);rw [e];refine⟨_,by first|rfl|(simp;rfl),rfl,?_⟩;apply aX.bI
     (·exact sA)
     exact fP
     (·first|exact pP|exact kP)
     all_goals(first|exact 0|exact undef)
   by_cases g2:4<=dC
   . have e:=e0.trans (ay (.inr g2));revert hq hS hw;(repeat first|clear hq|clear hS|clear hw|revert hc|revert R|revert K);refine Wp (J2 (Tg.mk (n:=30) (ii b ⟨cf,ak,1,av,value,bS,ai,reads,ag,ar,set,bp,aw,am,aJ,aI,aj,.bq⟩ 1 hf)) (od xr)) (J6 mq uI wh g1 g2 bF) ?_<;>(unhygienic intros);rw [e];refine⟨_,by first|rfl|(simp;rfl),rfl,?_⟩;apply aX.bI
     (·exact sA)
     exact fP
     (·first|exact pP|exact kP)
     all_goals(first|exact 0|exact undef)
   by_cases g3:cf.ag<=ag.length
   . have e:=e0.trans ((ap (by omega)).trans (ay g3));revert hq hS hw;(repeat first|clear hq|clear hS|clear hw|revert hc|revert R|revert K);refine Wp (J3 (Tg.mk (n:=30) (ii b ⟨cf,ak,1,av,value,bS,ai,reads,ag,ar,set,bp,aw,am,aJ,aI,aj,.bq⟩ 1 hf)) (Tg.mk (n:=31) (λ{A L K k fn cs dP d9 bG cJ cA m c0 c1 c2 cX bj bO bQ dQ cY eB bR bP aZ cZ db fR dR}=>ji (A:=A) (L:=L) (K:=K) (k:=k) (fn:=fn) (cs:=cs) (dP:=dP) (d9:=d9) (bG:=bG) (cJ:=cJ) (cA:=cA) (m:=m) (c0:=c0) (c1:=c1) (c2:=c2) (cX:=cX) (bj:=bj) (bO:=bO) (bQ:=bQ) (dQ:=dQ) (cY:=cY) (eB:=eB) (bR:=bR) (bP:=bP) (aZ:=aZ) (cZ:=cZ) (db:=db) (fR:=fR) (dR:=dR) (s:=⟨cf,ak,1,av,value,bS,ai,reads,ag,ar,set,bp,aw,am,aJ,aI,aj,.bq⟩) (br:=0))) (od xr)) (J7 mq uI wh g1 g2 g3 bF) ?_<;>(unhygienic intros);rw [e];refine⟨_,by first|rfl|(simp;rfl),rfl,?_⟩;apply aX.bI
     (·exact sA)
     exact fP
     (·first|exact pP|exact kP)
     all_goals(first|exact 0|exact undef)
   have e:=e0.trans ((ap (by omega)).trans (ap g3));revert hq hS hw;(repeat first|clear hq|clear hS|clear hw|revert hc|revert R|revert K);refine Wu (J4 (Tg.mk (n:=30) (ii b ⟨cf,ak,1,av,value,bS,ai,reads,ag,ar,set,bp,aw,am,aJ,aI,aj,.bq⟩ 1 hf)) (od xr) @HE (⟨⟩:Os (λA'=>A'.bt A.next=some (aY (pv b))) [(0,0),(1,1),(2,0),(3,2),(4,0),(5,0),(6,3),(7,0),(8,0),(9,0),(10,3)])) (J7 mq uI wh g1 g2 g3 bF) ?_<;>(unhygienic intros);rw [e];refine⟨_,by first|rfl|(simp;rfl),rfl,?_⟩;apply aX.bI
   (·exact sA)
   exact fP
   (·first|exact pP|exact kP)
   all_goals(first|exact 0|exact undef)
 have e:K4 s dC=(1,s):=ap hf;intro A F hw hS;refine aH Tryz.func144 λ_=>?_
 try dsimp only [aa,af] at hS
 have hr:=ru b s 1 hf;revert hS hw;(repeat first|clear hS|clear hw|revert hc|revert R|revert K);refine Wp (J2 (Tg.mk (n:=10) (λ{A L K k}=>eF (A:=A) (L:=L) (K:=K) (k:=k) hr)) (od xr)) (J1 bF) ?_<;>(unhygienic intros);rw [e];refine⟨_,by first|rfl|(simp;rfl),rfl,?_⟩;apply ah.bI
 (·exact sA)
 (·first|exact pP|exact kP)
theorem Ni (b:Nat) (s:aF) (a:Int) (hC:fN s) :
 bf Tryz.prog 145 [pv b,.int .u64 a] [.h (aX b s)] (λu=>u=.int .i64 (Kv s a).1) (λ_=>[.h (aX b (Kv s a).2)]):=by
 by_cases hf:s.kF 1=true
 . skip
   obtain⟨h1,h2⟩:=uF hf;(unhygienic cases s);dsimp only at h1 h2;subst h1 h2;intro A F hw hS;refine aH Tryz.func145 λ_=>?_;obtain⟨x0,hS⟩:=aX.open hS .z;(unhygienic cases x0);dsimp only [bW,gH,b9,dZ,bm.fA,aa,af] at hS;have hq:=ed hS hw;have Py:=hw.lt (hS.g 0 rfl);have mq:(b=A.next+1+1)=False:=eq_false (by omega);have uI:(A.next+1+1=b)=False:=eq_false (by omega);have wh:(A.next=A.next+1+1)=False:=eq_false (by omega);have QD:=hC.cf.aR;have Aj:=hC.cf.nb;dsimp only at QD Aj;have RK:=Nk cf hC.cf a;dsimp only [bH.v] at RK;have hfb:ju cf a<=64:=PX hC.cf a;have e0:Kv ⟨cf,ak,1,av,value,bS,ai,reads,ag,ar,set,bp,aw,am,aJ,aI,aj,.bq⟩ a=_:=ay hf;dsimp only at e0;generalize ju cf a=q at *;by_cases g1:q<0
   . have e:=e0.trans (ay g1);revert hq hS hw;clear hS;refine Wp (J4 (Tg.mk (n:=30) (ii b ⟨cf,ak,1,av,value,bS,ai,reads,ag,ar,set,bp,aw,am,aJ,aI,aj,.bq⟩ 1 hf)) (Tg.mk (n:=31) (λ{A L K k fn cs dP d9 bG cJ cA m c0 c1 c2 cX bj bO bQ dQ cY eB bR bP aZ cZ db fR dR}=>ji (A:=A) (L:=L) (K:=K) (k:=k) (fn:=fn) (cs:=cs) (dP:=dP) (d9:=d9) (bG:=bG) (cJ:=cJ) (cA:=cA) (m:=m) (c0:=c0) (c1:=c1) (c2:=c2) (cX:=cX) (bj:=bj) (bO:=bO) (bQ:=bQ) (dQ:=dQ) (cY:=cY) (eB:=eB) (bR:=bR) (bP:=bP) (aZ:=aZ) (cZ:=cZ) (db:=db) (fR:=fR) (dR:=dR) (s:=⟨cf,ak,1,av,value,bS,ai,reads,ag,ar,set,bp,aw,am,aJ,aI,aj,.bq⟩) (br:=0))) (od uv) @RK) (J5 mq uI wh g1 bF) ?_<;>(unhygienic intros);rw [e];refine⟨_,by first|rfl|(simp;rfl),rfl,?_⟩;apply aX.bI
     (·exact sA)
     exact fP
     (·first|exact pP|exact kP)
     all_goals(first|exact 0|exact undef)
   have Uq:IntKind.i64.wrap (cf.aR+q)=cf.aR+q:=an (by omega) (by omega);cases g2:(jU bp (cf.aR+q)).2
   . have e:=e0.trans ((ap g1).trans (ap (by rw [g2];simp)))
     repeat' (first|(refine jK λR hR=>?_;simp [an,ax,hq,mq,uI,wh,g1,g2,Uq,AW.ab,aD];try simp (disch:=omega) only [ay,ap,an,ax])|(refine hR _ _ ?_;clear hR R)|(refine hK _ _ ?_;clear hK K)|refine nx ?_|refine wn λK hK=>?_|simp only [wS,uv]|refine wl Tryz.mx uv (by decide +kernel) λK hK=>?_|(refine bV (RK _) ?_;rintro _ _ ⟨rfl,rfl⟩ _ _)|(apply zL (ii b ⟨cf,ak,1,av,value,bS,ai,reads,ag,ar,set,bp,aw,am,aJ,aI,aj,.bq⟩ 1 hf);(·exact wA);(·exact sA);(·exact fP);all_goals(try (first|exact 0|exact undef)))|(apply su hC.bp hC.ee hC.dm (by omega);(·exact wA);(·exact sA);(·first|exact pP|exact kP);)|(apply Bo (s:=⟨cf,ak,1,av,value,bS,ai,reads,ag,ar,set,bp,aw,am,aJ,aI,aj,.bq⟩) (br:=0) hC.cf;(·exact wA);(·exact sA);(·exact fP);((first|rintro _ _ _ hS hw|rintro _ _ hS hw);(try dsimp only [bW,AW.bx,aa,af] at hS);have hq:=ed hS hw);all_goals(try (first|exact 0|exact undef)))|(show cB _ _ _ _ _ _;refine nx ?_)|(refine wc rfl (λhc=>?_) (λhc=>?_)<;>(try simp at hc)<;>(try omega)<;>(try (simp [h2] at hc;done))<;>(try (simp [h3] at hc;done))<;>(try (simp [h4] at hc;done)))|(refine ib (λhc=>?_) (λhc=>?_)<;>(try omega)<;>(try simp (disch:=omega) only [ay,ap])))
     rw [e];refine⟨_,by first|rfl|(simp;rfl),rfl,?_⟩;apply aX.bI
     (·exact sA)
     exact fP
     (·first|exact pP|exact kP)
     all_goals(first|exact 0|exact undef)
   have e:=e0.trans ((ap g1).trans (ay g2))
   repeat' (first|(refine jK λR hR=>?_;simp [an,ax,hq,mq,uI,wh,g1,g2,Uq,AW.ab,aD];try simp (disch:=omega) only [ay,ap,an,ax])|(refine hR _ _ ?_;clear hR R)|(refine hK _ _ ?_;clear hK K)|refine nx ?_|refine wn λK hK=>?_|simp only [wS,uv]|refine wl Tryz.mx uv (by decide +kernel) λK hK=>?_|(refine bV (RK _) ?_;rintro _ _ ⟨rfl,rfl⟩ _ _)|(apply zL (ii b ⟨cf,ak,1,av,value,bS,ai,reads,ag,ar,set,bp,aw,am,aJ,aI,aj,.bq⟩ 1 hf);(·exact wA);(·exact sA);(·exact fP);all_goals(try (first|exact 0|exact undef)))|(apply su hC.bp hC.ee hC.dm (by omega);(·exact wA);(·exact sA);(·first|exact pP|exact kP);)|(apply ji (s:=⟨cf,ak,1,av,value,bS,ai,reads,ag,ar,set,bp,aw,am,aJ,aI,aj,.bq⟩) (br:=0);(·exact wA);(·exact sA);(·exact fP);((first|rintro _ _ _ hS hw|rintro _ _ hS hw);(try dsimp only [bW,AW.bx,aa,af] at hS);have hq:=ed hS hw);all_goals(try (first|exact 0|exact undef)))|(show cB _ _ _ _ _ _;refine nx ?_)|(refine wc rfl (λhc=>?_) (λhc=>?_)<;>(try simp at hc)<;>(try omega)<;>(try (simp [h2] at hc;done))<;>(try (simp [h3] at hc;done))<;>(try (simp [h4] at hc;done)))|(refine ib (λhc=>?_) (λhc=>?_)<;>(try omega)<;>(try simp (disch:=omega) only [ay,ap])))
   rw [e];refine⟨_,by first|rfl|(simp;rfl),rfl,?_⟩;apply aX.bI
   (·exact sA)
   exact fP
   (·first|exact pP|exact kP)
   all_goals(first|exact 0|exact undef)
 have e:Kv s a=(1,s):=ap hf;intro A F hw hS;refine aH Tryz.func145 λ_=>?_
 try dsimp only [aa,af] at hS
 have hr:=ru b s 1 hf;revert hS hw;(repeat first|clear hS|clear hw|revert hc|revert R|revert K);refine Wp (J2 (Tg.mk (n:=10) (λ{A L K k}=>eF (A:=A) (L:=L) (K:=K) (k:=k) hr)) (od uv)) (J1 bF) ?_<;>(unhygienic intros);rw [e];refine⟨_,by first|rfl|(simp;rfl),rfl,?_⟩;apply ah.bI
 (·exact sA)
 (·first|exact pP|exact kP)
end
end Go.Stx
