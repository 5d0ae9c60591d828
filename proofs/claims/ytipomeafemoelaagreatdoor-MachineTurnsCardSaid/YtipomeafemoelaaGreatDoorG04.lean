/-
 The program's attempt: how it lies in memory.
-/
import Derived.Test.YtipomeafemoelaaGreatDoorG03
set_option linter.unusedVariables false
set_option linter.unusedSimpArgs false
set_option linter.unusedSectionVars false
set_option maxRecDepth 20000
set_option maxHeartbeats 4000000
open Go.IntKind renaming i64->qg,u64->qd
open Go.Proofs.Tryz renaming prog->qa
open Nat renaming lt_of_le_of_lt->Zw
namespace Go.Stx
open Go Go.Proofs
attribute [local irreducible] c8 aY aD aO cK da TW bG
section
variable [Gl]
abbrev pv (n:Nat):Value:=.pointer (some ⟨n,0,none⟩)
abbrev aK (v:Value):dQ:=.cells [v] true 1
structure sx where
 eu:Nat
 eS:Nat
 bM:Nat
 de:Nat
 db:Nat
 m:Nat
 c0:Nat
 c1:Nat
 c2:Nat
 dk:Value
 bx:Value
 bU:Value
 b5:Value
 eB:Value
 dl:Value
 fl:Value
 b6:Value
 bZ:Value
 bj:Value
 dm:Value
 dw:Value
 gQ:Value
 eC:Value
def oc:Option iv->Nat->Value|none,_=>.pointer none|some _,n=>pv n
def jK:Option ik->Nat->Value|none,_=>.pointer none|some _,n=>pv n
def iQ:Option iG->Nat->Value|none,_=>.pointer none|some _,n=>pv n
def rE:bD->sx->Value | .bh _ _,f=>pv f.m|_,f=>f.eB
def mt:bD->sx->Value | .bh r _,_=>.int .i64 r.bW|_,f=>f.dl
def rZ:bD->sx->Value | .bh r _,_=>.int .i64 r.dJ|_,f=>f.eC
def yR:bD->sx->Value | .eO _,f=>pv f.m|_,f=>f.fl
def my:bD->sx->Value | .cM _,f=>pv f.m|_,f=>f.b6
def mo:bD->sx->Value | .di _,f=>pv f.m|_,f=>f.bZ
def jc:bD->sx->Value | .bH _,f=>pv f.m|_,f=>f.bj
def rF:bD->sx->Value | .eL _,f=>pv f.m|_,f=>f.dm
def rx:FN->sx->Value
 | .tR,f=>.func (.func 140) #[] #[pv f.c0]
 | .Pr,f=>.func (.func 220) #[] #[pv f.c0]
 | .bS _,f=>.func (.func 137) #[] #[pv f.c0,pv f.c1]
 | .take _,f=>.func (.func 143) #[] #[pv f.c0,pv f.c1]
 | .lU _ _,f=>.func (.func 146) #[] #[pv f.c0,pv f.c1,pv f.c2]
 | .AS,f=>.func (.func 215) #[] #[pv f.c0]
 | .dg _ _,f=>.func (.func 221) #[] #[pv f.c0,pv f.c1,pv f.c2]
def ru:bD->sx->Value
 | .iP k,f=>rx k f
 | .eO _,f=>.func (.func 217) #[] #[pv f.c0,pv f.c1]
 | _,f=>f.dw
def yG:bD->sx->Value
 | .bh _ .take,f=>.func (.func 141) #[] #[pv f.c0]
 | .bh _ (.dg _),f=>.func (.func 223) #[] #[pv f.c0,pv f.c1]
 | _,f=>f.gQ
def vM (s:aJ) (bW:Int) (d:bD) (f:sx):dQ:=.cells [pv f.eu,pv f.eS,f.dk,f.bx,f.bU,
 oc s.b7 f.bM,rE d f,mt d f,yR d f,jK s.aP f.de,iQ s.aL f.db,my d f,mo d f,jc d f,rF d f,
 .int .i64 s.cf.be,.int .i64 s.cf.ao,.int .i64 s.cf.base,.int .i64 s.cf.c0,.int .i64 s.cf.c1,.int .i64 s.cf.c2,.int .i64 s.cf.c3,.int .i64 s.cf.reads,.int .i64 s.cf.bP,.int .i64 s.cf.an,.int .i64 s.cf.ay,.int .i64 s.cf.aB,.bool s.cf.aW,
 .int .i64 s.aj,.int .i64 s.aF,.int .i64 s.aC,.int .i64 bW,ru d f,yG d f,rZ d f,.int .u64 s.value,f.b5,.int .u64 s.aB,.bool s.am,.int .i64 s.au] true 1
def L8:Option iv->Nat->HP|none,_=>eZ|some e,n=>pt n (iq e)
def vu:Option ik->Nat->HP|none,_=>eZ|some l,n=>iy n l
def w9:Option iG->Nat->HP|none,_=>eZ|some t,n=>pt n (jR t)
def cZ (b:Nat):FN->sx->List It
 | .tR,f | .Pr,f | .AS,f=>[.at f.c0 (aK (pv b))]
 | .bS aC,f=>[.at f.c0 (aK (pv b)),.at f.c1 (aK (.int .i64 aC))]
 | .take v,f=>[.at f.c0 (aK (.func (.func 141) #[] #[pv f.c2])),.at f.c1 (aK (.int .u64 v)),.at f.c2 (aK (pv b))]
 | .lU a v,f=>[.at f.c0 (aK (pv b)),.at f.c1 (aK (.int .u64 a)),.at f.c2 (aK (.int .u64 v))]
 | .dg k v,f=>[.at f.c0 (aK (pv b)),.at f.c1 (aK (.int .i64 k)),.at f.c2 (aK (.int .u64 v))]
def eH (b:Nat):zH->sx->List It
 | .take,f=>[.at f.c0 (aK (pv b))]
 | .dg k,f=>[.at f.c0 (aK (pv b)),.at f.c1 (aK (.int .i64 k))]
def iJ (b:Nat):bD->sx->List It
 | .iP k,f=>cZ b k f
 | .bh r u,f=>.at f.m (iS r)::eH b u f
 | .eO p,f=>[.at f.m (nL p),.at f.c0 (aK (pv b)),.at f.c1 (aK (.int .i64 p.eE))]
 | .cM c,f=>[.h (jI f.m c)]
 | .di w,f=>[.h (iH f.m w)]
 | .bH w,f=>[.h (iH f.m w)]
 | .eL p,f=>[.at f.m (ir p)]
 | _,_=>[]
def cr (b:Nat) (s:aJ) (bW:Int) (d:bD) (f:sx):List It:=[.at b (vM s bW d f),.h (L8 s.b7 f.bM),.h (vu s.aP f.de),.h (w9 s.aL f.db),
 .h (xV f.eu s.cf.reads.toNat s.set),.h (rf f.eS s.bz),.h (av .i64 f.dk s.reads),.h (av .i64 f.bx s.an),.h (av .i64 f.bU s.ay),.h (av .i64 f.b5 s.ao)]
def jj (b:Nat) (s:aJ) (bW:Int) (d:bD):HP:=rO λf:sx=>aM (cr b s bW d f)
def bf (b:Nat) (s:aJ):HP:=rO λf:sx=>aM (cr b s s.aH.fY s.aH f++iJ b s.aH f)
theorem aE.aL {n:Nat} {t:iG} {L:List It}:aE (.at n (jR t)::L) (.h (w9 (some t) n)) L:=.e rfl
theorem aE.b7 {n:Nat} {t:iv} {L:List It}:aE (.at n (iq t)::L) (.h (L8 (some t) n)) L:=.e rfl
theorem aE.Sk {n:Nat} {t:ik} {L:List It}:aE (.h (iy n t)::L) (.h (vu (some t) n)) L:=.e rfl
section
variable {A:AW} {L K:List It} {b:Nat} {s:aJ} {bW:Int} {d:bD}
theorem jj.open (h:ah A L) (hp:aE L (.h (jj b s bW d)) K):∃f,ah A (cr b s bW d f++K):=jV h hp
theorem bf.open (h:ah A L) (hp:aE L (.h (bf b s)) K):∃f,ah A (cr b s s.aH.fY s.aH f++iJ b s.aH f++K):=jV h hp
theorem jj.dP {eu eS bM de db m c0 c1 c2:Nat} {dk bx bU b5 eB dl fl b6 bZ bj dm dw gQ eC:Value} (h:ah A L)
 (e:aX L (cr b s bW d ⟨eu,eS,bM,de,db,m,c0,c1,c2,dk,bx,bU,b5,eB,dl,fl,b6,bZ,bj,dm,dw,gQ,eC⟩) K):ah A (.h (jj b s bW d)::K):=iM ⟨eu,eS,bM,de,db,m,c0,c1,c2,dk,bx,bU,b5,eB,dl,fl,b6,bZ,bj,dm,dw,gQ,eC⟩ h e
theorem bf.dP {eu eS bM de db m c0 c1 c2:Nat} {dk bx bU b5 eB dl fl b6 bZ bj dm dw gQ eC:Value} (h:ah A L)
 (e:aX L (cr b s s.aH.fY s.aH ⟨eu,eS,bM,de,db,m,c0,c1,c2,dk,bx,bU,b5,eB,dl,fl,b6,bZ,bj,dm,dw,gQ,eC⟩++iJ b s.aH ⟨eu,eS,bM,de,db,m,c0,c1,c2,dk,bx,bU,b5,eB,dl,fl,b6,bZ,bj,dm,dw,gQ,eC⟩) K):ah A (.h (bf b s)::K):=iM ⟨eu,eS,bM,de,db,m,c0,c1,c2,dk,bx,bU,b5,eB,dl,fl,b6,bZ,bj,dm,dw,gQ,eC⟩ h e
theorem bf.bS {eu eS bM de db m c0 c1 c2:Nat} {dk bx bU b5 eB dl fl b6 bZ bj dm dw gQ eC:Value} {G K2:List It} (h:ah A L)
 (e:aX L (cr b s s.aH.fY s.aH ⟨eu,eS,bM,de,db,m,c0,c1,c2,dk,bx,bU,b5,eB,dl,fl,b6,bZ,bj,dm,dw,gQ,eC⟩++iJ b s.aH ⟨eu,eS,bM,de,db,m,c0,c1,c2,dk,bx,bU,b5,eB,dl,fl,b6,bZ,bj,dm,dw,gQ,eC⟩) K) (e2:aX K G K2):ah A (.h (bf b s)::G):=
 ah.bS (bf.dP h e) (.s .z e2)
theorem jj.view {eu eS bM de db m c0 c1 c2:Nat} {dk bx bU b5 eB dl fl b6 bZ bj dm dw gQ eC:Value} (h:ah A L)
 (e:aX L (cr b s bW d ⟨eu,eS,bM,de,db,m,c0,c1,c2,dk,bx,bU,b5,eB,dl,fl,b6,bZ,bj,dm,dw,gQ,eC⟩) K):ah A [.h (jj b s bW d)]:=ah.bS (jj.dP h e) (.s .z .z)
theorem bf.Uw (h:ah A L) (hp:aE L (.h (bf b s)) K):ah A (.h (jj b s s.aH.fY s.aH)::K):=by
 obtain⟨f,h⟩:=bf.open h hp;have h1:ah A (cr b s s.aH.fY s.aH f++(iJ b s.aH f++K)):=by rw [<-List.append_assoc];exact h
 have h2:ah A (.h (jj b s s.aH.fY s.aH)::(iJ b s.aH f++K)):=iM (g:=cr b s s.aH.fY s.aH) f h1 (by
  repeat' (first|apply aX.z|apply aX.s|apply aE.z))
 unfold ah at h2 ⊢;have h3:bB A (jj b s s.aH.fY s.aH*aM (iJ b s.aH f++K)):=h2;rw [gf] at h3;have h4:bB A (aM (iJ b s.aH f)*(jj b s s.aH.fY s.aH*aM K)):=h3.dZ (by ac_rfl);exact bB.right h4
theorem bn.ki {P:Program} {f:FuncId} {args:List Value} {rl:List It} {φ:Value->Prop} {post:Value->List It} (hc:bn P f args (.h (jj b s bW d)::rl) φ post) {eu eS bM de db m c0 c1 c2:Nat} {dk bx bU b5 eB dl fl b6 bZ bj dm dw gQ eC:Value} {K0:List It} {k:Value->AW->Prop} (hw:A.Wf) (hS:ah A L)
 (e:aX L (cr b s bW d ⟨eu,eS,bM,de,db,m,c0,c1,c2,dk,bx,bU,b5,eB,dl,fl,b6,bZ,bj,dm,dw,gQ,eC⟩) K0) (e2:aX K0 rl K) (hk:∀v A',φ v->ah A' (post v++K)->A'.Wf->A.next<=A'.next->k v A'):aD P f args A k:=
 bn.ft hc hw (jj.dP hS e) (.s .z e2) hk
theorem bn.RH {P:Program} {f:FuncId} {args:List Value} {rl:List It} {φ:Value->Prop} {post:Value->List It} (hc:bn P f args (.h (bf b s)::rl) φ post) {eu eS bM de db m c0 c1 c2:Nat} {dk bx bU b5 eB dl fl b6 bZ bj dm dw gQ eC:Value} {K0:List It} {k:Value->AW->Prop} (hw:A.Wf) (hS:ah A L)
 (e:aX L (cr b s s.aH.fY s.aH ⟨eu,eS,bM,de,db,m,c0,c1,c2,dk,bx,bU,b5,eB,dl,fl,b6,bZ,bj,dm,dw,gQ,eC⟩++iJ b s.aH ⟨eu,eS,bM,de,db,m,c0,c1,c2,dk,bx,bU,b5,eB,dl,fl,b6,bZ,bj,dm,dw,gQ,eC⟩) K0) (e2:aX K0 rl K) (hk:∀v A',φ v->ah A' (post v++K)->A'.Wf->A.next<=A'.next->k v A'):aD P f args A k:=
 bn.ft hc hw (bf.dP hS e) (.s .z e2) hk
theorem L8.op {n:Nat} {e:iv} (h:ah A L) (hp:aE L (.h (L8 (some e) n)) K):ah A (.at n (iq e)::K):=by
 unfold ah at h ⊢;rw [hp.aM] at h;exact h
theorem w9.op {n:Nat} {e:iG} (h:ah A L) (hp:aE L (.h (w9 (some e) n)) K):ah A (.at n (jR e)::K):=by
 unfold ah at h ⊢;rw [hp.aM] at h;exact h
theorem vu.op {n:Nat} {e:ik} (h:ah A L) (hp:aE L (.h (vu (some e) n)) K):ah A (.h (iy n e)::K):=by
 unfold ah at h ⊢;rw [hp.aM] at h;exact h
theorem CP {f:FuncId} {args:List Value} {V:Value} {b:Nat} {s:aJ} {bW:Int} {d:bD} (hC:∀A':AW,A'.Wf->ah A' [.h (jj b s bW d)]->fh f args A' V)
 {A:AW} {L K0:List It} {eu eS bM de db m c0 c1 c2:Nat} {dk bx bU b5 eB dl fl b6 bZ bj dm dw gQ eC:Value} {k:Value->AW->Prop} (hw:A.Wf) (hS:ah A L) (e:aX L (cr b s bW d ⟨eu,eS,bM,de,db,m,c0,c1,c2,dk,bx,bU,b5,eB,dl,fl,b6,bZ,bj,dm,dw,gQ,eC⟩) K0) (hk:k V A):aD qa f args A k:=by
 refine bO (hC A hw (jj.view hS e)) ?_;rintro _ _ ⟨rfl,rfl⟩ _ _;exact hk
end
theorem pP {L G K:List It} (h':aX L G K:=by first|((repeat' (first|apply aX.z|apply aX.s|apply aE.z|apply aE.aL|apply aE.b7|apply aE.Sk|apply aE.s));done)|fail):aX L G K:=h'
theorem kP {L K:List It} {x:It} (h':aE L x K:=by first|((repeat' (first|apply aX.z|apply aX.s|apply aE.z|apply aE.aL|apply aE.b7|apply aE.Sk|apply aE.s));done)|fail):aE L x K:=h'
theorem fP {L G K:List It} (h':aX L G K:=by first|((dsimp only [cr,vM,rE,mt,rZ,yR,my,mo,jc,rF,ru,yG,rx,oc,jK,iQ,iJ,cZ,eH,bD.fY,aa,af]);(try simp only [h]);(repeat' (first|apply aX.z|apply aX.s|apply aE.z|apply aE.aL|apply aE.b7|apply aE.Sk|apply aE.s));done)|fail):aX L G K:=h'
end
section
abbrev IE:List (Nat×Nat):=[(0,0),(1,0),(2,0),(3,0),(4,0),(5,0),(6,0),(7,0),(8,0),(9,0),(10,0),(11,0),(12,0),(13,0),(14,0),(15,0),(16,0),(17,0)]
abbrev ID:List (Nat×Nat):=[(0,0),(1,0),(2,0),(3,0),(4,0),(5,0),(6,0),(7,0),(8,0),(9,0),(10,0),(11,0)]
open T12 T13
variable [Gl]
theorem IZ (s:aJ):(s.aC=1/\gi s={ s with aH:=.ic })\/((¬s.aC=1/\(s.au:Int)=s.an.length)/\gi s={ s with aH:=.ic }) \/
 ((¬s.aC=1/\¬(s.au:Int)=s.an.length)/\gi s={ s with aH:=.eL ⟨dU s.cf (s.an.getD s.au 0),s.an.getD s.au 0,0,0⟩ }):=by
 unfold gi;by_cases h1:s.aC=1;simp [h1];by_cases h2:s.au=s.an.length;simp [h1,h2];have h3:¬(s.au:Int)=s.an.length:=by omega
 simp [h1,h2,h3]
theorem wK (b:Nat) (s:aJ) (bW:Int) (d:bD) (hc:cX s.cf) (pY:∀x∈s.an,x<2^62) (hp:s.au<=s.an.length) (hl:s.an.length<2^38) :
 bn qa 127 [pv b] [.h (jj b s bW d)] (λ_=>True) (λ_=>[.h (bf b (gi s))]):=by
 intro A F hw hS;refine aN Tryz.func127 λ_=>?_;obtain⟨x0,hS⟩:=jj.open hS .z;(unhygienic cases x0);dsimp only [cr,aa,af] at hS;have hq:=O6 hS hw;have hI:=ah.tE hS (.s (.s (.s (.s (.s (.s (.s .z)))))));obtain⟨oa,ca,rfl,_⟩:=hI.cy;rcases IZ s with ⟨h,e⟩|⟨h,e⟩|⟨h,e⟩
 . revert hq hS hw;(try revert hc);clear hS;refine Wp (J2 (od IE) (od ID)) (J2 h bE) ?_<;>(unhygienic intros);refine⟨_,by first|rfl|(simp;rfl),trivial,?_⟩;rw [e];apply bf.bS
   (·exact sA)
   exact fP
   (·first|exact pP|exact kP)
   all_goals(first|exact 0|exact undef)
 . revert hq hS hw;(repeat first|clear hq|clear hS|clear hw|revert hc|revert R|revert K);refine Wp (J2 (od IE) (od ID)) (J2 h bE) ?_<;>(unhygienic intros);refine⟨_,by first|rfl|(simp;rfl),trivial,?_⟩;rw [e];apply bf.bS
   (·exact sA)
   exact fP
   (·first|exact pP|exact kP)
   all_goals(first|exact 0|exact undef)
 have cD:s.au<s.an.length:=by omega
 have iC:(s.au:Int)<s.an.length:=by omega
 obtain⟨p,b8,rfl,bV,hcell⟩:=hI.at cD;have hgd:s.an[s.au]=s.an.getD s.au 0:=by rw [List.getD_eq_getElem?_getD,List.getElem?_eq_getElem cD];rfl
 have hx:s.an.getD s.au 0<2^62:=by rw [<-hgd];exact pY _ (List.getElem_mem cD)
 rw [hgd] at hcell;generalize s.an.getD s.au 0=x at *;have kJ:=u4 s.cf hc x hx;dsimp only [br.v] at kJ;revert hq hS hw;(repeat first|clear hq|clear hS|clear hw|revert hc|revert R|revert K);refine Wp (J4 (od IE) (od ID) @kJ @Ax) (J6 h bV hcell cD iC bE) ?_<;>(unhygienic intros);refine⟨_,by first|rfl|(simp;rfl),trivial,?_⟩;rw [e];apply bf.bS
 (·exact sA)
 exact fP
 (·first|exact pP|exact kP)
 all_goals(first|exact 0|exact undef)
theorem js (b:Nat) (s:aJ) (bW aC:Int) (d:bD) (hc:cX s.cf) (pY:∀x∈s.an,x<2^62) (hp:s.au<=s.an.length) (hl:s.an.length<2^38) :
 bn qa 172 [pv b,.int .i64 aC] [.h (jj b s bW d)] (λ_=>True) (λ_=>[.h (bf b (jQ s aC))]):=by
 intro A F hw hS;refine aN Tryz.func172 λ_=>?_;obtain⟨x0,hS⟩:=jj.open hS .z;(unhygienic cases x0);dsimp only [cr,aa,af] at hS;have hq:=O6 hS hw
 repeat' (first|(refine kY λR hR=>?_;simp [ar,ax,hq,AW.ab,aG];try simp (disch:=omega) only [aA,aw,ar,ax])|(refine hR _ _ ?_;clear hR R)|(refine hK _ _ ?_;clear hK K)|refine nx ?_|refine wn λK hK=>?_|simp only [wS]|(apply bn.ki (wK b { s with aC:=aC } bW d hc pY hp hl);(·exact wA);(·exact sA);(·exact fP);(·first|exact pP|exact kP);(rintro _ _ _ hS hw _;have hS:=lA hS);(try (have hq:=HA hS hw));all_goals(try (first|exact 0|exact undef)))|(show c8 _ _ _ _ _ _;refine nx ?_)|(refine wc rfl (λhc=>?_) (λhc=>?_)<;>(try simp at hc)<;>(try omega)<;>(try (simp [h2] at hc;done))<;>(try (simp [h3] at hc;done))<;>(try (simp [h4] at hc;done)))|(refine ib (λhc=>?_) (λhc=>?_)<;>(try omega)<;>(try simp (disch:=omega) only [aA,aw])))
 exact⟨_,by first|rfl|(simp;rfl),trivial,ah.bS hS (.s .z (.s .z .z))⟩
end
section
open T12 T13
variable [Gl]
theorem HJ (b:Nat) (s:aJ) (d:bD) (A:AW) (hw:A.Wf) (hS:ah A [.h (jj b s s.aH.fY d)]):fh 64 [pv b] A (.bool s.jN):=by
 refine aN Tryz.func64 λ_=>?_;obtain⟨x0,hS⟩:=jj.open hS .z;(unhygienic cases x0);dsimp only [cr,aa,af] at hS;have hq:=eV hS hw;revert hq hS hw;clear hS;refine Wp cF (J1 @AW.ab) ?_<;>intros;exact⟨_,rfl,by simp [aJ.jN],rfl⟩
theorem Eh (b:Nat) (s:aJ) (st:Int) (d:bD) (A:AW) (hw:A.Wf) (hS:ah A [.h (jj b s s.aH.fY d)]):fh 135 [pv b,.int .i64 st] A (.int .i64 (if s.mi st=true then 0 else 1)):=by
 refine aN Tryz.func135 λ_=>?_;have hb:=HJ b s d A hw hS;obtain⟨x0,hS⟩:=jj.open hS .z;(unhygienic cases x0);dsimp only [cr,aa,af] at hS;have hq:=eV hS hw;by_cases h1:s.aH.fY=0;have h2:s.jN=false:=by simp [aJ.jN,h1]
 rw [h2] at hb;by_cases h3:s.aF=st;revert hq hS hw;clear hS;refine Wp (J1 @hb) (J3 h1 h3 @AW.ab) ?_<;>intros;exact⟨_,rfl,by simp [aJ.mi,h1,h3],rfl⟩;refine Wp (J1 @hb) (J3 h1 h3 @AW.ab) ?_<;>intros;exact⟨_,rfl,by simp [aJ.mi,h1,h3],rfl⟩;have h2:s.jN=true:=by simp [aJ.jN,h1]
 rw [h2] at hb
 repeat' (first|(refine kY λR hR=>?_;simp [ar,ax,hq,h1,AW.ab];try simp (disch:=omega) only [aA,aw,ar,ax])|(refine hR _ _ ?_;clear hR R)|(refine hK _ _ ?_;clear hK K)|refine nx ?_|refine wn λK hK=>?_|simp only [wS]|(refine bO (hb) ?_;rintro _ _ ⟨rfl,rfl⟩ _ _)|(show c8 _ _ _ _ _ _;refine nx ?_)|(refine wc rfl (λhc=>?_) (λhc=>?_)<;>(try simp at hc)<;>(try omega)<;>(try (simp [h2] at hc;done))<;>(try (simp [h3] at hc;done))<;>(try (simp [h4] at hc;done)))|(refine ib (λhc=>?_) (λhc=>?_)<;>(try omega)<;>(try simp (disch:=omega) only [aA,aw])))
 exact⟨_,rfl,by simp [aJ.mi,h1],rfl⟩
theorem pO (b:Nat) (s:aJ) (bW a:Int) (d:bD) (hc:cX s.cf) (A:AW) (hw:A.Wf) (hS:ah A [.h (jj b s bW d)]):fh 139 [pv b,.int .u64 a] A (.bool (decide (s.cf.be<=a))):=by
 refine aN Tryz.func139 λ_=>?_;obtain⟨x0,hS⟩:=jj.open hS .z;(unhygienic cases x0);dsimp only [cr,aa,af] at hS;have hq:=eV hS hw;obtain⟨w0,w1⟩:=hc.be;have SR:qd.wrap s.cf.be=s.cf.be:=ax (by omega) (by omega);revert hq hS hw;(try revert hc);clear hS;refine Wp cF (J2 SR @AW.ab) ?_<;>intros;exact⟨_,rfl,by simp,rfl⟩
theorem My (b:Nat) (s:aJ) (bW:Int) (d:bD) (A:AW) (hw:A.Wf) (hS:ah A [.h (jj b s bW d)]):fh 131 [pv b] A (.int .i64 s.aF):=by
 refine aN Tryz.func131 λ_=>?_;obtain⟨x0,hS⟩:=jj.open hS .z;(unhygienic cases x0);dsimp only [cr,aa,af] at hS;have hq:=eV hS hw;revert hq hS hw;clear hS;refine Wp cF (J1 @AW.ab) ?_<;>intros;exact⟨_,rfl,rfl,rfl⟩
theorem QU (b:Nat) (s:aJ) (bW:Int) (d:bD) (A:AW) (hw:A.Wf) (hS:ah A [.h (jj b s bW d)]):fh 90 [pv b] A (.int .i64 s.aC):=by
 refine aN Tryz.func90 λ_=>?_;obtain⟨x0,hS⟩:=jj.open hS .z;(unhygienic cases x0);dsimp only [cr,aa,af] at hS;have hq:=eV hS hw;revert hq hS hw;clear hS;refine Wp cF (J1 @AW.ab) ?_<;>intros;exact⟨_,rfl,rfl,rfl⟩
theorem Ml (b:Nat) (s:aJ) (bW:Int) (d:bD) (A:AW) (hw:A.Wf) (hS:ah A [.h (jj b s bW d)]):fh 203 [pv b] A (.int .u64 s.value):=by
 refine aN Tryz.func203 λ_=>?_;obtain⟨x0,hS⟩:=jj.open hS .z;(unhygienic cases x0);dsimp only [cr,aa,af] at hS;have hq:=eV hS hw;revert hq hS hw;clear hS;refine Wp cF (J1 @AW.ab) ?_<;>intros;exact⟨_,rfl,rfl,rfl⟩
theorem I7 (b:Nat) (s:aJ) (bW:Int) (d:bD) (A:AW) (hw:A.Wf) (hS:ah A [.h (jj b s bW d)]):fh 88 [pv b] A (.bool s.am):=by
 refine aN Tryz.func88 λ_=>?_;obtain⟨x0,hS⟩:=jj.open hS .z;(unhygienic cases x0);dsimp only [cr,aa,af] at hS;have hq:=eV hS hw;revert hq hS hw;clear hS;refine Wp cF (J1 @AW.ab) ?_<;>intros;exact⟨_,rfl,rfl,rfl⟩
theorem ld (b:Nat) (s:aJ) (bW:Int) (d:bD) (A:AW) (hw:A.Wf) (hS:ah A [.h (jj b s bW d)]):fh 192 [pv b] A (.bool s.il):=by
 refine aN Tryz.func192 λ_=>?_;obtain⟨x0,hS⟩:=jj.open hS .z;(unhygienic cases x0);dsimp only [cr,aa,af] at hS;obtain⟨va,vv,vi,hS⟩:=rf.open hS (.s (.s (.s (.s (.s .z)))));obtain⟨oa,ca,rfl,_⟩:=(ah.tE hS (.s .z)).cy;have hll:=KQ eS _ oa _ ca vv vi A (hS.g 0 rfl);have hq:=eV hS hw;by_cases h:s.aC=1;revert hq hS hw;clear hS;clear hS;refine Wp (J1 @hll) (J2 h @AW.ab) ?_<;>intros;exact⟨_,rfl,by simp [aJ.il,h],rfl⟩;refine Wp (J1 @hll) (J2 h @AW.ab) ?_<;>intros;exact⟨_,rfl,by simp [aJ.il,h],rfl⟩
theorem pL (b:Nat) (s:aJ) (bW:Int) (d:bD) (A:AW) (hw:A.Wf) (hS:ah A [.h (jj b s bW d)]):fh 198 [pv b] A (.int .i64 s.nJ):=by
 refine aN Tryz.func198 λ_=>?_;have dy:=ld b s bW d A hw hS;obtain⟨x0,hS⟩:=jj.open hS .z;(unhygienic cases x0);dsimp only [cr,aa,af] at hS;have hq:=eV hS hw;cases h:s.am<;>cases h2:s.il
 all_goals(rw [h2] at dy)
 all_goals(revert hq hS hw;clear hS;refine Wp (J1 @dy) (J2 h @AW.ab) ?_<;>unhygienic intros)
 all_goals exact⟨_,rfl,by simp [aJ.nJ,h,h2],rfl⟩
theorem tL (b:Nat) (s:aJ) (bW:Int) (d:bD) (A:AW) (hw:A.Wf) (hS:ah A [.h (jj b s bW d)]):fh 187 [pv b] A (.int .i64 s.rv):=by
 refine aN Tryz.func187 λ_=>?_;obtain⟨x0,hS⟩:=jj.open hS .z;(unhygienic cases x0);dsimp only [cr,aa,af] at hS;cases he:s.b7 with
 | none=>
   have hq:=eV hS hw;rw [he] at hq;dsimp only [oc] at hq;revert hq hS hw;clear hS;refine Wp cF (J1 @AW.ab) ?_<;>intros;exact⟨_,rfl,by simp [aJ.rv,he],rfl⟩
 | some en=>
   rw [he] at hS;have Y3:A.bp bM=some (iq en):=(L8.op hS (.s .z)).g 0 rfl;have hsn:=wQ bM en A Y3;have hq:=eV hS hw;rw [he] at hq;dsimp only [oc] at hq;refine Wp (J1 @hsn) (J1 @AW.ab) ?_<;>intros;exact⟨_,rfl,by simp [aJ.rv,he],rfl⟩
end
section
open T7
variable [Gl]
theorem IG (a o rv:Int) (A:AW):aD qa 210 [.int .i64 a,.int .i64 o,.int .i64 rv] A (λv A'=>v=.pointer (some ⟨A.next,0,none⟩)/\A'=A.alloc (iS ⟨a,o,rv,0,0,0,false⟩)):=by
 refine aN Tryz.func210 λ_=>?_;refine W cF (J1 @iS.eq_1) ?_<;>intros;exact⟨_,rfl,rfl,rfl⟩
theorem IM (b:Nat) (s:ik) (A:AW) (F:HP) (h:bB A (iy b s*F)) (hl:s.dT.length<2^38) :
 aD qa 237 [.pointer (some ⟨b,0,none⟩)] A (λv A'=>fk A.next A' .u64 v s.dT/\A.le A'):=by
 refine aN Tryz.func237 λhw=>?_;obtain⟨vo,vw,hS⟩:=iy.open h;have hg:=hS.bp;revert hS hw;refine W cF (J2 hg @AW.ab) ?_<;>(unhygienic intros);refine bO (i7 vw s.dT A (av.is hS.right.right) (by omega)) ?_;rintro u A1 ⟨h1,h2⟩ jx _;refine W cF cF ?_<;>intros;exact⟨_,by first|(simp;done)|(simp;rfl),h1,h2⟩
section
variable {A:AW} {L K K2:List It} {k:Value->AW->Prop}
theorem KK {t:Int} {vi:Value} {l:List Int} (hw:A.Wf) (hS:ah A L) (hp:aE L (.h (av .i64 vi l)) K) (hl:l.length<2^38)
 (hk:∀n A',ah A' (.h (iy n ⟨t,eT l,[],0,false⟩)::L)->A'.Wf->k (pv n) A'):aD qa 208 [.int .i64 t,vi] A k:=by
 refine bO (II t vi l A (aM L) (ah.tE hS hp) hl hw hS) ?_;rintro _ A' ⟨n,rfl,h1⟩ kI _;exact hk n A' h1 kI
theorem wz {vi vw:Value} {l ws:List Int} (hw:A.Wf) (hS:ah A L) (hp:aE L (.h (av .i64 vi l)) K) (GJ:aE L (.h (av .u64 vw ws)) K2) (hl:l.length<2^38) (he:l.length=ws.length)
 (hk:∀n A',ah A' (.h (iH n ⟨l,ws⟩)::L)->A'.Wf->A.le A'->k (pv n) A'):aD qa 199 [vi,vw] A k:=by
 refine bO (Gv vi vw l ws A (aM L) (ah.tE hS hp) (ah.tE hS GJ) he hl hw hS) ?_;rintro _ A' ⟨n,rfl,h1,h2⟩ kI _;exact hk n A' h1 kI h2
theorem IF {vi vw:Value} {l ws:List Int} (hw:A.Wf) (hS:ah A L) (hp:aE L (.h (av .i64 vi l)) K) (GJ:aE L (.h (av .u64 vw ws)) K2) (hl:l.length<2^38) (he:l.length=ws.length)
 (hk:∀n A',ah A' (.h (iH n ⟨l,ws⟩)::L)->A'.Wf->A.le A'->k (pv n) A'):aD qa 193 [vi,vw] A k:=by
 refine bO (KE vi vw l ws A (aM L) (ah.tE hS hp) (ah.tE hS GJ) he hl hw hS) ?_;rintro _ A' ⟨n,rfl,h1,h2⟩ kI _;exact hk n A' h1 kI h2
theorem pR {v:Value} {l:List Int} {rv:Int} (hw:A.Wf) (hS:ah A L) (hp:aE L (.h (av .i64 v l)) K) (hl:l.length<2^38)
 (hk:∀n A',ah A' (.h (jI n ⟨l,rv,false⟩)::L)->A'.Wf->A.le A'->k (pv n) A'):aD qa 185 [v,.int .i64 rv] A k:=by
 refine bO (KL v l rv A (aM L) (ah.tE hS hp) hl hw hS) ?_;rintro _ A' ⟨n,rfl,h1,h2⟩ kI _;exact hk n A' h1 kI h2
theorem MB {vi:Value} {l:List Int} (hw:A.Wf) (hS:ah A L) (hp:aE L (.h (av .i64 vi l)) K) (hl:l.length<2^38)
 (hk:∀o c A',ah A' (.h (av .i64 (.slice o (eT l).length c) (eT l))::L)->A'.Wf->A.le A'->k (.slice o (eT l).length c) A'):aD qa 207 [vi] A k:=by
 refine bO (Cr vi l A (ah.tE hS hp) (by omega)) ?_;rintro u A' ⟨h1,h2⟩ kI _;obtain⟨o,c,rfl,_⟩:=h1.is.cy;exact hk o c A' (av.iB hS hw h2 h1) kI h2
theorem uT {n:Nat} {s:tA} (hw:A.Wf) (hS:ah A L) (hp:aE L (.h (rf n s)) K) (hl:s.bL.length<2^38)
 (hk:∀o c A',ah A' (.h (av .i64 (.slice o s.bL.length c) s.bL)::L)->A'.Wf->A.le A'->k (.slice o s.bL.length c) A'):aD qa 130 [pv n] A k:=by
 obtain⟨va,vv,vi,h0⟩:=rf.open hS hp;refine bO (GA n s.eA va vv vi s.bL A (h0.g 0 rfl) (ah.tE h0 (.s .z)) (by omega)) ?_;rintro u A' ⟨h1,h2⟩ kI _;obtain⟨o,c,rfl,_⟩:=h1.is.cy;exact hk o c A' (av.iB hS hw h2 h1) kI h2
theorem Gz {n:Nat} {s:tA} (hw:A.Wf) (hS:ah A L) (hp:aE L (.h (rf n s)) K) (hl:s.fq.length<2^38)
 (hk:∀o c A',ah A' (.h (av .u64 (.slice o s.fq.length c) s.fq)::L)->A'.Wf->A.le A'->k (.slice o s.fq.length c) A'):aD qa 194 [pv n] A k:=by
 obtain⟨va,vv,vi,h0⟩:=rf.open hS hp;refine bO (EB n s.eA va vv vi s.fq A (h0.g 0 rfl) (ah.tE h0 (.s (.s .z))) (by omega)) ?_;rintro u A' ⟨h1,h2⟩ kI _;obtain⟨o,c,rfl,_⟩:=h1.is.cy;exact hk o c A' (av.iB hS hw h2 h1) kI h2
theorem sB {n eA:Nat} {l:List Int} (hw:A.Wf) (hS:ah A L) (hp:aE L (.h (xV n eA l)) K) (hl:l.length<2^38)
 (hk:∀o c A',ah A' (.h (av .i64 (.slice o l.length c) l)::L)->A'.Wf->A.le A'->k (.slice o l.length c) A'):aD qa 186 [pv n] A k:=by
 obtain⟨v,h0⟩:=xV.open hS hp;refine bO (Ij n eA v l A (h0.g 0 rfl) (ah.tE h0 (.s .z)) (by omega)) ?_;rintro u A' ⟨h1,h2⟩ kI _;obtain⟨o,c,rfl,_⟩:=h1.is.cy;exact hk o c A' (av.iB hS hw h2 h1) kI h2
theorem uS {n:Nat} {s:tA} {a:Int} (mv:oX s) (AP:s.eA<=32) (Pc:s.index.length<=64) (ha:0<=a) (hw:A.Wf) (hS:ah A L) (hp:aE L (.h (rf n s)) K)
 (hk:k (.tuple #[.int .u64 (ll s a).1,.bool (ll s a).2]) A):aD qa 142 [pv n,.int .i64 a] A k:=by
 obtain⟨va,vv,vi,h0⟩:=rf.open hS hp;refine bO (KR n va vv vi s a A mv ha AP Pc (h0.g 0 rfl) (ah.tE h0 (.s .z)) (ah.tE h0 (.s (.s .z))) (ah.tE h0 (.s (.s (.s .z))))) ?_;rintro _ _ ⟨rfl,rfl⟩ _ _;exact hk
theorem KT {n:Nat} {s:ik} (hw:A.Wf) (hS:ah A L) (hp:aE L (.h (iy n s)) K) (hl:s.dT.length<2^38)
 (hk:∀o c A',ah A' (.h (av .u64 (.slice o s.dT.length c) s.dT)::L)->A'.Wf->A.le A'->k (.slice o s.dT.length c) A'):aD qa 237 [pv n] A k:=by
 have h0:bB A (iy n s*aM K):=by
  unfold ah at hS;rw [hp.aM] at hS;exact hS
 refine bO (IM n s A (aM K) h0 hl) ?_;rintro u A' ⟨h1,h2⟩ kI _;obtain⟨o,c,rfl,_⟩:=h1.is.cy;exact hk o c A' (av.iB hS hw h2 h1) kI h2
end
end
section
open T12 T13
variable [Gl]
structure gL (s:aJ):Prop where
 cf:cX s.cf
 Mb:0<=s.aj/\s.aj<1024
 bz:oX s.bz
 eA:s.bz.eA<=32
 cL:s.bz.index.length<=64
 HN:∀a∈s.bz.bL,a<2^40
 Rt:∀x∈s.an,0<=x/\x<2^40
 nC:s.an.length<=8
 push:s.au<=s.an.length
 set:s.set.length<=s.cf.reads.toNat
 kL:s.reads.length<2^20
 Dj:s.ay.length<=8
theorem gL.al {s:aJ} (h:gL s):∀x∈s.an,x<2^62:=λx hx=>by have:=(h.Rt x hx).2;omega
theorem gL.len {s:aJ} (h:gL s):s.bz.bL.length<=32:=Nat.le_trans h.bz.eA h.eA
theorem xm (s:aJ) (a v:Int):((fM s.bz a v).1=true/\jp s a v=(true,{ s with bz:=(fM s.bz a v).2 }))\/((fM s.bz a v).1=false/\jp s a v=(false,jQ s 3)):=by
 unfold jp;cases h:(fM s.bz a v).1<;>simp
theorem ww (b:Nat) (s:aJ) (a v:Int) (hd:s.aH=.bF) (hC:gL s) (ha:0<=a) :
 bn qa 147 [pv b,.int .i64 a,.int .u64 v] [.h (bf b s)] (λu=>u=.bool (jp s a v).1) (λ_=>[.h (bf b (jp s a v).2)]):=by
 have hcs:=xm s a v;(unhygienic cases s);dsimp only at hd;subst hd;intro A F hw hS;refine aN Tryz.func147 λ_=>?_;obtain⟨x0,hS⟩:=bf.open hS .z;(unhygienic cases x0);dsimp only [cr,iJ,cZ,eH,bD.fY,aa,af] at hS;have hq:=eV hS hw;dsimp only at hcs;rcases hcs with ⟨h,e⟩|⟨h,e⟩
 . have kO:=CD eS bz a v hC.bz ha hC.eA hC.cL;rw [h] at kO;revert hq hS hw;clear hS;refine Wp (J1 @kO) (J1 bE) ?_<;>(unhygienic intros);rw [e];refine⟨_,by first|rfl|(simp;rfl),rfl,?_⟩;apply bf.bS
   (·exact sA)
   exact fP
   (·first|exact pP|exact kP)
   all_goals(first|exact 0|exact undef)
 have kO:=CD eS bz a v hC.bz ha hC.eA hC.cL;rw [h] at kO;have gT:(fM bz a v).2=bz:=by
  revert h;unfold fM;split;simp;split<;>simp
 rw [gT] at kO;revert hq hS hw;(repeat first|clear hq|clear hS|clear hw|revert hc|revert R|revert K);refine Wp (J2 (Tg.mk (n:=20) (js b ⟨cf,aj,aF,aC,value,b7,am,reads,an,ay,set,bz,aB,ao,aP,aL,au,.bF⟩ 0 3 .bF hC.cf hC.al hC.push (Zw hC.nC (by decide)))) @kO) (J1 bE) ?_<;>(unhygienic intros);rw [e];exact⟨_,by first|rfl|(simp;rfl),rfl,ah.bS hS (.s .z (.s .z .z))⟩
theorem gL.to {s s':aJ} (hC:gL s) (h1:s'.cf=s.cf) (h2:s'.aj=s.aj) (h3:s'.bz=s.bz) (h4:s'.an=s.an) (h5:s'.au=s.au) (h6:s'.set=s.set) (h7:s'.reads=s.reads) (h8:s'.ay=s.ay):gL s':=by
 (unhygienic cases s);obtain⟨cf',UW,XV,oT,XP,ent',TT,X7,Wv,frees',set',log',clock',Yf,lock',turn',U9,doing'⟩:=s';dsimp only at h1 h2 h3 h4 h5 h6 h7 h8;subst h1 h2 h3 h4 h5 h6 h7 h8;exact⟨hC.cf,hC.Mb,hC.bz,hC.eA,hC.cL,hC.HN,hC.Rt,hC.nC,hC.push,hC.set,hC.kL,hC.Dj⟩
theorem Ks (p:pw) (M:Mm):(gg p M).2.1.eE=p.eE:=by
 rcases Hr p M with ⟨h,e⟩|⟨h,e⟩|⟨h,e⟩|⟨w,h,e⟩|⟨w,h,e⟩|⟨h,e⟩<;>rw [e]
end
section
abbrev OV:List (Nat×Nat):=[(0,0),(1,0),(2,0),(3,0),(4,0),(5,0),(6,0),(7,0),(8,0),(9,0),(10,0),(11,2),(12,2),(13,0),(14,0),(15,3),(16,0),(17,0),(18,0),(19,3)]
abbrev Av:List (Nat×Nat):=[(0,0),(1,0),(2,0),(3,0),(4,0),(5,0),(6,0),(7,0),(8,0),(9,0),(10,3),(11,0),(12,0),(13,3),(14,0),(15,0),(16,0),(17,3)]
open T12 T13
variable [Gl]
theorem uB (b:Nat) (s:aJ) (bW:Int) (d:bD) (hl:s.ao.length<2^20) (Tb:s.ao.length=0\/∃l,s.aP=some l/\s.ao.length=l.dT.length) :
 bn qa 191 [pv b] [.h (jj b s bW d)] (λ_=>True) (λ_=>[.h (bf b (fJ s))]):=by
 (unhygienic cases s);dsimp only at hl Tb;by_cases h0:ao.length=0
 . have e:fJ ⟨cf,aj,aF,aC,value,b7,am,reads,an,ay,set,bz,aB,ao,aP,aL,au,aH⟩=⟨cf,aj,aF,aC,value,b7,am,reads,an,ay,set,bz,aB,ao,aP,aL,au,.ey⟩:=aA h0;intro A F hw hS;refine aN Tryz.func191 λ_=>?_;obtain⟨x0,hS⟩:=jj.open hS .z;(unhygienic cases x0);dsimp only [cr,aa,af] at hS;have hq:=eV hS hw;obtain⟨oo,co,rfl,_⟩:=(ah.tE hS (.s (.s (.s (.s (.s (.s (.s (.s (.s .z)))))))))).cy;have h1:(ao.length:Int)=0:=(by omega);revert hq hS hw;clear hS;refine Wp (J1 (od OV)) (J2 h1 bE) ?_<;>(unhygienic intros);rw [e];refine⟨_,by first|rfl|(simp;rfl),trivial,?_⟩;apply bf.bS
   (·exact sA)
   exact fP
   (·first|exact pP|exact kP)
   all_goals(first|exact 0|exact undef)
 obtain⟨l,rfl,xC⟩:∃l,aP=some l/\ao.length=l.dT.length:=by
  rcases Tb with h|h;exact absurd h h0;exact h
 have e:fJ ⟨cf,aj,aF,aC,value,b7,am,reads,an,ay,set,bz,aB,ao,some l,aL,au,aH⟩=⟨cf,aj,aF,aC,value,b7,am,reads,an,ay,set,bz,aB,ao,some l,aL,au,.bH ⟨ao,l.dT⟩⟩:=aw h0;intro A F hw hS;refine aN Tryz.func191 λ_=>?_;obtain⟨x0,hS⟩:=jj.open hS .z;(unhygienic cases x0);dsimp only [cr,aa,af] at hS;have hq:=eV hS hw;have hS:=vu.op hS (.s (.s .z));obtain⟨oo,co,rfl,_⟩:=(ah.tE hS (.s (.s (.s (.s (.s (.s (.s (.s (.s .z)))))))))).cy;dsimp only [jK] at hq;have h1:¬(ao.length:Int)=0:=by omega
 have h2:¬ao=[]:=λh=>by rw [h] at h0;exact h0 rfl
 revert hq hS hw;(repeat first|clear hq|clear hS|clear hw|revert hc|revert R|revert K);refine Wp (J3 (Tg.mk (n:=11) @KT) (Tg.mk (n:=12) @wz) (od OV)) (J3 h1 h2 bE) ?_<;>(unhygienic intros);rw [e];refine⟨_,by first|rfl|(simp;rfl),trivial,?_⟩;apply bf.bS
 (·exact sA)
 exact fP
 (·first|exact pP|exact kP)
 all_goals(first|exact 0|exact undef)
theorem Gg (l:List Int):(eT l).length<=l.length:=by
 have:=wW (sz l)
 simpa [eT,sz] using this
theorem QS (s:aJ) (aC:Int):((decide (aC=1) && decide (0<s.bz.bL.length))=false/\nz s aC={ s with aC:=aC,aL:=some ⟨false,0,false⟩,aH:=.cU }) \/
 ((decide (aC=1) && decide (0<s.bz.bL.length))=true/\nz s aC={ s with aC:=aC,ao:=eT (s.bz.bL.map (gw s.cf)),aP:=some ⟨s.aj,eT (eT (s.bz.bL.map (gw s.cf))),[],0,false⟩,aH:=.eh }):=by
 unfold nz;cases h:(decide (aC=1) && decide (0<s.bz.bL.length))<;>simp
theorem wU (b:Nat) (s:aJ) (oT:Int) (hd:s.aH=.bF) (hC:gL s) :
 bn qa 138 [pv b,.int .i64 oT] [.h (bf b s)] (λ_=>True) (λ_=>[.h (bf b (nz s oT))]):=by
 have hcs:=QS s oT;(unhygienic cases s);dsimp only at hd;subst hd;intro A F hw hS;refine aN Tryz.func138 λ_=>?_;obtain⟨x0,hS⟩:=bf.open hS .z;(unhygienic cases x0);dsimp only [cr,iJ,cZ,eH,bD.fY,aa,af] at hS;have hq:=eV hS hw;dsimp only at hcs;have bX:=hC.len;dsimp only at bX
 have dy:∀A',A'.Wf->ah A' [.h (jj b ⟨cf,aj,aF,oT,value,b7,am,reads,an,ay,set,bz,aB,ao,aP,aL,au,.bF⟩ 0 .bF)]->fh 192 [pv b] A' (.bool (decide (oT=1) && decide (0<bz.bL.length))):=
  λA' h1 h2=>ld b _ 0 .bF A' h1 h2
 rcases hcs with ⟨h,e⟩|⟨h,e⟩
 . rw [h] at dy;rw [e];revert hq hS hw;clear hS;refine Wp (J3 (Tg.mk (n:=30) @dy) (od Av) @nf) (J1 bE) ?_<;>(unhygienic intros);refine⟨_,by first|rfl|(simp;rfl),trivial,?_⟩;apply bf.bS
   (·exact sA)
   exact fP
   (·first|exact pP|exact kP)
   all_goals(first|exact 0|exact undef)
 rw [h] at dy;rw [e];revert hq hS hw;(repeat first|clear hq|clear hS|clear hw|revert hc|revert R|revert K);refine Wp (J2 (Tg.mk (n:=30) @dy) (od Av)) (J1 bE) ?_<;>(unhygienic intros);apply uT (n:=eS) (s:=bz)
 (·exact wA)
 (·exact sA)
 (·first|exact pP|exact kP)
 omega;intro o1 c3 A1 hS hw _;have hS:ah A1 (.h (av .i64 (.slice o1 bz.bL.length c3) bz.bL)::(cr b ⟨cf,aj,aF,oT,value,b7,am,reads,an,ay,set,bz,aB,ao,aP,aL,au,.bF⟩ 0 .bF ⟨eu,eS,bM,de,db,m,c0,c1,c2,dk,bx,bU,b5,eB,dl,fl,b6,bZ,bj,dm,dw,gQ,eC⟩++[.h F])):=by
  apply ah.bS hS;dsimp only [cr,vM,iJ,cZ,eH,bD.fY,rE,mt,rZ,yR,my,mo,jc,rF,ru,yG,rx,aa,af]
  (·first|exact pP|exact kP)
 have nT:=xn cf hC.cf;dsimp only [br.v] at nT;generalize hn:bz.bL=ad at *;revert hq hS hw;(repeat first|clear hq|clear hS|clear hw|revert hc|revert R|revert K);refine Wp (J1 (od Av)) (J1 bE) ?_<;>(unhygienic intros)
 refine ef (λk fr A'=>A'.Wf/\∃(i:Nat) (v:Value) (q:List Int),q=(ad.take i).map (gw cf)/\k=ad.length-i/\i<=ad.length/\fr 0=pv b/\fr 4=v/\fr 27=.slice o1 ad.length c3/\fr 28=.int .i64 ad.length/\fr 29=.int .i64 i/\
  ah A' (.h (av .i64 v q)::.h (av .i64 (.slice o1 ad.length c3) ad)::(cr b ⟨cf,aj,aF,oT,value,b7,am,reads,an,ay,set,bz,aB,ao,aP,aL,au,.bF⟩ 0 .bF ⟨eu,eS,bM,de,db,m,c0,c1,c2,dk,bx,bU,b5,eB,dl,fl,b6,bZ,bj,dm,dw,gQ,eC⟩++[.h F]))) ad.length ?_ ?_
 refine⟨hw,0,.slice none 0 0,[],by simp,by simp,by simp,by simp,by simp,by simp,by simp,by simp,?_⟩
 simpa using ah.wy .i64 hS
 rintro k fr A' ⟨hw,i,v,q,Me,rfl,hi,h0,h4,UF,h28,h29,hS⟩;have hI:=ah.tE hS (.s .z);have Xq:=ah.tE hS .z;have hql:q.length=i:=by rw [Me];simp;omega
 obtain⟨ov,cv,rfl,_⟩:=Xq.cy;dsimp only [cr,vM,iJ,cZ,eH,bD.fY,rE,mt,rZ,yR,my,mo,jc,rF,ru,yG,rx,aa,af] at hS;have hq:=O6 hS hw;refine ba ?_;by_cases cD:i<ad.length
 . have iC:(i:Int)<ad.length:=(by omega);have gS:=By (i:=i);obtain⟨p,b8,rfl,bV,hcell⟩:=hI.at cD;revert hq hS hw;(repeat first|clear hq|clear hS|clear hw|revert hc|revert R|revert K);refine Wu (J2 (od Av) @nT) (JD h0 h4 UF h28 h29 bV hcell cD iC gS bE) ?_<;>(unhygienic intros);refine⟨ad.length-(i+1),by omega,hw,i+1,_,q++[gw cf ad[i]],?_,rfl,by omega,by simp [h0],by simp;rfl,by simp [UF],by simp [h28],by simp,?_⟩;rw [Me,List.take_succ_eq_append_getElem cD,List.map_append];rfl;apply ah.bS hS;dsimp only [cr,vM,iJ,cZ,eH,bD.fY,rE,mt,rZ,yR,my,mo,jc,rF,ru,yG,rx,aa,af]
   (·first|exact pP|exact kP)
 have IV:i=ad.length:=by omega
 subst IV;rw [List.take_length] at Me;have JL:(eT q).length<=q.length:=Gg q;revert hq hS hw;(repeat first|clear hq|clear hS|clear hw|revert hc|revert R|revert K);refine Wp (J3 (Tg.mk (n:=11) @MB) (Tg.mk (n:=11) @KK) (od Av)) (J6 h0 h4 UF h28 h29 bE) ?_<;>(unhygienic intros);rw [<-Me];refine⟨_,by first|rfl|(simp;rfl),trivial,?_⟩;apply bf.bS
 (·exact sA)
 exact fP
 (·first|exact pP|exact kP)
 all_goals(first|exact 0|exact undef)
end
section
abbrev Au:List (Nat×Nat):=[(0,0),(1,0),(2,0),(3,0),(4,0),(5,0),(6,0),(7,0),(8,0),(9,0),(10,0),(11,0),(12,0)]
open T12 T13
variable [Gl]
theorem AB (s:tA) (a v:Int):(fM s a v).2.eA=s.eA/\(fM s a v).2.index.length=s.index.length/\(∀x∈(fM s a v).2.bL,x∈s.bL\/x=a):=by
 unfold fM;split;exact⟨rfl,rfl,λx hx=>.inl hx⟩;split;exact⟨rfl,rfl,λx hx=>.inl hx⟩;exact⟨rfl,by simp,λx hx=>by simpa using hx⟩
theorem gL.put {s:aJ} (hC:gL s) {a:Int} (ha:0<=a/\a<2^40) (v:Int):gL { s with bz:=(fM s.bz a v).2 }:=by
 obtain⟨h1,h2,h3⟩:=AB s.bz a v;refine⟨hC.cf,hC.Mb,Hx hC.bz ha.1 v,?_,?_,?_,hC.Rt,hC.nC,hC.push,hC.set,hC.kL,hC.Dj⟩;show (fM s.bz a v).2.eA<=32;rw [h1];exact hC.eA;show (fM s.bz a v).2.index.length<=64;rw [h2];exact hC.cL;intro x hx;rcases h3 x hx with h|rfl;exact hC.HN x h;exact ha.2
theorem Ly (s:aJ) (b st:Int):(¬st=qd.wrap (qd.wrap (dU s.cf b)+1)/\jr s b st=nz s 8) \/
 ((st=qd.wrap (qd.wrap (dU s.cf b)+1)/\s.cf.ay<=s.ay.length)/\jr s b st=jQ s 3) \/
 (((st=qd.wrap (qd.wrap (dU s.cf b)+1)/\¬s.cf.ay<=s.ay.length)/\(fM s.bz (s.cf.be+b) 0).1=true)/\jr s b st={ s with bz:=(fM s.bz (s.cf.be+b) 0).2,ay:=s.ay++[b] }) \/
 (((st=qd.wrap (qd.wrap (dU s.cf b)+1)/\¬s.cf.ay<=s.ay.length)/\(fM s.bz (s.cf.be+b) 0).1=false)/\jr s b st=jQ s 3):=by
 unfold jr;by_cases h1:st=qd.wrap (qd.wrap (dU s.cf b)+1);by_cases h2:s.cf.ay<=s.ay.length;simp [h1,h2];cases h3:(fM s.bz (s.cf.be+b) 0).1<;>simp [h1,h2,jp,h3];simp [h1]
theorem E5 (b:Nat) (s:aJ) (k st:Int) (hd:s.aH=.bF) (hC:gL s) (hk:0<=k/\k<s.cf.nb) :
 bn qa 222 [pv b,.int .i64 k,.int .u64 st] [.h (bf b s)] (λ_=>True) (λ_=>[.h (bf b (jr s k st))]):=by
 have hcs:=Ly s k st;have kO:=xm s (s.cf.be+k) 0;(unhygienic cases s);dsimp only at hd;subst hd;intro A F hw hS;refine aN Tryz.func222 λ_=>?_;obtain⟨x0,hS⟩:=bf.open hS .z;(unhygienic cases x0);dsimp only [cr,iJ,cZ,eH,bD.fY,aa,af] at hS;have hq:=eV hS hw;dsimp only at hcs hk kO;have UC:=hC.Dj;dsimp only at UC;have GK:=hC.cf.nb;have UA:=hC.cf.be;dsimp only at GK UA;have kJ:=u4 cf hC.cf k (by omega);dsimp only [br.v] at kJ;obtain⟨ofr,cfr,rfl,_⟩:=(ah.tE hS (.s (.s (.s (.s (.s (.s (.s (.s .z))))))))).cy;have SR:qg.wrap (cf.be+k)=cf.be+k:=ar (by omega) (by omega);rcases hcs with ⟨h,e⟩|⟨h,e⟩|⟨h,e⟩|⟨h,e⟩;rw [e];revert hq hS hw;clear hS;refine Wp (J3 (Tg.mk (n:=21) (wU b ⟨cf,aj,aF,aC,value,b7,am,reads,an,ay,set,bz,aB,ao,aP,aL,au,.bF⟩ 8 rfl hC)) (od Au) @kJ) (J2 h bE) ?_<;>(unhygienic intros);exact⟨_,by first|rfl|(simp;rfl),trivial,ah.bS hS (.s .z (.s .z .z))⟩
 . rw [e];revert hq hS hw;(repeat first|clear hq|clear hS|clear hw|revert hc|revert R|revert K);refine Wp (J3 (Tg.mk (n:=20) (js b ⟨cf,aj,aF,aC,value,b7,am,reads,an,ay,set,bz,aB,ao,aP,aL,au,.bF⟩ 0 3 .bF hC.cf hC.al hC.push (Zw hC.nC (by decide)))) (od Au) @kJ) (J2 h bE) ?_<;>(unhygienic intros);exact⟨_,by first|rfl|(simp;rfl),trivial,ah.bS hS (.s .z (.s .z .z))⟩
 . rw [e];have Qt:=ww b ⟨cf,aj,aF,aC,value,b7,am,reads,an,ay,set,bz,aB,ao,aP,aL,au,.bF⟩ (cf.be+k) 0 rfl hC (by omega);rcases kO with ⟨h9,e9⟩|⟨h9,e9⟩
   . rw [e9] at Qt
     repeat' (first|(with_reducible apply lwI;(·first|(simp;done)|(simp;rfl));(·first|(simp;done)|(simp;rfl));(·exact wA);(·exact sA);(·first|exact pP|exact kP);(·first|(simp;done)|(simp;rfl)|(simp [hq];done)|(simp [hq];rfl));(·first|omega|(simp;omega));(·intro _ _;trivial);rintro _ _ _ hS hw _;(try dsimp only [AW.bd] at hS);have hq:=HA hS hw)|(refine kY λR hR=>?_;simp [ar,ax,hq,h,SR,AW.ab,aG];try simp (disch:=omega) only [aA,aw,ar,ax])|(refine hR _ _ ?_;clear hR R)|(refine hK _ _ ?_;clear hK K)|refine nx ?_|refine wn λK hK=>?_|simp only [wS,Au]|refine wl Tryz.mx Au (by decide +kernel) λK hK=>?_|(refine bO (kJ _) ?_;rintro _ _ ⟨rfl,rfl⟩ _ _)|(apply bn.RH (Qt);(·exact wA);(·exact sA);(·exact fP);(·first|exact pP|exact kP);(rintro _ _ rfl hS hw _;have hS:=lA hS;(obtain ⟨x0,hS⟩:=bf.open hS .z;(unhygienic cases x0);dsimp only [cr,iJ,cZ,eH,bD.fY,aa,af] at hS;have hq:=eV hS hw));all_goals(try (first|exact 0|exact undef)))|(show c8 _ _ _ _ _ _;refine nx ?_)|(refine wc rfl (λhc=>?_) (λhc=>?_)<;>(try simp at hc)<;>(try omega)<;>(try (simp [h2] at hc;done))<;>(try (simp [h3] at hc;done))<;>(try (simp [h4] at hc;done)))|(refine ib (λhc=>?_) (λhc=>?_)<;>(try omega)<;>(try simp (disch:=omega) only [aA,aw])))
     refine⟨_,by first|rfl|(simp;rfl),trivial,?_⟩;apply bf.bS
     (·exact sA)
     exact fP
     (·first|exact pP|exact kP)
     all_goals(first|exact 0|exact undef)
   rw [h.2] at h9;cases h9
 rw [e];have Qt:=ww b ⟨cf,aj,aF,aC,value,b7,am,reads,an,ay,set,bz,aB,ao,aP,aL,au,.bF⟩ (cf.be+k) 0 rfl hC (by omega);rcases kO with ⟨h9,e9⟩|⟨h9,e9⟩;rw [h.2] at h9;cases h9;rw [e9] at Qt;revert hq hS hw;(repeat first|clear hq|clear hS|clear hw|revert hc|revert R|revert K);refine Wp (J3 (Tg.mk (n:=21) @Qt) (od Au) @kJ) (J3 h SR bE) ?_<;>(unhygienic intros);exact⟨_,by first|rfl|(simp;rfl),trivial,ah.bS hS (.s .z (.s .z .z))⟩
end
section
open T12 T13
variable [Gl]
def Rb (b:Nat) (s:aJ) (bW:Int) (p:pw):HP:=rO λf:sx=>aM (cr b s bW (.eO p) f++[.at f.m (nL p)])
theorem Rb.open {A:AW} {L K:List It} {b:Nat} {s:aJ} {bW:Int} {p:pw} (h:ah A L) (hp:aE L (.h (Rb b s bW p)) K):∃f,ah A (cr b s bW (.eO p) f++[.at f.m (nL p)]++K):=jV h hp
theorem bn.useX {P:Program} {f:FuncId} {args:List Value} {rl:List It} {φ:Value->Prop} {post:Value->List It} {b:Nat} {s:aJ} {bW:Int} {p:pw} (hc:bn P f args (.h (Rb b s bW p)::rl) φ post) {A:AW} {L K:List It} {eu eS bM de db m c0 c1 c2:Nat} {dk bx bU b5 eB dl fl b6 bZ bj dm dw gQ eC:Value} {K0:List It} {k:Value->AW->Prop} (hw:A.Wf) (hS:ah A L)
 (e:aX L (cr b s bW (.eO p) ⟨eu,eS,bM,de,db,m,c0,c1,c2,dk,bx,bU,b5,eB,dl,fl,b6,bZ,bj,dm,dw,gQ,eC⟩++[.at m (nL p)]) K0) (e2:aX K0 rl K) (hk:∀v A',φ v->ah A' (post v++K)->A'.Wf->A.next<=A'.next->k v A'):aD P f args A k:=
 bn.ft hc hw (iM (g:=λf:sx=>cr b s bW (.eO p) f++[.at f.m (nL p)]) ⟨eu,eS,bM,de,db,m,c0,c1,c2,dk,bx,bU,b5,eB,dl,fl,b6,bZ,bj,dm,dw,gQ,eC⟩ hS e) (.s .z e2) hk
theorem JR (n:Nat) (a:Int) (s:aJ):gs (n+1) a s=if (jp s a 0).1=true then gs n (a+1) (jp s a 0).2 else (false,(jp s a 0).2):=rfl
theorem JQ (a:Int) (s:aJ):gs 0 a s=(true,s):=rfl
theorem FF (b:Nat) (s:aJ) (p:pw) (hC:gL { s with aH:=.bF }) (pY:s.an.length<8) (hp:p.block<s.cf.nb) (kJ:0<=p.eE/\p.eE<=3) :
 bn qa 218 [pv b,.int .i64 p.eE] [.h (Rb b { s with aH:=.bF } 0 p)] (λ_=>True) (λ_=>[.h (bf b (fx { s with aH:=.bF } p.eE p.block))]):=by
 (unhygienic cases s);obtain⟨eE,pat,WQ,WP,i9⟩:=p;dsimp only at hC pY hp kJ ⊢;intro A F hw hS;refine aN Tryz.func218 λ_=>?_;obtain⟨⟨eu,eS,bM,de,db,m,c0,c1,c2,dk,bx,bU,b5,eB,dl,fl,b6,bZ,bj,dm,dw,gQ,eC⟩,hS⟩:=Rb.open hS .z;dsimp only [cr,iJ,cZ,eH,bD.fY,aa,af] at hS;have hq:=eV hS hw;have GK:=hC.cf.nb;have UA:=hC.cf.be;dsimp only at GK UA;have GI:=Gs m ⟨eE,pat,WQ,WP,i9⟩;by_cases h:i9<0
 . have e:fx ⟨cf,aj,aF,aC,value,b7,am,reads,an,ay,set,bz,aB,ao,aP,aL,au,.bF⟩ eE i9=jQ ⟨cf,aj,aF,aC,value,b7,am,reads,an,ay,set,bz,aB,ao,aP,aL,au,.bF⟩ 4:=aA h;rw [e]
   repeat' (first|(refine kY λR hR=>?_;simp [ar,ax,hq,h,AW.ab,aG];try simp (disch:=omega) only [aA,aw,ar,ax])|(refine hR _ _ ?_;clear hR R)|(refine hK _ _ ?_;clear hK K)|refine nx ?_|refine wn λK hK=>?_|simp only [wS]|(refine bO (GI _ (by simp [hq])) ?_;rintro _ _ ⟨rfl,rfl⟩ _ _)|(apply bn.ki (js b ⟨cf,aj,aF,aC,value,b7,am,reads,an,ay,set,bz,aB,ao,aP,aL,au,.bF⟩ 0 4 (.eO ⟨eE,pat,WQ,WP,i9⟩) hC.cf hC.al hC.push (Zw hC.nC (by decide)));(·exact wA);(·exact sA);(·exact fP);(·first|exact pP|exact kP);(rintro _ _ _ hS hw _;have hS:=lA hS);(try (have hq:=HA hS hw));all_goals(try (first|exact 0|exact undef)))|(show c8 _ _ _ _ _ _;refine nx ?_)|(refine wc rfl (λhc=>?_) (λhc=>?_)<;>(try simp at hc)<;>(try omega)<;>(try (simp [h2] at hc;done))<;>(try (simp [h3] at hc;done))<;>(try (simp [h4] at hc;done)))|(refine ib (λhc=>?_) (λhc=>?_)<;>(try omega)<;>(try simp (disch:=omega) only [aA,aw])))
   refine⟨_,by first|rfl|(simp;rfl),trivial,?_⟩;apply ah.bS hS
   (·first|exact pP|exact kP)
 have SR:qg.wrap (cf.be+i9)=cf.be+i9:=ar (by omega) (by omega);have YA:qd.wrap (qd.wrap eE+1)=eE+1:=by
  rw [ax (x:=eE) (by omega) (by omega),ax (by omega) (by omega)]
 have hC1:gL ⟨cf,aj,aF,aC,value,b7,am,reads,an++[i9],ay,set,bz,aB,ao,aP,aL,au,.bF⟩:=by
  refine⟨hC.cf,hC.Mb,hC.bz,hC.eA,hC.cL,hC.HN,?_,?_,?_,hC.set,hC.kL,hC.Dj⟩;intro x hx;rcases List.mem_append.1 hx with h1|h1;exact hC.Rt x h1;simp at h1;subst h1;omega;show (an++[i9]).length<=8;simp;omega;show au<=(an++[i9]).length;have:=hC.push;dsimp only at this;simp;omega
 have Qt:=ww b ⟨cf,aj,aF,aC,value,b7,am,reads,an++[i9],ay,set,bz,aB,ao,aP,aL,au,.bF⟩ (cf.be+i9) (eE+1) rfl hC1 (by omega)
 have e:fx ⟨cf,aj,aF,aC,value,b7,am,reads,an,ay,set,bz,aB,ao,aP,aL,au,.bF⟩ eE i9 =
  if (jp ⟨cf,aj,aF,aC,value,b7,am,reads,an++[i9],ay,set,bz,aB,ao,aP,aL,au,.bF⟩ (cf.be+i9) (eE+1)).1=true then
   if (gs (2 ^ eE.toNat) (iE cf i9) (jp ⟨cf,aj,aF,aC,value,b7,am,reads,an++[i9],ay,set,bz,aB,ao,aP,aL,au,.bF⟩ (cf.be+i9) (eE+1)).2).1=true then { (gs (2 ^ eE.toNat) (iE cf i9) (jp ⟨cf,aj,aF,aC,value,b7,am,reads,an++[i9],ay,set,bz,aB,ao,aP,aL,au,.bF⟩ (cf.be+i9) (eE+1)).2).2 with value:=qd.wrap (iE cf i9) }
   else (gs (2 ^ eE.toNat) (iE cf i9) (jp ⟨cf,aj,aF,aC,value,b7,am,reads,an++[i9],ay,set,bz,aB,ao,aP,aL,au,.bF⟩ (cf.be+i9) (eE+1)).2).2
  else (jp ⟨cf,aj,aF,aC,value,b7,am,reads,an++[i9],ay,set,bz,aB,ao,aP,aL,au,.bF⟩ (cf.be+i9) (eE+1)).2:=aw h
 rcases xm ⟨cf,aj,aF,aC,value,b7,am,reads,an++[i9],ay,set,bz,aB,ao,aP,aL,au,.bF⟩ (cf.be+i9) (eE+1) with ⟨h9,e9⟩|⟨h9,e9⟩
 . have hC2:=hC1.put (a:=cf.be+i9) (by omega) (eE+1);rw [e9] at Qt e;rw [aA rfl] at e;rw [e];dsimp only at Qt hC2 ⊢;have VN:=E8 cf hC.cf i9 (by omega);dsimp only [br.v] at VN;have CI:¬eE<0:=(by omega);obtain⟨n,hn⟩:∃n,2 ^ eE.toNat=n:=⟨_,rfl⟩;have hn8:n<=8:=by
    have h4:eE=0\/eE=1\/eE=2\/eE=3:=(by omega);rcases h4 with rfl|rfl|rfl|rfl<;>(rw [<-hn];decide)
   have hsh:pu .shl .i64 1 eE=some (.int .i64 (n:Int)):=by
    have h4:eE=0\/eE=1\/eE=2\/eE=3:=(by omega);rw [<-hn];rcases h4 with rfl|rfl|rfl|rfl<;>rfl
   obtain⟨_,VO,hf1⟩:=AD hC.cf i9 (by dsimp only;omega);dsimp only at VO hf1;have IW:iE cf i9<=64:=by
    have h5:(0:Int)<2 ^ (dU cf i9).toNat:=Int.pow_pos (by omega);omega
   rw [hn];generalize iE cf i9=fst at *
   repeat' (first|(with_reducible apply lwI;(·first|(simp;done)|(simp;rfl));(·first|(simp;done)|(simp;rfl));(·exact wA);(·exact sA);(·first|exact pP|exact kP);(·first|(simp;done)|(simp;rfl)|(simp [hq];done)|(simp [hq];rfl));(·first|omega|(simp;omega));(·intro _ _;trivial);rintro _ _ _ hS hw _;(try dsimp only [AW.bd] at hS);have hq:=HA hS hw)|(refine kY λR hR=>?_;simp [ar,ax,hq,h,SR,YA,hsh,AW.ab,aG];try simp (disch:=omega) only [aA,aw,ar,ax])|(refine hR _ _ ?_;clear hR R)|(refine hK _ _ ?_;clear hK K)|refine nx ?_|refine wn λK hK=>?_|simp only [wS]|(refine bO (GI _ (by simp [hq])) ?_;rintro _ _ ⟨rfl,rfl⟩ _ _)|(refine bO (VN _) ?_;rintro _ _ ⟨rfl,rfl⟩ _ _)|(apply bn.RH (Qt);(·exact wA);(·exact sA);(·exact fP);(·first|exact pP|exact kP);(rintro _ _ rfl hS hw _;have hS:=lA hS;(obtain ⟨x0,hS⟩:=bf.open hS .z;(unhygienic cases x0);dsimp only [cr,iJ,cZ,eH,bD.fY,aa,af] at hS;have hq:=eV hS hw));all_goals(try (first|exact 0|exact undef)))|(show c8 _ _ _ _ _ _;refine nx ?_)|(refine wc rfl (λhc=>?_) (λhc=>?_)<;>(try simp at hc)<;>(try omega)<;>(try (simp [h2] at hc;done))<;>(try (simp [h3] at hc;done))<;>(try (simp [h4] at hc;done)))|(refine ib (λhc=>?_) (λhc=>?_)<;>(try omega)<;>(try simp (disch:=omega) only [aA,aw])))
   refine ef (λkk fr A'=>A'.Wf/\∃(i:Nat) (si:aJ),kk=n-i/\i<=n/\fr 0=pv b/\fr 5=.int .i64 fst/\fr 49=.int .i64 n/\fr 50=.int .i64 i/\si.aH=.bF/\gL si/\
    gs n fst ⟨cf,aj,aF,aC,value,b7,am,reads,an++[i9],ay,set,(fM bz (cf.be+i9) (eE+1)).2,aB,ao,aP,aL,au,.bF⟩=gs (n-i) (fst+i) si/\ah A' [.h (bf b si),.h F]) n ?_ ?_
   . refine⟨hw,0,⟨cf,aj,aF,aC,value,b7,am,reads,an++[i9],ay,set,(fM bz (cf.be+i9) (eE+1)).2,aB,ao,aP,aL,au,.bF⟩,by simp,by simp,by simp,by simp,by simp,by simp,rfl,hC2,by simp,?_⟩;apply bf.bS
     (·exact sA)
     exact fP
     (·first|exact pP|exact kP)
     all_goals(first|exact 0|exact undef)
   clear hS hq;rintro kk fr A' ⟨hw,i,si,rfl,hi,h0,h5,Xu,h50,hsd,hCs,hz,hS⟩;refine ba ?_;by_cases cD:i<n
   . have iC:(i:Int)<n:=(by omega);have gS:=By (i:=i);have Yz:qg.wrap (fst+(i:Int))=fst+(i:Int):=ar (by omega) (by omega);have Pa:n-i=(n-(i+1))+1:=(by omega);have VC:=ww b si (fst+i) 0 hsd hCs (by omega);rw [Pa,JR] at hz;rcases xm si (fst+i) 0 with ⟨g9,f9⟩|⟨g9,f9⟩
     . rw [f9] at VC hz;rw [aA rfl] at hz;revert hq hS hw;(repeat first|clear hq|clear hS|clear hw|revert hc|revert R|revert K);refine Wp (J1 @VC) (J8 h0 h5 Xu h50 iC gS Yz bE) ?_<;>(unhygienic intros);refine⟨n-(i+1),by omega,hw,i+1,{ si with bz:=(fM si.bz (fst+i) 0).2 },rfl,by omega,by simp [h0],by simp [h5],by simp [Xu],by simp,hsd,hCs.put (by omega) 0,?_,hS⟩;rw [hz];have:fst+(i:Int)+1=fst+((i+1:Nat):Int):=by omega
       rw [this]
     rw [f9] at VC hz;rw [aw (by simp)] at hz;revert hq hS hw;(repeat first|clear hq|clear hS|clear hw|revert hc|revert R|revert K);refine Wp (J1 @VC) (J8 h0 h5 Xu h50 iC gS Yz bE) ?_<;>(unhygienic intros);refine⟨_,by first|rfl|(simp;rfl),trivial,?_⟩;rw [hz,aw (by simp)];exact hS
   have IV:i=n:=(by omega);subst IV;rw [Nat.sub_self,JQ] at hz;obtain⟨cf,aj,aF,aC,value,b7,am,reads,an,ay,set,bz,aB,ao,aP,aL,au,aH⟩:=si;dsimp only at hsd;subst hsd;obtain⟨x0,hS⟩:=bf.open hS .z;(unhygienic cases x0);dsimp only [cr,iJ,cZ,eH,bD.fY,aa,af] at hS;have hq:=eV hS hw;revert hq hS hw;(repeat first|clear hq|clear hS|clear hw|revert hc|revert R|revert K);refine Wp cF (J5 h0 h5 Xu h50 bE) ?_<;>(unhygienic intros);refine⟨_,by first|rfl|(simp;rfl),trivial,?_⟩;rw [hz,aA rfl,show qd.wrap fst=fst from ax (by omega) (by omega)];apply bf.bS
   (·exact sA)
   exact fP
   (·first|exact pP|exact kP)
   all_goals(first|exact 0|exact undef)
 rw [e9] at Qt e;rw [aw (by simp)] at e;rw [e];dsimp only at Qt ⊢
 repeat' (first|(with_reducible apply lwI;(·first|(simp;done)|(simp;rfl));(·first|(simp;done)|(simp;rfl));(·exact wA);(·exact sA);(·first|exact pP|exact kP);(·first|(simp;done)|(simp;rfl)|(simp [hq];done)|(simp [hq];rfl));(·first|omega|(simp;omega));(·intro _ _;trivial);rintro _ _ _ hS hw _;(try dsimp only [AW.bd] at hS);have hq:=HA hS hw)|(refine kY λR hR=>?_;simp [ar,ax,hq,h,SR,YA,AW.ab,aG];try simp (disch:=omega) only [aA,aw,ar,ax])|(refine hR _ _ ?_;clear hR R)|(refine hK _ _ ?_;clear hK K)|refine nx ?_|refine wn λK hK=>?_|simp only [wS]|(refine bO (GI _ (by simp [hq])) ?_;rintro _ _ ⟨rfl,rfl⟩ _ _)|(apply bn.RH (Qt);(·exact wA);(·exact sA);(·exact fP);(·first|exact pP|exact kP);(rintro _ _ rfl hS hw _;have hS:=lA hS);(try (have hq:=HA hS hw));all_goals(try (first|exact 0|exact undef)))|(show c8 _ _ _ _ _ _;refine nx ?_)|(refine wc rfl (λhc=>?_) (λhc=>?_)<;>(try simp at hc)<;>(try omega)<;>(try (simp [h2] at hc;done))<;>(try (simp [h3] at hc;done))<;>(try (simp [h4] at hc;done)))|(refine ib (λhc=>?_) (λhc=>?_)<;>(try omega)<;>(try simp (disch:=omega) only [aA,aw])))
 refine⟨_,by first|rfl|(simp;rfl),trivial,?_⟩;apply ah.bS hS
 (·first|exact pP|exact kP)
end
section
open T12 T13
variable [Gl]
section
variable {A:AW} {L K:List It} {k:Value->AW->Prop} {b:Nat} {s:aJ} {bW:Int}
theorem ka {fn:Fn} {cs:Array Value} {eu eS bM de db m c0 c1 c2:Nat} {dk bx bU b5 eB dl fl b6 bZ bj dm dw gQ eC:Value} (hw:A.Wf) (hS:ah A L) (e:aX L (cr b s bW .bF ⟨eu,eS,bM,de,db,m,c0,c1,c2,dk,bx,bU,b5,eB,dl,fl,b6,bZ,bj,dm,dw,gQ,eC⟩) K)
 (hk:∀v A',ah A' (cr b s 1 .bF ⟨eu,eS,bM,de,db,m,c0,c1,c2,dk,bx,bU,b5,eB,dl,fl,b6,bZ,bj,dm,.func fn #[] cs,gQ,eC⟩++K)->A'.Wf->k v A'):aD qa 136 [pv b,.func fn #[] cs] A k:=by
 have key:bn qa 136 [pv b,.func fn #[] cs] (cr b s bW .bF ⟨eu,eS,bM,de,db,m,c0,c1,c2,dk,bx,bU,b5,eB,dl,fl,b6,bZ,bj,dm,dw,gQ,eC⟩) (λ_=>True) (λ_=>cr b s 1 .bF ⟨eu,eS,bM,de,db,m,c0,c1,c2,dk,bx,bU,b5,eB,dl,fl,b6,bZ,bj,dm,.func fn #[] cs,gQ,eC⟩):=by
  intro A F hw hS;refine aN Tryz.func136 λ_=>?_;dsimp only [cr,aa,af] at hS;have hq:=eV hS hw;revert hq hS hw;clear hS;clear hw;refine Wp cF (J1 bE) ?_<;>(unhygienic intros);refine⟨_,by first|rfl|(simp;rfl),trivial,?_⟩;apply ah.bS
  (·exact sA)
  (dsimp only [cr,vM,rE,mt,rZ,yR,my,mo,jc,rF,ru,yG,rx,aa,af])
  (·first|exact pP|exact kP)
 exact key.ft hw hS e λv A' _ h1 h2 _=>hk v A' h1 h2
theorem D7 {a:Int} {fn:Fn} {cs:Array Value} (hc:cX s.cf) {eu eS bM de db m c0 c1 c2:Nat} {dk bx bU b5 eB dl fl b6 bZ bj dm dw gQ eC:Value} (hw:A.Wf) (hS:ah A L) (e:aX L (cr b s bW .bF ⟨eu,eS,bM,de,db,m,c0,c1,c2,dk,bx,bU,b5,eB,dl,fl,b6,bZ,bj,dm,dw,gQ,eC⟩) K)
 (hk:∀v n A',ah A' (.at n (iS ⟨a,gw s.cf a,s.rv,0,0,0,false⟩)::(cr b s 3 .bF ⟨eu,eS,bM,de,db,m,c0,c1,c2,dk,bx,bU,b5,pv n,.int .i64 0,fl,b6,bZ,bj,dm,dw,.func fn #[] cs,.int .i64 a⟩++K))->A'.Wf->k v A') :
 aD qa 144 [pv b,.int .i64 a,.func fn #[] cs] A k:=by
 have key:bn qa 144 [pv b,.int .i64 a,.func fn #[] cs] (cr b s bW .bF ⟨eu,eS,bM,de,db,m,c0,c1,c2,dk,bx,bU,b5,eB,dl,fl,b6,bZ,bj,dm,dw,gQ,eC⟩) (λ_=>True)
  (λ_=>[.h (rO λn=>aM (.at n (iS ⟨a,gw s.cf a,s.rv,0,0,0,false⟩)::cr b s 3 .bF ⟨eu,eS,bM,de,db,m,c0,c1,c2,dk,bx,bU,b5,pv n,.int .i64 0,fl,b6,bZ,bj,dm,dw,.func fn #[] cs,.int .i64 a⟩))]):=by
  intro A F hw hS;refine aN Tryz.func144 λ_=>?_;dsimp only [cr,aa,af] at hS;have hq:=eV hS hw;have se:=xn s.cf hc a;dsimp only [br.v] at se;revert hq hS hw;(try revert hc);clear hS;clear hw;refine Wp (J3 (Tg.mk (n:=30) (λA' h1 h2=>tL b s 3 .bF A' h1 h2)) @se @IG) (J1 bE) ?_<;>(unhygienic intros);refine⟨_,by first|rfl|(simp;rfl),trivial,?_⟩;apply ah.bS (L:=.h (rO λn=>aM (.at n (iS ⟨a,gw s.cf a,s.rv,0,0,0,false⟩)::cr b s 3 .bF ⟨eu,eS,bM,de,db,m,c0,c1,c2,dk,bx,bU,b5,pv n,.int .i64 0,fl,b6,bZ,bj,dm,dw,.func fn #[] cs,.int .i64 a⟩))::[.h F]) ?_ (.s .z (.s .z .z));apply ah.bS;apply iM (g:=λn=>.at n (iS ⟨a,gw s.cf a,s.rv,0,0,0,false⟩)::cr b s 3 .bF ⟨eu,eS,bM,de,db,m,c0,c1,c2,dk,bx,bU,b5,pv n,.int .i64 0,fl,b6,bZ,bj,dm,dw,.func fn #[] cs,.int .i64 a⟩)
  (·exact sA)
  (dsimp only [cr,vM,rE,mt,rZ,yR,my,mo,jc,rF,ru,yG,rx,aa,af])
  (·first|exact pP|exact kP)
  (·first|exact pP|exact kP)
 refine key.ft hw hS e λv A' _ h1 h2 _=>?_;obtain⟨n,h3⟩:=jV h1 .z;exact hk v n A' h3 h2
end
end
end Go.Stx
