import Derived.Test.YtnnbecihffpedaaGreatDoorG06
set_option linter.all false
set_option maxRecDepth 20000
set_option maxHeartbeats 4000000
open List renaming length->U
open Go.IntKind renaming i64->Zb,u64->Zc
open Go.Proofs.Tryz renaming prog->qZ
open Nat renaming lt_of_le_of_lt->Z4
open Bool renaming false->qn,true->qj
open Go renaming FuncId->qN,Program->qp,Value->qi,undef->qE
open Go.IntKind renaming i64->qg,u64->qr
open Go.Stx.dt renaming cells->qm
open Go.Value renaming bool->qt,int->qh,pointer->qs,slice->ql
open Option renaming none->qk,some->qf
namespace Go.Stx
open Go Go.Proofs
attribute [local irreducible] TW bK df aW aE aL cY dm
section
open T10
variable [Gl]
def rEnterO (s:ig):dt:=qm [qh qg s.af,qh qg s.bR,qh qg s.yN] qj 1
def rTurnO (s:jk):dt:=qm [qh qg s.dZ,qt s.done] qj 1
def rPopO (s:sU):dt:=qm [qh qg s.fa,qh qg s.bR,qh qr s.head,qh qr s.next,qh qg s.block] qj 1
def rPushO (s:gy):dt:=qm [qh qg s.fa,qh qg s.block,qh qg s.bR,qh qr s.head] qj 1
def hY.rat (s:hY):Int:=if s.bR=3/\s.iO=qj then 4 else s.bR
def rReadO (s:hY):dt:=qm [qh qg s.cr,qh qg s.gz,qh qg s.rv,qh qg s.rat,qh qr s.dC,qh qr s.value] qj 1
end
section
variable [Gl]
abbrev pv (n:Nat):qi:=qs (qf ⟨n,0,qk⟩)
abbrev aM (v:qi):dt:=qm [v] qj 1
structure uV where
 fe:Nat
 fA:Nat
 bV:Nat
 dF:Nat
 dB:Nat
 m:Nat
 c0:Nat
 c1:Nat
 c2:Nat
 dL:Value
 bI:Value
 cx:Value
 cG:Value
 fh:Value
 dM:Value
 fY:Value
 cH:Value
 cF:Value
 br:Value
 dN:Value
 dQ:Value
 iG:Value
 fi:Value
def rC:Option ig->Nat->qi|none,_=>qs qk|some _,n=>pv n
def kN:Option iR->Nat->qi|none,_=>qs qk|some _,n=>pv n
def jy:Option jk->Nat->qi|none,_=>qs qk|some _,n=>pv n
def tZ:bM->uV->qi | .be _ _,f=>pv f.m|_,f=>f.fh
def ox:bM->uV->qi | .be r _,_=>qh qg r.bR|_,f=>f.dM
def uK:bM->uV->qi | .be r _,_=>qh qg r.cr|_,f=>f.fi
def Cl:bM->uV->qi | .eO _,f=>pv f.m|_,f=>f.fY
def oB:bM->uV->qi | .cK _,f=>pv f.m|_,f=>f.cH
def nY:bM->uV->qi | .dy _,f=>pv f.m|_,f=>f.cF
def jQ:bM->uV->qi | .bG _,f=>pv f.m|_,f=>f.br
def ud:bM->uV->qi | .eG _,f=>pv f.m|_,f=>f.dN
def tU:Fx->uV->qi
 | .sD,f=>.func (.func 134) #[] #[pv f.c0]
 | .RG,f=>.func (.func 228) #[] #[pv f.c0]
 | .bZ _,f=>.func (.func 131) #[] #[pv f.c0,pv f.c1]
 | .take _,f=>.func (.func 137) #[] #[pv f.c0,pv f.c1]
 | .mA _ _,f=>.func (.func 140) #[] #[pv f.c0,pv f.c1,pv f.c2]
 | .lp,f=>.func (.func 223) #[] #[pv f.c0]
 | .dz _ _,f=>.func (.func 229) #[] #[pv f.c0,pv f.c1,pv f.c2]
def tT:bM->uV->qi
 | .iY k,f=>tU k f
 | .eO _,f=>.func (.func 225) #[] #[pv f.c0,pv f.c1]
 |_,f=>f.dQ
def Cb:bM->uV->qi
 | .be _ .take,f=>.func (.func 135) #[] #[pv f.c0]
 | .be _ (.dz _),f=>.func (.func 231) #[] #[pv f.c0,pv f.c1]
 |_,f=>f.iG
def yT (s:aJ)(bR:Int)(d:bM)(f:uV):dt:=qm [pv f.fe,pv f.fA,f.dL,f.bI,f.cx,
 rC s.bQ f.bV,tZ d f,ox d f,Cl d f,kN s.aQ f.dF,jy s.aN f.dB,oB d f,nY d f,jQ d f,ud d f,
 qh qg s.cf.bm,qh qg s.cf.au,qh qg s.cf.base,qh qg s.cf.c0,qh qg s.cf.c1,qh qg s.cf.c2,qh qg s.cf.c3,qh qg s.cf.reads,qh qg s.cf.b8,qh qg s.cf.ao,qh qg s.cf.aB,qh qg s.cf.aC,qt s.cf.aZ,
 qh qg s.af,qh qg s.aG,qh qg s.aD,qh qg bR,tT d f,Cb d f,uK d f,qh qr s.value,f.cG,qh qr s.aC,qt s.am,qh qg s.av] qj 1
def Ru:Option ig->Nat->HP|none,_=>eY|some e,n=>pt n (iV e)
def yr:Option iR->Nat->HP|none,_=>eY|some l,n=>jb n l
def Aw:Option jk->Nat->HP|none,_=>eY|some t,n=>pt n (kW t)
def dw (b:Nat):Fx->uV->List It
 | .sD,f | .RG,f | .lp,f=>[.at f.c0 (aM (pv b))]
 | .bZ aD,f=>[.at f.c0 (aM (pv b)),.at f.c1 (aM (qh qg aD))]
 | .take v,f=>[.at f.c0 (aM (.func (.func 135) #[] #[pv f.c2])),.at f.c1 (aM (qh qr v)),.at f.c2 (aM (pv b))]
 | .mA a v,f=>[.at f.c0 (aM (pv b)),.at f.c1 (aM (qh qr a)),.at f.c2 (aM (qh qr v))]
 | .dz k v,f=>[.at f.c0 (aM (pv b)),.at f.c1 (aM (qh qg k)),.at f.c2 (aM (qh qr v))]
def ft (b:Nat):sT->uV->List It
 | .take,f=>[.at f.c0 (aM (pv b))]
 | .dz k,f=>[.at f.c0 (aM (pv b)),.at f.c1 (aM (qh qg k))]
def jo (b:Nat):bM->uV->List It
 | .iY k,f=>dw b k f
 | .be r u,f=>.at f.m (jB r)::ft b u f
 | .eO p,f=>[.at f.m (pO p),.at f.c0 (aM (pv b)),.at f.c1 (aM (qh qg p.fa))]
 | .cK c,f=>[.h (kL f.m c)]
 | .dy w,f=>[.h (jm f.m w)]
 | .bG w,f=>[.h (jm f.m w)]
 | .eG p,f=>[.at f.m (iW p)]
 |_,_=>[]
def de (b:Nat)(s:aJ)(bR:Int)(d:bM)(f:uV):List It:=[.at b (yT s bR d f),.h (Ru s.bQ f.bV),.h (yr s.aQ f.dF),.h (Aw s.aN f.dB),
 .h (Bx f.fe s.cf.reads.toNat s.set),.h (tG f.fA s.bJ),.h (ay qg f.dL s.reads),.h (ay qg f.bI s.ao),.h (ay qg f.cx s.aB),.h (ay qg f.cG s.au)]
def jZ (b:Nat)(s:aJ)(bR:Int)(d:bM):HP:=ut λf:uV=>aP (de b s bR d f)
def bq (b:Nat)(s:aJ):HP:=ut λf:uV=>aP (de b s s.aH.dZ s.aH f++jo b s.aH f)
def aF.aN {n:Nat}{t:jk}{L:List It}:aF (.at n (kW t)::L) (.h (Aw (qf t) n)) L:=.e rfl
def aF.bQ {n:Nat}{t:ig}{L:List It}:aF (.at n (iV t)::L) (.h (Ru (qf t) n)) L:=.e rfl
def aF.olock {n:Nat}{t:iR}{L:List It}:aF (.h (jb n t)::L) (.h (yr (qf t) n)) L:=.e rfl
section
variable {A:AW} {L K:List It} {b:Nat} {s:aJ} {bR:Int} {d:bM}
def jZ.open (h:aj A L)(hp:aF L (.h (jZ b s bR d)) K):∃f,aj A (de b s bR d f++K):=lb h hp
def bq.open (h:aj A L)(hp:aF L (.h (bq b s)) K):∃f,aj A (de b s s.aH.dZ s.aH f++jo b s.aH f++K):=lb h hp
def jZ.eB {fe fA bV dF dB m c0 c1 c2:Nat}{dL bI cx cG fh dM fY cH cF br dN dQ iG fi:qi}(h:aj A L)(e:bd L (de b s bR d ⟨fe,fA,bV,dF,dB,m,c0,c1,c2,dL,bI,cx,cG,fh,dM,fY,cH,cF,br,dN,dQ,iG,fi⟩) K):aj A (.h (jZ b s bR d)::K):=ju ⟨fe,fA,bV,dF,dB,m,c0,c1,c2,dL,bI,cx,cG,fh,dM,fY,cH,cF,br,dN,dQ,iG,fi⟩ h e
def bq.eB {fe fA bV dF dB m c0 c1 c2:Nat}{dL bI cx cG fh dM fY cH cF br dN dQ iG fi:qi}(h:aj A L)(e:bd L (de b s s.aH.dZ s.aH ⟨fe,fA,bV,dF,dB,m,c0,c1,c2,dL,bI,cx,cG,fh,dM,fY,cH,cF,br,dN,dQ,iG,fi⟩++jo b s.aH ⟨fe,fA,bV,dF,dB,m,c0,c1,c2,dL,bI,cx,cG,fh,dM,fY,cH,cF,br,dN,dQ,iG,fi⟩) K):aj A (.h (bq b s)::K):=ju ⟨fe,fA,bV,dF,dB,m,c0,c1,c2,dL,bI,cx,cG,fh,dM,fY,cH,cF,br,dN,dQ,iG,fi⟩ h e
def bq.bZ {fe fA bV dF dB m c0 c1 c2:Nat}{dL bI cx cG fh dM fY cH cF br dN dQ iG fi:qi}{G K2:List It}(h:aj A L)(e:bd L (de b s s.aH.dZ s.aH ⟨fe,fA,bV,dF,dB,m,c0,c1,c2,dL,bI,cx,cG,fh,dM,fY,cH,cF,br,dN,dQ,iG,fi⟩++jo b s.aH ⟨fe,fA,bV,dF,dB,m,c0,c1,c2,dL,bI,cx,cG,fh,dM,fY,cH,cF,br,dN,dQ,iG,fi⟩) K)(e2:bd K G K2):aj A (.h (bq b s)::G):=
 aj.bZ (bq.eB h e) (.s .z e2)
def jZ.view {fe fA bV dF dB m c0 c1 c2:Nat}{dL bI cx cG fh dM fY cH cF br dN dQ iG fi:qi}(h:aj A L)(e:bd L (de b s bR d ⟨fe,fA,bV,dF,dB,m,c0,c1,c2,dL,bI,cx,cG,fh,dM,fY,cH,cF,br,dN,dQ,iG,fi⟩) K):aj A [.h (jZ b s bR d)]:=aj.bZ (jZ.eB h e) (.s .z .z)
def bq.toB (h:aj A L)(hp:aF L (.h (bq b s)) K):aj A (.h (jZ b s s.aH.dZ s.aH)::K):=by
 obtain⟨f,h⟩:=bq.open h hp;have h1:aj A (de b s s.aH.dZ s.aH f++(jo b s.aH f++K)):=by rw[<-List.append_assoc];exact h
 have h2:aj A (.h (jZ b s s.aH.dZ s.aH)::(jo b s.aH f++K)):=ju (g:=de b s s.aH.dZ s.aH) f h1 (by repeat' (first|apply bd.z|apply bd.s|apply aF.z))
 unfold aj at h2 ⊢;have h3:bD A (jZ b s s.aH.dZ s.aH*aP (jo b s.aH f++K)):=h2;rw[gO]at h3;have h4:bD A (aP (jo b s.aH f)*(jZ b s s.aH.dZ s.aH*aP K)):=h3.dJ Ye;exact bD.right h4
def bz.lF {P:qp}{f:qN}{args:List qi}{tN:List It}{φ:qi->Prop}{post:qi->List It}(hc:bz P f args (.h (jZ b s bR d)::tN) φ post){fe fA bV dF dB m c0 c1 c2:Nat}{dL bI cx cG fh dM fY cH cF br dN dQ iG fi:qi}{K0:List It}{k:qi->AW->Prop}(hw:A.Wf)(hS:aj A L)(e:bd L (de b s bR d ⟨fe,fA,bV,dF,dB,m,c0,c1,c2,dL,bI,cx,cG,fh,dM,fY,cH,cF,br,dN,dQ,iG,fi⟩) K0)(e2:bd K0 tN K)(hk:∀v A',φ v->aj A' (post v++K)->A'.Wf->A.next<=A'.next->k v A'):aE P f args A k:=
 bz.gk hc hw (jZ.eB hS e) (.s .z e2) hk
def bz.useP {P:qp}{f:qN}{args:List qi}{tN:List It}{φ:qi->Prop}{post:qi->List It}(hc:bz P f args (.h (bq b s)::tN) φ post){fe fA bV dF dB m c0 c1 c2:Nat}{dL bI cx cG fh dM fY cH cF br dN dQ iG fi:qi}{K0:List It}{k:qi->AW->Prop}(hw:A.Wf)(hS:aj A L)(e:bd L (de b s s.aH.dZ s.aH ⟨fe,fA,bV,dF,dB,m,c0,c1,c2,dL,bI,cx,cG,fh,dM,fY,cH,cF,br,dN,dQ,iG,fi⟩++jo b s.aH ⟨fe,fA,bV,dF,dB,m,c0,c1,c2,dL,bI,cx,cG,fh,dM,fY,cH,cF,br,dN,dQ,iG,fi⟩) K0)(e2:bd K0 tN K)(hk:∀v A',φ v->aj A' (post v++K)->A'.Wf->A.next<=A'.next->k v A'):aE P f args A k:=
 bz.gk hc hw (bq.eB hS e) (.s .z e2) hk
def Ru.op {n:Nat}{e:ig}(h:aj A L)(hp:aF L (.h (Ru (qf e) n)) K):aj A (.at n (iV e)::K):=by unfold aj at h ⊢;rw[hp.aP]at h;exact h
def Aw.op {n:Nat}{e:jk}(h:aj A L)(hp:aF L (.h (Aw (qf e) n)) K):aj A (.at n (kW e)::K):=by unfold aj at h ⊢;rw[hp.aP]at h;exact h
def yr.op {n:Nat}{e:iR}(h:aj A L)(hp:aF L (.h (yr (qf e) n)) K):aj A (.h (jb n e)::K):=by unfold aj at h ⊢;rw[hp.aP]at h;exact h
def Gj {f:qN}{args:List qi}{V:qi}{b:Nat}{s:aJ}{bR:Int}{d:bM}(hC:∀A':AW,A'.Wf->aj A' [.h (jZ b s bR d)]->fQ f args A' V){A:AW}{L K0:List It}{fe fA bV dF dB m c0 c1 c2:Nat}{dL bI cx cG fh dM fY cH cF br dN dQ iG fi:qi}{k:qi->AW->Prop}(hw:A.Wf)(hS:aj A L)(e:bd L (de b s bR d ⟨fe,fA,bV,dF,dB,m,c0,c1,c2,dL,bI,cx,cG,fh,dM,fY,cH,cF,br,dN,dQ,iG,fi⟩) K0)(hk:k V A):aE qZ f args A k:=by refine bT (hC A hw (jZ.view hS e)) ?_;rintro _ _⟨rfl,rfl⟩_ _;exact hk
end
def pP {L G K:List It}(h':bd L G K:=by first|((repeat' (first|apply bd.z|apply bd.s|apply aF.z|apply aF.aN|apply aF.bQ|apply aF.olock|apply aF.s));done)|fail):bd L G K:=h'
def kP {L K:List It}{x:It}(h':aF L x K:=by first|((repeat' (first|apply bd.z|apply bd.s|apply aF.z|apply aF.aN|apply aF.bQ|apply aF.olock|apply aF.s));done)|fail):aF L x K:=h'
def fP {L G K:List It}(h':bd L G K:=by first|((dsimp only[de,yT,tZ,ox,uK,Cl,oB,nY,jQ,ud,tT,Cb,tU,rC,kN,jy,jo,dw,ft,bM.dZ,aa,ah]);(try simp only[h]);(repeat' (first|apply bd.z|apply bd.s|apply aF.z|apply aF.aN|apply aF.bQ|apply aF.olock|apply aF.s));done)|fail):bd L G K:=h'
end
section
abbrev Nl:List (Nat×Nat):=[(0,0),(1,0),(2,0),(3,0),(4,0),(5,0),(6,0),(7,0),(8,0),(9,0),(10,0),(11,0),(12,0),(13,0),(14,0),(15,0),(16,0),(17,0)]
abbrev Nk:List (Nat×Nat):=[(0,0),(1,0),(2,0),(3,0),(4,0),(5,0),(6,0),(7,0),(8,0),(9,0),(10,0),(11,0)]
open T12 T13
variable [Gl]
def NK (s:aJ):(s.aD=1/\gn s={ s with aH:=.gC })\/((¬s.aD=1/\(s.av:Int)=U s.ao)/\gn s={ s with aH:=.gC }) \/
 ((¬s.aD=1/\¬(s.av:Int)=U s.ao)/\gn s={ s with aH:=.eG ⟨eE s.cf (s.ao.getD s.av 0),s.ao.getD s.av 0,0,0⟩ }):=by
 unfold gn;by_cases h1:s.aD=1;simp[h1];by_cases h2:s.av=U s.ao;simp[h1,h2];have h3:¬(s.av:Int)=U s.ao:=Ya
 simp[h1,h2,h3]
def zU (b:Nat)(s:aJ)(bR:Int)(d:bM)(hc:dl s.cf)(sh:∀x∈s.ao,x<2^62)(hp:s.av<=U s.ao)(hl:U s.ao<2^38):
 bz qZ 121 [pv b] [.h (jZ b s bR d)] (λ_=>True) (λ_=>[.h (bq b (gn s))]):=by
 intro A F hw hS;refine aO Tryz.func121 λ_=>?_;obtain⟨x0,hS⟩:=jZ.open hS .z;(unhygienic cases x0);dsimp only[de,aa,ah]at hS;have hq:=UW hS hw;have hI:=aj.wu hS (.s (.s (.s (.s (.s (.s (.s .z)))))));obtain⟨oa,ca,rfl,_⟩:=hI.cL;rcases NK s with ⟨h,e⟩|⟨h,e⟩|⟨h,e⟩
 . revert hq hS hw;(try revert hc);clear hS;refine Wp (J2 (od Nl) (od Nk)) (J2 h bL) ?_<;>(unhygienic intros);refine⟨_,by rfl,trivial,?_⟩;rw[e];apply bq.bZ
   (·exact sA)
   exact fP
   (·exact pP)
   all_goals(exact 0)
 . revert hq hS hw;(repeat first|clear hS|revert hc);refine Wp (J2 (od Nl) (od Nk)) (J2 h bL) ?_<;>(unhygienic intros);refine⟨_,by rfl,trivial,?_⟩;rw[e];apply bq.bZ
   (·exact sA)
   exact fP
   (·exact pP)
   all_goals(exact 0)
 have b9:s.av<U s.ao:=Ya
 have gf:(s.av:Int)<U s.ao:=Ya
 obtain⟨p,bO,rfl,bP,hcell⟩:=hI.at b9;have hgd:s.ao[s.av]=s.ao.getD s.av 0:=by rw[List.getD_eq_getElem?_getD,List.getElem?_eq_getElem b9];rfl
 have hx:s.ao.getD s.av 0<2^62:=by rw[<-hgd];exact sh _ (List.getElem_mem b9)
 rw[hgd]at hcell;generalize s.ao.getD s.av 0=x at *;have jv:=yj s.cf hc x hx;dsimp only[bu.v]at jv;revert hq hS hw;(repeat first|clear hS|revert hc);refine Wp (J4 (od Nl) (od Nk) @jv @DH) (J6 h bP hcell b9 gf bL) ?_<;>(unhygienic intros);refine⟨_,by rfl,trivial,?_⟩;rw[e];apply bq.bZ
 (·exact sA)
 exact fP
 (·exact pP)
 all_goals(first|exact 0|exact qE)
def kg (b:Nat)(s:aJ)(bR aD:Int)(d:bM)(hc:dl s.cf)(sh:∀x∈s.ao,x<2^62)(hp:s.av<=U s.ao)(hl:U s.ao<2^38):
 bz qZ 180 [pv b,qh qg aD] [.h (jZ b s bR d)] (λ_=>True) (λ_=>[.h (bq b (kM s aD))]):=by
 intro A F hw hS;refine aO Tryz.func180 λ_=>?_;obtain⟨x0,hS⟩:=jZ.open hS .z;(unhygienic cases x0);dsimp only[de,aa,ah]at hS;have hq:=UW hS hw
 repeat' (first|(refine lz λR hR=>?_;simp[hq,aI];try simp(disch:=omega)only[az,ar,an,ax])|(refine hR _ _ ?_;clear hR R)|(refine hK _ _ ?_;clear hK K)|refine nx ?_|refine wn λK hK=>?_|simp only[wS]|(apply bz.lF (zU b { s with aD:=aD } bR d hc sh hp hl);(·exact wA);(·exact sA);(·exact fP);(·exact pP);(rintro _ _ _ hS hw _;have hS:=lA hS);(try (have hq:=LZ hS hw));all_goals(try (first|exact 0|exact qE))))
 exact⟨_,by rfl,trivial,aj.bZ hS (.s .z (.s .z .z))⟩
end
section
open T12 T13
variable [Gl]
def Md (b:Nat)(s:aJ)(d:bM)(A:AW)(hw:A.Wf)(hS:aj A [.h (jZ b s s.aH.dZ d)]):fQ 34 [pv b] A (qt s.kQ):=by refine aO Tryz.func34 λ_=>?_;obtain⟨x0,hS⟩:=jZ.open hS .z;(unhygienic cases x0);dsimp only[de,aa,ah]at hS;have hq:=fF hS hw;revert hq hS hw;clear hS;refine Wp db (J1 @AW.ab) ?_<;>intros;exact⟨_,rfl,by simp[aJ.kQ],rfl⟩
def H5 (b:Nat)(s:aJ)(st:Int)(d:bM)(A:AW)(hw:A.Wf)(hS:aj A [.h (jZ b s s.aH.dZ d)]):fQ 129 [pv b,qh qg st] A (qh qg (if s.nT st=qj then 0 else 1)):=by
 refine aO Tryz.func129 λ_=>?_;have hb:=Md b s d A hw hS;obtain⟨x0,hS⟩:=jZ.open hS .z;(unhygienic cases x0);dsimp only[de,aa,ah]at hS;have hq:=fF hS hw;by_cases h1:s.aH.dZ=0;have h2:s.kQ=qn:=by simp[aJ.kQ,h1]
 rw[h2]at hb;by_cases h3:s.aG=st;revert hq hS hw;clear hS;refine Wp (J1 @hb) (J3 h1 h3 @AW.ab) ?_<;>intros;exact⟨_,rfl,by simp[aJ.nT,h1,h3],rfl⟩;refine Wp (J1 @hb) (J3 h1 h3 @AW.ab) ?_<;>intros;exact⟨_,rfl,by simp[aJ.nT,h1,h3],rfl⟩;have h2:s.kQ=qj:=by simp[aJ.kQ,h1]
 rw[h2]at hb
 repeat' (first|(refine lz λR hR=>?_;simp[];try simp(disch:=omega)only[az,ar,an,ax])|(refine hR _ _ ?_;clear hR R)|(refine hK _ _ ?_;clear hK K)|refine nx ?_|refine wn λK hK=>?_|simp only[wS]|(refine bT (hb) ?_;rintro _ _⟨rfl,rfl⟩_ _)|(show df _ _ _ _ _ _;refine nx ?_)|(refine wc rfl (λhc=>?_) (λhc=>?_)<;>(try simp at hc)))
 exact⟨_,rfl,by simp[aJ.nT,h1],rfl⟩
def tj (b:Nat)(s:aJ)(bR a:Int)(d:bM)(hc:dl s.cf)(A:AW)(hw:A.Wf)(hS:aj A [.h (jZ b s bR d)]):fQ 133 [pv b,qh qr a] A (qt (decide (s.cf.bm<=a))):=by refine aO Tryz.func133 λ_=>?_;obtain⟨x0,hS⟩:=jZ.open hS .z;(unhygienic cases x0);dsimp only[de,aa,ah]at hS;have hq:=fF hS hw;obtain⟨w0,w1⟩:=hc.bm;have hwr:Zc.wrap s.cf.bm=s.cf.bm:=ax Ya Ya;revert hq hS hw;(try revert hc);clear hS;refine Wp db (J2 hwr @AW.ab) ?_<;>intros;exact⟨_,rfl,by simp,rfl⟩
def RU (b:Nat)(s:aJ)(bR:Int)(d:bM)(A:AW)(hw:A.Wf)(hS:aj A [.h (jZ b s bR d)]):fQ 125 [pv b] A (qh qg s.aG):=by refine aO Tryz.func125 λ_=>?_;exact XL
def WZ (b:Nat)(s:aJ)(bR:Int)(d:bM)(A:AW)(hw:A.Wf)(hS:aj A [.h (jZ b s bR d)]):fQ 72 [pv b] A (qh qg s.aD):=by refine aO Tryz.func72 λ_=>?_;exact XL
def RJ (b:Nat)(s:aJ)(bR:Int)(d:bM)(A:AW)(hw:A.Wf)(hS:aj A [.h (jZ b s bR d)]):fQ 211 [pv b] A (qh qr s.value):=by refine aO Tryz.func211 λ_=>?_;exact XL
def NX (b:Nat)(s:aJ)(bR:Int)(d:bM)(A:AW)(hw:A.Wf)(hS:aj A [.h (jZ b s bR d)]):fQ 70 [pv b] A (qt s.am):=by refine aO Tryz.func70 λ_=>?_;exact XL
def mD (b:Nat)(s:aJ)(bR:Int)(d:bM)(A:AW)(hw:A.Wf)(hS:aj A [.h (jZ b s bR d)]):fQ 200 [pv b] A (qt s.iS):=by refine aO Tryz.func200 λ_=>?_;obtain⟨x0,hS⟩:=jZ.open hS .z;(unhygienic cases x0);dsimp only[de,aa,ah]at hS;obtain⟨va,vv,vi,hS⟩:=tG.open hS (.s (.s (.s (.s (.s .z)))));obtain⟨oa,ca,rfl,_⟩:=(aj.wu hS (.s .z)).cL;have hll:=PP fA _ oa _ ca vv vi A (hS.g 0 rfl);have hq:=fF hS hw;by_cases h:s.aD=1;revert hq hS hw;clear hS;clear hS;refine Wp (J1 @hll) (J2 h @AW.ab) ?_<;>intros;exact⟨_,rfl,by simp[aJ.iS,h],rfl⟩;refine Wp (J1 @hll) (J2 h @AW.ab) ?_<;>intros;exact⟨_,rfl,by simp[aJ.iS,h],rfl⟩
def td (b:Nat)(s:aJ)(bR:Int)(d:bM)(A:AW)(hw:A.Wf)(hS:aj A [.h (jZ b s bR d)]):fQ 206 [pv b] A (qh qg s.pX):=by
 refine aO Tryz.func206 λ_=>?_;have cJ:=mD b s bR d A hw hS;obtain⟨x0,hS⟩:=jZ.open hS .z;(unhygienic cases x0);dsimp only[de,aa,ah]at hS;have hq:=fF hS hw;cases h:s.am<;>cases h2:s.iS
 all_goals(rw[h2]at cJ)
 all_goals(revert hq hS hw;clear hS;refine Wp (J1 @cJ) (J2 h @AW.ab) ?_<;>unhygienic intros)
 all_goals exact⟨_,rfl,by simp[aJ.pX,h,h2],rfl⟩
def wE (b:Nat)(s:aJ)(bR:Int)(d:bM)(A:AW)(hw:A.Wf)(hS:aj A [.h (jZ b s bR d)]):fQ 195 [pv b] A (qh qg s.rv):=by
 refine aO Tryz.func195 λ_=>?_;obtain⟨x0,hS⟩:=jZ.open hS .z;(unhygienic cases x0);dsimp only[de,aa,ah]at hS;cases he:s.bQ with
 |none=>have hq:=fF hS hw;rw[he]at hq;dsimp only[rC]at hq;revert hq hS hw;clear hS;refine Wp db (J1 @AW.ab) ?_<;>intros;exact⟨_,rfl,by simp[aJ.rv,he],rfl⟩
 |some en=>rw[he]at hS;have U4:A.bk bV=qf (iV en):=(Ru.op hS (.s .z)).g 0 rfl;have P3:=Ad bV en A U4;have hq:=fF hS hw;rw[he]at hq;dsimp only[rC]at hq;refine Wp (J1 @P3) (J1 @AW.ab) ?_<;>intros;exact⟨_,rfl,by simp[aJ.rv,he],rfl⟩
end
section
open T7
variable [Gl]
def No (a o rv:Int)(A:AW):aE qZ 218 [qh qg a,qh qg o,qh qg rv] A (λv A'=>v=qs (qf ⟨A.next,0,qk⟩)/\A'=A.alloc (jB ⟨a,o,rv,0,0,0,qn⟩)):=by refine aO Tryz.func218 λ_=>?_;refine W db (J1 @jB.eq_1) ?_<;>intros;exact XU
def Ns (b:Nat)(s:iR)(A:AW)(F:HP)(h:bD A (jb b s*F))(hl:U s.eD<2^38):
 aE qZ 249 [qs (qf ⟨b,0,qk⟩)] A (λv A'=>fW A.next A' qr v s.eD/\A.le A'):=by refine aO Tryz.func249 λhw=>?_;obtain⟨vo,vw,hS⟩:=jb.open h;have hg:=hS.bk;revert hS hw;refine W db (J2 hg @AW.ab) ?_<;>(unhygienic intros);refine bT (jL vw s.eD A (ay.is hS.right.right) Ya) ?_;rintro u A1⟨h1,h2⟩jt _;refine W db db ?_<;>intros;exact⟨_,by (simp;done),h1,h2⟩
section
variable {A:AW} {L K K2:List It} {k:qi->AW->Prop}
def PH {t:Int}{vi:qi}{l:List Int}(hw:A.Wf)(hS:aj A L)(hp:aF L (.h (ay qg vi l)) K)(hl:U l<2^38)(hk:∀n A',aj A' (.h (jb n ⟨t,fC l,[],0,qn⟩)::L)->A'.Wf->k (pv n) A'):aE qZ 216 [qh qg t,vi] A k:=by refine bT (Nq t vi l A (aP L) (aj.wu hS hp) hl hw hS) ?_;rintro _ A'⟨n,rfl,h1⟩lC _;exact hk n A' h1 lC
def zF {vi vw:qi}{l ws:List Int}(hw:A.Wf)(hS:aj A L)(hp:aF L (.h (ay qg vi l)) K)(yY:aF L (.h (ay qr vw ws)) K2)(hl:U l<2^38)(he:U l=U ws)(hk:∀n A',aj A' (.h (jm n ⟨l,ws⟩)::L)->A'.Wf->A.le A'->k (pv n) A'):aE qZ 207 [vi,vw] A k:=by refine bT (KM vi vw l ws A (aP L) (aj.wu hS hp) (aj.wu hS yY) he hl hw hS) ?_;rintro _ A'⟨n,rfl,h1,h2⟩lC _;exact hk n A' h1 lC h2
def Nn {vi vw:qi}{l ws:List Int}(hw:A.Wf)(hS:aj A L)(hp:aF L (.h (ay qg vi l)) K)(yY:aF L (.h (ay qr vw ws)) K2)(hl:U l<2^38)(he:U l=U ws)(hk:∀n A',aj A' (.h (jm n ⟨l,ws⟩)::L)->A'.Wf->A.le A'->k (pv n) A'):aE qZ 201 [vi,vw] A k:=by refine bT (PC vi vw l ws A (aP L) (aj.wu hS hp) (aj.wu hS yY) he hl hw hS) ?_;rintro _ A'⟨n,rfl,h1,h2⟩lC _;exact hk n A' h1 lC h2
def tp {v:qi}{l:List Int}{rv:Int}(hw:A.Wf)(hS:aj A L)(hp:aF L (.h (ay qg v l)) K)(hl:U l<2^38)(hk:∀n A',aj A' (.h (kL n ⟨l,rv,qn⟩)::L)->A'.Wf->A.le A'->k (pv n) A'):aE qZ 193 [v,qh qg rv] A k:=by refine bT (PI v l rv A (aP L) (aj.wu hS hp) hl hw hS) ?_;rintro _ A'⟨n,rfl,h1,h2⟩lC _;exact hk n A' h1 lC h2
def RX {vi:qi}{l:List Int}(hw:A.Wf)(hS:aj A L)(hp:aF L (.h (ay qg vi l)) K)(hl:U l<2^38)(hk:∀o c A',aj A' (.h (ay qg (ql o (U (fC l)) c) (fC l))::L)->A'.Wf->A.le A'->k (ql o (U (fC l)) c) A'):aE qZ 215 [vi] A k:=by refine bT (FI vi l A (aj.wu hS hp) Ya) ?_;rintro u A'⟨h1,h2⟩lC _;exact XP
def xV {n:Nat}{s:wj}(hw:A.Wf)(hS:aj A L)(hp:aF L (.h (tG n s)) K)(hl:U s.bU<2^38)(hk:∀o c A',aj A' (.h (ay qg (ql o (U s.bU) c) s.bU)::L)->A'.Wf->A.le A'->k (ql o (U s.bU) c) A'):aE qZ 124 [pv n] A k:=by obtain⟨va,vv,vi,h0⟩:=tG.open hS hp;refine bT (KR n s.fg va vv vi s.bU A (h0.g 0 rfl) (aj.wu h0 (.s .z)) Ya) ?_;rintro u A'⟨h1,h2⟩lC _;exact XP
def KQ {n:Nat}{s:wj}(hw:A.Wf)(hS:aj A L)(hp:aF L (.h (tG n s)) K)(hl:U s.gi<2^38)(hk:∀o c A',aj A' (.h (ay qr (ql o (U s.gi) c) s.gi)::L)->A'.Wf->A.le A'->k (ql o (U s.gi) c) A'):aE qZ 202 [pv n] A k:=by obtain⟨va,vv,vi,h0⟩:=tG.open hS hp;refine bT (Iw n s.fg va vv vi s.gi A (h0.g 0 rfl) (aj.wu h0 (.s (.s .z))) Ya) ?_;rintro u A'⟨h1,h2⟩lC _;exact XP
def uY {n fg:Nat}{l:List Int}(hw:A.Wf)(hS:aj A L)(hp:aF L (.h (Bx n fg l)) K)(hl:U l<2^38)(hk:∀o c A',aj A' (.h (ay qg (ql o (U l) c) l)::L)->A'.Wf->A.le A'->k (ql o (U l) c) A'):aE qZ 194 [pv n] A k:=by obtain⟨v,h0⟩:=Bx.open hS hp;refine bT (MY n fg v l A (h0.g 0 rfl) (aj.wu h0 (.s .z)) Ya) ?_;rintro u A'⟨h1,h2⟩lC _;exact XP
def xU {n:Nat}{s:wj}{a:Int}(ki:sz s)(AV:s.fg<=32)(OL:U s.index<=64)(ha:0<=a)(hw:A.Wf)(hS:aj A L)(hp:aF L (.h (tG n s)) K)(hk:k (.tuple #[qh qr (mG s a).1,qt (mG s a).2]) A):aE qZ 136 [pv n,qh qg a] A k:=by obtain⟨va,vv,vi,h0⟩:=tG.open hS hp;refine bT (PQ n va vv vi s a A ki ha AV OL (h0.g 0 rfl) (aj.wu h0 (.s .z)) (aj.wu h0 (.s (.s .z))) (aj.wu h0 (.s (.s (.s .z))))) ?_;rintro _ _⟨rfl,rfl⟩_ _;exact hk
def PT {n:Nat}{s:iR}(hw:A.Wf)(hS:aj A L)(hp:aF L (.h (jb n s)) K)(hl:U s.eD<2^38)(hk:∀o c A',aj A' (.h (ay qr (ql o (U s.eD) c) s.eD)::L)->A'.Wf->A.le A'->k (ql o (U s.eD) c) A'):aE qZ 249 [pv n] A k:=by
 have h0:bD A (jb n s*aP K):=by exact X6
 refine bT (Ns n s A (aP K) h0 hl) ?_;rintro u A'⟨h1,h2⟩lC _;exact XP
end
end
section
open T12 T13
variable [Gl]
structure iF (s:aJ):Prop where
 cf:dl s.cf
 Rw:0<=s.af/\s.af<1024
 bJ:sz s.bJ
 fg:s.bJ.fg<=32
 cZ:s.bJ.index.length<=64
 Mj:∀a∈s.bJ.bU,a<2^40
 alb:∀x∈s.ao,0<=x/\x<2^40
 oQ:s.ao.length<=8
 push:s.av<=s.ao.length
 set:s.set.length<=s.cf.reads.toNat
 kS:s.reads.length<2^20
 GQ:s.aB.length<=8
def iF.al {s:aJ}(h:iF s):∀x∈s.ao,x<2^62:=λx hx=>by have:=(h.alb x hx).2;omega
def iF.len {s:aJ}(h:iF s):U s.bJ.bU<=32:=Nat.le_trans h.bJ.fg h.fg
def AI (s:aJ)(a v:Int):((gD s.bJ a v).1=qj/\jr s a v=(qj,{ s with bJ:=(gD s.bJ a v).2 }))\/((gD s.bJ a v).1=qn/\jr s a v=(qn,kM s 3)):=by unfold jr;cases h:(gD s.bJ a v).1<;>simp
def zC (b:Nat)(s:aJ)(a v:Int)(hd:s.aH=.bC)(hC:iF s)(ha:0<=a):
 bz qZ 141 [pv b,qh qg a,qh qr v] [.h (bq b s)] (λu=>u=qt (jr s a v).1) (λ_=>[.h (bq b (jr s a v).2)]):=by
 have hcs:=AI s a v;(unhygienic cases s);dsimp only at hd;subst hd;intro A F hw hS;refine aO Tryz.func141 λ_=>?_;obtain⟨x0,hS⟩:=bq.open hS .z;(unhygienic cases x0);dsimp only[de,jo,dw,ft,bM.dZ,aa,ah]at hS;have hq:=fF hS hw;dsimp only at hcs;rcases hcs with ⟨h,e⟩|⟨h,e⟩
 . have lj:=F2 fA bJ a v hC.bJ ha hC.fg hC.cZ;rw[h]at lj;revert hq hS hw;clear hS;refine Wp (J1 @lj) (J1 bL) ?_<;>(unhygienic intros);rw[e];refine⟨_,by rfl,rfl,?_⟩;apply bq.bZ
   (·exact sA)
   exact fP
   (·exact pP)
   all_goals(exact 0)
 have lj:=F2 fA bJ a v hC.bJ ha hC.fg hC.cZ;rw[h]at lj;have fL:(gD bJ a v).2=bJ:=by revert h;unfold gD;split;simp;split<;>simp
 rw[fL]at lj;revert hq hS hw;(repeat clear hS);refine Wp (J2 (Tg.mk (n:=20) (kg b ⟨cf,af,aG,aD,value,bQ,am,reads,ao,aB,set,bJ,aC,au,aQ,aN,av,.bC⟩ 0 3 .bC hC.cf hC.al hC.push (Z4 hC.oQ Yd))) @lj) (J1 bL) ?_<;>(unhygienic intros);rw[e];exact⟨_,by rfl,rfl,aj.bZ hS (.s .z (.s .z .z))⟩
def iF.to {s s':aJ}(hC:iF s)(h1:s'.cf=s.cf)(h2:s'.af=s.af)(h3:s'.bJ=s.bJ)(h4:s'.ao=s.ao)(h5:s'.av=s.av)(h6:s'.set=s.set)(h7:s'.reads=s.reads)(h8:s'.aB=s.aB):iF s':=by (unhygienic cases s);obtain⟨cf',thread',state',sq,value',ent',decided',reads',allocs',frees',set',log',clock',orecs',lock',turn',pushed',doing'⟩:=s';dsimp only at h1 h2 h3 h4 h5 h6 h7 h8;subst h1 h2 h3 h4 h5 h6 h7 h8;exact⟨hC.cf,hC.Rw,hC.bJ,hC.fg,hC.cZ,hC.Mj,hC.alb,hC.oQ,hC.push,hC.set,hC.kS,hC.GQ⟩
def Pp (p:sU)(M:Mm):(gB p M).2.1.fa=p.fa:=by rcases LP p M with ⟨h,e⟩|⟨h,e⟩|⟨h,e⟩|⟨w,h,e⟩|⟨w,h,e⟩|⟨h,e⟩<;>rw[e]
end
section
abbrev UJ:List (Nat×Nat):=[(0,0),(1,0),(2,0),(3,0),(4,0),(5,0),(6,0),(7,0),(8,0),(9,0),(10,0),(11,2),(12,2),(13,0),(14,0),(15,3),(16,0),(17,0),(18,0),(19,3)]
abbrev DE:List (Nat×Nat):=[(0,0),(1,0),(2,0),(3,0),(4,0),(5,0),(6,0),(7,0),(8,0),(9,0),(10,3),(11,0),(12,0),(13,3),(14,0),(15,0),(16,0),(17,3)]
open T12 T13
variable [Gl]
def xC (b:Nat)(s:aJ)(bR:Int)(d:bM)(hl:U s.au<2^20)(hlk:U s.au=0\/∃l,s.aQ=qf l/\U s.au=U l.eD):
 bz qZ 199 [pv b] [.h (jZ b s bR d)] (λ_=>True) (λ_=>[.h (bq b (fE s))]):=by
 (unhygienic cases s);dsimp only at hl hlk;by_cases h0:U au=0
 . have e:fE ⟨cf,af,aG,aD,value,bQ,am,reads,ao,aB,set,bJ,aC,au,aQ,aN,av,aH⟩=⟨cf,af,aG,aD,value,bQ,am,reads,ao,aB,set,bJ,aC,au,aQ,aN,av,.ey⟩:=az h0;intro A F hw hS;refine aO Tryz.func199 λ_=>?_;obtain⟨x0,hS⟩:=jZ.open hS .z;(unhygienic cases x0);dsimp only[de,aa,ah]at hS;have hq:=fF hS hw;obtain⟨oo,co,rfl,_⟩:=(aj.wu hS (.s (.s (.s (.s (.s (.s (.s (.s (.s .z)))))))))).cL;have h1:(U au:Int)=0:=Ya;revert hq hS hw;clear hS;refine Wp (J1 (od UJ)) (J2 h1 bL) ?_<;>(unhygienic intros);rw[e];refine⟨_,by rfl,trivial,?_⟩;apply bq.bZ
   (·exact sA)
   exact fP
   (·exact pP)
   all_goals(exact 0)
 obtain⟨l,rfl,AU⟩:∃l,aQ=qf l/\U au=U l.eD:=by rcases hlk with h|h;exact absurd h h0;exact h
 have e:fE ⟨cf,af,aG,aD,value,bQ,am,reads,ao,aB,set,bJ,aC,au,qf l,aN,av,aH⟩=⟨cf,af,aG,aD,value,bQ,am,reads,ao,aB,set,bJ,aC,au,qf l,aN,av,.bG ⟨au,l.eD⟩⟩:=ar h0;intro A F hw hS;refine aO Tryz.func199 λ_=>?_;obtain⟨x0,hS⟩:=jZ.open hS .z;(unhygienic cases x0);dsimp only[de,aa,ah]at hS;have hq:=fF hS hw;have hS:=yr.op hS (.s (.s .z));obtain⟨oo,co,rfl,_⟩:=(aj.wu hS (.s (.s (.s (.s (.s (.s (.s (.s (.s .z)))))))))).cL;dsimp only[kN]at hq;have h1:¬(U au:Int)=0:=Ya
 have h2:¬au=[]:=λh=>by rw[h]at h0;exact h0 rfl
 revert hq hS hw;(repeat clear hS);refine Wp (J3 (Tg.mk (n:=11) @PT) (Tg.mk (n:=12) @zF) (od UJ)) (J3 h1 h2 bL) ?_<;>(unhygienic intros);rw[e];refine⟨_,by rfl,trivial,?_⟩;apply bq.bZ
 (·exact sA)
 exact fP
 (·exact pP)
 all_goals(first|exact 0|exact qE)
def KD (l:List Int):U (fC l)<=U l:=by
 have:=Ak (uX l)
 simpa[fC,uX]using this
def WX (s:aJ)(aD:Int):((decide (aD=1) && decide (0<U s.bJ.bU))=qn/\nB s aD={ s with aD:=aD,aN:=qf ⟨qn,0,qn⟩,aH:=.c8 }) \/
 ((decide (aD=1) && decide (0<U s.bJ.bU))=qj/\nB s aD={ s with aD:=aD,au:=fC (s.bJ.bU.map (fU s.cf)),aQ:=qf ⟨s.af,fC (fC (s.bJ.bU.map (fU s.cf))),[],0,qn⟩,aH:=.ef }):=by unfold nB;cases h:(decide (aD=1) && decide (0<U s.bJ.bU))<;>simp
def Ag (b:Nat)(s:aJ)(sq:Int)(hd:s.aH=.bC)(hC:iF s):
 bz qZ 132 [pv b,qh qg sq] [.h (bq b s)] (λ_=>True) (λ_=>[.h (bq b (nB s sq))]):=by
 have hcs:=WX s sq;(unhygienic cases s);dsimp only at hd;subst hd;intro A F hw hS;refine aO Tryz.func132 λ_=>?_;obtain⟨x0,hS⟩:=bq.open hS .z;(unhygienic cases x0);dsimp only[de,jo,dw,ft,bM.dZ,aa,ah]at hS;have hq:=fF hS hw;dsimp only at hcs;have cy:=hC.len;dsimp only at cy
 have cJ:∀A',A'.Wf->aj A' [.h (jZ b ⟨cf,af,aG,sq,value,bQ,am,reads,ao,aB,set,bJ,aC,au,aQ,aN,av,.bC⟩ 0 .bC)]->fQ 200 [pv b] A' (qt (decide (sq=1) && decide (0<U bJ.bU))):=
  λA' h1 h2=>mD b _ 0 .bC A' h1 h2
 rcases hcs with ⟨h,e⟩|⟨h,e⟩
 . rw[h]at cJ;rw[e];revert hq hS hw;clear hS;refine Wp (J3 (Tg.mk (n:=30) @cJ) (od DE) @pu) (J1 bL) ?_<;>(unhygienic intros);refine⟨_,by rfl,trivial,?_⟩;apply bq.bZ
   (·exact sA)
   exact fP
   (·exact pP)
   all_goals(exact 0)
 rw[h]at cJ;rw[e];revert hq hS hw;(repeat clear hS);refine Wp (J2 (Tg.mk (n:=30) @cJ) (od DE)) (J1 bL) ?_<;>(unhygienic intros);apply xV (n:=fA) (s:=bJ)
 (·exact wA)
 (·exact sA)
 (·exact kP)
 omega;intro o1 c3 A1 hS hw _;have hS:aj A1 (.h (ay qg (ql o1 (U bJ.bU) c3) bJ.bU)::(de b ⟨cf,af,aG,sq,value,bQ,am,reads,ao,aB,set,bJ,aC,au,aQ,aN,av,.bC⟩ 0 .bC ⟨fe,fA,bV,dF,dB,m,c0,c1,c2,dL,bI,cx,cG,fh,dM,fY,cH,cF,br,dN,dQ,iG,fi⟩++[.h F])):=by
  apply aj.bZ hS;dsimp only[de,yT,jo,dw,ft,bM.dZ,tZ,ox,uK,Cl,oB,nY,jQ,ud,tT,Cb,tU,aa,ah]
  (·exact pP)
 have nq:=AJ cf hC.cf;dsimp only[bu.v]at nq;generalize hn:bJ.bU=ad at *;revert hq hS hw;(repeat first|clear hS|clear hw|revert hc|revert R|revert K);refine Wp (J1 (od DE)) (J1 bL) ?_<;>(unhygienic intros)
 refine dO (λk fr A'=>A'.Wf/\∃(i:Nat)(v:qi)(q:List Int),q=(ad.take i).map (fU cf)/\k=U ad-i/\i<=U ad/\fr 0=pv b/\fr 4=v/\fr 27=ql o1 (U ad) c3/\fr 28=qh qg (U ad)/\fr 29=qh qg i/\
  aj A' (.h (ay qg v q)::.h (ay qg (ql o1 (U ad) c3) ad)::(de b ⟨cf,af,aG,sq,value,bQ,am,reads,ao,aB,set,bJ,aC,au,aQ,aN,av,.bC⟩ 0 .bC ⟨fe,fA,bV,dF,dB,m,c0,c1,c2,dL,bI,cx,cG,fh,dM,fY,cH,cF,br,dN,dQ,iG,fi⟩++[.h F]))) (U ad) ?_ ?_
 refine⟨hw,0,ql qk 0 0,[],by simp,by simp,by simp,by simp,by simp,by simp,by simp,by simp,?_⟩
 simpa using aj.zE qg hS
 rintro k fr A'⟨hw,i,v,q,RA,rfl,hi,h0,h4,h27,h28,h29,hS⟩;have hI:=aj.wu hS (.s .z);have hIv:=aj.wu hS .z;have hql:U q=i:=by rw[RA];simp;omega
 obtain⟨ov,cv,rfl,_⟩:=hIv.cL;dsimp only[de,yT,jo,dw,ft,bM.dZ,tZ,ox,uK,Cl,oB,nY,jQ,ud,tT,Cb,tU,aa,ah]at hS;have hq:=UW hS hw;refine aU ?_;by_cases b9:i<U ad
 . have gf:(i:Int)<U ad:=Ya;have ij:=C0 (i:=i);obtain⟨p,bO,rfl,bP,hcell⟩:=hI.at b9;revert hq hS hw;(repeat first|clear hq|clear hS|clear hw|revert hc);refine Wu (J2 (od DE) @nq) (Ls h0 h4 h27 h28 h29 bP hcell b9 gf ij bL) ?_<;>(unhygienic intros);refine⟨U ad-(i+1),by omega,hw,i+1,_,q++[fU cf ad[i]],?_,rfl,by omega,by simp[h0],by simp;rfl,by simp[h27],by simp[h28],by simp,?_⟩;rw[RA,List.take_succ_eq_append_getElem b9,List.map_append];rfl;apply aj.bZ hS;dsimp only[de,yT,jo,dw,ft,bM.dZ,tZ,ox,uK,Cl,oB,nY,jQ,ud,tT,Cb,tU,aa,ah]
   (·exact pP)
 have NE:i=U ad:=Ya
 subst NE;rw[List.take_length]at RA;have OH:U (fC q)<=U q:=KD q;revert hq hS hw;(repeat first|clear hq|clear hS|clear hw|revert hc);refine Wp (J3 (Tg.mk (n:=11) @RX) (Tg.mk (n:=11) @PH) (od DE)) (J6 h0 h4 h27 h28 h29 bL) ?_<;>(unhygienic intros);rw[<-RA];refine⟨_,by rfl,trivial,?_⟩;apply bq.bZ
 (·exact sA)
 exact fP
 (·exact pP)
 all_goals(exact 0)
end
section
abbrev DD:List (Nat×Nat):=[(0,0),(1,0),(2,0),(3,0),(4,0),(5,0),(6,0),(7,0),(8,0),(9,0),(10,0),(11,0),(12,0)]
open T12 T13
variable [Gl]
def DJ (s:wj)(a v:Int):(gD s a v).2.fg=s.fg/\(gD s a v).2.index.length=U s.index/\(∀x∈(gD s a v).2.bU,x∈s.bU\/x=a):=by unfold gD;split;exact⟨rfl,rfl,λx hx=>.inl hx⟩;split;exact⟨rfl,rfl,λx hx=>.inl hx⟩;exact⟨rfl,by simp,λx hx=>by simpa using hx⟩
def iF.put {s:aJ}(hC:iF s){a:Int}(ha:0<=a/\a<2^40)(v:Int):iF { s with bJ:=(gD s.bJ a v).2 }:=by obtain⟨h1,h2,h3⟩:=DJ s.bJ a v;refine⟨hC.cf,hC.Rw,LV hC.bJ ha.1 v,?_,?_,?_,hC.alb,hC.oQ,hC.push,hC.set,hC.kS,hC.GQ⟩;show (gD s.bJ a v).2.fg<=32;rw[h1];exact hC.fg;show (gD s.bJ a v).2.index.length<=64;rw[h2];exact hC.cZ;intro x hx;rcases h3 x hx with h|rfl;exact hC.Mj x h;exact ha.2
def QC (s:aJ)(b st:Int):(¬st=Zc.wrap (Zc.wrap (eE s.cf b)+1)/\ji s b st=nB s 8) \/
 ((st=Zc.wrap (Zc.wrap (eE s.cf b)+1)/\s.cf.aB<=U s.aB)/\ji s b st=kM s 3) \/
 (((st=Zc.wrap (Zc.wrap (eE s.cf b)+1)/\¬s.cf.aB<=U s.aB)/\(gD s.bJ (s.cf.bm+b) 0).1=qj)/\ji s b st={ s with bJ:=(gD s.bJ (s.cf.bm+b) 0).2,aB:=s.aB++[b] }) \/
 (((st=Zc.wrap (Zc.wrap (eE s.cf b)+1)/\¬s.cf.aB<=U s.aB)/\(gD s.bJ (s.cf.bm+b) 0).1=qn)/\ji s b st=kM s 3):=by unfold ji;by_cases h1:st=Zc.wrap (Zc.wrap (eE s.cf b)+1);by_cases h2:s.cf.aB<=U s.aB;simp[h1,h2];cases h3:(gD s.bJ (s.cf.bm+b) 0).1<;>simp[h1,h2,jr,h3];simp[h1]
def I2 (b:Nat)(s:aJ)(k st:Int)(hd:s.aH=.bC)(hC:iF s)(hk:0<=k/\k<s.cf.nb):
 bz qZ 230 [pv b,qh qg k,qh qr st] [.h (bq b s)] (λ_=>True) (λ_=>[.h (bq b (ji s k st))]):=by
 have hcs:=QC s k st;have lj:=AI s (s.cf.bm+k) 0;(unhygienic cases s);dsimp only at hd;subst hd;intro A F hw hS;refine aO Tryz.func230 λ_=>?_;obtain⟨x0,hS⟩:=bq.open hS .z;(unhygienic cases x0);dsimp only[de,jo,dw,ft,bM.dZ,aa,ah]at hS;have hq:=fF hS hw;dsimp only at hcs hk lj;have Gb:=hC.GQ;dsimp only at Gb;have IP:=hC.cf.nb;have hwd:=hC.cf.bm;dsimp only at IP hwd;have jv:=yj cf hC.cf k Ya;dsimp only[bu.v]at jv;obtain⟨ofr,cfr,rfl,_⟩:=(aj.wu hS (.s (.s (.s (.s (.s (.s (.s (.s .z))))))))).cL;have hwr:Zb.wrap (cf.bm+k)=cf.bm+k:=an Ya Ya;rcases hcs with ⟨h,e⟩|⟨h,e⟩|⟨h,e⟩|⟨h,e⟩;rw[e];revert hq hS hw;clear hS;refine Wp (J3 (Tg.mk (n:=21) (Ag b ⟨cf,af,aG,aD,value,bQ,am,reads,ao,aB,set,bJ,aC,au,aQ,aN,av,.bC⟩ 8 rfl hC)) (od DD) @jv) (J2 h bL) ?_<;>(unhygienic intros);exact⟨_,by rfl,trivial,aj.bZ hS (.s .z (.s .z .z))⟩
 . rw[e];revert hq hS hw;(repeat clear hS);refine Wp (J3 (Tg.mk (n:=20) (kg b ⟨cf,af,aG,aD,value,bQ,am,reads,ao,aB,set,bJ,aC,au,aQ,aN,av,.bC⟩ 0 3 .bC hC.cf hC.al hC.push (Z4 hC.oQ Yd))) (od DD) @jv) (J2 h bL) ?_<;>(unhygienic intros);exact⟨_,by rfl,trivial,aj.bZ hS (.s .z (.s .z .z))⟩
 . rw[e];have Wo:=zC b ⟨cf,af,aG,aD,value,bQ,am,reads,ao,aB,set,bJ,aC,au,aQ,aN,av,.bC⟩ (cf.bm+k) 0 rfl hC Ya;rcases lj with ⟨h9,e9⟩|⟨h9,e9⟩
   . rw[e9]at Wo
     repeat' (first|(with_reducible apply lwI;(·(simp;rfl));(·(simp;rfl));(·exact wA);(·exact sA);(·exact kP);(·(simp;rfl));(·omega);(·intro _ _;trivial);rintro _ _ _ hS hw _;have hq:=LZ hS hw)|(refine lz λR hR=>?_;simp[hq,h,hwr,AW.ab,aI];try simp(disch:=omega)only[az,ar,an,ax])|(refine hR _ _ ?_;clear hR R)|(refine hK _ _ ?_;clear hK K)|refine nx ?_|refine wn λK hK=>?_|simp only[wS,DD]|refine wl Tryz.mx DD Yc λK hK=>?_|(refine bT (jv _) ?_;rintro _ _⟨rfl,rfl⟩_ _)|(apply bz.useP (Wo);(·exact wA);(·exact sA);(·exact fP);(·exact pP);(rintro _ _ rfl hS hw _;have hS:=lA hS;(obtain ⟨x0,hS⟩:=bq.open hS .z;(unhygienic cases x0);dsimp only[de,jo,dw,ft,bM.dZ,aa,ah]at hS;have hq:=fF hS hw));all_goals(try (exact 0)))|(refine wc rfl (λhc=>?_) (λhc=>?_)<;>(try simp at hc)))
     refine⟨_,by rfl,trivial,?_⟩;apply bq.bZ
     (·exact sA)
     exact fP
     (·exact pP)
     all_goals(exact 0)
   rw[h.2]at h9;cases h9
 rw[e];have Wo:=zC b ⟨cf,af,aG,aD,value,bQ,am,reads,ao,aB,set,bJ,aC,au,aQ,aN,av,.bC⟩ (cf.bm+k) 0 rfl hC Ya;rcases lj with ⟨h9,e9⟩|⟨h9,e9⟩;rw[h.2]at h9;cases h9;rw[e9]at Wo;revert hq hS hw;(repeat clear hS);refine Wp (J3 (Tg.mk (n:=21) @Wo) (od DD) @jv) (J3 h hwr bL) ?_<;>(unhygienic intros);exact⟨_,by rfl,trivial,aj.bZ hS (.s .z (.s .z .z))⟩
end
section
abbrev UF:List (Nat×Nat):=[(0,0),(1,0),(2,0),(3,0),(4,0),(5,0),(6,0),(7,0),(8,0),(9,2),(10,0)]
open T7
variable [Gl]
structure Ua (c:bu):Prop where
 ok:dl c
 bm:4<=c.bm/\c.bm<=12
 au:c.au<=8
 base:c.base=2
 c0:c.c0<=2
 c1:c.c1<=2
 c2:c.c2=0
 c3:c.c3=0
 reads:c.reads<=6
 b8:c.b8<=8
 ao:c.ao<=2
 aB:c.aB<=2
 aC:c.aC<=50
def Is (p0 p1 p2 p3 p4 p5 ck n0 n1:Int):bu:=⟨4+p0,1+p1,2,n0,n1,0,0,1+p2,1+p3,p4,p5,ck,qn⟩
def Gi (l0 l1 l2 l3 l4:Int):∃c,Ua c/\∀A,aE qZ 7 [qh qg l0,qh qg l1,qh qg l2,qh qg l3,qh qg l4] A (λv A'=>v=c.v/\A=A'):=by
 obtain⟨p0,Hc⟩:∃p0,nz l0 9=p0:=⟨_,rfl⟩;have qp0:=iM l0 9 Ya;have kp0:=λA=>kE l0 9 A Ya Ya;rw[Hc]at qp0 kp0;obtain⟨p1,up⟩:∃p1,nz l1 8=p1:=⟨_,rfl⟩;have qp1:=iM l1 8 Ya;have kp1:=λA=>kE l1 8 A Ya Ya;rw[up]at qp1 kp1;obtain⟨p2,yY⟩:∃p2,nz l2 6=p2:=⟨_,rfl⟩;have qp2:=iM l2 6 Ya;have kp2:=λA=>kE l2 6 A Ya Ya;rw[yY]at qp2 kp2;obtain⟨p3,hp3⟩:∃p3,nz (Zb.wrap (l2.tdiv 7)) 8=p3:=⟨_,rfl⟩;have qp3:=iM (Zb.wrap (l2.tdiv 7)) 8 Ya;have kp3:=λA=>kE (Zb.wrap (l2.tdiv 7)) 8 A Ya Ya;rw[hp3]at qp3 kp3;obtain⟨p4,hp4⟩:∃p4,nz l3 3=p4:=⟨_,rfl⟩;have qp4:=iM l3 3 Ya;have kp4:=λA=>kE l3 3 A Ya Ya;rw[hp4]at qp4 kp4;obtain⟨p5,hp5⟩:∃p5,nz (Zb.wrap (l3.tdiv 3)) 3=p5:=⟨_,rfl⟩;have qp5:=iM (Zb.wrap (l3.tdiv 3)) 3 Ya;have kp5:=λA=>kE (Zb.wrap (l3.tdiv 3)) 3 A Ya Ya
 rw[hp5]at qp5 kp5;obtain⟨p6,hp6⟩:∃p6,nz l4 5=p6:=⟨_,rfl⟩;have qp6:=iM l4 5 Ya;have kp6:=λA=>kE l4 5 A Ya Ya;rw[hp6]at qp6 kp6;obtain⟨p7,hp7⟩:∃p7,nz (Zb.wrap (l4.tdiv 5)) 4=p7:=⟨_,rfl⟩;have qp7:=iM (Zb.wrap (l4.tdiv 5)) 4 Ya;have kp7:=λA=>kE (Zb.wrap (l4.tdiv 5)) 4 A Ya Ya;rw[hp7]at qp7 kp7;obtain⟨p8,hp8⟩:∃p8,nz (Zb.wrap (l3.tdiv 9)) (4+p0-2+1)=p8:=⟨_,rfl⟩;have qp8:=iM (Zb.wrap (l3.tdiv 9)) (4+p0-2+1) Ya;have kp8:=λA=>kE (Zb.wrap (l3.tdiv 9)) (4+p0-2+1) A Ya Ya;rw[hp8]at qp8 kp8;obtain⟨n0,IQ⟩:∃n0,(if 2<p8 then 2 else p8)=n0:=⟨_,rfl⟩;have hn0':0<=n0/\n0<=2/\n0<=4+p0-2:=by rw[<-IQ];split<;>omega
 obtain⟨m1,F9⟩:∃m1,(4+p0-2-n0).fdiv 2=m1:=⟨_,rfl⟩;have hm1':0<=m1/\m1*2<=4+p0-2-n0/\m1<=20:=by have h9:(4+p0-2-n0).fdiv 2=(4+p0-2-n0) / 2:=Int.fdiv_eq_ediv_of_nonneg _ Ya;rw[h9]at F9;omega
 have hmw:Zb.wrap (m1+1)=m1+1:=an Ya Ya;obtain⟨p10,hp10⟩:∃p10,nz (Zb.wrap (l3.tdiv 29)) (m1+1)=p10:=⟨_,rfl⟩;have qp10:=iM (Zb.wrap (l3.tdiv 29)) (m1+1) Ya;have kp10:=λA=>kE (Zb.wrap (l3.tdiv 29)) (m1+1) A Ya Ya;rw[hp10]at qp10 kp10;obtain⟨n1,Hd⟩:∃n1,(if 2<p10 then 2 else p10)=n1:=⟨_,rfl⟩;have hn1':0<=n1/\n1<=2/\n1<=m1:=by rw[<-Hd];split<;>omega
 obtain⟨ck,CF⟩:∃ck,(if p6=0 then p7 else 50)=ck:=⟨_,rfl⟩;have hck':0<=ck/\ck<=50:=by rw[<-CF];split<;>omega
 have key:∀A:AW,A.Wf->aE qZ 7 [qh qg l0,qh qg l1,qh qg l2,qh qg l3,qh qg l4] A (λv A'=>v=(Is p0 p1 p2 p3 p4 p5 ck n0 n1).v/\A.le A'):=by
  intro A hw;refine aO Tryz.func7 λ_=>?_;by_cases h:p6=0
  . rw[az h]at CF;revert hw;refine W (Hr (od UF) @kp0 @kp1 @kp2 @kp3 @kp4 @kp5 @kp6 @kp7 @kp8) (J7 h IQ Hd F9 hmw @pw1 bL) ?_<;>(unhygienic intros);refine i7 3 ?_;refine W (J3 (od UF) @kp8 @kp10) (J7 h IQ Hd F9 hmw @pw1 bL) ?_<;>intros;refine⟨_,by simp[AW.ab];rfl,by simp[Is,bu.v,CF],?_⟩
    repeat' (first|exact AW.le.refl _|refine AW.le.set ?_ Yj _|refine AW.le.trans ?_ (AW.le.alloc _ _))
  rw[ar h]at CF;revert hw;refine W (Hr (od UF) @kp0 @kp1 @kp2 @kp3 @kp4 @kp5 @kp6 @kp7 @kp8) (J7 h IQ Hd F9 hmw @pw1 bL) ?_<;>(unhygienic intros);refine i7 3 ?_;refine W (J3 (od UF) @kp8 @kp10) (J7 h IQ Hd F9 hmw @pw1 bL) ?_<;>intros;refine⟨_,by simp[AW.ab];rfl,by simp[Is,bu.v,CF],?_⟩
  repeat' (first|exact AW.le.refl _|refine AW.le.set ?_ Yj _|refine AW.le.trans ?_ (AW.le.alloc _ _))
 refine⟨Is p0 p1 p2 p3 p4 p5 ck n0 n1,?_,λA=>aE.wy (V:=(Is p0 p1 p2 p3 p4 p5 ck n0 n1).v) (dK.agg (by simp[Is])) (λhw=>key A hw) Yf⟩;refine⟨⟨?_,?_,?_,?_,?_,?_,?_,?_,?_,?_,?_,?_,?_,?_⟩,?_,?_,?_,?_,?_,?_,?_,?_,?_,?_,?_,?_⟩<;>(simp only[Is,bu.nb,bu.hw]<;>omega)
end
section
open T17 T13
variable [Gl]
def aj.oA {A:AW}{L:List It}(h:aj A L):aj A (.h eY::L):=by unfold aj at h ⊢;show bD A (eY*aP L);rw[iD];exact h
def Sq {A:AW}{L:List It}{k:qi->AW->Prop}{w:Nat}(hwr:w<=32)(hw:A.Wf)(hS:aj A L)(hk:∀n A',aj A' (.h (tG n (jF w))::L)->A'.Wf->k (pv n) A'):aE qZ 221 [qh qg w] A k:=by refine bT (PG w hwr A L hw hS) ?_;rintro _ A'⟨n,rfl,h1⟩lC _;exact hk n A' h1 lC
def new_call (c:bu)(hc:dl c)(t:Int)(A:AW)(F:HP)(hw:A.Wf)(hS:aj A [.h F]):
 aE qZ 142 [c.v,qh qg t] A (λv A'=>∃b,v=pv b/\aj A' [.h (bq b (fq c t)),.h F]):=by
 refine aO Tryz.func142 λ_=>?_;obtain⟨r0,r1⟩:=hc.reads;obtain⟨w0,w1⟩:=hc.b8;obtain⟨w,hwn⟩:∃w:Nat,c.b8=w:=⟨c.b8.toNat,by omega⟩;dsimp only[bu.v];rw[hwn]
 repeat' (first|(refine lz λR hR=>?_;simp[AW.ab];try simp(disch:=omega)only[az,ar,an,ax])|(refine hR _ _ ?_;clear hR R)|(refine hK _ _ ?_;clear hK K)|refine nx ?_|refine wn λK hK=>?_|simp only[wS]|(refine bT (PE c.reads _ ⟨by omega,r1⟩) ?_;rintro _ _⟨rfl,rfl⟩_ _)|(refine ⟨λA' wY=>by simp[wY],?_⟩)|(refine ⟨by simp[hq],?_⟩)|(refine wlS (λA'=>A'.bk A.next=qf (qm [qh qg c.bm,qh qg c.au,qh qg c.base,qh qg c.c0,qh qg c.c1,qh qg c.c2,qh qg c.c3,qh qg c.reads,qh qg w,qh qg c.ao,qh qg c.aB,qh qg c.aC,qt c.aZ] qj 1)) Tryz.mx [(0,0),(1,0),(3,0),(4,0),(7,1),(8,0),(2,2),(5,3),(6,0),(9,0),(10,2),(11,0)] Yc λK hK=>?_)|(apply Sq Ya;(·exact wA);(·exact sA);((rintro _ _ hS hw);have hq:=hqx18 hS hw))|(show df _ _ _ _ _ _;refine nx ?_))
 have e:fq c t=⟨c,t,0,0,0,qk,qn,[],[],[],[],jF w,0,[],qk,qk,0,.bC⟩:=by unfold fq;rw[hwn]
 have h:=hwn;refine⟨_,by rfl,_,rfl,?_⟩;rw[e];apply bq.bZ;apply aj.zE qg;apply aj.zE qg;apply aj.zE qg;apply aj.zE qg;apply aj.oA;apply aj.oA;apply aj.oA;apply Bx.eB (fg:=c.reads.toNat) (l:=[]) (v:=ql qk 0 0);apply aj.zE qg
 (·exact sA)
 (·exact pP)
 (dsimp only[de,yT,jo,dw,ft,bM.dZ,rC,kN,jy,tZ,ox,uK,Cl,oB,nY,jQ,ud,tT,Cb,tU,aa,ah])
 simp only[h]
 (·exact pP)
 (·exact pP)
 all_goals(exact 0)
def Ti (b:Nat)(s:aJ)(bR:Int)(d:bM)(A:AW)(hw:A.Wf)(hS:aj A [.h (jZ b s bR d)])(hl:U s.aB<2^38):
 aE qZ 212 [pv b] A (λu A'=>fW A.next A' qg u s.aB/\A.le A'):=by refine aO Tryz.func212 λ_=>?_;obtain⟨x0,hS⟩:=jZ.open hS .z;(unhygienic cases x0);dsimp only[de,aa,ah]at hS;have hI:=aj.wu hS (.s (.s (.s (.s (.s (.s (.s (.s .z))))))));have hq:=gL hS hw;revert hq hS hw;clear hS;refine Wp db (J1 @AW.ab) ?_<;>(unhygienic intros);refine bT (kJ _ _ A hI Ya) ?_;rintro u A1⟨h1,h2⟩jt _;refine Wp db trivial ?_<;>intros;exact⟨_,by rfl,h1,h2⟩
end
section
open T7
variable [Gl]
structure re (c:bu):Prop where
 ok:dl c
 c0:c.c0=0\/c.c0=1\/c.c0=2
 c1:c.c1=0\/c.c1=1\/c.c1=2
 c2:c.c2=0
 c3:c.c3=0
def Ua.few {c:bu}(h:Ua c):re c:=by have h1:=h.ok.k0;have h2:=h.ok.k1;have h3:=h.c0;have h4:=h.c1;exact⟨h.ok,by omega,by omega,h.c2,h.c3⟩
def vY (n0 n1:Int):List Int:=[uu 0 (if 0<n0 then 0 else -1),uu 0 (if 0<n1 then n0 else -1),uu 0 (-1),uu 0 (-1)]
def wP (n0 n1:Int):List Int:=(if n0=2 then [2,0]else if n0=1 then [0]else [])++(if n1=2 then [n0+2,0]else if n1=1 then [0]else [])
def aj.ofRow {A:AW}{L K:List It}{b:Nat}{k:IntKind}(l:List Int)(n:Nat)(h:aj A L)(hp:aF L (.at b (qm (l.map (qh k)) qj 1)) K)(hn:n=U l):aj A (.h (ay k (ql (qf ⟨b,0,qk⟩) n n) l)::K):=by subst hn;unfold aj at h;rw[hp.aP]at h;exact ay.mk rfl (Nat.le_refl _) Yb (by rw[List.drop_zero,List.take_of_length_le Yb]) h
def Sz (c:bu)(hc:re c)(A:AW)(F:HP)(hw:A.Wf)(hS:aj A [.h F]):
 aE qZ 54 [c.v] A (λv A'=>∃vh vn,v=.tuple #[vh,vn]/\aj A' [.h (ay qr vh (vY c.c0 c.c1)),.h (ay qr vn (wP c.c0 c.c1)),.h F]):=by
 obtain⟨bm,au,base,n0,n1,n2,n3,reads,b8,ao,aB,aC,aZ⟩:=c;obtain⟨ok,h0,h1,h2,h3⟩:=hc;dsimp only at h0 h1 h2 h3 ⊢;subst h2 h3;obtain⟨q,hqn⟩:∃q:Nat,(q:Int)=n0+n1:=⟨(n0+n1).toNat,by omega⟩;have h4:q=0\/q=1\/q=2\/q=3\/q=4:=Ya
 rcases h0 with rfl|rfl|rfl<;>rcases h1 with rfl|rfl|rfl<;>rcases h4 with hqq|hqq|hqq|hqq|hqq<;>(try (exfalso;omega))
 all_goals(
  have hb:=Am _ ok;refine aO Tryz.func54 λ_=>?_;dsimp only[bu.nb,bu.v]at hb ⊢;simp only[Int.add_zero,Int.zero_add,Int.reduceAdd]at hb
  all_goals(revert hS hw;refine W (J1 @hb) (J1 bL) ?_<;>unhygienic intros)
  refine i7 5 ?_
  all_goals(revert hS hw;refine W (J1 @rj) (J1 bL) ?_<;>unhygienic intros)
  refine i7 3 ?_
  all_goals(revert hS hw;(repeat revert hc);refine W (J1 @rj) (J1 bL) ?_<;>unhygienic intros)
  refine i7 3 ?_
  all_goals(revert hS hw;(repeat revert hc);refine W (J1 @rj) (J1 bL) ?_<;>unhygienic intros)
  refine i7 3 ?_
  all_goals(revert hS hw;(repeat revert hc);refine W (J1 @rj) (J1 bL) ?_<;>unhygienic intros)
  refine i7 3 ?_
  all_goals(revert hS hw;(repeat revert hc);refine W (J1 @rj) (J1 bL) ?_<;>unhygienic intros)
  refine⟨_,by (simp[hqq];done),ql (qf ⟨A.next+1,0,qk⟩) 4 4,ql (qf ⟨A.next+1+1,0,qk⟩) q q,rfl,?_⟩;refine aj.bZ (L:=[.h (ay qr _ _),.h (ay qr _ _),.h F]) ?_ (.s .z (.s .z (.s .z .z)));refine aj.ofRow (k:=qr) (b:=A.next+1) _ 4 (aj.ofRow (k:=qr) (b:=A.next+1+1) _ q (L:=[.at (A.next+1+1) _,.at (A.next+1) _,.h F]) ?_ .z (by rw[hqq];rfl)) (.s .z) rfl;apply aj.bZ
  . repeat' (first|exact hS|with_reducible apply aj.io|with_reducible apply aj.allocN|with_reducible apply AW.PA|with_reducible apply aF.z|with_reducible apply aF.s|assumption|apply AW.Wf.alloc|exact rfl)
  exact pA)
end
section
open T12 T13
variable [Gl]
def AttX (b:Nat)(s:aJ)(bR:Int)(p:sU):HP:=ut λf:uV=>aP (de b s bR (.eO p) f++[.at f.m (pO p)])
def AttX.open {A:AW}{L K:List It}{b:Nat}{s:aJ}{bR:Int}{p:sU}(h:aj A L)(hp:aF L (.h (AttX b s bR p)) K):∃f,aj A (de b s bR (.eO p) f++[.at f.m (pO p)]++K):=lb h hp
def bz.useX {P:qp}{f:qN}{args:List qi}{tN:List It}{φ:qi->Prop}{post:qi->List It}{b:Nat}{s:aJ}{bR:Int}{p:sU}(hc:bz P f args (.h (AttX b s bR p)::tN) φ post){A:AW}{L K:List It}{fe fA bV dF dB m c0 c1 c2:Nat}{dL bI cx cG fh dM fY cH cF br dN dQ iG fi:qi}{K0:List It}{k:qi->AW->Prop}(hw:A.Wf)(hS:aj A L)(e:bd L (de b s bR (.eO p) ⟨fe,fA,bV,dF,dB,m,c0,c1,c2,dL,bI,cx,cG,fh,dM,fY,cH,cF,br,dN,dQ,iG,fi⟩++[.at m (pO p)]) K0)(e2:bd K0 tN K)(hk:∀v A',φ v->aj A' (post v++K)->A'.Wf->A.next<=A'.next->k v A'):aE P f args A k:=
 bz.gk hc hw (ju (g:=λf:uV=>de b s bR (.eO p) f++[.at f.m (pO p)]) ⟨fe,fA,bV,dF,dB,m,c0,c1,c2,dL,bI,cx,cG,fh,dM,fY,cH,cF,br,dN,dQ,iG,fi⟩ hS e) (.s .z e2) hk
def OQ (n:Nat)(a:Int)(s:aJ):fX (n+1) a s=if (jr s a 0).1=qj then fX n (a+1) (jr s a 0).2 else (qn,(jr s a 0).2):=rfl
def OP (a:Int)(s:aJ):fX 0 a s=(qj,s):=rfl
def JI (b:Nat)(s:aJ)(p:sU)(hC:iF { s with aH:=.bC })(sh:U s.ao<8)(hp:p.block<s.cf.nb)(jv:0<=p.fa/\p.fa<=3):
 bz qZ 226 [pv b,qh qg p.fa] [.h (AttX b { s with aH:=.bC } 0 p)] (λ_=>True) (λ_=>[.h (bq b (fb { s with aH:=.bC } p.fa p.block))]):=by
 (unhygienic cases s);obtain⟨fa,pat,phead,pnext,jj⟩:=p;dsimp only at hC sh hp jv ⊢;intro A F hw hS;refine aO Tryz.func226 λ_=>?_;obtain⟨⟨fe,fA,bV,dF,dB,m,c0,c1,c2,dL,bI,cx,cG,fh,dM,fY,cH,cF,br,dN,dQ,iG,fi⟩,hS⟩:=AttX.open hS .z;dsimp only[de,jo,dw,ft,bM.dZ,aa,ah]at hS;have hq:=fF hS hw;have IP:=hC.cf.nb;have hwd:=hC.cf.bm;dsimp only at IP hwd;have K9:=KK m ⟨fa,pat,phead,pnext,jj⟩;by_cases h:jj<0
 . have e:fb ⟨cf,af,aG,aD,value,bQ,am,reads,ao,aB,set,bJ,aC,au,aQ,aN,av,.bC⟩ fa jj=kM ⟨cf,af,aG,aD,value,bQ,am,reads,ao,aB,set,bJ,aC,au,aQ,aN,av,.bC⟩ 4:=az h;rw[e]
   repeat' (first|(refine lz λR hR=>?_;simp[hq,h,AW.ab];try simp(disch:=omega)only[az,ar,an,ax])|(refine hR _ _ ?_;clear hR R)|(refine hK _ _ ?_;clear hK K)|refine nx ?_|refine wn λK hK=>?_|simp only[wS]|(refine bT (K9 _ (by simp[hq])) ?_;rintro _ _⟨rfl,rfl⟩_ _)|(apply bz.lF (kg b ⟨cf,af,aG,aD,value,bQ,am,reads,ao,aB,set,bJ,aC,au,aQ,aN,av,.bC⟩ 0 4 (.eO ⟨fa,pat,phead,pnext,jj⟩) hC.cf hC.al hC.push (Z4 hC.oQ Yd));(·exact wA);(·exact sA);(·exact fP);(·exact pP);(rintro _ _ _ hS hw _;have hS:=lA hS);(try (have hq:=LZ hS hw));all_goals(try (first|exact 0|exact qE)))|(show df _ _ _ _ _ _;refine nx ?_)|(refine wc rfl (λhc=>?_) (λhc=>?_)<;>(try simp at hc)))
   refine⟨_,by rfl,trivial,?_⟩;apply aj.bZ hS
   (·exact pP)
 have hwr:Zb.wrap (cf.bm+jj)=cf.bm+jj:=an Ya Ya;have hwc:Zc.wrap (Zc.wrap fa+1)=fa+1:=by rw[ax (x:=fa) Ya Ya,ax Ya Ya]
 have hC1:iF ⟨cf,af,aG,aD,value,bQ,am,reads,ao++[jj],aB,set,bJ,aC,au,aQ,aN,av,.bC⟩:=by refine⟨hC.cf,hC.Rw,hC.bJ,hC.fg,hC.cZ,hC.Mj,?_,?_,?_,hC.set,hC.kS,hC.GQ⟩;intro x hx;rcases List.mem_append.1 hx with h1|h1;exact hC.alb x h1;simp at h1;subst h1;omega;show U (ao++[jj])<=8;simp;omega;show av<=U (ao++[jj]);have:=hC.push;dsimp only at this;simp;omega
 have Wo:=zC b ⟨cf,af,aG,aD,value,bQ,am,reads,ao++[jj],aB,set,bJ,aC,au,aQ,aN,av,.bC⟩ (cf.bm+jj) (fa+1) rfl hC1 Ya
 have e:fb ⟨cf,af,aG,aD,value,bQ,am,reads,ao,aB,set,bJ,aC,au,aQ,aN,av,.bC⟩ fa jj =
  if (jr ⟨cf,af,aG,aD,value,bQ,am,reads,ao++[jj],aB,set,bJ,aC,au,aQ,aN,av,.bC⟩ (cf.bm+jj) (fa+1)).1=qj then
   if (fX (2 ^ fa.toNat) (i5 cf jj) (jr ⟨cf,af,aG,aD,value,bQ,am,reads,ao++[jj],aB,set,bJ,aC,au,aQ,aN,av,.bC⟩ (cf.bm+jj) (fa+1)).2).1=qj then { (fX (2 ^ fa.toNat) (i5 cf jj) (jr ⟨cf,af,aG,aD,value,bQ,am,reads,ao++[jj],aB,set,bJ,aC,au,aQ,aN,av,.bC⟩ (cf.bm+jj) (fa+1)).2).2 with value:=Zc.wrap (i5 cf jj) }
   else (fX (2 ^ fa.toNat) (i5 cf jj) (jr ⟨cf,af,aG,aD,value,bQ,am,reads,ao++[jj],aB,set,bJ,aC,au,aQ,aN,av,.bC⟩ (cf.bm+jj) (fa+1)).2).2
  else (jr ⟨cf,af,aG,aD,value,bQ,am,reads,ao++[jj],aB,set,bJ,aC,au,aQ,aN,av,.bC⟩ (cf.bm+jj) (fa+1)).2:=ar h
 rcases AI ⟨cf,af,aG,aD,value,bQ,am,reads,ao++[jj],aB,set,bJ,aC,au,aQ,aN,av,.bC⟩ (cf.bm+jj) (fa+1) with ⟨h9,e9⟩|⟨h9,e9⟩
 . have hC2:=hC1.put (a:=cf.bm+jj) Ya (fa+1);rw[e9]at Wo e;rw[az rfl]at e;rw[e];dsimp only at Wo hC2 ⊢;have hfc:=I7 cf hC.cf jj Ya;dsimp only[bu.v]at hfc;have zJ:¬fa<0:=Ya;obtain⟨n,hn⟩:∃n,2 ^ fa.toNat=n:=⟨_,rfl⟩;have hn8:n<=8:=by have h4:fa=0\/fa=1\/fa=2\/fa=3:=Ya;rcases h4 with rfl|rfl|rfl|rfl<;>(rw[<-hn];decide)
   have hsh:sS .shl qg 1 fa=qf (qh qg (n:Int)):=by have h4:fa=0\/fa=1\/fa=2\/fa=3:=Ya;rw[<-hn];rcases h4 with rfl|rfl|rfl|rfl<;>rfl
   obtain⟨_,hf0,hf1⟩:=DL hC.cf jj Yz;dsimp only at hf0 hf1;have IT:i5 cf jj<=64:=by have h5:(0:Int)<2 ^ (eE cf jj).toNat:=Int.pow_pos Ya;omega
   rw[hn];generalize i5 cf jj=fst at *
   repeat' (first|(with_reducible apply lwI;(·(simp;rfl));(·(simp;rfl));(·exact wA);(·exact sA);(·exact kP);(·(simp;rfl));(·omega);(·intro _ _;trivial);rintro _ _ _ hS hw _;have hq:=LZ hS hw)|(refine lz λR hR=>?_;simp[hq,h,hwr,hsh,AW.ab,aI];try simp(disch:=omega)only[ax])|(refine hR _ _ ?_;clear hR R)|(refine hK _ _ ?_;clear hK K)|refine nx ?_|refine wn λK hK=>?_|simp only[wS]|(refine bT (K9 _ (by simp[hq])) ?_;rintro _ _⟨rfl,rfl⟩_ _)|(refine bT (hfc _) ?_;rintro _ _⟨rfl,rfl⟩_ _)|(apply bz.useP (Wo);(·exact wA);(·exact sA);(·exact fP);(·exact pP);(rintro _ _ rfl hS hw _;have hS:=lA hS;(obtain ⟨x0,hS⟩:=bq.open hS .z;(unhygienic cases x0);dsimp only[de,jo,dw,ft,bM.dZ,aa,ah]at hS;have hq:=fF hS hw));all_goals(try (exact 0)))|(show df _ _ _ _ _ _;refine nx ?_)|(refine wc rfl (λhc=>?_) (λhc=>?_)<;>(try simp at hc)))
   refine dO (λkk fr A'=>A'.Wf/\∃(i:Nat)(si:aJ),kk=n-i/\i<=n/\fr 0=pv b/\fr 5=qh qg fst/\fr 49=qh qg n/\fr 50=qh qg i/\si.aH=.bC/\iF si/\
    fX n fst ⟨cf,af,aG,aD,value,bQ,am,reads,ao++[jj],aB,set,(gD bJ (cf.bm+jj) (fa+1)).2,aC,au,aQ,aN,av,.bC⟩=fX (n-i) (fst+i) si/\aj A' [.h (bq b si),.h F]) n ?_ ?_
   . refine⟨hw,0,⟨cf,af,aG,aD,value,bQ,am,reads,ao++[jj],aB,set,(gD bJ (cf.bm+jj) (fa+1)).2,aC,au,aQ,aN,av,.bC⟩,by simp,by simp,by simp,by simp,by simp,by simp,rfl,hC2,by simp,?_⟩;apply bq.bZ
     (·exact sA)
     exact fP
     (·exact pP)
     all_goals(exact 0)
   clear hS hq;rintro kk fr A'⟨hw,i,si,rfl,hi,h0,h5,h49,h50,hsd,hCs,hz,hS⟩;refine aU ?_;by_cases b9:i<n
   . have gf:(i:Int)<n:=Ya;have ij:=C0 (i:=i);have Rx:Zb.wrap (fst+(i:Int))=fst+(i:Int):=an Ya Ya;have Kc:n-i=(n-(i+1))+1:=Ya;have hpp2:=zC b si (fst+i) 0 hsd hCs Ya;rw[Kc,OQ]at hz;rcases AI si (fst+i) 0 with ⟨g9,f9⟩|⟨g9,f9⟩
     . rw[f9]at hpp2 hz;rw[az rfl]at hz;revert hq hS hw;(repeat first|clear hq|clear hS|clear hw|revert hc);refine Wp (J1 @hpp2) (J8 h0 h5 h49 h50 gf ij Rx bL) ?_<;>(unhygienic intros);refine⟨n-(i+1),by omega,hw,i+1,{ si with bJ:=(gD si.bJ (fst+i) 0).2 },rfl,by omega,by simp[h0],by simp[h5],by simp[h49],by simp,hsd,hCs.put Ya 0,?_,hS⟩;rw[hz];have:fst+(i:Int)+1=fst+((i+1:Nat):Int):=Ya
       rw[this]
     rw[f9]at hpp2 hz;rw[ar Yb]at hz;revert hq hS hw;(repeat first|clear hq|clear hS|clear hw|revert hc);refine Wp (J1 @hpp2) (J8 h0 h5 h49 h50 gf ij Rx bL) ?_<;>(unhygienic intros);refine⟨_,by rfl,trivial,?_⟩;rw[hz,ar Yb];exact hS
   have NE:i=n:=Ya;subst NE;rw[Nat.sub_self,OP]at hz;obtain⟨cf,af,aG,aD,value,bQ,am,reads,ao,aB,set,bJ,aC,au,aQ,aN,av,aH⟩:=si;dsimp only at hsd;subst hsd;obtain⟨x0,hS⟩:=bq.open hS .z;(unhygienic cases x0);dsimp only[de,jo,dw,ft,bM.dZ,aa,ah]at hS;have hq:=fF hS hw;revert hq hS hw;(repeat first|clear hq|clear hS|clear hw|revert hc);refine Wp db (J5 h0 h5 h49 h50 bL) ?_<;>(unhygienic intros);refine⟨_,by rfl,trivial,?_⟩;rw[hz,az rfl,show Zc.wrap fst=fst from ax Ya Ya];apply bq.bZ
   (·exact sA)
   exact fP
   (·exact pP)
   all_goals(exact 0)
 rw[e9]at Wo e;rw[ar Yb]at e;rw[e];dsimp only at Wo ⊢
 repeat' (first|(with_reducible apply lwI;(·(simp;rfl));(·(simp;rfl));(·exact wA);(·exact sA);(·exact kP);(·(simp;rfl));(·omega);(·intro _ _;trivial);rintro _ _ _ hS hw _;have hq:=LZ hS hw)|(refine lz λR hR=>?_;simp[hq,h,hwr,AW.ab,aI];try simp(disch:=omega)only[ax])|(refine hR _ _ ?_;clear hR R)|(refine hK _ _ ?_;clear hK K)|refine nx ?_|refine wn λK hK=>?_|simp only[wS]|(refine bT (K9 _ (by simp[hq])) ?_;rintro _ _⟨rfl,rfl⟩_ _)|(apply bz.useP (Wo);(·exact wA);(·exact sA);(·exact fP);(·exact pP);(rintro _ _ rfl hS hw _;have hS:=lA hS);(try (have hq:=LZ hS hw));all_goals(try (exact 0)))|(show df _ _ _ _ _ _;refine nx ?_)|(refine wc rfl (λhc=>?_) (λhc=>?_)<;>(try simp at hc)))
 refine⟨_,by rfl,trivial,?_⟩;apply aj.bZ hS
 (·exact pP)
end
section
open T12 T13
variable [Gl]
section
variable {A:AW} {L K:List It} {k:qi->AW->Prop} {b:Nat} {s:aJ} {bR:Int}
def lB {fn:Fn}{cs:Array qi}{fe fA bV dF dB m c0 c1 c2:Nat}{dL bI cx cG fh dM fY cH cF br dN dQ iG fi:qi}(hw:A.Wf)(hS:aj A L)(e:bd L (de b s bR .bC ⟨fe,fA,bV,dF,dB,m,c0,c1,c2,dL,bI,cx,cG,fh,dM,fY,cH,cF,br,dN,dQ,iG,fi⟩) K)(hk:∀v A',aj A' (de b s 1 .bC ⟨fe,fA,bV,dF,dB,m,c0,c1,c2,dL,bI,cx,cG,fh,dM,fY,cH,cF,br,dN,.func fn #[] cs,iG,fi⟩++K)->A'.Wf->k v A'):aE qZ 130 [pv b,.func fn #[] cs] A k:=by
 have key:bz qZ 130 [pv b,.func fn #[] cs] (de b s bR .bC ⟨fe,fA,bV,dF,dB,m,c0,c1,c2,dL,bI,cx,cG,fh,dM,fY,cH,cF,br,dN,dQ,iG,fi⟩) (λ_=>True) (λ_=>de b s 1 .bC ⟨fe,fA,bV,dF,dB,m,c0,c1,c2,dL,bI,cx,cG,fh,dM,fY,cH,cF,br,dN,.func fn #[] cs,iG,fi⟩):=by
  intro A F hw hS;refine aO Tryz.func130 λ_=>?_;dsimp only[de,aa,ah]at hS;have hq:=fF hS hw;revert hq hS hw;clear hS;clear hw;refine Wp db (J1 bL) ?_<;>(unhygienic intros);refine⟨_,by rfl,trivial,?_⟩;apply aj.bZ
  (·exact sA)
  (dsimp only[de,yT,tZ,ox,uK,Cl,oB,nY,jQ,ud,tT,Cb,tU,aa,ah])
  (·exact pP)
 exact key.gk hw hS e λv A' _ h1 h2 _=>hk v A' h1 h2
def HS {a:Int}{fn:Fn}{cs:Array qi}(hc:dl s.cf){fe fA bV dF dB m c0 c1 c2:Nat}{dL bI cx cG fh dM fY cH cF br dN dQ iG fi:qi}(hw:A.Wf)(hS:aj A L)(e:bd L (de b s bR .bC ⟨fe,fA,bV,dF,dB,m,c0,c1,c2,dL,bI,cx,cG,fh,dM,fY,cH,cF,br,dN,dQ,iG,fi⟩) K)(hk:∀v n A',aj A' (.at n (jB ⟨a,fU s.cf a,s.rv,0,0,0,qn⟩)::(de b s 3 .bC ⟨fe,fA,bV,dF,dB,m,c0,c1,c2,dL,bI,cx,cG,pv n,qh qg 0,fY,cH,cF,br,dN,dQ,.func fn #[] cs,qh qg a⟩++K))->A'.Wf->k v A'):
 aE qZ 138 [pv b,qh qg a,.func fn #[] cs] A k:=by
 have key:bz qZ 138 [pv b,qh qg a,.func fn #[] cs] (de b s bR .bC ⟨fe,fA,bV,dF,dB,m,c0,c1,c2,dL,bI,cx,cG,fh,dM,fY,cH,cF,br,dN,dQ,iG,fi⟩) (λ_=>True)
  (λ_=>[.h (ut λn=>aP (.at n (jB ⟨a,fU s.cf a,s.rv,0,0,0,qn⟩)::de b s 3 .bC ⟨fe,fA,bV,dF,dB,m,c0,c1,c2,dL,bI,cx,cG,pv n,qh qg 0,fY,cH,cF,br,dN,dQ,.func fn #[] cs,qh qg a⟩))]):=by
  intro A F hw hS;refine aO Tryz.func138 λ_=>?_;dsimp only[de,aa,ah]at hS;have hq:=fF hS hw;have vV:=AJ s.cf hc a;dsimp only[bu.v]at vV;revert hq hS hw;(try revert hc);clear hS;clear hw;refine Wp (J3 (Tg.mk (n:=30) (λA' h1 h2=>wE b s 3 .bC A' h1 h2)) @vV @No) (J1 bL) ?_<;>(unhygienic intros);refine⟨_,by rfl,trivial,?_⟩;apply aj.bZ (L:=.h (ut λn=>aP (.at n (jB ⟨a,fU s.cf a,s.rv,0,0,0,qn⟩)::de b s 3 .bC ⟨fe,fA,bV,dF,dB,m,c0,c1,c2,dL,bI,cx,cG,pv n,qh qg 0,fY,cH,cF,br,dN,dQ,.func fn #[] cs,qh qg a⟩))::[.h F]) ?_ (.s .z (.s .z .z));apply aj.bZ;apply ju (g:=λn=>.at n (jB ⟨a,fU s.cf a,s.rv,0,0,0,qn⟩)::de b s 3 .bC ⟨fe,fA,bV,dF,dB,m,c0,c1,c2,dL,bI,cx,cG,pv n,qh qg 0,fY,cH,cF,br,dN,dQ,.func fn #[] cs,qh qg a⟩)
  (·exact sA)
  (dsimp only[de,yT,tZ,ox,uK,Cl,oB,nY,jQ,ud,tT,Cb,tU,aa,ah])
  (·exact pP)
  (·exact pP)
 refine key.gk hw hS e λv A' _ h1 h2 _=>?_;obtain⟨n,h3⟩:=lb h1 .z;exact hk v n A' h3 h2
end
end
end Go.Stx
