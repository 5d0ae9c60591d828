import Derived.Test.YtnnbecihffpedaaGreatDoorG07
set_option linter.all false
set_option maxRecDepth 20000
set_option maxHeartbeats 4000000
open List renaming length->U
open Go.IntKind renaming i64->Zb
open Go.Proofs.Tryz renaming func112->kb5,func113->kbp,mx->Zm,prog->qZ
open Nat renaming lt_of_le_of_lt->Z4
open Bool renaming false->qn,true->qj
open Go renaming Value->qi,undef->qE
open Go.IntKind renaming i64->qg,u64->qr
open Go.Value renaming bool->qt,int->qh,tuple->qF
open Option renaming some->qf
namespace Go.Stx
open Go Go.Proofs
attribute [local irreducible] TW bK df aW aE aL cY dm
section
abbrev DC:List (Nat×Nat):=[(0,0),(1,0),(2,0),(3,0),(4,0),(5,0),(6,0),(7,0),(8,0),(9,0),(10,0),(11,0)]
abbrev AR:List (Nat×Nat):=[(0,0),(1,0),(2,0),(3,0),(4,0),(5,0),(6,0),(7,0)]
open T12 T13
variable [Gl]
def gg {f:FuncId}{args:List qi}{V:qi}{b:Nat}{s:aJ}(hC:∀A':AW,A'.Wf->aj A' [.h (bq b s)]->fQ f args A' V){A:AW}{L K:List It}{k:qi->AW->Prop}(hw:A.Wf)(hS:aj A L)(hp:aF L (.h (bq b s)) K)(hk:k V A):aE qZ f args A k:=by refine bT (hC A hw (aj.bZ hS (.s hp .z))) ?_;rintro _ _⟨rfl,rfl⟩_ _;exact hk
def jR (b:Nat)(s:aJ)(st:Int)(h:s.nT st=qj):∀A':AW,A'.Wf->aj A' [.h (jZ b s 0 .bC)]->fQ 129 [pv b,qh qg st] A' (qh qg 0):=by
 intro A' h1 h2;have h3:s.aH.dZ=0:=by unfold aJ.nT at h;simp at h;exact h.1
 have:=H5 b s st .bC A' h1 (by rw[h3];exact h2);rwa [az h]at this
def wJ (b:Nat)(s:aJ)(st:Int)(h:¬s.nT st=qj):∀A':AW,A'.Wf->aj A' [.h (bq b s)]->fQ 129 [pv b,qh qg st] A' (qh qg 1):=by intro A' h1 h2;have:=H5 b s st s.aH A' h1 (bq.toB h2 .z);rwa [ar h]at this
def Bb {s:aJ}{st:Int}(h:s.nT st=qj):s.aH=.bC/\s.aG=st:=by unfold aJ.nT at h;simp at h;refine⟨?_,h.2⟩;have h1:=h.1;revert h1;cases s.aH<;>simp[bM.dZ]
def findF_le {c:bu}(hc:dl c)(a:Int):mq c a<=64:=by have:=hc.nb;unfold mq;split;rename_i b h;have h1:=List.mem_range.1 (List.mem_of_find?_eq_some h);omega;omega
def TH (b:Nat)(s:aJ):
 bz qZ 143 [pv b] [.h (bq b s)] (λv=>v=qh qg (gE s).1) (λ_=>[.h (bq b (gE s).2)]):=by
 by_cases hf:s.nT 0=qj
 . skip
   obtain⟨h1,h2⟩:=Bb hf;(unhygienic cases s);dsimp only at h1 h2;subst h1 h2;intro A F hw hS;refine aO Tryz.func143 λ_=>?_;obtain⟨x0,hS⟩:=bq.open hS .z;(unhygienic cases x0);dsimp only[de,jo,dw,ft,bM.dZ,aa,ah]at hS;have hq:=fF hS hw;have hltb:=hw.lt (hS.g 0 rfl);have rt:(b=A.next+1+1)=False:=eq_false Ya;have Bj:(A.next+1+1=b)=False:=eq_false Ya;have Ct:(A.next=A.next+1+1)=False:=eq_false Ya;have e:gE ⟨cf,af,0,aD,value,bQ,am,reads,ao,aB,set,bJ,aC,au,aQ,aN,av,.bC⟩=(0,_):=az hf;revert hq hS hw;clear hS;refine Wp (J2 (Tg.mk (n:=30) (jR b ⟨cf,af,0,aD,value,bQ,am,reads,ao,aB,set,bJ,aC,au,aQ,aN,av,.bC⟩ 0 hf)) @KO) (J4 rt Bj Ct bL) ?_<;>(unhygienic intros);rw[e];refine⟨_,by rfl,rfl,?_⟩;apply bq.bZ
   (·exact sA)
   exact fP
   (·exact pP)
   all_goals(exact 0)
 have e:gE s=(1,s):=ar hf;intro A F hw hS;refine aO Tryz.func143 λ_=>?_
 try dsimp only[aa,ah]at hS
 have hr:=wJ b s 0 hf;exact XK
def Ht (b:Nat)(s:aJ)(a v:Int):
 bz qZ 77 [pv b,qh qr a,qh qr v] [.h (bq b s)] (λu=>u=qh qg (Kl s a v).1) (λ_=>[.h (bq b (Kl s a v).2)]):=by
 by_cases hf:s.nT 1=qj
 . skip
   obtain⟨h1,h2⟩:=Bb hf;(unhygienic cases s);dsimp only at h1 h2;subst h1 h2;intro A F hw hS;refine aO Tryz.func77 λ_=>?_;obtain⟨x0,hS⟩:=bq.open hS .z;(unhygienic cases x0);dsimp only[de,jo,dw,ft,bM.dZ,aa,ah]at hS;have hq:=fF hS hw;have hltb:=hw.lt (hS.g 0 rfl);have rt:(b=A.next+1+1)=False:=eq_false Ya;have Bj:(A.next+1+1=b)=False:=eq_false Ya;have Ct:(A.next=A.next+1+1)=False:=eq_false Ya;have e:Kl ⟨cf,af,1,aD,value,bQ,am,reads,ao,aB,set,bJ,aC,au,aQ,aN,av,.bC⟩ a v=(0,_):=az hf;revert hq hS hw;clear hS;refine Wp (J2 (Tg.mk (n:=30) (jR b ⟨cf,af,1,aD,value,bQ,am,reads,ao,aB,set,bJ,aC,au,aQ,aN,av,.bC⟩ 1 hf)) (Tg.mk (n:=31) (λ{A L K k fn cs fe fA bV dF dB m c0 c1 c2 dL bI cx cG fh dM fY cH cF br dN dQ iG fi}=>lB (A:=A) (L:=L) (K:=K) (k:=k) (fn:=fn) (cs:=cs) (fe:=fe) (fA:=fA) (bV:=bV) (dF:=dF) (dB:=dB) (m:=m) (c0:=c0) (c1:=c1) (c2:=c2) (dL:=dL) (bI:=bI) (cx:=cx) (cG:=cG) (fh:=fh) (dM:=dM) (fY:=fY) (cH:=cH) (cF:=cF) (br:=br) (dN:=dN) (dQ:=dQ) (iG:=iG) (fi:=fi) (s:=⟨cf,af,1,aD,value,bQ,am,reads,ao,aB,set,bJ,aC,au,aQ,aN,av,.bC⟩) (bR:=0)))) (J4 rt Bj Ct bL) ?_<;>(unhygienic intros)
   rw[e];refine⟨_,by rfl,rfl,?_⟩;apply bq.bZ
   (·exact sA)
   exact fP
   (·exact pP)
   all_goals(first|exact 0|exact qE)
 have e:Kl s a v=(1,s):=ar hf;intro A F hw hS;refine aO Tryz.func77 λ_=>?_
 try dsimp only[aa,ah]at hS
 have hr:=wJ b s 1 hf;exact XK
def Ae (b:Nat)(s:aJ)(sq:Int):
 bz qZ 74 [pv b,qh qg sq] [.h (bq b s)] (λu=>u=qh qg (GR s sq).1) (λ_=>[.h (bq b (GR s sq).2)]):=by
 by_cases hf:s.nT 1=qj
 . skip
   obtain⟨h1,h2⟩:=Bb hf;(unhygienic cases s);dsimp only at h1 h2;subst h1 h2;intro A F hw hS;refine aO Tryz.func74 λ_=>?_;obtain⟨x0,hS⟩:=bq.open hS .z;(unhygienic cases x0);dsimp only[de,jo,dw,ft,bM.dZ,aa,ah]at hS;have hq:=fF hS hw;have hltb:=hw.lt (hS.g 0 rfl);have rt:(b=A.next+1+1)=False:=eq_false Ya;have Bj:(A.next+1+1=b)=False:=eq_false Ya;have Ct:(A.next=A.next+1+1)=False:=eq_false Ya;have e0:GR ⟨cf,af,1,aD,value,bQ,am,reads,ao,aB,set,bJ,aC,au,aQ,aN,av,.bC⟩ sq=_:=az hf;dsimp only at e0;by_cases g1:sq=1
   . have e:=e0.trans (ar Ya);revert hq hS hw;clear hS;refine Wp (J2 (Tg.mk (n:=30) (jR b ⟨cf,af,1,aD,value,bQ,am,reads,ao,aB,set,bJ,aC,au,aQ,aN,av,.bC⟩ 1 hf)) (Tg.mk (n:=31) (λ{A L K k fn cs fe fA bV dF dB m c0 c1 c2 dL bI cx cG fh dM fY cH cF br dN dQ iG fi}=>lB (A:=A) (L:=L) (K:=K) (k:=k) (fn:=fn) (cs:=cs) (fe:=fe) (fA:=fA) (bV:=bV) (dF:=dF) (dB:=dB) (m:=m) (c0:=c0) (c1:=c1) (c2:=c2) (dL:=dL) (bI:=bI) (cx:=cx) (cG:=cG) (fh:=fh) (dM:=dM) (fY:=fY) (cH:=cH) (cF:=cF) (br:=br) (dN:=dN) (dQ:=dQ) (iG:=iG) (fi:=fi) (s:=⟨cf,af,1,aD,value,bQ,am,reads,ao,aB,set,bJ,aC,au,aQ,aN,av,.bC⟩) (bR:=0)))) (J5 rt Bj Ct g1 bL) ?_<;>(unhygienic intros);subst g1;rw[e];refine⟨_,by rfl,rfl,?_⟩;apply bq.bZ
     (·exact sA)
     exact fP
     (·exact pP)
     all_goals(first|exact 0|exact qE)
   by_cases g2:sq=2
   . have e:=e0.trans (ar Ya);revert hq hS hw;(repeat clear hS);refine Wp (J2 (Tg.mk (n:=30) (jR b ⟨cf,af,1,aD,value,bQ,am,reads,ao,aB,set,bJ,aC,au,aQ,aN,av,.bC⟩ 1 hf)) (Tg.mk (n:=31) (λ{A L K k fn cs fe fA bV dF dB m c0 c1 c2 dL bI cx cG fh dM fY cH cF br dN dQ iG fi}=>lB (A:=A) (L:=L) (K:=K) (k:=k) (fn:=fn) (cs:=cs) (fe:=fe) (fA:=fA) (bV:=bV) (dF:=dF) (dB:=dB) (m:=m) (c0:=c0) (c1:=c1) (c2:=c2) (dL:=dL) (bI:=bI) (cx:=cx) (cG:=cG) (fh:=fh) (dM:=dM) (fY:=fY) (cH:=cH) (cF:=cF) (br:=br) (dN:=dN) (dQ:=dQ) (iG:=iG) (fi:=fi) (s:=⟨cf,af,1,aD,value,bQ,am,reads,ao,aB,set,bJ,aC,au,aQ,aN,av,.bC⟩) (bR:=0)))) (J6 rt Bj Ct g1 g2 bL) ?_<;>(unhygienic intros);subst g2;rw[e];refine⟨_,by rfl,rfl,?_⟩;apply bq.bZ
     (·exact sA)
     exact fP
     (·exact pP)
     all_goals(first|exact 0|exact qE)
   have e:=e0.trans (az ⟨g1,g2⟩);revert hq hS hw;(repeat clear hS);refine Wp (J1 (Tg.mk (n:=30) (jR b ⟨cf,af,1,aD,value,bQ,am,reads,ao,aB,set,bJ,aC,au,aQ,aN,av,.bC⟩ 1 hf))) (J6 rt Bj Ct g1 g2 bL) ?_<;>(unhygienic intros);rw[e];refine⟨_,by rfl,rfl,?_⟩;apply bq.bZ
   (·exact sA)
   exact fP
   (·exact pP)
   all_goals(exact 0)
 have e:GR s sq=(1,s):=ar hf;intro A F hw hS;refine aO Tryz.func74 λ_=>?_
 try dsimp only[aa,ah]at hS
 have hr:=wJ b s 1 hf;exact XK
def LL (b:Nat)(s:aJ)(a:Int)(hC:iF s)(ha:0<=a):
 bz qZ 75 [pv b,qh qr a] [.h (bq b s)] (λu=>u=qh qg (LM s a).1) (λ_=>[.h (bq b (LM s a).2)]):=by
 by_cases hf:s.nT 1=qj
 . skip
   obtain⟨h1,h2⟩:=Bb hf;(unhygienic cases s);dsimp only at h1 h2;subst h1 h2;intro A F hw hS;refine aO Tryz.func75 λ_=>?_;obtain⟨x0,hS⟩:=bq.open hS .z;(unhygienic cases x0);dsimp only[de,jo,dw,ft,bM.dZ,aa,ah]at hS;have hq:=fF hS hw;have hltb:=hw.lt (hS.g 0 rfl);have rt:(b=A.next+1+1)=False:=eq_false Ya;have Bj:(A.next+1+1=b)=False:=eq_false Ya;have Ct:(A.next=A.next+1+1)=False:=eq_false Ya;have hwd:=hC.cf.bm;dsimp only at hwd;have e0:LM ⟨cf,af,1,aD,value,bQ,am,reads,ao,aB,set,bJ,aC,au,aQ,aN,av,.bC⟩ a=_:=az hf;dsimp only at e0;by_cases g1:cf.bm<=a
   . have e:=e0.trans (az g1);revert hq hS hw;clear hS;refine Wp (J3 (Tg.mk (n:=30) (jR b ⟨cf,af,1,aD,value,bQ,am,reads,ao,aB,set,bJ,aC,au,aQ,aN,av,.bC⟩ 1 hf)) (Tg.mk (n:=30) (tj b ⟨cf,af,1,aD,value,bQ,am,reads,ao,aB,set,bJ,aC,au,aQ,aN,av,.bC⟩ 0 a .bC hC.cf)) (Tg.mk (n:=31) (λ{A L K k fn cs fe fA bV dF dB m c0 c1 c2 dL bI cx cG fh dM fY cH cF br dN dQ iG fi}=>lB (A:=A) (L:=L) (K:=K) (k:=k) (fn:=fn) (cs:=cs) (fe:=fe) (fA:=fA) (bV:=bV) (dF:=dF) (dB:=dB) (m:=m) (c0:=c0) (c1:=c1) (c2:=c2) (dL:=dL) (bI:=bI) (cx:=cx) (cG:=cG) (fh:=fh) (dM:=dM) (fY:=fY) (cH:=cH) (cF:=cF) (br:=br) (dN:=dN) (dQ:=dQ) (iG:=iG) (fi:=fi) (s:=⟨cf,af,1,aD,value,bQ,am,reads,ao,aB,set,bJ,aC,au,aQ,aN,av,.bC⟩) (bR:=0)))) (J5 rt Bj Ct g1 bL) ?_<;>(unhygienic intros);rw[e];refine⟨_,by rfl,rfl,?_⟩;apply bq.bZ
     (·exact sA)
     exact fP
     (·exact pP)
     all_goals(first|exact 0|exact qE)
   have hwa:Zb.wrap a=a:=an Ya Ya;have hlg:∀x y,mG bJ a=(x,y)->(mG bJ a).1=x/\(mG bJ a).2=y:=λx y h=>by rw[h];exact⟨rfl,rfl⟩
   cases g2:(mG bJ a).2
   . have e:=e0.trans ((ar g1).trans (ar (by rw[g2];simp)));revert hq hS hw;(repeat clear hS);refine Wp (J4 (Tg.mk (n:=30) (jR b ⟨cf,af,1,aD,value,bQ,am,reads,ao,aB,set,bJ,aC,au,aQ,aN,av,.bC⟩ 1 hf)) (Tg.mk (n:=30) (tj b ⟨cf,af,1,aD,value,bQ,am,reads,ao,aB,set,bJ,aC,au,aQ,aN,av,.bC⟩ 0 a .bC hC.cf)) (Tg.mk (n:=10) (λ{A L K k n}=>xU (A:=A) (L:=L) (K:=K) (k:=k) (n:=n) hC.bJ hC.fg hC.cZ ha)) (Tg.mk (n:=31) (λ{A L K k fn cs fe fA bV dF dB m c0 c1 c2 dL bI cx cG fh dM fY cH cF br dN dQ iG fi}=>HS (A:=A) (L:=L) (K:=K) (k:=k) (fn:=fn) (cs:=cs) (fe:=fe) (fA:=fA) (bV:=bV) (dF:=dF) (dB:=dB) (m:=m) (c0:=c0) (c1:=c1) (c2:=c2) (dL:=dL) (bI:=bI) (cx:=cx) (cG:=cG) (fh:=fh) (dM:=dM) (fY:=fY) (cH:=cH) (cF:=cF) (br:=br) (dN:=dN) (dQ:=dQ) (iG:=iG) (fi:=fi) (s:=⟨cf,af,1,aD,value,bQ,am,reads,ao,aB,set,bJ,aC,au,aQ,aN,av,.bC⟩) (bR:=0) hC.cf))) (J7 rt Bj Ct g1 g2 hwa bL) ?_<;>(unhygienic intros)
     rw[e];refine⟨_,by rfl,rfl,?_⟩;apply bq.bZ
     (·exact sA)
     exact fP
     (·exact pP)
     all_goals(first|exact 0|exact qE)
   have e:=e0.trans ((ar g1).trans (az g2));revert hq hS hw;(repeat clear hS);refine Wp (J4 (Tg.mk (n:=30) (jR b ⟨cf,af,1,aD,value,bQ,am,reads,ao,aB,set,bJ,aC,au,aQ,aN,av,.bC⟩ 1 hf)) (Tg.mk (n:=30) (tj b ⟨cf,af,1,aD,value,bQ,am,reads,ao,aB,set,bJ,aC,au,aQ,aN,av,.bC⟩ 0 a .bC hC.cf)) (Tg.mk (n:=10) (λ{A L K k n}=>xU (A:=A) (L:=L) (K:=K) (k:=k) (n:=n) hC.bJ hC.fg hC.cZ ha)) (Tg.mk (n:=31) (λ{A L K k fn cs fe fA bV dF dB m c0 c1 c2 dL bI cx cG fh dM fY cH cF br dN dQ iG fi}=>lB (A:=A) (L:=L) (K:=K) (k:=k) (fn:=fn) (cs:=cs) (fe:=fe) (fA:=fA) (bV:=bV) (dF:=dF) (dB:=dB) (m:=m) (c0:=c0) (c1:=c1) (c2:=c2) (dL:=dL) (bI:=bI) (cx:=cx) (cG:=cG) (fh:=fh) (dM:=dM) (fY:=fY) (cH:=cH) (cF:=cF) (br:=br) (dN:=dN) (dQ:=dQ) (iG:=iG) (fi:=fi) (s:=⟨cf,af,1,aD,value,bQ,am,reads,ao,aB,set,bJ,aC,au,aQ,aN,av,.bC⟩) (bR:=0)))) (J7 rt Bj Ct g1 g2 hwa bL) ?_<;>(unhygienic intros)
   rw[e];refine⟨_,by rfl,rfl,?_⟩;apply bq.bZ
   (·exact sA)
   exact fP
   (·exact pP)
   all_goals(first|exact 0|exact qE)
 have e:LM s a=(1,s):=ar hf;intro A F hw hS;refine aO Tryz.func75 λ_=>?_
 try dsimp only[aa,ah]at hS
 have hr:=wJ b s 1 hf;exact XK
def TY (b:Nat)(s:aJ)(fa:Int)(hC:iF s):
 bz qZ 144 [pv b,qh qg fa] [.h (bq b s)] (λu=>u=qh qg (Rf s fa).1) (λ_=>[.h (bq b (Rf s fa).2)]):=by
 by_cases hf:s.nT 1=qj
 . skip
   obtain⟨h1,h2⟩:=Bb hf;(unhygienic cases s);dsimp only at h1 h2;subst h1 h2;intro A F hw hS;refine aO Tryz.func144 λ_=>?_;obtain⟨x0,hS⟩:=bq.open hS .z;(unhygienic cases x0);dsimp only[de,jo,dw,ft,bM.dZ,aa,ah]at hS;have hq:=fF hS hw;have hltb:=hw.lt (hS.g 0 rfl);have rt:(b=A.next+1+1)=False:=eq_false Ya;have Bj:(A.next+1+1=b)=False:=eq_false Ya;have Ct:(A.next=A.next+1+1)=False:=eq_false Ya;have sh:=hC.oQ;dsimp only at sh;obtain⟨oa,ca,rfl,_⟩:=(aj.wu hS (.s (.s (.s (.s (.s (.s (.s .z)))))))).cL;have e0:Rf ⟨cf,af,1,aD,value,bQ,am,reads,ao,aB,set,bJ,aC,au,aQ,aN,av,.bC⟩ fa=_:=az hf;dsimp only at e0;by_cases g1:fa<0
   . have e:=e0.trans (az (.inl g1));revert hq hS hw;clear hS;refine Wp (J2 (Tg.mk (n:=30) (jR b ⟨cf,af,1,aD,value,bQ,am,reads,ao,aB,set,bJ,aC,au,aQ,aN,av,.bC⟩ 1 hf)) (od DC)) (J5 rt Bj Ct g1 bL) ?_<;>(unhygienic intros);rw[e];refine⟨_,by rfl,rfl,?_⟩;apply bq.bZ
     (·exact sA)
     exact fP
     (·exact pP)
     all_goals(exact 0)
   by_cases g2:4<=fa
   . have e:=e0.trans (az (.inr g2));revert hq hS hw;(repeat clear hS);refine Wp (J2 (Tg.mk (n:=30) (jR b ⟨cf,af,1,aD,value,bQ,am,reads,ao,aB,set,bJ,aC,au,aQ,aN,av,.bC⟩ 1 hf)) (od DC)) (J6 rt Bj Ct g1 g2 bL) ?_<;>(unhygienic intros);rw[e];refine⟨_,by rfl,rfl,?_⟩;apply bq.bZ
     (·exact sA)
     exact fP
     (·exact pP)
     all_goals(exact 0)
   by_cases g3:cf.ao<=U ao
   . have e:=e0.trans ((ar Ya).trans (az g3));revert hq hS hw;(repeat clear hS);refine Wp (J3 (Tg.mk (n:=30) (jR b ⟨cf,af,1,aD,value,bQ,am,reads,ao,aB,set,bJ,aC,au,aQ,aN,av,.bC⟩ 1 hf)) (Tg.mk (n:=31) (λ{A L K k fn cs fe fA bV dF dB m c0 c1 c2 dL bI cx cG fh dM fY cH cF br dN dQ iG fi}=>lB (A:=A) (L:=L) (K:=K) (k:=k) (fn:=fn) (cs:=cs) (fe:=fe) (fA:=fA) (bV:=bV) (dF:=dF) (dB:=dB) (m:=m) (c0:=c0) (c1:=c1) (c2:=c2) (dL:=dL) (bI:=bI) (cx:=cx) (cG:=cG) (fh:=fh) (dM:=dM) (fY:=fY) (cH:=cH) (cF:=cF) (br:=br) (dN:=dN) (dQ:=dQ) (iG:=iG) (fi:=fi) (s:=⟨cf,af,1,aD,value,bQ,am,reads,ao,aB,set,bJ,aC,au,aQ,aN,av,.bC⟩) (bR:=0))) (od DC)) (J7 rt Bj Ct g1 g2 g3 bL) ?_<;>(unhygienic intros);rw[e];refine⟨_,by rfl,rfl,?_⟩;apply bq.bZ
     (·exact sA)
     exact fP
     (·exact pP)
     all_goals(first|exact 0|exact qE)
   have e:=e0.trans ((ar Ya).trans (ar g3));revert hq hS hw;(repeat clear hS);refine Wu (J4 (Tg.mk (n:=30) (jR b ⟨cf,af,1,aD,value,bQ,am,reads,ao,aB,set,bJ,aC,au,aQ,aN,av,.bC⟩ 1 hf)) (od DC) @PF (⟨⟩:Os (λA'=>A'.bk A.next=qf (aM (pv b))) [(0,0),(1,1),(2,0),(3,2),(4,0),(5,0),(6,3),(7,0),(8,0),(9,0),(10,3)])) (J7 rt Bj Ct g1 g2 g3 bL) ?_<;>(unhygienic intros);rw[e];refine⟨_,by rfl,rfl,?_⟩;apply bq.bZ
   (·exact sA)
   exact fP
   (·exact pP)
   all_goals(first|exact 0|exact qE)
 have e:Rf s fa=(1,s):=ar hf;intro A F hw hS;refine aO Tryz.func144 λ_=>?_
 try dsimp only[aa,ah]at hS
 have hr:=wJ b s 1 hf;revert hS hw;refine Wp (J2 (Tg.mk (n:=10) (λ{A L K k}=>gg (A:=A) (L:=L) (K:=K) (k:=k) hr)) (od DC)) (J1 bL) ?_<;>(unhygienic intros);rw[e];refine⟨_,by rfl,rfl,?_⟩;exact XM
def WK (b:Nat)(s:aJ)(a:Int)(hC:iF s):
 bz qZ 145 [pv b,qh qr a] [.h (bq b s)] (λu=>u=qh qg (QE s a).1) (λ_=>[.h (bq b (QE s a).2)]):=by
 by_cases hf:s.nT 1=qj
 . skip
   obtain⟨h1,h2⟩:=Bb hf;(unhygienic cases s);dsimp only at h1 h2;subst h1 h2;intro A F hw hS;refine aO Tryz.func145 λ_=>?_;obtain⟨x0,hS⟩:=bq.open hS .z;(unhygienic cases x0);dsimp only[de,jo,dw,ft,bM.dZ,aa,ah]at hS;have hq:=fF hS hw;have hltb:=hw.lt (hS.g 0 rfl);have rt:(b=A.next+1+1)=False:=eq_false Ya;have Bj:(A.next+1+1=b)=False:=eq_false Ya;have Ct:(A.next=A.next+1+1)=False:=eq_false Ya;have hwd:=hC.cf.bm;have IP:=hC.cf.nb;dsimp only at hwd IP;have hfc:=WN cf hC.cf a;dsimp only[bu.v]at hfc;have hfb:mq cf a<=64:=findF_le hC.cf a;have e0:QE ⟨cf,af,1,aD,value,bQ,am,reads,ao,aB,set,bJ,aC,au,aQ,aN,av,.bC⟩ a=_:=az hf;dsimp only at e0;generalize mq cf a=q at *;by_cases g1:q<0
   . have e:=e0.trans (az g1);revert hq hS hw;clear hS;refine Wp (J4 (Tg.mk (n:=30) (jR b ⟨cf,af,1,aD,value,bQ,am,reads,ao,aB,set,bJ,aC,au,aQ,aN,av,.bC⟩ 1 hf)) (Tg.mk (n:=31) (λ{A L K k fn cs fe fA bV dF dB m c0 c1 c2 dL bI cx cG fh dM fY cH cF br dN dQ iG fi}=>lB (A:=A) (L:=L) (K:=K) (k:=k) (fn:=fn) (cs:=cs) (fe:=fe) (fA:=fA) (bV:=bV) (dF:=dF) (dB:=dB) (m:=m) (c0:=c0) (c1:=c1) (c2:=c2) (dL:=dL) (bI:=bI) (cx:=cx) (cG:=cG) (fh:=fh) (dM:=dM) (fY:=fY) (cH:=cH) (cF:=cF) (br:=br) (dN:=dN) (dQ:=dQ) (iG:=iG) (fi:=fi) (s:=⟨cf,af,1,aD,value,bQ,am,reads,ao,aB,set,bJ,aC,au,aQ,aN,av,.bC⟩) (bR:=0))) (od AR) @hfc) (J5 rt Bj Ct g1 bL) ?_<;>(unhygienic intros);rw[e];refine⟨_,by rfl,rfl,?_⟩;apply bq.bZ
     (·exact sA)
     exact fP
     (·exact pP)
     all_goals(first|exact 0|exact qE)
   have hwa:Zb.wrap (cf.bm+q)=cf.bm+q:=an Ya Ya;cases g2:(mG bJ (cf.bm+q)).2
   . have e:=e0.trans ((ar g1).trans (ar (by rw[g2];simp)))
     repeat' (first|(refine lz λR hR=>?_;simp[hq,Ct,g1,g2,hwa,AW.ab,aI];try simp(disch:=omega)only[az,ar,an,ax])|(refine hR _ _ ?_;clear hR R)|(refine hK _ _ ?_;clear hK K)|refine nx ?_|refine wn λK hK=>?_|simp only[wS,AR]|refine wl Zm AR Yc λK hK=>?_|(refine bT (hfc _) ?_;rintro _ _⟨rfl,rfl⟩_ _)|(apply Gj (jR b ⟨cf,af,1,aD,value,bQ,am,reads,ao,aB,set,bJ,aC,au,aQ,aN,av,.bC⟩ 1 hf);(·exact wA);(·exact sA);(·exact fP);all_goals(try (exact 0)))|(apply xU hC.bJ hC.fg hC.cZ Ya;(·exact wA);(·exact sA);(·exact kP);)|(apply HS (s:=⟨cf,af,1,aD,value,bQ,am,reads,ao,aB,set,bJ,aC,au,aQ,aN,av,.bC⟩) (bR:=0) hC.cf;(·exact wA);(·exact sA);(·exact fP);((rintro _ _ _ hS hw);(try dsimp only[de,AW.bn,aa,ah]at hS);have hq:=fF hS hw);all_goals(try (exact 0)))|(show df _ _ _ _ _ _;refine nx ?_)|(refine wc rfl (λhc=>?_) (λhc=>?_)<;>(try simp at hc)))
     rw[e];refine⟨_,by rfl,rfl,?_⟩;apply bq.bZ
     (·exact sA)
     exact fP
     (·exact pP)
     all_goals(first|exact 0|exact qE)
   have e:=e0.trans ((ar g1).trans (az g2))
   repeat' (first|(refine lz λR hR=>?_;simp[hq,Ct,g1,g2,hwa,AW.ab,aI];try simp(disch:=omega)only[az,ar,an,ax])|(refine hR _ _ ?_;clear hR R)|(refine hK _ _ ?_;clear hK K)|refine nx ?_|refine wn λK hK=>?_|simp only[wS,AR]|refine wl Zm AR Yc λK hK=>?_|(refine bT (hfc _) ?_;rintro _ _⟨rfl,rfl⟩_ _)|(apply Gj (jR b ⟨cf,af,1,aD,value,bQ,am,reads,ao,aB,set,bJ,aC,au,aQ,aN,av,.bC⟩ 1 hf);(·exact wA);(·exact sA);(·exact fP);all_goals(try (exact 0)))|(apply xU hC.bJ hC.fg hC.cZ Ya;(·exact wA);(·exact sA);(·exact kP);)|(apply lB (s:=⟨cf,af,1,aD,value,bQ,am,reads,ao,aB,set,bJ,aC,au,aQ,aN,av,.bC⟩) (bR:=0);(·exact wA);(·exact sA);(·exact fP);((rintro _ _ hS hw);(try dsimp only[de,AW.bn,aa,ah]at hS);have hq:=fF hS hw);all_goals(try (exact 0)))|(show df _ _ _ _ _ _;refine nx ?_)|(refine wc rfl (λhc=>?_) (λhc=>?_)<;>(try simp at hc)))
   rw[e];refine⟨_,by rfl,rfl,?_⟩;apply bq.bZ
   (·exact sA)
   exact fP
   (·exact pP)
   all_goals(first|exact 0|exact qE)
 have e:QE s a=(1,s):=ar hf;intro A F hw hS;refine aO Tryz.func145 λ_=>?_
 try dsimp only[aa,ah]at hS
 have hr:=wJ b s 1 hf;revert hS hw;refine Wp (J2 (Tg.mk (n:=10) (λ{A L K k}=>gg (A:=A) (L:=L) (K:=K) (k:=k) hr)) (od AR)) (J1 bL) ?_<;>(unhygienic intros);rw[e];refine⟨_,by rfl,rfl,?_⟩;exact XM
end
section
open T12 T13
variable [Gl]
def aj.gR {A:AW}{L K:List It}{i:Nat}{o:dt}(h:aj A L)(hp:aF L (.at i o) K):A.bk i=qf o:=by unfold aj at h;rw[hp.aP]at h;exact bD.bk h
def tf (b c:Nat)(s:aJ)(v:Int)(hd:s.aH=.bC):
 bz qZ 135 [qh qr v,pv c] [.h (bq b s),.at c (aM (pv b))] (λ_=>True) (λ_=>[.h (bq b { s with value:=v })]):=by
 (unhygienic cases s);dsimp only at hd;subst hd;intro A F hw hS;refine aO Tryz.func135 λ_=>?_;dsimp only[aa,ah]at hS;obtain⟨x0,hS⟩:=bq.open hS .z;(unhygienic cases x0);dsimp only[de,jo,dw,ft,bM.dZ,aa,ah]at hS;have hq:=fF hS hw;revert hq hS hw;clear hS;refine Wp db (J1 bL) ?_<;>(unhygienic intros);refine⟨_,by rfl,trivial,?_⟩;apply bq.bZ
 (·exact sA)
 exact fP
 (·exact pP)
 all_goals(exact 0)
def vK (b c c':Nat)(s:aJ)(k v:Int)(hd:s.aH=.bC)(hC:iF s)(hk:0<=k/\k<s.cf.nb):
 bz qZ 231 [qh qr v,pv c,pv c'] [.h (bq b s),.at c (aM (pv b)),.at c' (aM (qh qg k))] (λ_=>True) (λ_=>[.h (bq b (ji s k v))]):=by intro A F hw hS;refine aO Tryz.func231 λ_=>?_;dsimp only[aa,ah]at hS;have hq:=gv hS hw;revert hq hS hw;refine Wp (J1 (I2 b s k v hd hC hk)) (J1 bL) ?_<;>(unhygienic intros);refine⟨_,by rfl,trivial,?_⟩;exact XM
def MB (b c:Nat)(s:aJ)(hd:s.aH=.bC)(hC:iF s):
 bz qZ 134 [pv c] [.h (bq b s),.at c (aM (pv b))] (λ_=>True) (λ_=>[.h (bq b (nB s 7))]):=by intro A F hw hS;refine aO Tryz.func134 λ_=>?_;dsimp only[aa,ah]at hS;have hq:=gv hS hw;revert hq hS hw;refine Wp (J1 (Ag b s 7 hd hC)) (J1 bL) ?_<;>(unhygienic intros);refine⟨_,by rfl,trivial,?_⟩;exact XM
def MD (b c:Nat)(s:aJ)(hd:s.aH=.bC)(hC:iF s):
 bz qZ 228 [pv c] [.h (bq b s),.at c (aM (pv b))] (λ_=>True) (λ_=>[.h (bq b (nB s 8))]):=by intro A F hw hS;refine aO Tryz.func228 λ_=>?_;dsimp only[aa,ah]at hS;have hq:=gv hS hw;revert hq hS hw;refine Wp (J1 (Ag b s 8 hd hC)) (J1 bL) ?_<;>(unhygienic intros);refine⟨_,by rfl,trivial,?_⟩;exact XM
def MC (b c c':Nat)(s:aJ)(aD:Int)(hd:s.aH=.bC)(hC:iF s):
 bz qZ 131 [pv c,pv c'] [.h (bq b s),.at c (aM (pv b)),.at c' (aM (qh qg aD))] (λ_=>True) (λ_=>[.h (bq b (nB s aD))]):=by intro A F hw hS;refine aO Tryz.func131 λ_=>?_;dsimp only[aa,ah]at hS;have hq:=gv hS hw;revert hq hS hw;refine Wp (J1 (Ag b s aD hd hC)) (J1 bL) ?_<;>(unhygienic intros);refine⟨_,by rfl,trivial,?_⟩;exact XM
def Kr (b c:Nat)(s:aJ)(hd:s.aH=.bC)(hC:iF s):
 bz qZ 223 [pv c] [.h (bq b s),.at c (aM (pv b))] (λ_=>True) (λ_=>[.h (bq b (kM s 3))]):=by
 have hu:bz qZ 180 [pv b,qh qg 3] [.h (bq b s)] (λ_=>True) (λ_=>[.h (bq b (kM s 3))]):=λA F hw hS=>(kg b s s.aH.dZ 3 s.aH hC.cf hC.al hC.push (Z4 hC.oQ Yd)) A F hw (bq.toB hS .z)
 intro A F hw hS;refine aO Tryz.func223 λ_=>?_;dsimp only[aa,ah]at hS;have hq:=gv hS hw;revert hq hS hw;refine Wp (J1 @hu) (J1 bL) ?_<;>(unhygienic intros);refine⟨_,by rfl,trivial,?_⟩;exact XM
def HB (b c c' c2:Nat)(s:aJ)(k v:Int)(hd:s.aH=.bC)(hC:iF s)(hk:0<=k/\k<s.cf.nb):
 bz qZ 229 [pv c,pv c',pv c2] [.h (bq b s),.at c (aM (pv b)),.at c' (aM (qh qg k)),.at c2 (aM (qh qr v))] (λ_=>True) (λ_=>[.h (bq b (ji s k v))]):=by intro A F hw hS;refine aO Tryz.func229 λ_=>?_;dsimp only[aa,ah]at hS;have hq:=gv hS hw;revert hq hS hw;refine Wp (J1 (I2 b s k v hd hC hk)) (J1 bL) ?_<;>(unhygienic intros);refine⟨_,by rfl,trivial,?_⟩;exact XM
def Kq (b c c' c2:Nat)(s:aJ)(v:Int)(hd:s.aH=.bC):
 bz qZ 137 [pv c,pv c'] [.h (bq b s),.at c (aM (.func (.func 135) #[] #[pv c2])),.at c' (aM (qh qr v)),.at c2 (aM (pv b))] (λ_=>True) (λ_=>[.h (bq b { s with value:=v })]):=by intro A F hw hS;refine aO Tryz.func137 λ_=>?_;dsimp only[aa,ah]at hS;have hq:=gv hS hw;revert hq hS hw;refine Wp (J1 (tf b c2 s v hd)) (J1 bL) ?_<;>(unhygienic intros);refine⟨_,by rfl,trivial,?_⟩;exact XM
def HA (b c c' c2:Nat)(s:aJ)(a v:Int)(hd:s.aH=.bC)(hC:iF s)(ha:0<=a):
 bz qZ 140 [pv c,pv c',pv c2] [.h (bq b s),.at c (aM (pv b)),.at c' (aM (qh qr a)),.at c2 (aM (qh qr v))] (λ_=>True) (λ_=>[.h (bq b (r9 s (.mA a v)))]):=by
 have hwd:=hC.cf.bm;have ho:∀A',A'.Wf->aj A' [.h (bq b s)]->fQ 133 [pv b,qh qr a] A' (qt (decide (s.cf.bm<=a))):=λA' h1 h2=>tj b s s.aH.dZ a s.aH hC.cf A' h1 (bq.toB h2 .z);by_cases h:s.cf.bm<=a;have e:r9 s (.mA a v)=nB s 7:=az h;rw[e];intro A F hw hS;refine aO Tryz.func140 λ_=>?_;dsimp only[aa,ah]at hS;have hq:=gv hS hw;revert hq hS hw;refine Wp (J2 (Tg.mk (n:=10) (λ{A L K k}=>gg (A:=A) (L:=L) (K:=K) (k:=k) ho)) (Ag b s 7 hd hC)) (J2 h bL) ?_<;>(unhygienic intros);refine⟨_,by rfl,trivial,?_⟩;apply aj.bZ
 (·exact sA)
 (·exact pP)
 have e:r9 s (.mA a v)=(jr s a v).2:=ar h;rw[e];have hwa:Zb.wrap a=a:=an Ya Ya;intro A F hw hS;refine aO Tryz.func140 λ_=>?_;dsimp only[aa,ah]at hS;have hq:=gv hS hw;revert hq hS hw;refine Wp (J2 (Tg.mk (n:=10) (λ{A L K k}=>gg (A:=A) (L:=L) (K:=K) (k:=k) ho)) (zC b s a v hd hC ha)) (J3 h hwa bL) ?_<;>(unhygienic intros);refine⟨_,by rfl,trivial,?_⟩;exact XM
def HC (b m c c':Nat)(s:aJ)(p:sU)(hC:iF { s with aH:=.bC })(sh:U s.ao<8)(hp:p.block<s.cf.nb)(jv:0<=p.fa/\p.fa<=3):
 bz qZ 225 [pv c,pv c'] [.h (AttX b { s with aH:=.bC } 0 p),.at c (aM (pv b)),.at c' (aM (qh qg p.fa))] (λ_=>True) (λ_=>[.h (bq b (fb { s with aH:=.bC } p.fa p.block))]):=by intro A F hw hS;refine aO Tryz.func225 λ_=>?_;dsimp only[aa,ah]at hS;have hq:=gv hS hw;revert hq hS hw;refine Wp (J1 (JI b s p hC sh hp jv)) (J1 bL) ?_<;>(unhygienic intros);refine⟨_,by rfl,trivial,?_⟩;exact XM
end
section
abbrev UI:List (Nat×Nat):=[(0,0),(1,0),(2,2),(3,3),(4,0)]
open T20 T13
variable [Gl]
def Sw (b pb:Nat)(s:iR)(M:Mm)(cy:U s.eD<=U s.au)(Qf:U s.au<2^38):
 bz qZ 188 [pv b,pv pb] [.h (jb b s),eA pb M] (λv=>v=(ep s M).1.v) (λ_=>[.h (jb b (ep s M).2.1),eA pb (ep s M).2.2]):=
 bz.uh (KS b pb s M cy Qf) (by show jb b s*(fp pb M*eY)=_;rw[ei]) (λv=>by show _=GL _*(jb b _*(fp pb _*eY));rw[ei])
def VV (b pb:Nat)(s:jS)(M:Mm)(cy:U s.os=U s.ws):
 bz qZ 208 [pv b,pv pb] [.h (jm b s),eA pb M] (λv=>v=(ii s M).1.v) (λ_=>[.h (jm b (ii s M).2.1),eA pb (ii s M).2.2]):=
 bz.uh (M7 b pb s M cy) (by show jm b s*(fp pb M*eY)=_;rw[ei]) (λv=>by show _=GL _*(jm b _*(fp pb _*eY));rw[ei])
def wrStep_L (b pb:Nat)(s:jS)(M:Mm)(cy:U s.os=U s.ws):
 bz qZ 203 [pv b,pv pb] [.h (jm b s),eA pb M] (λv=>v=(kC s M).1.v) (λ_=>[.h (jm b (kC s M).2.1),eA pb (kC s M).2.2]):=
 bz.uh (OS b pb s M cy) (by show jm b s*(fp pb M*eY)=_;rw[ei]) (λv=>by show _=GL _*(jm b _*(fp pb _*eY));rw[ei])
section
variable {A:AW} {L K:List It} {k:qi->AW->Prop} {n:Nat}
def HX {P:HP}(hS:aj A L)(hp:aF L (.h P) K):bD A (P*aP K):=by exact X6
def tr {s:iR}(hw:A.Wf)(hS:aj A L)(hp:aF L (.h (jb n s)) K)(hk:k (qt s.done) A):aE qZ 189 [pv n] A k:=by refine bT (rQ n s A _ (HX hS hp)) ?_;rintro _ _⟨rfl,rfl⟩_ _;exact hk
def zt {s:jS}(hw:A.Wf)(hS:aj A L)(hp:aF L (.h (jm n s)) K)(hk:k (qt s.done) A):aE qZ 209 [pv n] A k:=by refine bT (xF n s A _ (HX hS hp)) ?_;rintro _ _⟨rfl,rfl⟩_ _;exact hk
def Hu {s:jS}(hw:A.Wf)(hS:aj A L)(hp:aF L (.h (jm n s)) K)(hk:k (qt s.done) A):aE qZ 204 [pv n] A k:=by refine bT (zd n s A _ (HX hS hp)) ?_;rintro _ _⟨rfl,rfl⟩_ _;exact hk
def lX {s:i8}(hw:A.Wf)(hS:aj A L)(hp:aF L (.h (kL n s)) K)(hk:k (qt s.done) A):aE qZ 196 [pv n] A k:=by obtain⟨v,h0⟩:=kL.open hS hp;obtain⟨o,c,rfl,_⟩:=(aj.wu h0 (.s .z)).cL;refine bT (uD n o _ c s.rv s.kI A (h0.g 0 rfl)) ?_;rintro _ _⟨rfl,rfl⟩_ _;exact hk
def Fi (b:Nat)(v:qi)(rv:Int)(f:Bool)(A:AW)(hg:A.bk b=qf (.cells [v,qh qg rv,qt f] qj 1)):fQ 198 [pv b] A (qt f):=by refine aO Tryz.func198 λ_=>?_;refine Wp db (J2 hg @AW.ab) ?_<;>intros;exact XU
def sR {s:i8}(hw:A.Wf)(hS:aj A L)(hp:aF L (.h (kL n s)) K)(hk:k (qt s.kI) A):aE qZ 198 [pv n] A k:=by obtain⟨v,h0⟩:=kL.open hS hp;refine bT (Fi n v s.rv s.kI A (h0.g 0 rfl)) ?_;rintro _ _⟨rfl,rfl⟩_ _;exact hk
def wd {s:ig}(hw:A.Wf)(hS:aj A L)(hp:aF L (.at n (iV s)) K)(hk:k (qh qg s.yN) A):aE qZ 174 [pv n] A k:=by refine bT (Ad n s A (aj.gR hS hp)) ?_;rintro _ _⟨rfl,rfl⟩_ _;exact hk
def wg {s:ig}(hw:A.Wf)(hS:aj A L)(hp:aF L (.at n (iV s)) K)(hk:k (qt (decide (s.bR=3))) A):aE qZ 176 [pv n] A k:=by refine bT (Jg n s A (aj.gR hS hp)) ?_;rintro _ _⟨rfl,rfl⟩_ _;exact hk
def FU {s:sU}(hw:A.Wf)(hS:aj A L)(hp:aF L (.at n (pO s)) K)(hk:k (qt (decide (s.bR=3))) A):aE qZ 186 [pv n] A k:=by refine bT (Ng n s A (aj.gR hS hp)) ?_;rintro _ _⟨rfl,rfl⟩_ _;exact hk
def Dn {s:gy}(hw:A.Wf)(hS:aj A L)(hp:aF L (.at n (iW s)) K)(hk:k (qt (decide (s.bR=3))) A):aE qZ 108 [pv n] A k:=by refine bT (BI n s A (aj.gR hS hp)) ?_;rintro _ _⟨rfl,rfl⟩_ _;exact hk
def mV {s:jk}(hw:A.Wf)(hS:aj A L)(hp:aF L (.at n (kW s)) K)(hk:k (qt s.done) A):aE qZ 192 [pv n] A k:=by refine bT (Ko n s A (aj.gR hS hp)) ?_;rintro _ _⟨rfl,rfl⟩_ _;exact hk
def Hy {s:jk}(hw:A.Wf)(hS:aj A L)(hp:aF L (.at n (kW s)) K)(hk:k (qh qg s.dZ) A):aE qZ 120 [pv n] A k:=by refine bT (GD n s A (aj.gR hS hp)) ?_;rintro _ _⟨rfl,rfl⟩_ _;exact hk
def fK {s:hY}(hw:A.Wf)(hS:aj A L)(hp:aF L (.at n (jB s)) K)(hk:k (qt s.done) A):aE qZ 178 [pv n] A k:=by refine bT (BG n s A (aj.gR hS hp)) ?_;rintro _ _⟨rfl,rfl⟩_ _;exact hk
def eF {s:hY}(hw:A.Wf)(hS:aj A L)(hp:aF L (.at n (jB s)) K)(hk:k (qt s.iO) A):aE qZ 179 [pv n] A k:=by refine bT (Dk n s A (aj.gR hS hp)) ?_;rintro _ _⟨rfl,rfl⟩_ _;exact hk
def lT {s:hY}(hw:A.Wf)(hS:aj A L)(hp:aF L (.at n (jB s)) K)(hk:k (qh qr s.val) A):aE qZ 184 [pv n] A k:=by refine bT (H6 n s A (aj.gR hS hp)) ?_;rintro _ _⟨rfl,rfl⟩_ _;exact hk
def Ds {a:bj}(hw:A.Wf)(hS:aj A L)(hk:∀(u:Unit) A',aj A' L->A'.Wf->A.le A'->k (qh qg (iC a)) A'):aE qZ 187 [a.v] A k:=by refine bT (Pr a A hw) ?_;rintro _ A'⟨rfl,h1⟩lC _;exact hk () A' (hS.le hw h1) lC h1
def BK {a:bj}(hw:A.Wf)(hS:aj A L)(hk:∀(u:Unit) A',aj A' L->A'.Wf->A.le A'->k (qh qg (eJ a)) A'):aE qZ 65 [a.v] A k:=by refine bT (Nh a A hw) ?_;rintro _ A'⟨rfl,h1⟩lC _;exact hk () A' (hS.le hw h1) lC h1
end
def HN (b pb:Nat)(s:aJ)(en:ig)(M:Mm)(hd:s.aH=.dA)(he:s.bQ=qf en):
 bz qZ 109 [pv b,pv pb] [.h (bq b s),eA pb M] (λv=>v=qF #[(go s M en).1.v,qh qg (go s M en).2.1])
  (λ_=>[.h (bq b (go s M en).2.2.1),eA pb (go s M en).2.2.2]):=by
 (unhygienic cases s);dsimp only at hd;subst hd;dsimp only at he;subst he;obtain⟨x,e',M',hr⟩:∃x e' M',fN en M=(x,e',M'):=⟨_,_,_,rfl⟩;have dT:=λn=>Jf n pb en M;rw[hr]at dT;by_cases h:e'.bR=3
 . have e:go ⟨cf,af,aG,aD,value,qf en,am,reads,ao,aB,set,bJ,aC,au,aQ,aN,av,.dA⟩ M en=(x,4,⟨cf,af,aG,aD,value,qf e',am,reads,ao,aB,set,bJ,aC,au,aQ,aN,av,.bC⟩,M'):=by unfold go;rw[hr];exact az h
   rw[e];intro A F hw hS;refine aO Tryz.func109 λ_=>?_;dsimp only[aa,ah]at hS;obtain⟨x0,hS⟩:=bq.open hS .z;(unhygienic cases x0);dsimp only[de,jo,dw,ft,bM.dZ,aa,ah]at hS;have hS:=Ru.op hS (.s .z);have hq:=fF hS hw;revert hq hS hw;clear hS;clear hS;refine Wp (J3 (Tg.mk (n:=10) @wd) (Tg.mk (n:=10) @wg) (dT bV)) (J6 h @rC.eq_1 @rC.eq_2 bL @bx.eq_1 @bj.v.eq_1) ?_<;>(unhygienic intros);refine⟨_,by simp[AW.ab];rfl,by simp[bj.v],?_⟩;apply bq.bZ
   (·exact sA)
   exact fP
   (·exact pP)
   all_goals(exact 0)
 by_cases h2:en.yN=e'.yN
 . have e:go ⟨cf,af,aG,aD,value,qf en,am,reads,ao,aB,set,bJ,aC,au,aQ,aN,av,.dA⟩ M en=(x,2,⟨cf,af,aG,aD,value,qf e',am,reads,ao,aB,set,bJ,aC,au,aQ,aN,av,.dA⟩,M'):=by unfold go;rw[hr];dsimp only;rw[ar h,ar (by simp[h2])]
   rw[e];intro A F hw hS;refine aO Tryz.func109 λ_=>?_;dsimp only[aa,ah]at hS;obtain⟨x0,hS⟩:=bq.open hS .z;(unhygienic cases x0);dsimp only[de,jo,dw,ft,bM.dZ,aa,ah]at hS;have hS:=Ru.op hS (.s .z);have hq:=fF hS hw;revert hq hS hw;(repeat clear hS);refine Wp (J3 (Tg.mk (n:=10) @wd) (Tg.mk (n:=10) @wg) (dT bV)) (J7 h h2 @rC.eq_1 @rC.eq_2 bL @bx.eq_1 @bj.v.eq_1) ?_<;>(unhygienic intros);refine⟨_,by simp[AW.ab];rfl,by simp[bj.v],?_⟩;apply bq.bZ
   (·exact sA)
   exact fP
   (·exact pP)
   all_goals(exact 0)
 have e:go ⟨cf,af,aG,aD,value,qf en,am,reads,ao,aB,set,bJ,aC,au,aQ,aN,av,.dA⟩ M en=(x,3,⟨cf,af,aG,aD,value,qf e',am,reads,ao,aB,set,bJ,aC,au,aQ,aN,av,.dA⟩,M'):=by unfold go;rw[hr];dsimp only;rw[ar h,az h2]
 rw[e];intro A F hw hS;refine aO Tryz.func109 λ_=>?_;dsimp only[aa,ah]at hS;obtain⟨x0,hS⟩:=bq.open hS .z;(unhygienic cases x0);dsimp only[de,jo,dw,ft,bM.dZ,aa,ah]at hS;have hS:=Ru.op hS (.s .z);have hq:=fF hS hw;revert hq hS hw;(repeat clear hS);refine Wp (J3 (Tg.mk (n:=10) @wd) (Tg.mk (n:=10) @wg) (dT bV)) (J7 h h2 @rC.eq_1 @rC.eq_2 bL @bx.eq_1 @bj.v.eq_1) ?_<;>(unhygienic intros);refine⟨_,by simp[AW.ab];rfl,by simp[bj.v],?_⟩;apply bq.bZ
 (·exact sA)
 exact fP
 (·exact pP)
 all_goals(exact 0)
def KA (b pb:Nat)(s:aJ)(p:gy)(M:Mm)(hd:s.aH=.eG p)(hC:iF s)(UX:s.av<U s.ao):
 bz qZ 122 [pv b,pv pb] [.h (bq b s),eA pb M] (λv=>v=qF #[(iT s M p).1.v,qh qg (iT s M p).2.1])
  (λ_=>[.h (bq b (iT s M p).2.2.1),eA pb (iT s M p).2.2.2]):=by
 (unhygienic cases s);dsimp only at hd;subst hd;dsimp only at UX;have sh:=hC.oQ;dsimp only at sh;obtain⟨x,p',M',hr⟩:∃x e' M',dD p M=(x,e',M'):=⟨_,_,_,rfl⟩;have dT:=λn=>vO n pb p M;rw[hr]at dT;have UT:Zb.wrap ((av:Int)+1)=((av+1:Nat):Int):=an Ya Ya;by_cases h:p'.bR=3;have e:iT ⟨cf,af,aG,aD,value,bQ,am,reads,ao,aB,set,bJ,aC,au,aQ,aN,av,.eG p⟩ M p=(x,eJ x,gn ⟨cf,af,aG,aD,value,bQ,am,reads,ao,aB,set,bJ,aC,au,aQ,aN,av+1,.eG p'⟩,M'):=by unfold iT;rw[hr];dsimp only;rw[az h]
 rw[e];intro A F hw hS;refine aO Tryz.func122 λ_=>?_;dsimp only[aa,ah]at hS;obtain⟨x0,hS⟩:=bq.open hS .z;(unhygienic cases x0);dsimp only[de,jo,dw,ft,bM.dZ,aa,ah]at hS;have hq:=fF hS hw;revert hq hS hw;clear hS;refine Wp (J5 (Tg.mk (n:=10) @Dn) (Tg.mk (n:=20) (zU b ⟨cf,af,aG,aD,value,bQ,am,reads,ao,aB,set,bJ,aC,au,aQ,aN,av+1,.eG p'⟩ 13 (.eG p') hC.cf hC.al UX (Z4 hC.oQ Yd))) (Tg.mk (n:=19) (λ{A L k}=>BK (A:=A) (L:=L) (k:=k) (a:=x))) (od UI) (dT m)) (J5 h UT bL @bx.eq_1 @bj.v.eq_1) ?_<;>(unhygienic intros);refine⟨_,by simp[AW.ab];rfl,by simp[bj.v],?_⟩;apply aj.bZ
 (·exact sA)
 (·exact pP)
 have e:iT ⟨cf,af,aG,aD,value,bQ,am,reads,ao,aB,set,bJ,aC,au,aQ,aN,av,.eG p⟩ M p=(x,eJ x,⟨cf,af,aG,aD,value,bQ,am,reads,ao,aB,set,bJ,aC,au,aQ,aN,av,.eG p'⟩,M'):=by unfold iT;rw[hr];dsimp only;rw[ar h]
 rw[e];intro A F hw hS;refine aO Tryz.func122 λ_=>?_;dsimp only[aa,ah]at hS;obtain⟨x0,hS⟩:=bq.open hS .z;(unhygienic cases x0);dsimp only[de,jo,dw,ft,bM.dZ,aa,ah]at hS;have hq:=fF hS hw;revert hq hS hw;(repeat clear hS);refine Wp (J4 (Tg.mk (n:=10) @Dn) (Tg.mk (n:=19) (λ{A L k}=>BK (A:=A) (L:=L) (k:=k) (a:=x))) (od UI) (dT m)) (J5 h UT bL @bx.eq_1 @bj.v.eq_1) ?_<;>(unhygienic intros);refine⟨_,by simp[AW.ab];rfl,by simp[bj.v],?_⟩;apply bq.bZ
 (·exact sA)
 exact fP
 (·exact pP)
 all_goals(first|exact 0|exact qE)
end
section
abbrev UH:List (Nat×Nat):=[(0,0),(1,0),(2,2),(3,3),(4,0)]
open T20 T13
variable [Gl]
def MT (b pb:Nat)(s:aJ)(p:sU)(M:Mm)(hd:s.aH=.eO p)(hC:iF s)(sh:U s.ao<8)(jv:0<=p.fa/\p.fa<=3)(K9:(gB p M).2.1.block<s.cf.nb)(lj:(gB p M).2.1.fa=p.fa):
 bz qZ 111 [pv b,pv pb] [.h (bq b s),eA pb M] (λv=>v=qF #[(lx s M p).1.v,qh qg (lx s M p).2.1])
  (λ_=>[.h (bq b (lx s M p).2.2.1),eA pb (lx s M p).2.2.2]):=by
 (unhygienic cases s);dsimp only at hd;subst hd;dsimp only at sh K9;obtain⟨x,p',M',hr⟩:∃x e' M',gB p M=(x,e',M'):=⟨_,_,_,rfl⟩;have dT:=λn=>Nf n pb p M;rw[hr]at dT K9 lj;dsimp only at K9 lj;by_cases h:p'.bR=3
 . have e:lx ⟨cf,af,aG,aD,value,bQ,am,reads,ao,aB,set,bJ,aC,au,aQ,aN,av,.eO p⟩ M p=(x,iC x,fb ⟨cf,af,aG,aD,value,bQ,am,reads,ao,aB,set,bJ,aC,au,aQ,aN,av,.bC⟩ p.fa p'.block,M'):=by unfold lx;rw[hr];dsimp only;rw[az h]
   rw[e];have hta:=λm c c'=>HC b m c c' ⟨cf,af,aG,aD,value,bQ,am,reads,ao,aB,set,bJ,aC,au,aQ,aN,av,.bC⟩ p' ⟨hC.cf,hC.Rw,hC.bJ,hC.fg,hC.cZ,hC.Mj,hC.alb,hC.oQ,hC.push,hC.set,hC.kS,hC.GQ⟩ sh K9 (by rw[lj];exact jv);rw[lj]at hta;intro A F hw hS;refine aO Tryz.func111 λ_=>?_;dsimp only[aa,ah]at hS;obtain⟨x0,hS⟩:=bq.open hS .z;(unhygienic cases x0);dsimp only[de,jo,dw,ft,bM.dZ,aa,ah]at hS;have hq:=fF hS hw;revert hq hS hw;clear hS;refine Wp (J5 (Tg.mk (n:=10) @FU) (Tg.mk (n:=22) (hta m c0 c1)) (Tg.mk (n:=19) (λ{A L k}=>Ds (A:=A) (L:=L) (k:=k) (a:=x))) (od UH) (dT m)) (J4 h bL @bx.eq_1 @bj.v.eq_1) ?_<;>(unhygienic intros);refine⟨_,by simp[AW.ab];rfl,by (simp[bj.v];done),?_⟩;exact XM
 have e:lx ⟨cf,af,aG,aD,value,bQ,am,reads,ao,aB,set,bJ,aC,au,aQ,aN,av,.eO p⟩ M p=(x,iC x,⟨cf,af,aG,aD,value,bQ,am,reads,ao,aB,set,bJ,aC,au,aQ,aN,av,.eO p'⟩,M'):=by unfold lx;rw[hr];dsimp only;rw[ar h]
 rw[e];intro A F hw hS;refine aO Tryz.func111 λ_=>?_;dsimp only[aa,ah]at hS;obtain⟨x0,hS⟩:=bq.open hS .z;(unhygienic cases x0);dsimp only[de,jo,dw,ft,bM.dZ,aa,ah]at hS;rw[<-lj]at hS;have hq:=fF hS hw;revert hq hS hw;(repeat clear hS);refine Wp (J4 (Tg.mk (n:=10) @FU) (Tg.mk (n:=19) (λ{A L k}=>Ds (A:=A) (L:=L) (k:=k) (a:=x))) (od UH) (dT m)) (J4 h bL @bx.eq_1 @bj.v.eq_1) ?_<;>(unhygienic intros);refine⟨_,by simp[AW.ab];rfl,by (simp[bj.v];done),?_⟩;apply bq.bZ
 (·exact sA)
 exact fP
 (·exact pP)
 all_goals(first|exact 0|exact qE)
def KB (b pb:Nat)(s:aJ)(l:iR)(M:Mm)(hd:s.aH=.ef)(hl:s.aQ=qf l)(cy:U l.eD<=U l.au)(Qf:U l.au<2^38):
 bz qZ 112 [pv b,pv pb] [.h (bq b s),eA pb M] (λv=>v=qF #[(ip s M l).1.v,qh qg (ip s M l).2.1])
  (λ_=>[.h (bq b (ip s M l).2.2.1),eA pb (ip s M l).2.2.2]):=by
 (unhygienic cases s);dsimp only at hd;subst hd;dsimp only at hl;subst hl;obtain⟨x,l',M',hr⟩:∃x e' M',ep l M=(x,e',M'):=⟨_,_,_,rfl⟩;have dT:=λn=>Sw n pb l M cy Qf;rw[hr]at dT;by_cases h:x.fB=3<;>cases h2:l'.done
 . have e:ip ⟨cf,af,aG,aD,value,bQ,am,reads,ao,aB,set,bJ,aC,au,qf l,aN,av,.ef⟩ M l=(x,12,⟨cf,af,aG,aD,value,bQ,am,reads,ao,aB,set,bJ,aC,au,qf l',aN,av,.ef⟩,M'):=by unfold ip;exact X5
   rw[e];intro A F hw hS;refine aO kb5 λ_=>?_;dsimp only[aa,ah]at hS;obtain⟨x0,hS⟩:=bq.open hS .z;(unhygienic cases x0);dsimp only[de,jo,dw,ft,bM.dZ,aa,ah]at hS;have hS:=yr.op hS (.s (.s .z));have hq:=fF hS hw;revert hq hS hw;clear hS;clear hS;refine Wp (J3 (Tg.mk (n:=10) @tr) @pu (dT dF)) (J7 h h2 @kN.eq_1 @kN.eq_2 bL @bx.eq_1 @bj.v.eq_1) ?_<;>(unhygienic intros);refine⟨_,by simp[AW.ab];rfl,by (simp[bj.v,h];done),?_⟩;apply bq.bZ
   (·exact sA)
   exact fP
   (·exact pP)
   all_goals(exact 0)
 . have e:ip ⟨cf,af,aG,aD,value,bQ,am,reads,ao,aB,set,bJ,aC,au,qf l,aN,av,.ef⟩ M l=(x,12,⟨cf,af,aG,aD,value,bQ,am,reads,ao,aB,set,bJ,aC,au,qf l',qf ⟨qn,0,qn⟩,av,.c8⟩,M'):=by unfold ip;exact X5
   rw[e];intro A F hw hS;refine aO kb5 λ_=>?_;dsimp only[aa,ah]at hS;obtain⟨x0,hS⟩:=bq.open hS .z;(unhygienic cases x0);dsimp only[de,jo,dw,ft,bM.dZ,aa,ah]at hS;have hS:=yr.op hS (.s (.s .z));have hq:=fF hS hw;revert hq hS hw;(repeat clear hS);refine Wp (J3 (Tg.mk (n:=10) @tr) @pu (dT dF)) (J7 h h2 @kN.eq_1 @kN.eq_2 bL @bx.eq_1 @bj.v.eq_1) ?_<;>(unhygienic intros);refine⟨_,by simp[AW.ab];rfl,by (simp[bj.v,h];done),?_⟩;apply bq.bZ
   (·exact sA)
   exact fP
   (·exact pP)
   all_goals(exact 0)
 . have e:ip ⟨cf,af,aG,aD,value,bQ,am,reads,ao,aB,set,bJ,aC,au,qf l,aN,av,.ef⟩ M l=(x,11,⟨cf,af,aG,aD,value,bQ,am,reads,ao,aB,set,bJ,aC,au,qf l',aN,av,.ef⟩,M'):=by unfold ip;exact X5
   rw[e];intro A F hw hS;refine aO kb5 λ_=>?_;dsimp only[aa,ah]at hS;obtain⟨x0,hS⟩:=bq.open hS .z;(unhygienic cases x0);dsimp only[de,jo,dw,ft,bM.dZ,aa,ah]at hS;have hS:=yr.op hS (.s (.s .z));have hq:=fF hS hw;revert hq hS hw;(repeat clear hS);refine Wp (J3 (Tg.mk (n:=10) @tr) @pu (dT dF)) (J7 h h2 @kN.eq_1 @kN.eq_2 bL @bx.eq_1 @bj.v.eq_1) ?_<;>(unhygienic intros);refine⟨_,by simp[AW.ab];rfl,by (simp[bj.v];done),?_⟩;apply bq.bZ
   (·exact sA)
   exact fP
   (·exact pP)
   all_goals(exact 0)
 have e:ip ⟨cf,af,aG,aD,value,bQ,am,reads,ao,aB,set,bJ,aC,au,qf l,aN,av,.ef⟩ M l=(x,11,⟨cf,af,aG,aD,value,bQ,am,reads,ao,aB,set,bJ,aC,au,qf l',qf ⟨qn,0,qn⟩,av,.c8⟩,M'):=by unfold ip;exact X5
 rw[e];intro A F hw hS;refine aO kb5 λ_=>?_;dsimp only[aa,ah]at hS;obtain⟨x0,hS⟩:=bq.open hS .z;(unhygienic cases x0);dsimp only[de,jo,dw,ft,bM.dZ,aa,ah]at hS;have hS:=yr.op hS (.s (.s .z));have hq:=fF hS hw;revert hq hS hw;(repeat clear hS);refine Wp (J3 (Tg.mk (n:=10) @tr) @pu (dT dF)) (J7 h h2 @kN.eq_1 @kN.eq_2 bL @bx.eq_1 @bj.v.eq_1) ?_<;>(unhygienic intros);refine⟨_,by simp[AW.ab];rfl,by (simp[bj.v];done),?_⟩;apply bq.bZ
 (·exact sA)
 exact fP
 (·exact pP)
 all_goals(exact 0)
def iu {A:AW}{L K:List It}{k:qi->AW->Prop}{v:qi}{l:List Int}{x:Int}(hw:A.Wf)(hS:aj A L)(hp:aF L (.h (ay qg v l)) K)(hl:U l<2^38)(hk:k (qt (decide (x∈l))) A):
 aE qZ 181 [v,qh qg x] A k:=by refine bT (BY v l x A (aj.wu hS hp) Ya) ?_;rintro _ _⟨rfl,rfl⟩_ _;exact hk
end
section
open T20 T13
variable [Gl]
def Kz (b pb:Nat)(s:aJ)(t:jk)(M:Mm)(hd:s.aH=.c8)(hl:s.aN=qf t)(OH:U s.set<2^38):
 bz qZ 113 [pv b,pv pb] [.h (bq b s),eA pb M] (λv=>v=qF #[(ia s M t).1.v,qh qg (ia s M t).2.1])
  (λ_=>[.h (bq b (ia s M t).2.2.1),eA pb (ia s M t).2.2.2]):=by
 (unhygienic cases s);dsimp only at hd;subst hd;dsimp only at hl OH;subst hl;obtain⟨x,t',M',hr⟩:∃x e' M',gX t M=(x,e',M'):=⟨_,_,_,rfl⟩;have dT:=λn=>Kn n pb t M;rw[hr]at dT;by_cases h:x.fB=4<;>cases h2:t'.done
 . have e:ia ⟨cf,af,aG,aD,value,bQ,am,reads,ao,aB,set,bJ,aC,au,aQ,qf t,av,.c8⟩ M t=(x,13,⟨cf,af,aG,aD,value,bQ,am,reads,ao,aB,set,bJ,aC,au,aQ,qf t',av,.c8⟩,M'):=by unfold ia;exact X5
   rw[e];intro A F hw hS;refine aO kbp λ_=>?_;dsimp only[aa,ah]at hS;obtain⟨x0,hS⟩:=bq.open hS .z;(unhygienic cases x0);dsimp only[de,jo,dw,ft,bM.dZ,aa,ah]at hS;have hS:=Aw.op hS (.s (.s (.s .z)));have hq:=fF hS hw;revert hq hS hw;clear hS;clear hS;refine Wp (J2 (Tg.mk (n:=10) @mV) (dT dB)) (J7 h h2 @jy.eq_1 @jy.eq_2 bL @bx.eq_1 @bj.v.eq_1) ?_<;>(unhygienic intros);refine⟨_,by simp[AW.ab];rfl,by (simp[bj.v,h];done),?_⟩;apply bq.bZ
   (·exact sA)
   exact fP
   (·exact pP)
   all_goals(exact 0)
 . by_cases h3:U set=0
   . have e:ia ⟨cf,af,aG,aD,value,bQ,am,reads,ao,aB,set,bJ,aC,au,aQ,qf t,av,.c8⟩ M t=(x,13,⟨cf,af,aG,aD,value,bQ,am,reads,ao,aB,set,bJ,aC,au,aQ,qf t',av,.bN⟩,M'):=by unfold ia;rw[hr];dsimp only;rw[h2];simp[h,h3]
     rw[e];intro A F hw hS;refine aO kbp λ_=>?_;dsimp only[aa,ah]at hS;obtain⟨x0,hS⟩:=bq.open hS .z;(unhygienic cases x0);dsimp only[de,jo,dw,ft,bM.dZ,aa,ah]at hS;have hS:=Aw.op hS (.s (.s (.s .z)));have hq:=fF hS hw;have h4:∀rv,(i8.mk set rv qn).done=qj:=λrv=>by simp[i8.done,h3]
     revert hq hS hw;(repeat clear hS);refine Wp (J6 (Tg.mk (n:=10) @mV) (Tg.mk (n:=11) @uY) (Tg.mk (n:=11) @tp) (Tg.mk (n:=30) (λA' h1 h2=>wE b ⟨cf,af,aG,aD,value,bQ,am,reads,ao,aB,set,bJ,aC,au,aQ,qf t',av,.c8⟩ 6 .c8 A' h1 h2)) (Tg.mk (n:=10) @lX) (dT dB)) (J8 h h2 h4 @jy.eq_1 @jy.eq_2 bL @bx.eq_1 @bj.v.eq_1) ?_<;>(unhygienic intros);refine⟨_,by simp[AW.ab];rfl,by (simp[bj.v,h];done),?_⟩;apply bq.bZ
     (·exact sA)
     exact fP
     (·exact pP)
     all_goals(exact 0)
   have e:ia ⟨cf,af,aG,aD,value,bQ,am,reads,ao,aB,set,bJ,aC,au,aQ,qf t,av,.c8⟩ M t=(x,13,⟨cf,af,aG,aD,value,bQ,am,reads,ao,aB,set,bJ,aC,au,aQ,qf t',av,.cK ⟨set,aJ.rv ⟨cf,af,aG,aD,value,bQ,am,reads,ao,aB,set,bJ,aC,au,aQ,qf t',av,.c8⟩,qn⟩⟩,M'):=by unfold ia;rw[hr];dsimp only;rw[h2];simp[h,h3,aJ.rv]
   rw[e];intro A F hw hS;refine aO kbp λ_=>?_;dsimp only[aa,ah]at hS;obtain⟨x0,hS⟩:=bq.open hS .z;(unhygienic cases x0);dsimp only[de,jo,dw,ft,bM.dZ,aa,ah]at hS;have hS:=Aw.op hS (.s (.s (.s .z)));have hq:=fF hS hw;have h4:∀rv,(i8.mk set rv qn).done=qn:=λrv=>by simp[i8.done];exact λh=>h3 Yt
   revert hq hS hw;(repeat clear hS);refine Wp (J6 (Tg.mk (n:=10) @mV) (Tg.mk (n:=11) @uY) (Tg.mk (n:=11) @tp) (Tg.mk (n:=30) (λA' h1 h2=>wE b ⟨cf,af,aG,aD,value,bQ,am,reads,ao,aB,set,bJ,aC,au,aQ,qf t',av,.c8⟩ 6 .c8 A' h1 h2)) (Tg.mk (n:=10) @lX) (dT dB)) (J8 h h2 h4 @jy.eq_1 @jy.eq_2 bL @bx.eq_1 @bj.v.eq_1) ?_<;>(unhygienic intros);refine⟨_,by simp[AW.ab];rfl,by (simp[bj.v,h];done),?_⟩;apply bq.bZ
   (·exact sA)
   exact fP
   (·exact pP)
   all_goals(first|exact 0|exact qE)
 . have e:ia ⟨cf,af,aG,aD,value,bQ,am,reads,ao,aB,set,bJ,aC,au,aQ,qf t,av,.c8⟩ M t=(x,14,⟨cf,af,aG,aD,value,bQ,am,reads,ao,aB,set,bJ,aC,au,aQ,qf t',av,.c8⟩,M'):=by unfold ia;exact X5
   rw[e];intro A F hw hS;refine aO kbp λ_=>?_;dsimp only[aa,ah]at hS;obtain⟨x0,hS⟩:=bq.open hS .z;(unhygienic cases x0);dsimp only[de,jo,dw,ft,bM.dZ,aa,ah]at hS;have hS:=Aw.op hS (.s (.s (.s .z)));have hq:=fF hS hw;revert hq hS hw;(repeat clear hS);refine Wp (J2 (Tg.mk (n:=10) @mV) (dT dB)) (J7 h h2 @jy.eq_1 @jy.eq_2 bL @bx.eq_1 @bj.v.eq_1) ?_<;>(unhygienic intros);refine⟨_,by simp[AW.ab];rfl,by (simp[bj.v];done),?_⟩;apply bq.bZ
   (·exact sA)
   exact fP
   (·exact pP)
   all_goals(exact 0)
 by_cases h3:U set=0
 . have e:ia ⟨cf,af,aG,aD,value,bQ,am,reads,ao,aB,set,bJ,aC,au,aQ,qf t,av,.c8⟩ M t=(x,14,⟨cf,af,aG,aD,value,bQ,am,reads,ao,aB,set,bJ,aC,au,aQ,qf t',av,.bN⟩,M'):=by unfold ia;rw[hr];dsimp only;rw[h2];simp[h,h3]
   rw[e];intro A F hw hS;refine aO kbp λ_=>?_;dsimp only[aa,ah]at hS;obtain⟨x0,hS⟩:=bq.open hS .z;(unhygienic cases x0);dsimp only[de,jo,dw,ft,bM.dZ,aa,ah]at hS;have hS:=Aw.op hS (.s (.s (.s .z)));have hq:=fF hS hw;have h4:∀rv,(i8.mk set rv qn).done=qj:=λrv=>by simp[i8.done,h3]
   revert hq hS hw;(repeat clear hS);refine Wp (J6 (Tg.mk (n:=10) @mV) (Tg.mk (n:=11) @uY) (Tg.mk (n:=11) @tp) (Tg.mk (n:=30) (λA' h1 h2=>wE b ⟨cf,af,aG,aD,value,bQ,am,reads,ao,aB,set,bJ,aC,au,aQ,qf t',av,.c8⟩ 6 .c8 A' h1 h2)) (Tg.mk (n:=10) @lX) (dT dB)) (J8 h h2 h4 @jy.eq_1 @jy.eq_2 bL @bx.eq_1 @bj.v.eq_1) ?_<;>(unhygienic intros);refine⟨_,by simp[AW.ab];rfl,by (simp[bj.v];done),?_⟩;apply bq.bZ
   (·exact sA)
   exact fP
   (·exact pP)
   all_goals(exact 0)
 have e:ia ⟨cf,af,aG,aD,value,bQ,am,reads,ao,aB,set,bJ,aC,au,aQ,qf t,av,.c8⟩ M t=(x,14,⟨cf,af,aG,aD,value,bQ,am,reads,ao,aB,set,bJ,aC,au,aQ,qf t',av,.cK ⟨set,aJ.rv ⟨cf,af,aG,aD,value,bQ,am,reads,ao,aB,set,bJ,aC,au,aQ,qf t',av,.c8⟩,qn⟩⟩,M'):=by unfold ia;rw[hr];dsimp only;rw[h2];simp[h,h3,aJ.rv]
 rw[e];intro A F hw hS;refine aO kbp λ_=>?_;dsimp only[aa,ah]at hS;obtain⟨x0,hS⟩:=bq.open hS .z;(unhygienic cases x0);dsimp only[de,jo,dw,ft,bM.dZ,aa,ah]at hS;have hS:=Aw.op hS (.s (.s (.s .z)));have hq:=fF hS hw;have h4:∀rv,(i8.mk set rv qn).done=qn:=λrv=>by simp[i8.done];exact λh=>h3 Yt
 revert hq hS hw;(repeat clear hS);refine Wp (J6 (Tg.mk (n:=10) @mV) (Tg.mk (n:=11) @uY) (Tg.mk (n:=11) @tp) (Tg.mk (n:=30) (λA' h1 h2=>wE b ⟨cf,af,aG,aD,value,bQ,am,reads,ao,aB,set,bJ,aC,au,aQ,qf t',av,.c8⟩ 6 .c8 A' h1 h2)) (Tg.mk (n:=10) @lX) (dT dB)) (J8 h h2 h4 @jy.eq_1 @jy.eq_2 bL @bx.eq_1 @bj.v.eq_1) ?_<;>(unhygienic intros);refine⟨_,by simp[AW.ab];rfl,by (simp[bj.v];done),?_⟩;apply bq.bZ
 (·exact sA)
 exact fP
 (·exact pP)
 all_goals(first|exact 0|exact qE)
def HO (b pb:Nat)(s:aJ)(c:i8)(M:Mm)(hd:s.aH=.cK c)(hol:U s.au<2^20)(hlk:U s.au=0\/∃l,s.aQ=qf l/\U s.au=U l.eD):
 bz qZ 114 [pv b,pv pb] [.h (bq b s),eA pb M] (λv=>v=qF #[(gu s M c).1.v,qh qg (gu s M c).2.1])
  (λ_=>[.h (bq b (gu s M c).2.2.1),eA pb (gu s M c).2.2.2]):=by
 (unhygienic cases s);dsimp only at hd;subst hd;dsimp only at hol hlk;obtain⟨x,c',M',hr⟩:∃x e' M',gx c M=(x,e',M'):=⟨_,_,_,rfl⟩;have dT:=λn=>Jp n pb c M;rw[hr]at dT;cases h2:c'.kI
 . cases h3:c'.done
   . have e:gu ⟨cf,af,aG,aD,value,bQ,am,reads,ao,aB,set,bJ,aC,au,aQ,aN,av,.cK c⟩ M c=(x,15,⟨cf,af,aG,aD,value,bQ,am,reads,ao,aB,set,bJ,aC,au,aQ,aN,av,.cK c'⟩,M'):=by unfold gu;rw[hr];dsimp only;rw[h2,h3];simp
     rw[e];intro A F hw hS;refine aO Tryz.func114 λ_=>?_;dsimp only[aa,ah]at hS;obtain⟨x0,hS⟩:=bq.open hS .z;(unhygienic cases x0);dsimp only[de,jo,dw,ft,bM.dZ,aa,ah]at hS;have hq:=fF hS hw;revert hq hS hw;clear hS;refine Wp (J3 (Tg.mk (n:=10) @sR) (Tg.mk (n:=10) @lX) (dT m)) (J5 h2 h3 bL @bx.eq_1 @bj.v.eq_1) ?_<;>(unhygienic intros);refine⟨_,by simp[AW.ab];rfl,by (simp[bj.v];done),?_⟩;apply bq.bZ
     (·exact sA)
     exact fP
     (·exact pP)
     all_goals(first|exact 0|exact qE)
   have e:gu ⟨cf,af,aG,aD,value,bQ,am,reads,ao,aB,set,bJ,aC,au,aQ,aN,av,.cK c⟩ M c=(x,15,⟨cf,af,aG,aD,value,bQ,am,reads,ao,aB,set,bJ,aC,au,aQ,aN,av,.bN⟩,M'):=by unfold gu;rw[hr];dsimp only;rw[h2,h3];simp
   rw[e];intro A F hw hS;refine aO Tryz.func114 λ_=>?_;dsimp only[aa,ah]at hS;obtain⟨x0,hS⟩:=bq.open hS .z;(unhygienic cases x0);dsimp only[de,jo,dw,ft,bM.dZ,aa,ah]at hS;have hq:=fF hS hw;revert hq hS hw;(repeat clear hS);refine Wp (J3 (Tg.mk (n:=10) @sR) (Tg.mk (n:=10) @lX) (dT m)) (J5 h2 h3 bL @bx.eq_1 @bj.v.eq_1) ?_<;>(unhygienic intros);refine⟨_,by simp[AW.ab];rfl,by (simp[bj.v];done),?_⟩;apply bq.bZ
   (·exact sA)
   exact fP
   (·exact pP)
   all_goals(exact 0)
 have e:gu ⟨cf,af,aG,aD,value,bQ,am,reads,ao,aB,set,bJ,aC,au,aQ,aN,av,.cK c⟩ M c=(x,15,fE ⟨cf,af,aG,9,value,bQ,am,reads,ao,aB,set,bJ,aC,au,aQ,aN,av,.cK c'⟩,M'):=by unfold gu;rw[hr];dsimp only;rw[h2];simp
 rw[e];intro A F hw hS;refine aO Tryz.func114 λ_=>?_;dsimp only[aa,ah]at hS;obtain⟨x0,hS⟩:=bq.open hS .z;(unhygienic cases x0);dsimp only[de,jo,dw,ft,bM.dZ,aa,ah]at hS;have hq:=fF hS hw
 repeat' (first|(refine lz λR hR=>?_;simp[hq,h2,AW.ab,aI,bj.v];try simp(disch:=omega)only[az,ar,an,ax])|(refine hR _ _ ?_;clear hR R)|(refine hK _ _ ?_;clear hK K)|refine nx ?_|refine wn λK hK=>?_|simp only[wS]|(apply bz.gk (dT m);(·exact wA);(·exact sA);(·exact pP);rintro _ _ rfl hS hw _;have hS:=lA hS;have hq:=F8 hS hw)|(apply sR;(·exact wA);(·exact sA);(·exact kP);)|(apply bz.lF (xC b ⟨cf,af,aG,9,value,bQ,am,reads,ao,aB,set,bJ,aC,au,aQ,aN,av,.cK c'⟩ 7 (.cK c') (by exact hol) (by exact hlk));(·exact wA);(·exact sA);(·exact fP);(·exact pP);(rintro _ _ _ hS hw _;have hS:=lA hS);(try (have hq:=F8 hS hw));all_goals(try (first|exact 0|exact qE)))|(show df _ _ _ _ _ _;refine nx ?_)|(refine wc rfl (λhc=>?_) (λhc=>?_)<;>(try simp at hc)))
 refine⟨_,by simp[AW.ab];rfl,by (simp[bj.v];done),?_⟩;exact XM
end
section
abbrev DB:List (Nat×Nat):=[(0,0),(1,2),(2,0),(3,0),(4,0),(5,0),(6,0),(7,0),(8,0),(9,0),(10,0),(11,0),(12,0),(13,0),(14,0)]
abbrev DA:List (Nat×Nat):=[(0,0),(1,0),(2,0),(3,0),(4,0),(5,0),(6,0),(8,0),(9,0),(10,0),(11,0),(12,0),(7,2),(13,2),(14,2),(15,0),(16,0),(17,3),(18,0),(19,0),(20,0),(21,3)]
open T20 T13
variable [Gl]
def EJ (b pb:Nat)(s:aJ)(w:jS)(M:Mm)(hd:s.aH=.bG w)(cy:U w.os=U w.ws):
 bz qZ 117 [pv b,pv pb] [.h (bq b s),eA pb M] (λv=>v=qF #[(nM s M w).1.v,qh qg (nM s M w).2.1])
  (λ_=>[.h (bq b (nM s M w).2.2.1),eA pb (nM s M w).2.2.2]):=by
 (unhygienic cases s);dsimp only at hd;subst hd;obtain⟨x,w',M',hr⟩:∃x e' M',ii w M=(x,e',M'):=⟨_,_,_,rfl⟩;have dT:=λn=>VV n pb w M cy;rw[hr]at dT;have hvv:∀dd,aJ.pX ⟨cf,af,aG,aD,value,bQ,am,reads,ao,aB,set,bJ,aC,au,aQ,aN,av,dd⟩=aJ.pX ⟨cf,af,aG,aD,value,bQ,am,reads,ao,aB,set,bJ,aC,au,aQ,aN,av,.bG w⟩:=λdd=>rfl;obtain⟨vr,hvr⟩:∃vr,aJ.pX ⟨cf,af,aG,aD,value,bQ,am,reads,ao,aB,set,bJ,aC,au,aQ,aN,av,.bG w⟩=vr:=⟨_,rfl⟩;rw[hvr]at hvv;cases h2:w'.done
 . have e:nM ⟨cf,af,aG,aD,value,bQ,am,reads,ao,aB,set,bJ,aC,au,aQ,aN,av,.bG w⟩ M w=(x,18,⟨cf,af,aG,aD,value,bQ,am,reads,ao,aB,set,bJ,aC,au,aQ,aN,av,.bG w'⟩,M'):=by unfold nM;rw[hr];dsimp only;rw[h2];simp
   rw[e];intro A F hw hS;refine aO Tryz.func117 λ_=>?_;dsimp only[aa,ah]at hS;obtain⟨x0,hS⟩:=bq.open hS .z;(unhygienic cases x0);dsimp only[de,jo,dw,ft,bM.dZ,aa,ah]at hS;have hq:=fF hS hw;revert hq hS hw;clear hS;refine Wp (J2 (Tg.mk (n:=10) @zt) (dT m)) (J4 h2 bL @bx.eq_1 @bj.v.eq_1) ?_<;>(unhygienic intros);refine⟨_,by simp[AW.ab];rfl,by (simp[bj.v];done),?_⟩;apply bq.bZ
   (·exact sA)
   exact fP
   (·exact pP)
   all_goals(first|exact 0|exact qE)
 by_cases h:0<=vr
 . have e:nM ⟨cf,af,aG,aD,value,bQ,am,reads,ao,aB,set,bJ,aC,au,aQ,aN,av,.bG w⟩ M w=(x,18,⟨cf,af,aG,aD,value,bQ,am,reads,ao,aB,set,bJ,aC,au,aQ,aN,av,.eR⟩,M'):=by unfold nM;rw[hr];dsimp only;rw[h2,hvr,az rfl,az h]
   rw[e];intro A F hw hS;refine aO Tryz.func117 λ_=>?_;dsimp only[aa,ah]at hS;obtain⟨x0,hS⟩:=bq.open hS .z;(unhygienic cases x0);dsimp only[de,jo,dw,ft,bM.dZ,aa,ah]at hS;have hq:=fF hS hw;revert hq hS hw;(repeat clear hS);refine Wp (J3 (Tg.mk (n:=10) @zt) (Tg.mk (n:=30) (λA' h1 h2=>td b ⟨cf,af,aG,aD,value,bQ,am,reads,ao,aB,set,bJ,aC,au,aQ,aN,av,.bG w'⟩ 12 (.bG w') A' h1 h2)) (dT m)) (J6 h h2 hvv bL @bx.eq_1 @bj.v.eq_1) ?_<;>(unhygienic intros);refine⟨_,by simp[AW.ab];rfl,by (simp[bj.v];done),?_⟩;apply bq.bZ
   (·exact sA)
   exact fP
   (·exact pP)
   all_goals(exact 0)
 have e:nM ⟨cf,af,aG,aD,value,bQ,am,reads,ao,aB,set,bJ,aC,au,aQ,aN,av,.bG w⟩ M w=(x,18,⟨cf,af,aG,aD,value,bQ,am,reads,ao,aB,set,bJ,aC,au,aQ,aN,av,.ey⟩,M'):=by unfold nM;rw[hr];dsimp only;rw[h2,hvr,az rfl,ar h]
 rw[e];intro A F hw hS;refine aO Tryz.func117 λ_=>?_;dsimp only[aa,ah]at hS;obtain⟨x0,hS⟩:=bq.open hS .z;(unhygienic cases x0);dsimp only[de,jo,dw,ft,bM.dZ,aa,ah]at hS;have hq:=fF hS hw;revert hq hS hw;(repeat clear hS);refine Wp (J3 (Tg.mk (n:=10) @zt) (Tg.mk (n:=30) (λA' h1 h2=>td b ⟨cf,af,aG,aD,value,bQ,am,reads,ao,aB,set,bJ,aC,au,aQ,aN,av,.bG w'⟩ 12 (.bG w') A' h1 h2)) (dT m)) (J6 h h2 hvv bL @bx.eq_1 @bj.v.eq_1) ?_<;>(unhygienic intros);refine⟨_,by simp[AW.ab];rfl,by (simp[bj.v];done),?_⟩;apply bq.bZ
 (·exact sA)
 exact fP
 (·exact pP)
 all_goals(exact 0)
def GE (b pb:Nat)(s:aJ)(M:Mm)(hd:s.aH=.bN)(hC:iF s)(hol:U s.au<2^20)(hlk:U s.au=0\/∃l,s.aQ=qf l/\U s.au=U l.eD):
 bz qZ 115 [pv b,pv pb] [.h (bq b s),eA pb M] (λv=>v=qF #[(fo s M).1.v,qh qg (fo s M).2.1])
  (λ_=>[.h (bq b (fo s M).2.2.1),eA pb (fo s M).2.2.2]):=by
 (unhygienic cases s);dsimp only at hd;subst hd;dsimp only at hol hlk;have cy:=hC.len;have hvl:=hC.bJ.SE;dsimp only at cy hvl;obtain⟨x,hx⟩:∃x,iy M 3 0=x:=⟨_,rfl⟩;have dT:=ldL pb M 3 0;rw[hx]at dT;obtain⟨t0,t1⟩:=hC.cf.aC;dsimp only at t0 t1;have hwc:IntKind.u64.wrap cf.aC=cf.aC:=ax Ya Ya;cases h3:aJ.iS ⟨cf,af,aG,aD,value,bQ,am,reads,ao,aB,set,bJ,aC,au,aQ,aN,av,.bN⟩
 . have h4:∀ck dc,aJ.iS ⟨cf,af,aG,aD,value,bQ,dc,reads,ao,aB,set,bJ,ck,au,aQ,aN,av,.bN⟩=qn:=λ_ _=>h3;have e:fo ⟨cf,af,aG,aD,value,bQ,am,reads,ao,aB,set,bJ,aC,au,aQ,aN,av,.bN⟩ M=(x,16,fE ⟨cf,af,aG,aD,value,bQ,qj,reads,ao,aB,set,bJ,x.eV,au,aQ,aN,av,.bN⟩,M):=by unfold fo;rw[hx,h3];simp
   rw[e];intro A F hw hS;refine aO Tryz.func115 λ_=>?_;dsimp only[aa,ah]at hS;obtain⟨x0,hS⟩:=bq.open hS .z;(unhygienic cases x0);dsimp only[de,jo,dw,ft,bM.dZ,aa,ah]at hS;have hq:=fF hS hw
   repeat' (first|(refine lz λR hR=>?_;simp[hq,h4,AW.ab,aI,bj.v];try simp(disch:=omega)only[az,ar,an,ax])|(refine hR _ _ ?_;clear hR R)|(refine hK _ _ ?_;clear hK K)|refine nx ?_|refine wn λK hK=>?_|simp only[wS,DB]|refine wl Zm DB Yc λK hK=>?_|(apply bz.gk (dT);(·exact wA);(·exact sA);(·exact pP);rintro _ _ rfl hS hw _;have hS:=lA hS;have hq:=F8 hS hw)|(apply Gj (λA' h1 h2=>mD b ⟨cf,af,aG,aD,value,bQ,am,reads,ao,aB,set,bJ,x.eV,au,aQ,aN,av,.bN⟩ 8 .bN A' h1 h2);(·exact wA);(·exact sA);(·exact fP);all_goals(try (exact 0)))|(apply Gj (λA' h1 h2=>mD b ⟨cf,af,aG,aD,value,bQ,qj,reads,ao,aB,set,bJ,x.eV,au,aQ,aN,av,.bN⟩ 8 .bN A' h1 h2);(·exact wA);(·exact sA);(·exact fP);all_goals(try (exact 0)))|(apply bz.lF (xC b ⟨cf,af,aG,aD,value,bQ,qj,reads,ao,aB,set,bJ,x.eV,au,aQ,aN,av,.bN⟩ 8 .bN hol hlk);(·exact wA);(·exact sA);(·exact fP);(·exact pP);(rintro _ _ _ hS hw _;have hS:=lA hS);(try (have hq:=F8 hS hw));all_goals(try (exact 0)))|(show df _ _ _ _ _ _;refine nx ?_)|(refine wc rfl (λhc=>?_) (λhc=>?_)<;>(try simp at hc)<;>(try (simp[h4]at hc;done))))
   refine⟨_,by simp[AW.ab];rfl,by (simp[bj.v];done),?_⟩;exact XM
 have h4:∀ck dc,aJ.iS ⟨cf,af,aG,aD,value,bQ,dc,reads,ao,aB,set,bJ,ck,au,aQ,aN,av,.bN⟩=qj:=λ_ _=>h3;by_cases h:cf.aC<=x.eV
 . have e:fo ⟨cf,af,aG,aD,value,bQ,am,reads,ao,aB,set,bJ,aC,au,aQ,aN,av,.bN⟩ M=(x,16,fE ⟨cf,af,aG,6,value,bQ,am,reads,ao,aB,set,bJ,x.eV,au,aQ,aN,av,.bN⟩,M):=by unfold fo;rw[hx,h3,hwc];simp[h]
   rw[e];intro A F hw hS;refine aO Tryz.func115 λ_=>?_;dsimp only[aa,ah]at hS;obtain⟨x0,hS⟩:=bq.open hS .z;(unhygienic cases x0);dsimp only[de,jo,dw,ft,bM.dZ,aa,ah]at hS;have hq:=fF hS hw;revert hq hS hw;(repeat clear hS);refine Wp (J5 (Tg.mk (n:=30) (λA' h1 h2=>mD b ⟨cf,af,aG,aD,value,bQ,am,reads,ao,aB,set,bJ,x.eV,au,aQ,aN,av,.bN⟩ 8 .bN A' h1 h2)) (Tg.mk (n:=20) (xC b ⟨cf,af,aG,6,value,bQ,am,reads,ao,aB,set,bJ,x.eV,au,aQ,aN,av,.bN⟩ 8 .bN hol hlk)) (od DB) (od DA) @dT) (J6 h h4 hwc bL @bx.eq_1 @bj.v.eq_1) ?_<;>(unhygienic intros);refine⟨_,by simp[AW.ab];rfl,by (simp[bj.v];done),?_⟩;exact XM
 have e:fo ⟨cf,af,aG,aD,value,bQ,am,reads,ao,aB,set,bJ,aC,au,aQ,aN,av,.bN⟩ M=(x,16,⟨cf,af,aG,aD,value,bQ,qj,reads,ao,aB,set,bJ,x.eV,au,aQ,aN,av,.dy ⟨bJ.bU,bJ.gi⟩⟩,M):=by unfold fo;rw[hx,h3,hwc];simp[h]
 rw[e];intro A F hw hS;refine aO Tryz.func115 λ_=>?_;dsimp only[aa,ah]at hS;obtain⟨x0,hS⟩:=bq.open hS .z;(unhygienic cases x0);dsimp only[de,jo,dw,ft,bM.dZ,aa,ah]at hS;have hq:=fF hS hw
 repeat' (first|(refine lz λR hR=>?_;simp[hq,h,h4,hwc,AW.ab,aI,bj.v];try simp(disch:=omega)only[az,ar,an,ax])|(refine hR _ _ ?_;clear hR R)|(refine hK _ _ ?_;clear hK K)|refine nx ?_|refine wn λK hK=>?_|simp only[wS,DB,DA]|refine wl Zm DB Yc λK hK=>?_|refine wl Zm DA Yc λK hK=>?_|(apply bz.gk (dT);(·exact wA);(·exact sA);(·exact pP);rintro _ _ rfl hS hw _;have hS:=lA hS;have hq:=F8 hS hw)|(apply Gj (λA' h1 h2=>mD b ⟨cf,af,aG,aD,value,bQ,am,reads,ao,aB,set,bJ,x.eV,au,aQ,aN,av,.bN⟩ 8 .bN A' h1 h2);(·exact wA);(·exact sA);(·exact fP);all_goals(try (exact 0)))|(apply Gj (λA' h1 h2=>mD b ⟨cf,af,aG,aD,value,bQ,qj,reads,ao,aB,set,bJ,x.eV,au,aQ,aN,av,.bN⟩ 8 .bN A' h1 h2);(·exact wA);(·exact sA);(·exact fP);all_goals(try (exact 0)))|(apply xV;(·exact wA);(·exact sA);(·exact kP);(·omega);((rintro _ _ _ hS hw gb);(try refine⟨gb,?_⟩);have hq:=F8 hS hw))|(apply KQ;(·exact wA);(·exact sA);(·exact kP);(·omega);((rintro _ _ _ hS hw gb);(try refine⟨gb,?_⟩);have hq:=F8 hS hw))|(apply Nn;(·exact wA);(·exact sA);(·exact kP);(·exact kP);(·omega);(·omega);((rintro _ _ hS hw gb);(try refine⟨gb,?_⟩);have hq:=F8 hS hw))|(show df _ _ _ _ _ _;refine nx ?_)|(refine wc rfl (λhc=>?_) (λhc=>?_)<;>(try simp at hc)<;>(try (simp[h4]at hc;done))))
 refine⟨_,by simp[AW.ab];rfl,by (simp[bj.v];done),?_⟩;apply bq.bZ
 (·exact sA)
 exact fP
 (·exact pP)
 all_goals(first|exact 0|exact qE)
end
end Go.Stx
