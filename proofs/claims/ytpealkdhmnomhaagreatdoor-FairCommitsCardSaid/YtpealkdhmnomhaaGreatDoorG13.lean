/-
 The program's attempt: requests.
-/
import Derived.Test.YtpealkdhmnomhaaGreatDoorG12
set_option linter.unusedVariables false
set_option linter.unusedSimpArgs false
set_option linter.unusedSectionVars false
set_option maxRecDepth 20000
set_option maxHeartbeats 4000000
open Go.IntKind renaming i64->qY
open Go.Proofs.Tryz renaming prog->qV
open Nat renaming lt_of_le_of_lt->Z8
open Bool renaming false->qk,true->qg
open Go renaming Value->qd,undef->qz
open Go.IntKind renaming i64->qa,u64->qj
open Go.Value renaming bool->qn,int->qb
open Option renaming some->qc
namespace Go.Stx
open Go Go.Proofs
attribute [local irreducible] TW bI cM aV aB aL cU dh
section
open T12 T13
variable [Gl]
section
variable {A:AW} {L K:List It} {k:qd->AW->Prop} {b:Nat} {s:aI} {cr:Int}
theorem ld {fn:Fn} {cs:Array qd} {eT fp b8 dz dv m c0 c1 c2:Nat} {dE bF cF cJ fa dF fJ cK cH br dG dP iw fb:qd} (hw:A.Wf) (hS:aj A L) (e:bf L (cX b s cr .bL ⟨eT,fp,b8,dz,dv,m,c0,c1,c2,dE,bF,cF,cJ,fa,dF,fJ,cK,cH,br,dG,dP,iw,fb⟩) K)
 (hk:∀v A',aj A' (cX b s 1 .bL ⟨eT,fp,b8,dz,dv,m,c0,c1,c2,dE,bF,cF,cJ,fa,dF,fJ,cK,cH,br,dG,.func fn #[] cs,iw,fb⟩++K)->A'.Wf->k v A'):aB qV 172 [pv b,.func fn #[] cs] A k:=by
 have key:bx qV 172 [pv b,.func fn #[] cs] (cX b s cr .bL ⟨eT,fp,b8,dz,dv,m,c0,c1,c2,dE,bF,cF,cJ,fa,dF,fJ,cK,cH,br,dG,dP,iw,fb⟩) (λ_=>True) (λ_=>cX b s 1 .bL ⟨eT,fp,b8,dz,dv,m,c0,c1,c2,dE,bF,cF,cJ,fa,dF,fJ,cK,cH,br,dG,.func fn #[] cs,iw,fb⟩):=by
  intro A F hw hS;refine aK Tryz.func172 λ_=>?_;dsimp only [cX,aa,ah] at hS;have hq:=fv hS hw;revert hq hS hw;clear hS;clear hw;refine Wp cx (J1 bC) ?_<;>(unhygienic intros);refine⟨_,by rfl,trivial,?_⟩;apply aj.bX
  (·exact sA)
  (dsimp only [cX,xI,sX,nD,tz,AV,nG,nA,jQ,sY,sP,AK,sQ,aa,ah])
  (·exact pP)
 exact key.fM hw hS e λv A' _ h1 h2 _=>hk v A' h1 h2
theorem FT {a:Int} {fn:Fn} {cs:Array qd} (hc:da s.cf) {eT fp b8 dz dv m c0 c1 c2:Nat} {dE bF cF cJ fa dF fJ cK cH br dG dP iw fb:qd} (hw:A.Wf) (hS:aj A L) (e:bf L (cX b s cr .bL ⟨eT,fp,b8,dz,dv,m,c0,c1,c2,dE,bF,cF,cJ,fa,dF,fJ,cK,cH,br,dG,dP,iw,fb⟩) K)
 (hk:∀v n A',aj A' (.at n (jw ⟨a,gV s.cf a,s.rv,0,0,0,qk⟩)::(cX b s 3 .bL ⟨eT,fp,b8,dz,dv,m,c0,c1,c2,dE,bF,cF,cJ,pv n,qb qa 0,fJ,cK,cH,br,dG,dP,.func fn #[] cs,qb qa a⟩++K))->A'.Wf->k v A') :
 aB qV 180 [pv b,qb qa a,.func fn #[] cs] A k:=by
 have key:bx qV 180 [pv b,qb qa a,.func fn #[] cs] (cX b s cr .bL ⟨eT,fp,b8,dz,dv,m,c0,c1,c2,dE,bF,cF,cJ,fa,dF,fJ,cK,cH,br,dG,dP,iw,fb⟩) (λ_=>True)
  (λ_=>[.h (td λn=>aO (.at n (jw ⟨a,gV s.cf a,s.rv,0,0,0,qk⟩)::cX b s 3 .bL ⟨eT,fp,b8,dz,dv,m,c0,c1,c2,dE,bF,cF,cJ,pv n,qb qa 0,fJ,cK,cH,br,dG,dP,.func fn #[] cs,qb qa a⟩))]):=by
  intro A F hw hS;refine aK Tryz.func180 λ_=>?_;dsimp only [cX,aa,ah] at hS;have hq:=fv hS hw;have wY:=zm s.cf hc a;dsimp only [aY.v] at wY;revert hq hS hw;(try revert hc);clear hS;clear hw;refine Wp (J3 (Tg.mk (n:=30) (λA' h1 h2=>u9 b s 3 .bL A' h1 h2)) @wY @Ld) (J1 bC) ?_<;>(unhygienic intros);refine⟨_,by rfl,trivial,?_⟩;apply aj.bX (L:=.h (td λn=>aO (.at n (jw ⟨a,gV s.cf a,s.rv,0,0,0,qk⟩)::cX b s 3 .bL ⟨eT,fp,b8,dz,dv,m,c0,c1,c2,dE,bF,cF,cJ,pv n,qb qa 0,fJ,cK,cH,br,dG,dP,.func fn #[] cs,qb qa a⟩))::[.h F]) ?_ (.s .z (.s .z .z));apply aj.bX;apply jp (g:=λn=>.at n (jw ⟨a,gV s.cf a,s.rv,0,0,0,qk⟩)::cX b s 3 .bL ⟨eT,fp,b8,dz,dv,m,c0,c1,c2,dE,bF,cF,cJ,pv n,qb qa 0,fJ,cK,cH,br,dG,dP,.func fn #[] cs,qb qa a⟩)
  (·exact sA)
  (dsimp only [cX,xI,sX,nD,tz,AV,nG,nA,jQ,sY,sP,AK,sQ,aa,ah])
  (·exact pP)
  (·exact pP)
 refine key.fM hw hS e λv A' _ h1 h2 _=>?_;obtain⟨n,h3⟩:=kT h1 .z;exact hk v n A' h3 h2
end
end
section
abbrev Ch:List (Nat×Nat):=[(0,0),(1,0),(2,0),(3,0),(4,0),(5,0),(6,0),(7,0),(8,0),(9,0),(10,0),(11,0)]
abbrev zC:List (Nat×Nat):=[(0,0),(1,0),(2,0),(3,0),(4,0),(5,0),(6,0),(7,0)]
open T12 T13
variable [Gl]
theorem fQ {f:FuncId} {args:List qd} {V:qd} {b:Nat} {s:aI} (hC:∀A':AW,A'.Wf->aj A' [.h (bp b s)]->fD f args A' V)
 {A:AW} {L K:List It} {k:qd->AW->Prop} (hw:A.Wf) (hS:aj A L) (hp:aE L (.h (bp b s)) K) (hk:k V A):aB qV f args A k:=by
 refine bD (hC A hw (aj.bX hS (.s hp .z))) ?_;rintro _ _ ⟨rfl,rfl⟩ _ _;exact hk
theorem jR (b:Nat) (s:aI) (st:Int) (h:s.ga st=qg):∀A':AW,A'.Wf->aj A' [.h (jY b s 0 .bL)]->fD 171 [pv b,qb qa st] A' (qb qa 0):=by
 intro A' h1 h2;have h3:s.aH.gB=0:=by
  unfold aI.ga at h;simp at h;exact h.1
 have:=F9 b s st .bL A' h1 (by rw [h3];exact h2);rwa [ay h] at this
theorem vz (b:Nat) (s:aI) (st:Int) (h:¬s.ga st=qg):∀A':AW,A'.Wf->aj A' [.h (bp b s)]->fD 171 [pv b,qb qa st] A' (qb qa 1):=by
 intro A' h1 h2;have:=F9 b s st s.aH A' h1 (bp.toB h2 .z);rwa [aw h] at this
theorem zJ {s:aI} {st:Int} (h:s.ga st=qg):s.aH=.bL/\s.aF=st:=by
 unfold aI.ga at h;simp at h;refine⟨?_,h.2⟩;have h1:=h.1;revert h1;cases s.aH<;>simp [bJ.gB]
theorem WL {c:aY} (hc:da c) (a:Int):lY c a<=64:=by
 have:=hc.nb;unfold lY;split;rename_i b h;have h1:=List.mem_range.1 (List.mem_of_find?_eq_some h);omega;omega
theorem QE (b:Nat) (s:aI) :
 bx qV 185 [pv b] [.h (bp b s)] (λv=>v=qb qa (gv s).1) (λ_=>[.h (bp b (gv s).2)]):=by
 by_cases hf:s.ga 0=qg
 . skip
   obtain⟨h1,h2⟩:=zJ hf;(unhygienic cases s);dsimp only at h1 h2;subst h1 h2;intro A F hw hS;refine aK Tryz.func185 λ_=>?_;obtain⟨x0,hS⟩:=bp.open hS .z;(unhygienic cases x0);dsimp only [cX,jk,dk,fi,bJ.gB,aa,ah] at hS;have hq:=fv hS hw;have GS:=hw.lt (hS.g 0 rfl);have pE:(b=A.next+1+1)=False:=eq_false Ya;have zN:(A.next+1+1=b)=False:=eq_false Ya;have Bb:(A.next=A.next+1+1)=False:=eq_false Ya;have e:gv ⟨cf,am,0,aD,value,bT,ao,reads,ar,aA,set,bG,aC,av,aP,aN,ax,.bL⟩=(0,_):=ay hf;revert hq hS hw;clear hS;refine Wp (J2 (Tg.mk (n:=30) (jR b ⟨cf,am,0,aD,value,bT,ao,reads,ar,aA,set,bG,aC,av,aP,aN,ax,.bL⟩ 0 hf)) @IF) (J4 pE zN Bb bC) ?_<;>(unhygienic intros);rw [e];refine⟨_,by rfl,rfl,?_⟩;apply bp.bX
   (·exact sA)
   exact fP
   (·exact pP)
   all_goals(exact 0)
 have e:gv s=(1,s):=aw hf;intro A F hw hS;refine aK Tryz.func185 λ_=>?_
 try dsimp only [aa,ah] at hS
 have hr:=vz b s 0 hf;revert hS hw;refine Wp (J1 (Tg.mk (n:=10) (λ{A L K k}=>fQ (A:=A) (L:=L) (K:=K) (k:=k) hr))) (J1 bC) ?_<;>(unhygienic intros);rw [e];refine⟨_,by rfl,rfl,?_⟩;apply aj.bX
 (·exact sA)
 (·exact pP)
theorem Fy (b:Nat) (s:aI) (a v:Int) :
 bx qV 129 [pv b,qb qj a,qb qj v] [.h (bp b s)] (λu=>u=qb qa (H9 s a v).1) (λ_=>[.h (bp b (H9 s a v).2)]):=by
 by_cases hf:s.ga 1=qg
 . skip
   obtain⟨h1,h2⟩:=zJ hf;(unhygienic cases s);dsimp only at h1 h2;subst h1 h2;intro A F hw hS;refine aK Tryz.func129 λ_=>?_;obtain⟨x0,hS⟩:=bp.open hS .z;(unhygienic cases x0);dsimp only [cX,jk,dk,fi,bJ.gB,aa,ah] at hS;have hq:=fv hS hw;have GS:=hw.lt (hS.g 0 rfl);have pE:(b=A.next+1+1)=False:=eq_false Ya;have zN:(A.next+1+1=b)=False:=eq_false Ya;have Bb:(A.next=A.next+1+1)=False:=eq_false Ya;have e:H9 ⟨cf,am,1,aD,value,bT,ao,reads,ar,aA,set,bG,aC,av,aP,aN,ax,.bL⟩ a v=(0,_):=ay hf;revert hq hS hw;clear hS;refine Wp (J2 (Tg.mk (n:=30) (jR b ⟨cf,am,1,aD,value,bT,ao,reads,ar,aA,set,bG,aC,av,aP,aN,ax,.bL⟩ 1 hf)) (Tg.mk (n:=31) (λ{A L K k fn cs eT fp b8 dz dv m c0 c1 c2 dE bF cF cJ fa dF fJ cK cH br dG dP iw fb}=>ld (A:=A) (L:=L) (K:=K) (k:=k) (fn:=fn) (cs:=cs) (eT:=eT) (fp:=fp) (b8:=b8) (dz:=dz) (dv:=dv) (m:=m) (c0:=c0) (c1:=c1) (c2:=c2) (dE:=dE) (bF:=bF) (cF:=cF) (cJ:=cJ) (fa:=fa) (dF:=dF) (fJ:=fJ) (cK:=cK) (cH:=cH) (br:=br) (dG:=dG) (dP:=dP) (iw:=iw) (fb:=fb) (s:=⟨cf,am,1,aD,value,bT,ao,reads,ar,aA,set,bG,aC,av,aP,aN,ax,.bL⟩) (cr:=0)))) (J4 pE zN Bb bC) ?_<;>(unhygienic intros)
   rw [e];refine⟨_,by rfl,rfl,?_⟩;apply bp.bX
   (·exact sA)
   exact fP
   (·exact pP)
   all_goals(first|exact 0|exact qz)
 have e:H9 s a v=(1,s):=aw hf;intro A F hw hS;refine aK Tryz.func129 λ_=>?_
 try dsimp only [aa,ah] at hS
 have hr:=vz b s 1 hf;revert hS hw;refine Wp (J1 (Tg.mk (n:=10) (λ{A L K k}=>fQ (A:=A) (L:=L) (K:=K) (k:=k) hr))) (J1 bC) ?_<;>(unhygienic intros);rw [e];refine⟨_,by rfl,rfl,?_⟩;apply aj.bX
 (·exact sA)
 (·exact pP)
theorem yM (b:Nat) (s:aI) (rq:Int) :
 bx qV 126 [pv b,qb qa rq] [.h (bp b s)] (λu=>u=qb qa (E2 s rq).1) (λ_=>[.h (bp b (E2 s rq).2)]):=by
 by_cases hf:s.ga 1=qg
 . skip
   obtain⟨h1,h2⟩:=zJ hf;(unhygienic cases s);dsimp only at h1 h2;subst h1 h2;intro A F hw hS;refine aK Tryz.func126 λ_=>?_;obtain⟨x0,hS⟩:=bp.open hS .z;(unhygienic cases x0);dsimp only [cX,jk,dk,fi,bJ.gB,aa,ah] at hS;have hq:=fv hS hw;have GS:=hw.lt (hS.g 0 rfl);have pE:(b=A.next+1+1)=False:=eq_false Ya;have zN:(A.next+1+1=b)=False:=eq_false Ya;have Bb:(A.next=A.next+1+1)=False:=eq_false Ya;have e0:E2 ⟨cf,am,1,aD,value,bT,ao,reads,ar,aA,set,bG,aC,av,aP,aN,ax,.bL⟩ rq=_:=ay hf;dsimp only at e0;by_cases g1:rq=1
   . have e:=e0.trans (aw Ya);revert hq hS hw;clear hS;refine Wp (J2 (Tg.mk (n:=30) (jR b ⟨cf,am,1,aD,value,bT,ao,reads,ar,aA,set,bG,aC,av,aP,aN,ax,.bL⟩ 1 hf)) (Tg.mk (n:=31) (λ{A L K k fn cs eT fp b8 dz dv m c0 c1 c2 dE bF cF cJ fa dF fJ cK cH br dG dP iw fb}=>ld (A:=A) (L:=L) (K:=K) (k:=k) (fn:=fn) (cs:=cs) (eT:=eT) (fp:=fp) (b8:=b8) (dz:=dz) (dv:=dv) (m:=m) (c0:=c0) (c1:=c1) (c2:=c2) (dE:=dE) (bF:=bF) (cF:=cF) (cJ:=cJ) (fa:=fa) (dF:=dF) (fJ:=fJ) (cK:=cK) (cH:=cH) (br:=br) (dG:=dG) (dP:=dP) (iw:=iw) (fb:=fb) (s:=⟨cf,am,1,aD,value,bT,ao,reads,ar,aA,set,bG,aC,av,aP,aN,ax,.bL⟩) (cr:=0)))) (J5 pE zN Bb g1 bC) ?_<;>(unhygienic intros);subst g1;rw [e];refine⟨_,by rfl,rfl,?_⟩;apply bp.bX
     (·exact sA)
     exact fP
     (·exact pP)
     all_goals(first|exact 0|exact qz)
   by_cases g2:rq=2
   . have e:=e0.trans (aw Ya);revert hq hS hw;(repeat clear hS);refine Wp (J2 (Tg.mk (n:=30) (jR b ⟨cf,am,1,aD,value,bT,ao,reads,ar,aA,set,bG,aC,av,aP,aN,ax,.bL⟩ 1 hf)) (Tg.mk (n:=31) (λ{A L K k fn cs eT fp b8 dz dv m c0 c1 c2 dE bF cF cJ fa dF fJ cK cH br dG dP iw fb}=>ld (A:=A) (L:=L) (K:=K) (k:=k) (fn:=fn) (cs:=cs) (eT:=eT) (fp:=fp) (b8:=b8) (dz:=dz) (dv:=dv) (m:=m) (c0:=c0) (c1:=c1) (c2:=c2) (dE:=dE) (bF:=bF) (cF:=cF) (cJ:=cJ) (fa:=fa) (dF:=dF) (fJ:=fJ) (cK:=cK) (cH:=cH) (br:=br) (dG:=dG) (dP:=dP) (iw:=iw) (fb:=fb) (s:=⟨cf,am,1,aD,value,bT,ao,reads,ar,aA,set,bG,aC,av,aP,aN,ax,.bL⟩) (cr:=0)))) (J6 pE zN Bb g1 g2 bC) ?_<;>(unhygienic intros);subst g2;rw [e];refine⟨_,by rfl,rfl,?_⟩;apply bp.bX
     (·exact sA)
     exact fP
     (·exact pP)
     all_goals(first|exact 0|exact qz)
   have e:=e0.trans (ay ⟨g1,g2⟩);revert hq hS hw;(repeat clear hS);refine Wp (J1 (Tg.mk (n:=30) (jR b ⟨cf,am,1,aD,value,bT,ao,reads,ar,aA,set,bG,aC,av,aP,aN,ax,.bL⟩ 1 hf))) (J6 pE zN Bb g1 g2 bC) ?_<;>(unhygienic intros);rw [e];refine⟨_,by rfl,rfl,?_⟩;apply bp.bX
   (·exact sA)
   exact fP
   (·exact pP)
   all_goals(exact 0)
 have e:E2 s rq=(1,s):=aw hf;intro A F hw hS;refine aK Tryz.func126 λ_=>?_
 try dsimp only [aa,ah] at hS
 have hr:=vz b s 1 hf;revert hS hw;refine Wp (J1 (Tg.mk (n:=10) (λ{A L K k}=>fQ (A:=A) (L:=L) (K:=K) (k:=k) hr))) (J1 bC) ?_<;>(unhygienic intros);rw [e];refine⟨_,by rfl,rfl,?_⟩;apply aj.bX
 (·exact sA)
 (·exact pP)
theorem Jy (b:Nat) (s:aI) (a:Int) (hC:iu s) (ha:0<=a) :
 bx qV 127 [pv b,qb qj a] [.h (bp b s)] (λu=>u=qb qa (Jz s a).1) (λ_=>[.h (bp b (Jz s a).2)]):=by
 by_cases hf:s.ga 1=qg
 . skip
   obtain⟨h1,h2⟩:=zJ hf;(unhygienic cases s);dsimp only at h1 h2;subst h1 h2;intro A F hw hS;refine aK Tryz.func127 λ_=>?_;obtain⟨x0,hS⟩:=bp.open hS .z;(unhygienic cases x0);dsimp only [cX,jk,dk,fi,bJ.gB,aa,ah] at hS;have hq:=fv hS hw;have GS:=hw.lt (hS.g 0 rfl);have pE:(b=A.next+1+1)=False:=eq_false Ya;have zN:(A.next+1+1=b)=False:=eq_false Ya;have Bb:(A.next=A.next+1+1)=False:=eq_false Ya;have hwd:=hC.cf.bg;dsimp only at hwd;have e0:Jz ⟨cf,am,1,aD,value,bT,ao,reads,ar,aA,set,bG,aC,av,aP,aN,ax,.bL⟩ a=_:=ay hf;dsimp only at e0;by_cases g1:cf.bg<=a
   . have e:=e0.trans (ay g1);revert hq hS hw;clear hS;refine Wp (J3 (Tg.mk (n:=30) (jR b ⟨cf,am,1,aD,value,bT,ao,reads,ar,aA,set,bG,aC,av,aP,aN,ax,.bL⟩ 1 hf)) (Tg.mk (n:=30) (r8 b ⟨cf,am,1,aD,value,bT,ao,reads,ar,aA,set,bG,aC,av,aP,aN,ax,.bL⟩ 0 a .bL hC.cf)) (Tg.mk (n:=31) (λ{A L K k fn cs eT fp b8 dz dv m c0 c1 c2 dE bF cF cJ fa dF fJ cK cH br dG dP iw fb}=>ld (A:=A) (L:=L) (K:=K) (k:=k) (fn:=fn) (cs:=cs) (eT:=eT) (fp:=fp) (b8:=b8) (dz:=dz) (dv:=dv) (m:=m) (c0:=c0) (c1:=c1) (c2:=c2) (dE:=dE) (bF:=bF) (cF:=cF) (cJ:=cJ) (fa:=fa) (dF:=dF) (fJ:=fJ) (cK:=cK) (cH:=cH) (br:=br) (dG:=dG) (dP:=dP) (iw:=iw) (fb:=fb) (s:=⟨cf,am,1,aD,value,bT,ao,reads,ar,aA,set,bG,aC,av,aP,aN,ax,.bL⟩) (cr:=0)))) (J5 pE zN Bb g1 bC) ?_<;>(unhygienic intros);rw [e];refine⟨_,by rfl,rfl,?_⟩;apply bp.bX
     (·exact sA)
     exact fP
     (·exact pP)
     all_goals(first|exact 0|exact qz)
   have hwa:qY.wrap a=a:=af Ya Ya;have hlg:∀x y,mn bG a=(x,y)->(mn bG a).1=x/\(mn bG a).2=y:=λx y h=>by rw [h];exact⟨rfl,rfl⟩
   cases g2:(mn bG a).2
   . have e:=e0.trans ((aw g1).trans (aw (by rw [g2];simp)));revert hq hS hw;(repeat clear hS);refine Wp (J4 (Tg.mk (n:=30) (jR b ⟨cf,am,1,aD,value,bT,ao,reads,ar,aA,set,bG,aC,av,aP,aN,ax,.bL⟩ 1 hf)) (Tg.mk (n:=30) (r8 b ⟨cf,am,1,aD,value,bT,ao,reads,ar,aA,set,bG,aC,av,aP,aN,ax,.bL⟩ 0 a .bL hC.cf)) (Tg.mk (n:=10) (λ{A L K k n}=>wR (A:=A) (L:=L) (K:=K) (k:=k) (n:=n) hC.bG hC.eV hC.cg ha)) (Tg.mk (n:=31) (λ{A L K k fn cs eT fp b8 dz dv m c0 c1 c2 dE bF cF cJ fa dF fJ cK cH br dG dP iw fb}=>FT (A:=A) (L:=L) (K:=K) (k:=k) (fn:=fn) (cs:=cs) (eT:=eT) (fp:=fp) (b8:=b8) (dz:=dz) (dv:=dv) (m:=m) (c0:=c0) (c1:=c1) (c2:=c2) (dE:=dE) (bF:=bF) (cF:=cF) (cJ:=cJ) (fa:=fa) (dF:=dF) (fJ:=fJ) (cK:=cK) (cH:=cH) (br:=br) (dG:=dG) (dP:=dP) (iw:=iw) (fb:=fb) (s:=⟨cf,am,1,aD,value,bT,ao,reads,ar,aA,set,bG,aC,av,aP,aN,ax,.bL⟩) (cr:=0) hC.cf))) (J7 pE zN Bb g1 g2 hwa bC) ?_<;>(unhygienic intros)
     rw [e];refine⟨_,by rfl,rfl,?_⟩;apply bp.bX
     (·exact sA)
     exact fP
     (·exact pP)
     all_goals(first|exact 0|exact qz)
   have e:=e0.trans ((aw g1).trans (ay g2));revert hq hS hw;(repeat clear hS);refine Wp (J4 (Tg.mk (n:=30) (jR b ⟨cf,am,1,aD,value,bT,ao,reads,ar,aA,set,bG,aC,av,aP,aN,ax,.bL⟩ 1 hf)) (Tg.mk (n:=30) (r8 b ⟨cf,am,1,aD,value,bT,ao,reads,ar,aA,set,bG,aC,av,aP,aN,ax,.bL⟩ 0 a .bL hC.cf)) (Tg.mk (n:=10) (λ{A L K k n}=>wR (A:=A) (L:=L) (K:=K) (k:=k) (n:=n) hC.bG hC.eV hC.cg ha)) (Tg.mk (n:=31) (λ{A L K k fn cs eT fp b8 dz dv m c0 c1 c2 dE bF cF cJ fa dF fJ cK cH br dG dP iw fb}=>ld (A:=A) (L:=L) (K:=K) (k:=k) (fn:=fn) (cs:=cs) (eT:=eT) (fp:=fp) (b8:=b8) (dz:=dz) (dv:=dv) (m:=m) (c0:=c0) (c1:=c1) (c2:=c2) (dE:=dE) (bF:=bF) (cF:=cF) (cJ:=cJ) (fa:=fa) (dF:=dF) (fJ:=fJ) (cK:=cK) (cH:=cH) (br:=br) (dG:=dG) (dP:=dP) (iw:=iw) (fb:=fb) (s:=⟨cf,am,1,aD,value,bT,ao,reads,ar,aA,set,bG,aC,av,aP,aN,ax,.bL⟩) (cr:=0)))) (J7 pE zN Bb g1 g2 hwa bC) ?_<;>(unhygienic intros)
   rw [e];refine⟨_,by rfl,rfl,?_⟩;apply bp.bX
   (·exact sA)
   exact fP
   (·exact pP)
   all_goals(first|exact 0|exact qz)
 have e:Jz s a=(1,s):=aw hf;intro A F hw hS;refine aK Tryz.func127 λ_=>?_
 try dsimp only [aa,ah] at hS
 have hr:=vz b s 1 hf;revert hS hw;refine Wp (J1 (Tg.mk (n:=10) (λ{A L K k}=>fQ (A:=A) (L:=L) (K:=K) (k:=k) hr))) (J1 bC) ?_<;>(unhygienic intros);rw [e];refine⟨_,by rfl,rfl,?_⟩;apply aj.bX
 (·exact sA)
 (·exact pP)
theorem QV (b:Nat) (s:aI) (eZ:Int) (hC:iu s) :
 bx qV 186 [pv b,qb qa eZ] [.h (bp b s)] (λu=>u=qb qa (OC s eZ).1) (λ_=>[.h (bp b (OC s eZ).2)]):=by
 by_cases hf:s.ga 1=qg
 . skip
   obtain⟨h1,h2⟩:=zJ hf;(unhygienic cases s);dsimp only at h1 h2;subst h1 h2;intro A F hw hS;refine aK Tryz.func186 λ_=>?_;obtain⟨x0,hS⟩:=bp.open hS .z;(unhygienic cases x0);dsimp only [cX,jk,dk,fi,bJ.gB,aa,ah] at hS;have hq:=fv hS hw;have GS:=hw.lt (hS.g 0 rfl);have pE:(b=A.next+1+1)=False:=eq_false Ya;have zN:(A.next+1+1=b)=False:=eq_false Ya;have Bb:(A.next=A.next+1+1)=False:=eq_false Ya;have rj:=hC.oO;dsimp only at rj;obtain⟨oa,ca,rfl,_⟩:=(aj.tC hS (.s (.s (.s (.s (.s (.s (.s .z)))))))).bR;have e0:OC ⟨cf,am,1,aD,value,bT,ao,reads,ar,aA,set,bG,aC,av,aP,aN,ax,.bL⟩ eZ=_:=ay hf;dsimp only at e0;by_cases g1:eZ<0
   . have e:=e0.trans (ay (.inl g1));revert hq hS hw;clear hS;refine Wp (J2 (Tg.mk (n:=30) (jR b ⟨cf,am,1,aD,value,bT,ao,reads,ar,aA,set,bG,aC,av,aP,aN,ax,.bL⟩ 1 hf)) (od Ch)) (J5 pE zN Bb g1 bC) ?_<;>(unhygienic intros);rw [e];refine⟨_,by rfl,rfl,?_⟩;apply bp.bX
     (·exact sA)
     exact fP
     (·exact pP)
     all_goals(exact 0)
   by_cases g2:4<=eZ
   . have e:=e0.trans (ay (.inr g2));revert hq hS hw;(repeat clear hS);refine Wp (J2 (Tg.mk (n:=30) (jR b ⟨cf,am,1,aD,value,bT,ao,reads,ar,aA,set,bG,aC,av,aP,aN,ax,.bL⟩ 1 hf)) (od Ch)) (J6 pE zN Bb g1 g2 bC) ?_<;>(unhygienic intros);rw [e];refine⟨_,by rfl,rfl,?_⟩;apply bp.bX
     (·exact sA)
     exact fP
     (·exact pP)
     all_goals(exact 0)
   by_cases g3:cf.ar<=ar.length
   . have e:=e0.trans ((aw Ya).trans (ay g3));revert hq hS hw;(repeat clear hS);refine Wp (J3 (Tg.mk (n:=30) (jR b ⟨cf,am,1,aD,value,bT,ao,reads,ar,aA,set,bG,aC,av,aP,aN,ax,.bL⟩ 1 hf)) (Tg.mk (n:=31) (λ{A L K k fn cs eT fp b8 dz dv m c0 c1 c2 dE bF cF cJ fa dF fJ cK cH br dG dP iw fb}=>ld (A:=A) (L:=L) (K:=K) (k:=k) (fn:=fn) (cs:=cs) (eT:=eT) (fp:=fp) (b8:=b8) (dz:=dz) (dv:=dv) (m:=m) (c0:=c0) (c1:=c1) (c2:=c2) (dE:=dE) (bF:=bF) (cF:=cF) (cJ:=cJ) (fa:=fa) (dF:=dF) (fJ:=fJ) (cK:=cK) (cH:=cH) (br:=br) (dG:=dG) (dP:=dP) (iw:=iw) (fb:=fb) (s:=⟨cf,am,1,aD,value,bT,ao,reads,ar,aA,set,bG,aC,av,aP,aN,ax,.bL⟩) (cr:=0))) (od Ch)) (J7 pE zN Bb g1 g2 g3 bC) ?_<;>(unhygienic intros);rw [e];refine⟨_,by rfl,rfl,?_⟩;apply bp.bX
     (·exact sA)
     exact fP
     (·exact pP)
     all_goals(first|exact 0|exact qz)
   have e:=e0.trans ((aw Ya).trans (aw g3));revert hq hS hw;(repeat clear hS);refine Wu (J4 (Tg.mk (n:=30) (jR b ⟨cf,am,1,aD,value,bT,ao,reads,ar,aA,set,bG,aC,av,aP,aN,ax,.bL⟩ 1 hf)) (od Ch) @Nn (⟨⟩:Os (λA'=>A'.bk A.next=qc (aM (pv b))) [(0,0),(1,1),(2,0),(3,2),(4,0),(5,0),(6,3),(7,0),(8,0),(9,0),(10,3)])) (J7 pE zN Bb g1 g2 g3 bC) ?_<;>(unhygienic intros);rw [e];refine⟨_,by rfl,rfl,?_⟩;apply bp.bX
   (·exact sA)
   exact fP
   (·exact pP)
   all_goals(first|exact 0|exact qz)
 have e:OC s eZ=(1,s):=aw hf;intro A F hw hS;refine aK Tryz.func186 λ_=>?_
 try dsimp only [aa,ah] at hS
 have hr:=vz b s 1 hf;revert hS hw;refine Wp (J2 (Tg.mk (n:=10) (λ{A L K k}=>fQ (A:=A) (L:=L) (K:=K) (k:=k) hr)) (od Ch)) (J1 bC) ?_<;>(unhygienic intros);rw [e];refine⟨_,by rfl,rfl,?_⟩;apply aj.bX
 (·exact sA)
 (·exact pP)
theorem TA (b:Nat) (s:aI) (a:Int) (hC:iu s) :
 bx qV 187 [pv b,qb qj a] [.h (bp b s)] (λu=>u=qb qa (N8 s a).1) (λ_=>[.h (bp b (N8 s a).2)]):=by
 by_cases hf:s.ga 1=qg
 . skip
   obtain⟨h1,h2⟩:=zJ hf;(unhygienic cases s);dsimp only at h1 h2;subst h1 h2;intro A F hw hS;refine aK Tryz.func187 λ_=>?_;obtain⟨x0,hS⟩:=bp.open hS .z;(unhygienic cases x0);dsimp only [cX,jk,dk,fi,bJ.gB,aa,ah] at hS;have hq:=fv hS hw;have GS:=hw.lt (hS.g 0 rfl);have pE:(b=A.next+1+1)=False:=eq_false Ya;have zN:(A.next+1+1=b)=False:=eq_false Ya;have Bb:(A.next=A.next+1+1)=False:=eq_false Ya;have hwd:=hC.cf.bg;have ES:=hC.cf.nb;dsimp only at hwd ES;have hfc:=TC cf hC.cf a;dsimp only [aY.v] at hfc;have hfb:lY cf a<=64:=WL hC.cf a;have e0:N8 ⟨cf,am,1,aD,value,bT,ao,reads,ar,aA,set,bG,aC,av,aP,aN,ax,.bL⟩ a=_:=ay hf;dsimp only at e0;generalize lY cf a=q at *;by_cases g1:q<0
   . have e:=e0.trans (ay g1);revert hq hS hw;clear hS;refine Wp (J4 (Tg.mk (n:=30) (jR b ⟨cf,am,1,aD,value,bT,ao,reads,ar,aA,set,bG,aC,av,aP,aN,ax,.bL⟩ 1 hf)) (Tg.mk (n:=31) (λ{A L K k fn cs eT fp b8 dz dv m c0 c1 c2 dE bF cF cJ fa dF fJ cK cH br dG dP iw fb}=>ld (A:=A) (L:=L) (K:=K) (k:=k) (fn:=fn) (cs:=cs) (eT:=eT) (fp:=fp) (b8:=b8) (dz:=dz) (dv:=dv) (m:=m) (c0:=c0) (c1:=c1) (c2:=c2) (dE:=dE) (bF:=bF) (cF:=cF) (cJ:=cJ) (fa:=fa) (dF:=dF) (fJ:=fJ) (cK:=cK) (cH:=cH) (br:=br) (dG:=dG) (dP:=dP) (iw:=iw) (fb:=fb) (s:=⟨cf,am,1,aD,value,bT,ao,reads,ar,aA,set,bG,aC,av,aP,aN,ax,.bL⟩) (cr:=0))) (od zC) @hfc) (J5 pE zN Bb g1 bC) ?_<;>(unhygienic intros);rw [e];refine⟨_,by rfl,rfl,?_⟩;apply bp.bX
     (·exact sA)
     exact fP
     (·exact pP)
     all_goals(first|exact 0|exact qz)
   have hwa:qY.wrap (cf.bg+q)=cf.bg+q:=af Ya Ya;cases g2:(mn bG (cf.bg+q)).2
   . have e:=e0.trans ((aw g1).trans (aw (by rw [g2];simp)))
     repeat' (first|(refine iT λR hR=>?_;simp [hq,Bb,g1,g2,hwa,AW.ab,aG];try simp (disch:=omega) only [ay,aw,af,an])|(refine hR _ _ ?_;clear hR R)|(refine hK _ _ ?_;clear hK K)|refine nx ?_|refine wn λK hK=>?_|simp only [wS,zC]|refine wl Tryz.mx zC Yc λK hK=>?_|(refine bD (hfc _) ?_;rintro _ _ ⟨rfl,rfl⟩ _ _)|(apply Es (jR b ⟨cf,am,1,aD,value,bT,ao,reads,ar,aA,set,bG,aC,av,aP,aN,ax,.bL⟩ 1 hf);(·exact wA);(·exact sA);(·exact fP);all_goals(try (exact 0)))|(apply wR hC.bG hC.eV hC.cg Ya;(·exact wA);(·exact sA);(·exact kP);)|(apply FT (s:=⟨cf,am,1,aD,value,bT,ao,reads,ar,aA,set,bG,aC,av,aP,aN,ax,.bL⟩) (cr:=0) hC.cf;(·exact wA);(·exact sA);(·exact fP);((rintro _ _ _ hS hw);(try dsimp only [cX,AW.be,aa,ah] at hS);have hq:=fv hS hw);all_goals(try (exact 0)))|(show cM _ _ _ _ _ _;refine nx ?_)|(refine wc rfl (λhc=>?_) (λhc=>?_)<;>(try simp at hc)))
     rw [e];refine⟨_,by rfl,rfl,?_⟩;apply bp.bX
     (·exact sA)
     exact fP
     (·exact pP)
     all_goals(first|exact 0|exact qz)
   have e:=e0.trans ((aw g1).trans (ay g2))
   repeat' (first|(refine iT λR hR=>?_;simp [hq,Bb,g1,g2,hwa,AW.ab,aG];try simp (disch:=omega) only [ay,aw,af,an])|(refine hR _ _ ?_;clear hR R)|(refine hK _ _ ?_;clear hK K)|refine nx ?_|refine wn λK hK=>?_|simp only [wS,zC]|refine wl Tryz.mx zC Yc λK hK=>?_|(refine bD (hfc _) ?_;rintro _ _ ⟨rfl,rfl⟩ _ _)|(apply Es (jR b ⟨cf,am,1,aD,value,bT,ao,reads,ar,aA,set,bG,aC,av,aP,aN,ax,.bL⟩ 1 hf);(·exact wA);(·exact sA);(·exact fP);all_goals(try (exact 0)))|(apply wR hC.bG hC.eV hC.cg Ya;(·exact wA);(·exact sA);(·exact kP);)|(apply ld (s:=⟨cf,am,1,aD,value,bT,ao,reads,ar,aA,set,bG,aC,av,aP,aN,ax,.bL⟩) (cr:=0);(·exact wA);(·exact sA);(·exact fP);((rintro _ _ hS hw);(try dsimp only [cX,AW.be,aa,ah] at hS);have hq:=fv hS hw);all_goals(try (exact 0)))|(show cM _ _ _ _ _ _;refine nx ?_)|(refine wc rfl (λhc=>?_) (λhc=>?_)<;>(try simp at hc)))
   rw [e];refine⟨_,by rfl,rfl,?_⟩;apply bp.bX
   (·exact sA)
   exact fP
   (·exact pP)
   all_goals(first|exact 0|exact qz)
 have e:N8 s a=(1,s):=aw hf;intro A F hw hS;refine aK Tryz.func187 λ_=>?_
 try dsimp only [aa,ah] at hS
 have hr:=vz b s 1 hf;revert hS hw;refine Wp (J2 (Tg.mk (n:=10) (λ{A L K k}=>fQ (A:=A) (L:=L) (K:=K) (k:=k) hr)) (od zC)) (J1 bC) ?_<;>(unhygienic intros);rw [e];refine⟨_,by rfl,rfl,?_⟩;apply aj.bX
 (·exact sA)
 (·exact pP)
end
section
open T12 T13
variable [Gl]
theorem aj.gR {A:AW} {L K:List It} {i:Nat} {o:eh} (h:aj A L) (hp:aE L (.at i o) K):A.bk i=qc o:=by
 unfold aj at h;rw [hp.aO] at h;exact bB.bk h
theorem rY (b c:Nat) (s:aI) (v:Int) (hd:s.aH=.bL) :
 bx qV 177 [qb qj v,pv c] [.h (bp b s),.at c (aM (pv b))] (λ_=>True) (λ_=>[.h (bp b { s with value:=v })]):=by
 (unhygienic cases s);dsimp only at hd;subst hd;intro A F hw hS;refine aK Tryz.func177 λ_=>?_;dsimp only [aa,ah] at hS;obtain⟨x0,hS⟩:=bp.open hS .z;(unhygienic cases x0);dsimp only [cX,jk,dk,fi,bJ.gB,aa,ah] at hS;have hq:=fv hS hw;revert hq hS hw;clear hS;refine Wp cx (J1 bC) ?_<;>(unhygienic intros);refine⟨_,by rfl,trivial,?_⟩;apply bp.bX
 (·exact sA)
 exact fP
 (·exact pP)
 all_goals(exact 0)
theorem uz (b c c':Nat) (s:aI) (k v:Int) (hd:s.aH=.bL) (hC:iu s) (hk:0<=k/\k<s.cf.nb) :
 bx qV 256 [qb qj v,pv c,pv c'] [.h (bp b s),.at c (aM (pv b)),.at c' (aM (qb qa k))] (λ_=>True) (λ_=>[.h (bp b (jF s k v))]):=by
 intro A F hw hS;refine aK Tryz.func256 λ_=>?_;dsimp only [aa,ah] at hS;have hq:=gh hS hw;revert hq hS hw;refine Wp (J1 (G9 b s k v hd hC hk)) (J1 bC) ?_<;>(unhygienic intros);refine⟨_,by rfl,trivial,?_⟩;apply aj.bX
 (·exact sA)
 (·exact pP)
theorem Kk (b c:Nat) (s:aI) (hd:s.aH=.bL) (hC:iu s) :
 bx qV 176 [pv c] [.h (bp b s),.at c (aM (pv b))] (λ_=>True) (λ_=>[.h (bp b (nE s 7))]):=by
 intro A F hw hS;refine aK Tryz.func176 λ_=>?_;dsimp only [aa,ah] at hS;have hq:=gh hS hw;revert hq hS hw;refine Wp (J1 (yO b s 7 hd hC)) (J1 bC) ?_<;>(unhygienic intros);refine⟨_,by rfl,trivial,?_⟩;apply aj.bX
 (·exact sA)
 (·exact pP)
theorem Km (b c:Nat) (s:aI) (hd:s.aH=.bL) (hC:iu s) :
 bx qV 253 [pv c] [.h (bp b s),.at c (aM (pv b))] (λ_=>True) (λ_=>[.h (bp b (nE s 8))]):=by
 intro A F hw hS;refine aK Tryz.func253 λ_=>?_;dsimp only [aa,ah] at hS;have hq:=gh hS hw;revert hq hS hw;refine Wp (J1 (yO b s 8 hd hC)) (J1 bC) ?_<;>(unhygienic intros);refine⟨_,by rfl,trivial,?_⟩;apply aj.bX
 (·exact sA)
 (·exact pP)
theorem Kl (b c c':Nat) (s:aI) (aD:Int) (hd:s.aH=.bL) (hC:iu s) :
 bx qV 173 [pv c,pv c'] [.h (bp b s),.at c (aM (pv b)),.at c' (aM (qb qa aD))] (λ_=>True) (λ_=>[.h (bp b (nE s aD))]):=by
 intro A F hw hS;refine aK Tryz.func173 λ_=>?_;dsimp only [aa,ah] at hS;have hq:=gh hS hw;revert hq hS hw;refine Wp (J1 (yO b s aD hd hC)) (J1 bC) ?_<;>(unhygienic intros);refine⟨_,by rfl,trivial,?_⟩;apply aj.bX
 (·exact sA)
 (·exact pP)
theorem Ie (b c:Nat) (s:aI) (hd:s.aH=.bL) (hC:iu s) :
 bx qV 248 [pv c] [.h (bp b s),.at c (aM (pv b))] (λ_=>True) (λ_=>[.h (bp b (kE s 3))]):=by
 have hu:bx qV 206 [pv b,qb qa 3] [.h (bp b s)] (λ_=>True) (λ_=>[.h (bp b (kE s 3))]):=λA F hw hS=>
  (ke b s s.aH.gB 3 s.aH hC.cf hC.al hC.push (Z8 hC.oO Yf)) A F hw (bp.toB hS .z)
 intro A F hw hS;refine aK Tryz.func248 λ_=>?_;dsimp only [aa,ah] at hS;have hq:=gh hS hw;revert hq hS hw;refine Wp (J1 @hu) (J1 bC) ?_<;>(unhygienic intros);refine⟨_,by rfl,trivial,?_⟩;apply aj.bX
 (·exact sA)
 (·exact pP)
theorem FF (b c c' c2:Nat) (s:aI) (k v:Int) (hd:s.aH=.bL) (hC:iu s) (hk:0<=k/\k<s.cf.nb) :
 bx qV 254 [pv c,pv c',pv c2] [.h (bp b s),.at c (aM (pv b)),.at c' (aM (qb qa k)),.at c2 (aM (qb qj v))] (λ_=>True) (λ_=>[.h (bp b (jF s k v))]):=by
 intro A F hw hS;refine aK Tryz.func254 λ_=>?_;dsimp only [aa,ah] at hS;have hq:=gh hS hw;revert hq hS hw;refine Wp (J1 (G9 b s k v hd hC hk)) (J1 bC) ?_<;>(unhygienic intros);refine⟨_,by rfl,trivial,?_⟩;apply aj.bX
 (·exact sA)
 (·exact pP)
theorem Id (b c c' c2:Nat) (s:aI) (v:Int) (hd:s.aH=.bL) :
 bx qV 179 [pv c,pv c'] [.h (bp b s),.at c (aM (.func (.func 177) #[] #[pv c2])),.at c' (aM (qb qj v)),.at c2 (aM (pv b))] (λ_=>True) (λ_=>[.h (bp b { s with value:=v })]):=by
 intro A F hw hS;refine aK Tryz.func179 λ_=>?_;dsimp only [aa,ah] at hS;have hq:=gh hS hw;revert hq hS hw;refine Wp (J1 (rY b c2 s v hd)) (J1 bC) ?_<;>(unhygienic intros);refine⟨_,by rfl,trivial,?_⟩;apply aj.bX
 (·exact sA)
 (·exact pP)
theorem FE (b c c' c2:Nat) (s:aI) (a v:Int) (hd:s.aH=.bL) (hC:iu s) (ha:0<=a) :
 bx qV 182 [pv c,pv c',pv c2] [.h (bp b s),.at c (aM (pv b)),.at c' (aM (qb qj a)),.at c2 (aM (qb qj v))] (λ_=>True) (λ_=>[.h (bp b (sh s (.mI a v)))]):=by
 have hwd:=hC.cf.bg;have ho:∀A',A'.Wf->aj A' [.h (bp b s)]->fD 175 [pv b,qb qj a] A' (qn (decide (s.cf.bg<=a))):=λA' h1 h2=>r8 b s s.aH.gB a s.aH hC.cf A' h1 (bp.toB h2 .z);by_cases h:s.cf.bg<=a;have e:sh s (.mI a v)=nE s 7:=ay h;rw [e];intro A F hw hS;refine aK Tryz.func182 λ_=>?_;dsimp only [aa,ah] at hS;have hq:=gh hS hw;revert hq hS hw;refine Wp (J2 (Tg.mk (n:=10) (λ{A L K k}=>fQ (A:=A) (L:=L) (K:=K) (k:=k) ho)) (yO b s 7 hd hC)) (J2 h bC) ?_<;>(unhygienic intros);refine⟨_,by rfl,trivial,?_⟩;apply aj.bX
 (·exact sA)
 (·exact pP)
 have e:sh s (.mI a v)=(jS s a v).2:=aw h;rw [e];have hwa:qY.wrap a=a:=af Ya Ya;intro A F hw hS;refine aK Tryz.func182 λ_=>?_;dsimp only [aa,ah] at hS;have hq:=gh hS hw;revert hq hS hw;refine Wp (J2 (Tg.mk (n:=10) (λ{A L K k}=>fQ (A:=A) (L:=L) (K:=K) (k:=k) ho)) (yi b s a v hd hC ha)) (J3 h hwa bC) ?_<;>(unhygienic intros);refine⟨_,by rfl,trivial,?_⟩;apply aj.bX
 (·exact sA)
 (·exact pP)
theorem FG (b m c c':Nat) (s:aI) (p:rM) (hC:iu { s with aH:=.bL }) (rj:s.ar.length<8) (hp:p.block<s.cf.nb) (lh:0<=p.eZ/\p.eZ<=3) :
 bx qV 250 [pv c,pv c'] [.h (Uf b { s with aH:=.bL } 0 p),.at c (aM (pv b)),.at c' (aM (qb qa p.eZ))] (λ_=>True) (λ_=>[.h (bp b (fq { s with aH:=.bL } p.eZ p.block))]):=by
 intro A F hw hS;refine aK Tryz.func250 λ_=>?_;dsimp only [aa,ah] at hS;have hq:=gh hS hw;revert hq hS hw;refine Wp (J1 (HK b s p hC rj hp lh)) (J1 bC) ?_<;>(unhygienic intros);refine⟨_,by rfl,trivial,?_⟩;apply aj.bX
 (·exact sA)
 (·exact pP)
end
section
abbrev Ry:List (Nat×Nat):=[(0,0),(1,0),(2,2),(3,3),(4,0)]
open T17 T13
variable [Gl]
theorem PH (b pb:Nat) (s:iI) (M:Mm) (bW:s.ey.length<=s.av.length) (NR:s.av.length<2^38) :
 bx qV 213 [pv b,pv pb] [.h (iV b s),ei pb M] (λv=>v=(dI s M).1.v) (λ_=>[.h (iV b (dI s M).2.1),ei pb (dI s M).2.2]):=
 bx.rf (IK b pb s M bW NR) (by show iV b s*(fg pb M*fl)=_;rw [dH]) (λv=>by show _=BH _*(iV b _*(fg pb _*fl));rw [dH])
theorem SL (b pb:Nat) (s:jO) (M:Mm) (bW:s.os.length=s.ws.length) :
 bx qV 233 [pv b,pv pb] [.h (ji b s),ei pb M] (λv=>v=(fF s M).1.v) (λ_=>[.h (ji b (fF s M).2.1),ei pb (fF s M).2.2]):=
 bx.rf (KN b pb s M bW) (by show ji b s*(fg pb M*fl)=_;rw [dH]) (λv=>by show _=BH _*(ji b _*(fg pb _*fl));rw [dH])
theorem UC (b pb:Nat) (s:jO) (M:Mm) (bW:s.os.length=s.ws.length) :
 bx qV 228 [pv b,pv pb] [.h (ji b s),ei pb M] (λv=>v=(kr s M).1.v) (λ_=>[.h (ji b (kr s M).2.1),ei pb (kr s M).2.2]):=
 bx.rf (MA b pb s M bW) (by show ji b s*(fg pb M*fl)=_;rw [dH]) (λv=>by show _=BH _*(ji b _*(fg pb _*fl));rw [dH])
section
variable {A:AW} {L K:List It} {k:qd->AW->Prop} {n:Nat}
theorem FY {P:HP} (hS:aj A L) (hp:aE L (.h P) K):bB A (P*aO K):=by
 unfold aj at hS;rw [hp.aO] at hS;exact hS
theorem sf {s:iI} (hw:A.Wf) (hS:aj A L) (hp:aE L (.h (iV n s)) K) (hk:k (qn s.done) A):aB qV 214 [pv n] A k:=by
 refine bD (pW n s A _ (FY hS hp)) ?_;rintro _ _ ⟨rfl,rfl⟩ _ _;exact hk
theorem yg {s:jO} (hw:A.Wf) (hS:aj A L) (hp:aE L (.h (ji n s)) K) (hk:k (qn s.done) A):aB qV 234 [pv n] A k:=by
 refine bD (wx n s A _ (FY hS hp)) ?_;rintro _ _ ⟨rfl,rfl⟩ _ _;exact hk
theorem Fz {s:jO} (hw:A.Wf) (hS:aj A L) (hp:aE L (.h (ji n s)) K) (hk:k (qn s.done) A):aB qV 229 [pv n] A k:=by
 refine bD (xV n s A _ (FY hS hp)) ?_;rintro _ _ ⟨rfl,rfl⟩ _ _;exact hk
theorem lP {s:iU} (hw:A.Wf) (hS:aj A L) (hp:aE L (.h (kD n s)) K) (hk:k (qn s.done) A):aB qV 221 [pv n] A k:=by
 obtain⟨v,h0⟩:=kD.open hS hp;obtain⟨o,c,rfl,_⟩:=(aj.tC h0 (.s .z)).bR;refine bD (tv n o _ c s.rv s.kB A (h0.g 0 rfl)) ?_;rintro _ _ ⟨rfl,rfl⟩ _ _;exact hk
theorem DM (b:Nat) (v:qd) (rv:Int) (f:Bool) (A:AW) (hg:A.bk b=qc (.cells [v,qb qa rv,qn f] qg 1)):fD 223 [pv b] A (qn f):=by
 refine aK Tryz.func223 λ_=>?_;refine Wp cx (J2 hg @AW.ab) ?_<;>intros;exact⟨_,rfl,rfl,rfl⟩
theorem rK {s:iU} (hw:A.Wf) (hS:aj A L) (hp:aE L (.h (kD n s)) K) (hk:k (qn s.kB) A):aB qV 223 [pv n] A k:=by
 obtain⟨v,h0⟩:=kD.open hS hp;refine bD (DM n v s.rv s.kB A (h0.g 0 rfl)) ?_;rintro _ _ ⟨rfl,rfl⟩ _ _;exact hk
theorem uN {s:gT} (hw:A.Wf) (hS:aj A L) (hp:aE L (.at n (iQ s)) K) (hk:k (qb qa s.xH) A):aB qV 200 [pv n] A k:=by
 refine bD (yL n s A (aj.gR hS hp)) ?_;rintro _ _ ⟨rfl,rfl⟩ _ _;exact hk
theorem uO {s:gT} (hw:A.Wf) (hS:aj A L) (hp:aE L (.at n (iQ s)) K) (hk:k (qn (decide (s.cr=3))) A):aB qV 202 [pv n] A k:=by
 refine bD (Hj n s A (aj.gR hS hp)) ?_;rintro _ _ ⟨rfl,rfl⟩ _ _;exact hk
theorem Ea {s:rM} (hw:A.Wf) (hS:aj A L) (hp:aE L (.at n (oZ s)) K) (hk:k (qn (decide (s.cr=3))) A):aB qV 211 [pv n] A k:=by
 refine bD (KT n s A (aj.gR hS hp)) ?_;rintro _ _ ⟨rfl,rfl⟩ _ _;exact hk
theorem BZ {s:gs} (hw:A.Wf) (hS:aj A L) (hp:aE L (.at n (iR s)) K) (hk:k (qn (decide (s.cr=3))) A):aB qV 150 [pv n] A k:=by
 refine bD (An n s A (aj.gR hS hp)) ?_;rintro _ _ ⟨rfl,rfl⟩ _ _;exact hk
theorem mB {s:jh} (hw:A.Wf) (hS:aj A L) (hp:aE L (.at n (kO s)) K) (hk:k (qn s.done) A):aB qV 217 [pv n] A k:=by
 refine bD (Ic n s A (aj.gR hS hp)) ?_;rintro _ _ ⟨rfl,rfl⟩ _ _;exact hk
theorem FC {s:jh} (hw:A.Wf) (hS:aj A L) (hp:aE L (.at n (kO s)) K) (hk:k (qb qa s.gB) A):aB qV 162 [pv n] A k:=by
 refine bD (EK n s A (aj.gR hS hp)) ?_;rintro _ _ ⟨rfl,rfl⟩ _ _;exact hk
theorem fy {s:jj} (hw:A.Wf) (hS:aj A L) (hp:aE L (.at n (jw s)) K) (hk:k (qn s.done) A):aB qV 204 [pv n] A k:=by
 refine bD (Al n s A (aj.gR hS hp)) ?_;rintro _ _ ⟨rfl,rfl⟩ _ _;exact hk
theorem eB {s:jj} (hw:A.Wf) (hS:aj A L) (hp:aE L (.at n (jw s)) K) (hk:k (qn s.iS) A):aB qV 205 [pv n] A k:=by
 refine bD (BU n s A (aj.gR hS hp)) ?_;rintro _ _ ⟨rfl,rfl⟩ _ _;exact hk
theorem lL {s:jj} (hw:A.Wf) (hS:aj A L) (hp:aE L (.at n (jw s)) K) (hk:k (qb qj s.val) A):aB qV 209 [pv n] A k:=by
 refine bD (Ga n s A (aj.gR hS hp)) ?_;rintro _ _ ⟨rfl,rfl⟩ _ _;exact hk
theorem B9 {a:bh} (hw:A.Wf) (hS:aj A L) (hk:∀(u:Unit) A',aj A' L->A'.Wf->A.le A'->k (qb qa (kg a)) A'):aB qV 212 [a.v] A k:=by
 refine bD (M8 a A hw) ?_;rintro _ A' ⟨rfl,h1⟩ jN _;exact hk () A' (hS.le hw h1) jN h1
theorem Ap {a:bh} (hw:A.Wf) (hS:aj A L) (hk:∀(u:Unit) A',aj A' L->A'.Wf->A.le A'->k (qb qa (gn a)) A'):aB qV 117 [a.v] A k:=by
 refine bD (KU a A hw) ?_;rintro _ A' ⟨rfl,h1⟩ jN _;exact hk () A' (hS.le hw h1) jN h1
end
theorem FP (b pb:Nat) (s:aI) (en:gT) (M:Mm) (hd:s.aH=.dA) (he:s.bT=qc en) :
 bx qV 151 [pv b,pv pb] [.h (bp b s),ei pb M] (λv=>v=.tuple #[(gK s M en).1.v,qb qa (gK s M en).2.1])
  (λ_=>[.h (bp b (gK s M en).2.2.1),ei pb (gK s M en).2.2.2]):=by
 (unhygienic cases s);dsimp only at hd;subst hd;dsimp only at he;subst he;obtain⟨x,e',M',hr⟩:∃x e' M',gw en M=(x,e',M'):=⟨_,_,_,rfl⟩;have dT:=λn=>Hi n pb en M;rw [hr] at dT;by_cases h:e'.cr=3
 . have e:gK ⟨cf,am,aF,aD,value,qc en,ao,reads,ar,aA,set,bG,aC,av,aP,aN,ax,.dA⟩ M en=(x,4,⟨cf,am,aF,aD,value,qc e',ao,reads,ar,aA,set,bG,aC,av,aP,aN,ax,.bL⟩,M'):=by
    unfold gK;rw [hr];exact ay h
   rw [e];intro A F hw hS;refine aK Tryz.func151 λ_=>?_;dsimp only [aa,ah] at hS;obtain⟨x0,hS⟩:=bp.open hS .z;(unhygienic cases x0);dsimp only [cX,jk,dk,fi,bJ.gB,aa,ah] at hS;have hS:=OJ.op hS (.s .z);have hq:=fv hS hw;revert hq hS hw;clear hS;clear hS;refine Wp (J3 (Tg.mk (n:=10) @uN) (Tg.mk (n:=10) @uO) (dT b8)) (J6 h @pF.eq_1 @pF.eq_2 bC @bn.eq_1 @bh.v.eq_1) ?_<;>(unhygienic intros);refine⟨_,by simp [AW.ab];rfl,by simp [bh.v],?_⟩;apply bp.bX
   (·exact sA)
   exact fP
   (·exact pP)
   all_goals(exact 0)
 by_cases h2:en.xH=e'.xH
 . have e:gK ⟨cf,am,aF,aD,value,qc en,ao,reads,ar,aA,set,bG,aC,av,aP,aN,ax,.dA⟩ M en=(x,2,⟨cf,am,aF,aD,value,qc e',ao,reads,ar,aA,set,bG,aC,av,aP,aN,ax,.dA⟩,M'):=by
    unfold gK;rw [hr];dsimp only;rw [aw h,aw (by simp [h2])]
   rw [e];intro A F hw hS;refine aK Tryz.func151 λ_=>?_;dsimp only [aa,ah] at hS;obtain⟨x0,hS⟩:=bp.open hS .z;(unhygienic cases x0);dsimp only [cX,jk,dk,fi,bJ.gB,aa,ah] at hS;have hS:=OJ.op hS (.s .z);have hq:=fv hS hw;revert hq hS hw;(repeat clear hS);refine Wp (J3 (Tg.mk (n:=10) @uN) (Tg.mk (n:=10) @uO) (dT b8)) (J7 h h2 @pF.eq_1 @pF.eq_2 bC @bn.eq_1 @bh.v.eq_1) ?_<;>(unhygienic intros);refine⟨_,by simp [AW.ab];rfl,by simp [bh.v],?_⟩;apply bp.bX
   (·exact sA)
   exact fP
   (·exact pP)
   all_goals(exact 0)
 have e:gK ⟨cf,am,aF,aD,value,qc en,ao,reads,ar,aA,set,bG,aC,av,aP,aN,ax,.dA⟩ M en=(x,3,⟨cf,am,aF,aD,value,qc e',ao,reads,ar,aA,set,bG,aC,av,aP,aN,ax,.dA⟩,M'):=by
  unfold gK;rw [hr];dsimp only;rw [aw h,ay h2]
 rw [e];intro A F hw hS;refine aK Tryz.func151 λ_=>?_;dsimp only [aa,ah] at hS;obtain⟨x0,hS⟩:=bp.open hS .z;(unhygienic cases x0);dsimp only [cX,jk,dk,fi,bJ.gB,aa,ah] at hS;have hS:=OJ.op hS (.s .z);have hq:=fv hS hw;revert hq hS hw;(repeat clear hS);refine Wp (J3 (Tg.mk (n:=10) @uN) (Tg.mk (n:=10) @uO) (dT b8)) (J7 h h2 @pF.eq_1 @pF.eq_2 bC @bn.eq_1 @bh.v.eq_1) ?_<;>(unhygienic intros);refine⟨_,by simp [AW.ab];rfl,by simp [bh.v],?_⟩;apply bp.bX
 (·exact sA)
 exact fP
 (·exact pP)
 all_goals(exact 0)
theorem Io (b pb:Nat) (s:aI) (p:gs) (M:Mm) (hd:s.aH=.eC p) (hC:iu s) (Tk:s.ax<s.ar.length) :
 bx qV 164 [pv b,pv pb] [.h (bp b s),ei pb M] (λv=>v=.tuple #[(iD s M p).1.v,qb qa (iD s M p).2.1])
  (λ_=>[.h (bp b (iD s M p).2.2.1),ei pb (iD s M p).2.2.2]):=by
 (unhygienic cases s);dsimp only at hd;subst hd;dsimp only at Tk;have rj:=hC.oO;dsimp only at rj;obtain⟨x,p',M',hr⟩:∃x e' M',dR p M=(x,e',M'):=⟨_,_,_,rfl⟩;have dT:=λn=>uC n pb p M;rw [hr] at dT;have RG:qY.wrap ((ax:Int)+1)=((ax+1:Nat):Int):=af Ya Ya;by_cases h:p'.cr=3;have e:iD ⟨cf,am,aF,aD,value,bT,ao,reads,ar,aA,set,bG,aC,av,aP,aN,ax,.eC p⟩ M p=(x,gn x,fH ⟨cf,am,aF,aD,value,bT,ao,reads,ar,aA,set,bG,aC,av,aP,aN,ax+1,.eC p'⟩,M'):=by
  unfold iD;rw [hr];dsimp only;rw [ay h]
 rw [e];intro A F hw hS;refine aK Tryz.func164 λ_=>?_;dsimp only [aa,ah] at hS;obtain⟨x0,hS⟩:=bp.open hS .z;(unhygienic cases x0);dsimp only [cX,jk,dk,fi,bJ.gB,aa,ah] at hS;have hq:=fv hS hw;revert hq hS hw;clear hS;refine Wp (J5 (Tg.mk (n:=10) @BZ) (Tg.mk (n:=20) (yD b ⟨cf,am,aF,aD,value,bT,ao,reads,ar,aA,set,bG,aC,av,aP,aN,ax+1,.eC p'⟩ 13 (.eC p') hC.cf hC.al Tk (Z8 hC.oO Yf))) (Tg.mk (n:=19) (λ{A L k}=>Ap (A:=A) (L:=L) (k:=k) (a:=x))) (od Ry) (dT m)) (J5 h RG bC @bn.eq_1 @bh.v.eq_1) ?_<;>(unhygienic intros);refine⟨_,by simp [AW.ab];rfl,by simp [bh.v],?_⟩;apply aj.bX
 (·exact sA)
 (·exact pP)
 have e:iD ⟨cf,am,aF,aD,value,bT,ao,reads,ar,aA,set,bG,aC,av,aP,aN,ax,.eC p⟩ M p=(x,gn x,⟨cf,am,aF,aD,value,bT,ao,reads,ar,aA,set,bG,aC,av,aP,aN,ax,.eC p'⟩,M'):=by
  unfold iD;rw [hr];dsimp only;rw [aw h]
 rw [e];intro A F hw hS;refine aK Tryz.func164 λ_=>?_;dsimp only [aa,ah] at hS;obtain⟨x0,hS⟩:=bp.open hS .z;(unhygienic cases x0);dsimp only [cX,jk,dk,fi,bJ.gB,aa,ah] at hS;have hq:=fv hS hw;revert hq hS hw;(repeat clear hS);refine Wp (J4 (Tg.mk (n:=10) @BZ) (Tg.mk (n:=19) (λ{A L k}=>Ap (A:=A) (L:=L) (k:=k) (a:=x))) (od Ry) (dT m)) (J5 h RG bC @bn.eq_1 @bh.v.eq_1) ?_<;>(unhygienic intros);refine⟨_,by simp [AW.ab];rfl,by simp [bh.v],?_⟩;apply bp.bX
 (·exact sA)
 exact fP
 (·exact pP)
 all_goals(first|exact 0|exact qz)
end
end Go.Stx
