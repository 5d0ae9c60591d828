import Derived.Test.YtnnbecihffpedaaGreatDoorG01
import Derived.Test.YtnnbecihffpedaaGreatDoorG02
set_option linter.all false
set_option maxRecDepth 20000
set_option maxHeartbeats 4000000
open List renaming length->U
open Go.IntKind renaming i64->Zb,u64->Zc
open Go.Proofs.Tryz renaming prog->qZ
open Go.Stx.AW.le renaming alloc->q8
open List renaming drop_eq_getElem_cons->Z3,getD_eq_getElem?_getD->Ze,getElem?_eq_getElem->Zf,length_cons->ZI
open Nat renaming mul_one->ZY
open Ne renaming symm->Zp
open Bool renaming false->qn,true->qj
open Go renaming IntKind->qD,Value->qi
open Go.IntKind renaming i64->qg,u64->qr
open Go.Stx.dt renaming cells->qm
open Go.Value renaming bool->qt,int->qh,pointer->qs,tuple->qF
open Option renaming none->qk,some->qf
namespace Go.Stx
open Go Go.Proofs
attribute [local irreducible] df aW aE aL cY dm TW bK
section
variable [Gl]
def lQ (o:Int):Int×Bool:=(o,qj)
def ga (v:Int)(_:Int):Int×Bool:=(v,qj)
def lc (eD v:Int)(o:Int):Int×Bool:=(v,decide (o=eD))
def Lc (v:Int)(o:Int):Int×Bool:=(Zc.wrap (o+v),qj)
abbrev Mm:=Nat->List Int
def iy (M:Mm)(cell cZ:Int):bj:=fk M 1 cell cZ lQ
def FG (M:Mm)(cell cZ v:Int):bj:=fk M 2 cell cZ (ga v)
def J0 (M:Mm)(cell cZ eD v:Int):bj:=fk M 3 cell cZ (lc eD v)
def JM (M:Mm)(cell cZ v:Int):bj:=fk M 4 cell cZ (Lc v)
def BC (M:Mm)(cell cZ v:Int):Mm:=mw M cell cZ (ga v)
def swM (M:Mm)(cell cZ eD v:Int):Mm:=mw M cell cZ (lc eD v)
def adM (M:Mm)(cell cZ v:Int):Mm:=mw M cell cZ (Lc v)
structure ig where
 af:Int
 bR:Int
 aC:Int
def ig.yN (s:ig):Int:=if s.bR<=1 then -1 else Zb.wrap s.aC
def fN (s:ig)(M:Mm):bj×ig×Mm:=
 if s.bR=0 then (FG M 6 s.af 1,{ s with bR:=1 },BC M 6 s.af 1)
 else if s.bR=1 then (iy M 3 0,{ s with bR:=2,aC:=(iy M 3 0).eV },M)
 else if s.bR=2 then (FG M 6 s.af (Zc.wrap (s.aC+2)),{ s with bR:=3 },BC M 6 s.af (Zc.wrap (s.aC+2)))
 else (bj.zero,s,M)
structure jk where
 j0:Bool
 dR:Int
 done:Bool
def jk.dZ (s:jk):Int:=if s.j0=qj then Zb.wrap s.dR else -1
def gX (s:jk)(M:Mm):bj×jk×Mm:=
 if s.done=qj then (bj.zero,s,M)
 else if s.j0=qn then (JM M 4 0 1,{ s with j0:=qj,dR:=(JM M 4 0 1).eV },adM M 4 0 1)
 else (iy M 5 0,{ s with done:=decide ((iy M 5 0).eV=s.dR) },M)
def s4 (dR:Int):Int:=Zc.wrap (Zc.wrap dR+1)
structure sU where
 fa:Int
 bR:Int
 head:Int
 next:Int
 block:Int
def gB (s:sU)(M:Mm):bj×sU×Mm:=
 if s.bR=0 then (iy M 7 s.fa,{ s with head:=(iy M 7 s.fa).eV,bR:=if j7 (iy M 7 s.fa).eV<0 then 3 else 1 },M)
 else if s.bR=1 then (iy M 8 (j7 s.head),{ s with next:=(iy M 8 (j7 s.head)).eV,bR:=2 },M)
 else if s.bR=2 then
  let w:=sr s.head (Zb.wrap (Zb.wrap s.next-1))
  (J0 M 7 s.fa s.head w,if (J0 M 7 s.fa s.head w).done=qj then { s with bR:=3,block:=j7 s.head } else { s with bR:=0 },swM M 7 s.fa s.head w)
 else (bj.zero,s,M)
structure gy where
 fa:Int
 block:Int
 bR:Int
 head:Int
def dD (s:gy)(M:Mm):bj×gy×Mm:=
 if s.bR=0 then (iy M 7 s.fa,{ s with head:=(iy M 7 s.fa).eV,bR:=1 },M)
 else if s.bR=1 then
  let w:=Zc.wrap (Zb.wrap (j7 s.head+1))
  (FG M 8 s.block w,{ s with bR:=2 },BC M 8 s.block w)
 else if s.bR=2 then
  let w:=sr s.head s.block
  (J0 M 7 s.fa s.head w,{ s with bR:=if (J0 M 7 s.fa s.head w).done=qj then 3 else 0 },swM M 7 s.fa s.head w)
 else (bj.zero,s,M)
structure hY where
 cr:Int
 gz:Int
 rv:Int
 bR:Int
 dC:Int
 value:Int
 iO:Bool
def hY.done (s:hY):Bool:=decide (s.bR=3)
def hY.val (s:hY):Int:=if s.bR=3/\s.iO=qn then s.value else 0
def dh (s:hY)(M:Mm):bj×hY×Mm:=
 if s.bR=0 then
  let a:=iy M 2 s.gz
  (a,if mo a.eV≥0\/jO a.eV>s.rv then { s with dC:=a.eV,iO:=qj,bR:=3 } else { s with dC:=a.eV,bR:=1 },M)
 else if s.bR=1 then (iy M 1 s.cr,{ s with value:=(iy M 1 s.cr).eV,bR:=2 },M)
 else if s.bR=2 then (iy M 2 s.gz,{ s with iO:=decide ((iy M 2 s.gz).eV≠s.dC),bR:=3 },M)
 else (bj.zero,s,M)
structure i8 where
 au:List Int
 rv:Int
 kI:Bool
def i8.done (s:i8):Bool:=s.kI || decide (U s.au=0)
def gx (s:i8)(M:Mm):bj×i8×Mm:=
 if s.done=qj then (bj.zero,s,M)
 else (iy M 2 (s.au.getD 0 0),{ s with au:=s.au.tail,kI:=decide (jO (iy M 2 (s.au.getD 0 0)).eV>s.rv) },M)
end
section
abbrev oMemO_0:List (Nat×Nat):=[(0,0),(1,0),(2,0),(3,0),(4,0),(5,0)]
namespace TMemO
def oK [Gl]{A:AW}{L:List It}{T:Prop}(hS:aj A L)(hw:A.Wf)(h':(ba A L/\bB A L/\cd L)=T:=by first|(dsimp only[aa,ah,ba,bB,cd,fw];done)|exact rfl):T:=h'▸hS.fm hw
end TMemO
open TMemO
variable [Gl]
def opM_same {M:Nat->List Int}{cell cZ:Int}{g:Int->Int×Bool}(h:∀o,(g o).2=qj->(g o).1=o):mw M cell cZ g=M:=by
 unfold mw;split;rename_i hc;funext k;simp only[setRow];split;rename_i e;rw[h _ hc.2];have hh:1<=cell/\cell<=8:=by have:=hc.1;simp only[eU,j4]at this;split at this;assumption;simp at this;omega
 have hr:j4 M cell=M k:=by rw[e];exact az hh
 have hi:0<=cZ/\cZ<U (M k):=by
  have:=hc.1;rw[eU,hr]at this
  exact X9
 rw[hr];apply List.ext_getElem?;intro q;by_cases eq:cZ.toNat=q;subst eq;rw[List.getElem?_set_self Ya,Ze,Zf Ya];rfl;rw[List.getElem?_set_ne eq];rfl;rfl
def Sy (eD:Int):tc qZ 169 [qh qr eD] eY (λv=>GL (v=qF #[qh qr (lQ eD).1,qt (lQ eD).2])*eY):=by intro A F hw hS;refine aO Tryz.func169 λ_=>?_;revert hS hw;refine W db db ?_<;>(unhygienic intros);exact⟨_,rfl,bD.post rfl hS⟩
def O8 (b:Nat)(x eD:Int):tc qZ 210 [qh qr eD,qs (qf ⟨b,0,qk⟩)] (pt b (qm [qh qr x] qj 1))
 (λv=>GL (v=qF #[qh qr (ga x eD).1,qt (ga x eD).2])*pt b (qm [qh qr x] qj 1)):=by intro A F hw hS;refine aO Tryz.func210 λ_=>?_;have hg:=hS.bk;revert hS hw;refine W db (J2 hg @AW.ab) ?_<;>(unhygienic intros);exact⟨_,rfl,bD.post rfl hS⟩
def RO (b c:Nat)(x y eD:Int):tc qZ 243 [qh qr eD,qs (qf ⟨b,0,qk⟩),qs (qf ⟨c,0,qk⟩)]
 (pt b (qm [qh qr x] qj 1)*pt c (qm [qh qr y] qj 1))
 (λv=>GL (v=qF #[qh qr (lc y x eD).1,qt (lc y x eD).2])*(pt b (qm [qh qr x] qj 1)*pt c (qm [qh qr y] qj 1))):=by intro A F hw hS;refine aO Tryz.func243 λ_=>?_;rw[HP.dq]at hS;have hg:=hS.bk;have Qm:=hS.right.bk;revert hS hw;refine W (J1 (od oMemO_0)) (J3 hg Qm @AW.ab) ?_<;>(unhygienic intros);exact⟨_,rfl,bD.post (by simp[lc]) (by rw[HP.dq];exact hS)⟩
def PM (pb:Nat)(M:Nat->List Int)(cell cZ:Int):
 tc qZ 102 [qs (qf ⟨pb,0,qk⟩),qh qg cell,qh qg cZ] (fp pb M)
  (λv=>GL (v=qF #[(fk M 1 cell cZ lQ).v,qh qg (s7 M cell cZ)])*fp pb M):=by
 intro A F hw hS;refine aO Tryz.func102 λ_=>?_;revert hS hw;refine W db db ?_<;>(unhygienic intros);have jH:bD (A.alloc (qm bx qj 1)) ((fp pb M*eY)*(pt A.next (qm bx qj 1)*F)):=by rw[ei];exact(hS.alloc hw _).dJ Ye
 refine(tm pb M 1 cell cZ _ #[] #[] eY lQ Sy).use (hw.alloc _) jH rfl ?_;intro v A2 jK jG _;obtain⟨rfl,yG⟩:=jK.tS;clear jK;rw[ei,opM_same (by intro o _;rfl)]at yG;have zM:bD A2 (pt A.next (qm bx qj 1)*(fp pb M*F)):=yG.dJ Ye;have hg:=zM.bk;refine W db (J5 hg bL @bx.eq_1 @opV.eq_1 @bj.v.eq_1) ?_<;>intros;exact⟨_,by simp[AW.ab];rfl,bD.post YZ (zM.set _).right⟩
def wQ (pb:Nat)(M:Nat->List Int)(cell cZ x:Int):
 tc qZ 118 [qs (qf ⟨pb,0,qk⟩),qh qg cell,qh qg cZ,qh qr x] (fp pb M)
  (λv=>GL (v=qF #[(fk M 2 cell cZ (ga x)).v,qh qg (s7 M cell cZ)])*fp pb (mw M cell cZ (ga x))):=by
 intro A F hw hS;refine aO Tryz.func118 λ_=>?_;revert hS hw;refine W db db ?_<;>(unhygienic intros);have jt:=hw.alloc (qm [qh qr x] qj 1)
 have jH:bD ((A.alloc (qm [qh qr x] qj 1)).alloc (qm bx qj 1)) ((fp pb M*pt A.next (qm [qh qr x] qj 1))*(pt (A.next+1) (qm bx qj 1)*F)):=
  ((hS.alloc hw (qm [qh qr x] qj 1)).alloc jt (qm bx qj 1)).dJ YM
 refine(tm pb M 2 cell cZ _ #[] #[qs (qf ⟨A.next,0,qk⟩)] _ (ga x) (O8 A.next x)).use (jt.alloc _) jH rfl ?_;intro v A2 jK jG _;obtain⟨rfl,yG⟩:=jK.tS;clear jK;have zM:bD A2 (pt (A.next+1) (qm bx qj 1)*(pt A.next (qm [qh qr x] qj 1)*(fp pb (mw M cell cZ (ga x))*F))):=yG.dJ Ye;have hg:=zM.bk;refine W db (J5 hg bL @bx.eq_1 @opV.eq_1 @bj.v.eq_1) ?_<;>intros;exact⟨_,by simp[AW.ab];rfl,bD.post YZ (zM.set _).right.right⟩
def PL (pb:Nat)(M:Nat->List Int)(cell cZ x y:Int):
 tc qZ 173 [qs (qf ⟨pb,0,qk⟩),qh qg cell,qh qg cZ,qh qr x,qh qr y] (fp pb M)
  (λv=>GL (v=qF #[(fk M 3 cell cZ (lc x y)).v,qh qg (s7 M cell cZ)])*fp pb (mw M cell cZ (lc x y))):=by
 intro A F hw hS;refine aO Tryz.func173 λ_=>?_;revert hS hw;refine W db db ?_<;>(unhygienic intros);have jt:=hw.alloc (qm [qh qr x] qj 1);have jG:=jt.alloc (qm [qh qr y] qj 1)
 have jH:bD (((A.alloc (qm [qh qr x] qj 1)).alloc (qm [qh qr y] qj 1)).alloc (qm bx qj 1))
  ((fp pb M*(pt (A.next+1) (qm [qh qr y] qj 1)*pt A.next (qm [qh qr x] qj 1)))*(pt (A.next+1+1) (qm bx qj 1)*F)):=
  (((hS.alloc hw (qm [qh qr x] qj 1)).alloc jt (qm [qh qr y] qj 1)).alloc jG (qm bx qj 1)).dJ YM
 refine(tm pb M 3 cell cZ _ #[] #[qs (qf ⟨A.next+1,0,qk⟩),qs (qf ⟨A.next,0,qk⟩)] _ (lc x y) (RO (A.next+1) A.next y x)).use (jG.alloc _) jH rfl ?_;intro v A2 jK E6 _;obtain⟨rfl,yG⟩:=jK.tS;clear jK;have zM:bD A2 (pt (A.next+1+1) (qm bx qj 1)*(pt A.next (qm [qh qr x] qj 1)*(pt (A.next+1) (qm [qh qr y] qj 1)*(fp pb (mw M cell cZ (lc x y))*F)))):=yG.dJ Ye;have hg:=zM.bk;refine W db (J5 hg bL @bx.eq_1 @opV.eq_1 @bj.v.eq_1) ?_<;>intros;exact⟨_,by simp[AW.ab];rfl,bD.post YZ (zM.set _).right.right.right⟩
def aaf (b:Nat)(x eD:Int):tc qZ 264 [qh qr eD,qs (qf ⟨b,0,qk⟩)] (pt b (qm [qh qr x] qj 1))
 (λv=>GL (v=qF #[qh qr (Lc x eD).1,qt (Lc x eD).2])*pt b (qm [qh qr x] qj 1)):=by intro A F hw hS;refine aO Tryz.func264 λ_=>?_;have hg:=hS.bk;revert hS hw;refine W db (J2 hg @AW.ab) ?_<;>(unhygienic intros);exact⟨_,by (simp;rfl),bD.post (by simp[Lc]) hS⟩
def mem_add (pb:Nat)(M:Nat->List Int)(cell cZ x:Int):
 tc qZ 248 [qs (qf ⟨pb,0,qk⟩),qh qg cell,qh qg cZ,qh qr x] (fp pb M)
  (λv=>GL (v=qF #[(fk M 4 cell cZ (Lc x)).v,qh qg (s7 M cell cZ)])*fp pb (mw M cell cZ (Lc x))):=by
 intro A F hw hS;refine aO Tryz.func248 λ_=>?_;revert hS hw;refine W db db ?_<;>(unhygienic intros);have jt:=hw.alloc (qm [qh qr x] qj 1)
 have jH:bD ((A.alloc (qm [qh qr x] qj 1)).alloc (qm bx qj 1)) ((fp pb M*pt A.next (qm [qh qr x] qj 1))*(pt (A.next+1) (qm bx qj 1)*F)):=
  ((hS.alloc hw (qm [qh qr x] qj 1)).alloc jt (qm bx qj 1)).dJ YM
 refine(tm pb M 4 cell cZ _ #[] #[qs (qf ⟨A.next,0,qk⟩)] _ (Lc x) (aaf A.next x)).use (jt.alloc _) jH rfl ?_;intro v A2 jK jG _;obtain⟨rfl,yG⟩:=jK.tS;clear jK;have zM:bD A2 (pt (A.next+1) (qm bx qj 1)*(pt A.next (qm [qh qr x] qj 1)*(fp pb (mw M cell cZ (Lc x))*F))):=yG.dJ Ye;have hg:=zM.bk;refine W db (J5 hg bL @bx.eq_1 @opV.eq_1 @bj.v.eq_1) ?_<;>intros;exact⟨_,by simp[AW.ab];rfl,bD.post YZ (zM.set _).right.right⟩
def eA (pb:Nat)(M:Mm):It:=.h (fp pb M)
def mF (pb:Nat)(M:Mm):aP [eA pb M]=fp pb M:=by show fp pb M*eY=_;rw[ei]
def ldL (pb:Nat)(M:Mm)(cell cZ:Int):bz qZ 102 [qs (qf ⟨pb,0,qk⟩),qh qg cell,qh qg cZ] [eA pb M]
 (λv=>v=qF #[(iy M cell cZ).v,qh qg (s7 M cell cZ)]) (λ_=>[eA pb M]):=
 bz.uh (PM pb M cell cZ) (mF pb M) λv=>by rw[mF];rfl
def stL (pb:Nat)(M:Mm)(cell cZ x:Int):bz qZ 118 [qs (qf ⟨pb,0,qk⟩),qh qg cell,qh qg cZ,qh qr x] [eA pb M]
 (λv=>v=qF #[(FG M cell cZ x).v,qh qg (s7 M cell cZ)]) (λ_=>[eA pb (BC M cell cZ x)]):=
 bz.uh (wQ pb M cell cZ x) (mF pb M) λv=>by rw[mF];rfl
def swL (pb:Nat)(M:Mm)(cell cZ x y:Int):bz qZ 173 [qs (qf ⟨pb,0,qk⟩),qh qg cell,qh qg cZ,qh qr x,qh qr y] [eA pb M]
 (λv=>v=qF #[(J0 M cell cZ x y).v,qh qg (s7 M cell cZ)]) (λ_=>[eA pb (swM M cell cZ x y)]):=
 bz.uh (PL pb M cell cZ x y) (mF pb M) λv=>by rw[mF];rfl
def adL (pb:Nat)(M:Mm)(cell cZ x:Int):bz qZ 248 [qs (qf ⟨pb,0,qk⟩),qh qg cell,qh qg cZ,qh qr x] [eA pb M]
 (λv=>v=qF #[(JM M cell cZ x).v,qh qg (s7 M cell cZ)]) (λ_=>[eA pb (adM M cell cZ x)]):=
 bz.uh (mem_add pb M cell cZ x) (mF pb M) λv=>by rw[mF];rfl
end
section
abbrev Pz:List (Nat×Nat):=[(0,0),(1,0),(2,0),(3,0),(4,0),(5,0),(6,0),(7,0),(8,0),(9,0),(10,3),(11,0),(12,0),(13,0),(14,3)]
abbrev oMachA_1:List (Nat×Nat):=[(0,0),(1,0),(2,0),(3,0),(4,0),(5,0),(6,0),(7,0),(8,0),(9,0),(10,3)]
abbrev oMachA_2:List (Nat×Nat):=[(0,0),(1,0),(2,0),(3,0),(4,0),(5,0),(6,0),(7,0),(8,0),(9,0),(10,2),(11,0),(12,0),(13,0),(14,0),(15,0)]
open T0
variable [Gl]
def iV (s:ig):dt:=qm [qh qg s.af,qh qg s.bR,qh qr s.aC] qj 1
def kW (s:jk):dt:=qm [qt s.j0,qh qr s.dR,qt s.done] qj 1
def pO (s:sU):dt:=qm [qh qg s.fa,qh qg s.bR,qh qr s.head,qh qr s.next,qh qg s.block] qj 1
def iW (s:gy):dt:=qm [qh qg s.fa,qh qg s.block,qh qg s.bR,qh qr s.head] qj 1
def jB (s:hY):dt:=qm [qh qg s.cr,qh qg s.gz,qh qg s.rv,qh qg s.bR,qh qr s.dC,qh qr s.value,qt s.iO] qj 1
abbrev accC (a:bj):List qi:=[qh qg a.fB,qh qg a.cell,qh qg a.cZ,qh qr a.eV,qh qr a.put,qt a.done]
def fQ (f:FuncId)(args:List qi)(A:AW)(u:qi):Prop:=aE qZ f args A λv A'=>v=u/\A=A'
def KO (t:Int)(A:AW):aE qZ 222 [qh qg t] A (λv A'=>v=qs (qf ⟨A.next,0,qk⟩)/\A'=A.alloc (iV ⟨t,0,0⟩)):=by refine aO Tryz.func222 λ_=>?_;refine W db db ?_<;>intros;exact XU
def Jg (b:Nat)(s:ig)(A:AW)(hg:A.bk b=qf (iV s)):fQ 176 [qs (qf ⟨b,0,qk⟩)] A (qt (decide (s.bR=3))):=by refine aO Tryz.func176 λ_=>?_;dsimp only[iV]at hg;exact XS
def Ad (b:Nat)(s:ig)(A:AW)(hg:A.bk b=qf (iV s)):fQ 174 [qs (qf ⟨b,0,qk⟩)] A (qh qg s.yN):=by
 refine aO Tryz.func174 λ_=>?_;dsimp only[iV]at hg;refine W db (J2 hg @AW.ab) (J2 ?_ ?_)<;>intros
 all_goals exact⟨_,rfl,by first|(simp[ig.yN, *];done)|(simp[ig.yN];omega),rfl⟩
def QR (s:ig)(M:Mm):(s.bR=0/\fN s M=(FG M 6 s.af 1,{ s with bR:=1 },BC M 6 s.af 1)) \/
 (s.bR=1/\fN s M=(iy M 3 0,{ s with bR:=2,aC:=(iy M 3 0).eV },M)) \/
 (s.bR=2/\fN s M=(FG M 6 s.af (Zc.wrap (s.aC+2)),{ s with bR:=3 },BC M 6 s.af (Zc.wrap (s.aC+2)))) \/
 ((¬s.bR=0/\¬s.bR=1/\¬s.bR=2)/\fN s M=(bj.zero,s,M)):=by unfold fN;by_cases h0:s.bR=0;simp[h0];by_cases h1:s.bR=1;simp[h1];by_cases h2:s.bR=2;simp[h2];simp[h0,h1,h2]
def Jf (b pb:Nat)(s:ig)(M:Mm):
 bz qZ 175 [qs (qf ⟨b,0,qk⟩),qs (qf ⟨pb,0,qk⟩)] [.at b (iV s),eA pb M]
  (λv=>v=(fN s M).1.v) (λ_=>[.at b (iV (fN s M).2.1),eA pb (fN s M).2.2]):=by
 intro A F hw hS;refine aO Tryz.func175 λ_=>?_;have hq:=P6 hS hw;rcases QR s M with ⟨h,e⟩|⟨h,e⟩|⟨h,e⟩|⟨h,e⟩
 all_goals(revert hq hS hw;refine W (J3 (od Pz) (stL pb) (ldL pb)) (J4 h bL @bx.eq_1 @bj.v.eq_1) ?_<;>unhygienic intros)
 all_goals(
  try rw[e]
  refine⟨_,by simp[AW.ab];rfl,by simp[bj.v,bj.zero],?_⟩;apply aj.bZ
  (·exact sA)
  (·repeat' (first|apply bd.z|apply bd.s|apply aF.z|apply aF.s)))
def SF (pb:Nat)(t:Int)(M:Mm):
 bz qZ 123 [qs (qf ⟨pb,0,qk⟩),qh qg t] [eA pb M] (λv=>v=(FG M 6 t 0).v) (λ_=>[eA pb (BC M 6 t 0)]):=by
 intro A F hw hS;refine aO Tryz.func123 λ_=>?_;have hq:=P6 hS hw;have h:True:=trivial;have e:True=True:=rfl;revert hq hS hw;refine W (J1 (stL pb)) (J3 bL @bx.eq_1 @bj.v.eq_1) ?_<;>(unhygienic intros)
 all_goals(
  try rw[e]
  refine⟨_,by simp[AW.ab];rfl,by simp[bj.v],?_⟩;apply aj.bZ
  (·exact sA)
  (·repeat' (first|apply bd.z|apply bd.s|apply aF.z|apply aF.s)))
def V5 (pb:Nat)(t:Int)(M:Mm):
 bz qZ 119 [qs (qf ⟨pb,0,qk⟩),qh qg t] [eA pb M] (λv=>v=(FG M 5 0 (s4 t)).v) (λ_=>[eA pb (BC M 5 0 (s4 t))]):=by
 intro A F hw hS;refine aO Tryz.func119 λ_=>?_;have hq:=P6 hS hw;have h:True:=trivial;have e:s4 t=Zc.wrap (Zc.wrap t+1):=rfl;revert hq hS hw;refine W (J1 (stL pb)) (J3 bL @bx.eq_1 @bj.v.eq_1) ?_<;>(unhygienic intros)
 all_goals(
  try rw[e]
  refine⟨_,by simp[AW.ab];rfl,by simp[bj.v],?_⟩;apply aj.bZ
  (·exact sA)
  (·repeat' (first|apply bd.z|apply bd.s|apply aF.z|apply aF.s)))
def pu (A:AW):aE qZ 190 [] A (λv A'=>v=qs (qf ⟨A.next,0,qk⟩)/\A'=A.alloc (kW ⟨qn,0,qn⟩)):=by refine aO Tryz.func190 λ_=>?_;refine W db db ?_<;>intros;exact XU
def Ko (b:Nat)(s:jk)(A:AW)(hg:A.bk b=qf (kW s)):fQ 192 [qs (qf ⟨b,0,qk⟩)] A (qt s.done):=by refine aO Tryz.func192 λ_=>?_;dsimp only[kW]at hg;exact XS
def GD (b:Nat)(s:jk)(A:AW)(hg:A.bk b=qf (kW s)):fQ 120 [qs (qf ⟨b,0,qk⟩)] A (qh qg s.dZ):=by
 refine aO Tryz.func120 λ_=>?_;dsimp only[kW]at hg;refine W db (J2 hg @AW.ab) (J2 ?_ ?_)<;>intros
 all_goals exact⟨_,rfl,by simp_all[jk.dZ],rfl⟩
def RM (s:jk)(M:Mm):(s.done=qj/\gX s M=(bj.zero,s,M)) \/
 ((s.done=qn/\s.j0=qn)/\gX s M=(JM M 4 0 1,{ s with j0:=qj,dR:=(JM M 4 0 1).eV },adM M 4 0 1)) \/
 ((s.done=qn/\s.j0=qj)/\gX s M=(iy M 5 0,{ s with done:=decide ((iy M 5 0).eV=s.dR) },M)):=by unfold gX;cases h0:s.done<;>cases h1:s.j0<;>simp
def Kn (b pb:Nat)(s:jk)(M:Mm):
 bz qZ 191 [qs (qf ⟨b,0,qk⟩),qs (qf ⟨pb,0,qk⟩)] [.at b (kW s),eA pb M]
  (λv=>v=(gX s M).1.v) (λ_=>[.at b (kW (gX s M).2.1),eA pb (gX s M).2.2]):=by
 intro A F hw hS;refine aO Tryz.func191 λ_=>?_;have hq:=P6 hS hw;rcases RM s M with ⟨h,e⟩|⟨h,e⟩|⟨h,e⟩
 all_goals(revert hq hS hw;refine Wu (J4 (od oMachA_1) (⟨⟩:Os (λA'=>A'.bk (A.next+1)=qf (qm (accC (JM M 4 0 1)) qj 1)) [(0,0),(1,0),(2,0),(3,1),(4,0),(5,0),(6,3),(7,0),(8,0),(9,3)]) (adL pb) (ldL pb)) (J4 h bL @bx.eq_1 @bj.v.eq_1) ?_<;>unhygienic intros)
 all_goals(
  try rw[e]
  refine⟨_,by simp[AW.ab];rfl,by simp[bj.v,bj.zero],?_⟩;apply aj.bZ
  (·exact sA)
  (·repeat' (first|apply bd.z|apply bd.s|apply aF.z|(apply aF.OE;simp[kW,h];done)|apply aF.s)))
def PF (c:Int)(A:AW):aE qZ 224 [qh qg c] A (λv A'=>v=qs (qf ⟨A.next,0,qk⟩)/\A'=A.alloc (pO ⟨c,0,0,0,-1⟩)):=by refine aO Tryz.func224 λ_=>?_;refine W db db ?_<;>intros;exact XU
def Ng (b:Nat)(s:sU)(A:AW)(hg:A.bk b=qf (pO s)):fQ 186 [qs (qf ⟨b,0,qk⟩)] A (qt (decide (s.bR=3))):=by refine aO Tryz.func186 λ_=>?_;dsimp only[pO]at hg;exact XS
def KK (b:Nat)(s:sU)(A:AW)(hg:A.bk b=qf (pO s)):fQ 256 [qs (qf ⟨b,0,qk⟩)] A (qh qg s.block):=by refine aO Tryz.func256 λ_=>?_;dsimp only[pO]at hg;exact XS
def LP (s:sU)(M:Mm):
 ((s.bR=0/\j7 (iy M 7 s.fa).eV<0)/\gB s M=(iy M 7 s.fa,{ s with head:=(iy M 7 s.fa).eV,bR:=3 },M)) \/
 ((s.bR=0/\¬j7 (iy M 7 s.fa).eV<0)/\gB s M=(iy M 7 s.fa,{ s with head:=(iy M 7 s.fa).eV,bR:=1 },M)) \/
 (s.bR=1/\gB s M=(iy M 8 (j7 s.head),{ s with next:=(iy M 8 (j7 s.head)).eV,bR:=2 },M)) \/
 (∃w,((s.bR=2/\sr s.head (Zb.wrap (Zb.wrap s.next-1))=w)/\(J0 M 7 s.fa s.head w).done=qj)/\gB s M=(J0 M 7 s.fa s.head w,{ s with bR:=3,block:=j7 s.head },swM M 7 s.fa s.head w)) \/
 (∃w,((s.bR=2/\sr s.head (Zb.wrap (Zb.wrap s.next-1))=w)/\(J0 M 7 s.fa s.head w).done=qn)/\gB s M=(J0 M 7 s.fa s.head w,{ s with bR:=0 },swM M 7 s.fa s.head w)) \/
 ((¬s.bR=0/\¬s.bR=1/\¬s.bR=2)/\gB s M=(bj.zero,s,M)):=by unfold gB;by_cases h0:s.bR=0;by_cases h1:j7 (iy M 7 s.fa).eV<0<;>simp[h0,h1];by_cases h1:s.bR=1;simp[h1];by_cases h2:s.bR=2;cases h3:(J0 M 7 s.fa s.head (sr s.head (Zb.wrap (Zb.wrap s.next-1)))).done<;>(simp[h2,h3];exact⟨_,⟨rfl,h3⟩,rfl,rfl⟩);simp[h0,h1,h2]
def Nf (b pb:Nat)(s:sU)(M:Mm):
 bz qZ 185 [qs (qf ⟨b,0,qk⟩),qs (qf ⟨pb,0,qk⟩)] [.at b (pO s),eA pb M]
  (λv=>v=(gB s M).1.v) (λ_=>[.at b (pO (gB s M).2.1),eA pb (gB s M).2.2]):=by
 intro A F hw hS;refine aO Tryz.func185 λ_=>?_;have hq:=P6 hS hw;rcases LP s M with ⟨h,e⟩|⟨h,e⟩|⟨h,e⟩|⟨w,h,e⟩|⟨w,h,e⟩|⟨h,e⟩
 all_goals(revert hq hS hw;refine W (J6 (od oMachA_2) (od Pz) @LO @Id (swL pb) (ldL pb)) (J4 h bL @bx.eq_1 @bj.v.eq_1) ?_<;>unhygienic intros)
 all_goals(
  try rw[e]
  refine⟨_,by simp[AW.ab];rfl,by simp[bj.v,bj.zero,h],?_⟩;apply aj.bZ
  (·exact sA)
  (·repeat' (first|apply bd.z|apply bd.s|apply aF.z|apply aF.s)))
end
section
abbrev Pw:List (Nat×Nat):=[(0,0),(1,0),(2,0),(4,0),(5,0),(6,0),(7,0),(3,2),(8,0),(9,0),(10,0),(11,3)]
open T2
variable [Gl]
def aj.front {A:AW}{L K:List It}{x:It}(h:aj A L)(e:aF L x K):aj A (x::K):=by unfold aj at *;rw[e.aP]at h;exact h
def aj.openI {A:AW}{L K:List It}{k:qD}{v:qi}{x:Int}{l:List Int}(h:aj A L)(hp:aF L (.h (ay k v (x::l))) K):
 ∃b off c bO,v=.slice (qf ⟨b,off,qk⟩) (U l+1) c/\U l+1<=c/\off+(U l+1)<=U bO/\bO[off]?=qf (qh k x)/\
  (∀A' K',aj A' (.at b (qm bO qj 1)::K')->aj A' (.h (ay k (.slice (qf ⟨b,off+1,qk⟩) (U l) (c-1)) l)::K'))/\
  (∀A' K',aj A' (.at b (qm bO qj 1)::K')->aj A' (.h (ay k v (x::l))::K'))/\aj A (.at b (qm bO qj 1)::K):=by
 have h1:bD A (ay k v (x::l)*aP K):=by have h0:=h;unfold aj at h0;rw[hp.aP]at h0;exact h0
 rcases dv.cases h1 with ⟨_,h0,_⟩|⟨b,off,c,bO,rfl,h2,h3,h4,h5⟩;simp at h0;simp only[ZI,ZY]at h2 h3 h4;have h6:=h4;rw[Z3 Ya,List.map_cons,List.take_succ_cons]at h6;have h7:=List.cons.inj h6;refine⟨b,off,c,bO,rfl,h2,h3,?_,λA' K' hh=>?_,λA' K' hh=>?_,h5⟩;rw[Zf Ya,<-h7.1];exact ay.mk rfl Ya Ya h7.2 hh;exact ay.mk Yb Yw (by simpa using h3) (by simpa using h4) hh
def kL (b:Nat)(s:i8):HP:=ut λv:qi=>pt b (qm [v,qh qg s.rv,qt s.kI] qj 1)*ay qg v s.au
def kL.open {A:AW}{L K:List It}{b:Nat}{s:i8}(h:aj A L)(hp:aF L (.h (kL b s)) K):
 ∃v,aj A (.at b (qm [v,qh qg s.rv,qt s.kI] qj 1)::.h (ay qg v s.au)::K):=by unfold aj at h;rw[hp.aP]at h;have h1:bD A (kL b s*aP K):=h;unfold kL at h1;rw[bD.ex]at h1;obtain⟨v,h2⟩:=h1;exact⟨v,h2.dJ (by show _=pt b _*(ay qg v s.au*aP K);rw[HP.dq])⟩
def kL.eB {A:AW}{L K:List It}{b:Nat}{s:i8}{v:qi}(h:aj A L)(hp:bd L [.at b (qm [v,qh qg s.rv,qt s.kI] qj 1),.h (ay qg v s.au)] K):aj A (.h (kL b s)::K):=by unfold aj at h;rw[hp.aP]at h;show bD A (kL b s*aP K);unfold kL;rw[bD.ex];exact⟨v,h.dJ (by show pt b _*(ay qg v s.au*eY)*aP K=_;rw[ei])⟩
def aj.wu {A:AW}{L K:List It}{k:qD}{v:qi}{l:List Int}(h:aj A L)(hp:aF L (.h (ay k v l)) K):b5 A k v l:=by unfold aj at h;rw[hp.aP]at h;exact ay.is h
def uD (b:Nat)(o:Option Addr)(n c:Nat)(rv:Int)(f:Bool)(A:AW)(hg:A.bk b=qf (qm [.slice o n c,qh qg rv,qt f] qj 1)):
 fQ 196 [qs (qf ⟨b,0,qk⟩)] A (qt (f || decide (n=0))):=by
 refine aO Tryz.func196 λ_=>?_;cases f
 all_goals(refine W db (J2 hg @AW.ab) ?_<;>unhygienic intros)
 all_goals exact⟨_,rfl,by simp;try omega,rfl⟩
def Jp (b pb:Nat)(s:i8)(M:Mm):
 bz qZ 197 [qs (qf ⟨b,0,qk⟩),qs (qf ⟨pb,0,qk⟩)] [.h (kL b s),eA pb M]
  (λv=>v=(gx s M).1.v) (λ_=>[.h (kL b (gx s M).2.1),eA pb (gx s M).2.2]):=by
 intro A F hw dU;refine aO Tryz.func197 λ_=>?_;obtain⟨vo,hS⟩:=kL.open dU .z;obtain⟨oo,co,rfl,_⟩:=(aj.wu hS (.s .z)).cL;obtain⟨os,rv,kI⟩:=s;by_cases hd:(kI || decide (U os=0))=qj
 . have hq:=gP hS hw;have yZ:∀A',A'.bk b=qf (qm [.slice oo (U os) co,qh qg rv,qt kI] qj 1)->fQ 196 [qs (qf ⟨b,0,qk⟩)] A' (qt qj):=λA' h=>by have:=uD b oo (U os) co rv kI A' h;rwa [hd]at this
   have e:gx ⟨os,rv,kI⟩ M=(bj.zero,⟨os,rv,kI⟩,M):=az hd;revert hq hS hw;refine W (J2 (od Pw) @yZ) (J4 hd bL @bx.eq_1 @bj.v.eq_1) ?_<;>(unhygienic intros);rw[e];refine⟨_,by simp[AW.ab];rfl,by simp[bj.v,bj.zero],?_⟩;apply aj.bZ
   . apply kL.eB (b:=b) (s:=⟨os,rv,kI⟩) (v:=.slice oo (U os) co)
     (·exact sA)
     (·repeat' (first|apply bd.z|apply bd.s|apply aF.z|apply aF.s))
   (·repeat' (first|apply bd.z|apply bd.s|apply aF.z|apply aF.s))
 obtain⟨hf,hn⟩:kI=qn/\¬U os=0:=by simpa using hd
 subst hf;cases os with
 |nil=>simp at hn
 |cons o os=>
 obtain⟨bo,off,c,bO,hv,L4,AV,bP,UV,hwh,hS⟩:=aj.openI hS (.s .z);injection hv with hv1 hv2 hv3;subst hv1;subst hv3;have yZ:∀A',A'.bk b=qf (qm [.slice (qf ⟨bo,off,qk⟩) (U os+1) co,qh qg rv,qt qn] qj 1)->fQ 196 [qs (qf ⟨b,0,qk⟩)] A' (qt qn):=λA' h=>uD b _ _ co rv qn A' h;have e:gx ⟨o::os,rv,qn⟩ M=(iy M 2 o,⟨os,rv,decide (rv<jO (iy M 2 o).eV)⟩,M):=ar hd;have hq:=gP hS hw;revert hq hS hw;(repeat clear hS);refine W (J4 (od Pw) @yZ @BH (ldL pb)) (J5 bP @fO.eq_1 bL @bx.eq_1 @bj.v.eq_1) ?_<;>(unhygienic intros);rw[e];refine⟨_,by simp[AW.ab];rfl,by simp[bj.v],?_⟩;apply aj.bZ
 . apply kL.eB (b:=b) (s:=⟨os,rv,decide (rv<jO (iy M 2 o).eV)⟩) (v:=.slice (qf ⟨bo,off+1,qk⟩) (U os) (co-1))
   . apply UV;apply aj.front
     (·exact sA)
     (·repeat' (first|apply aF.z|apply aF.s))
   (·repeat' (first|apply bd.z|apply bd.s|apply aF.z|apply aF.s))
 (·repeat' (first|apply bd.z|apply bd.s|apply aF.z|apply aF.s))
end
section
namespace TRefO
def oK [Gl]{A:AW}{L:List It}{T:Prop}(hS:aj A L)(hw:A.Wf)(h':(ba A L/\bB A L/\cd L)=T:=by first|(dsimp only[aa,ah,ba,bB,cd,fw];done)|exact rfl):T:=h'▸hS.fm hw
end TRefO
open TRefO
variable [Gl]
def RefH (cf:bu)(mb:Nat)(M:Nat->List Int):HP:=
 ut λv:qi×qi×qi×qi×qi=>
  pt mb (qm (cf.cells++[v.1,v.2.1,qh qr ((M 2).getD 0 0),qh qr ((M 3).getD 0 0),qh qr ((M 4).getD 0 0),v.2.2.1,v.2.2.2.1,v.2.2.2.2]) qj 1) *
   (ay qr v.1 (M 0)*(ay qr v.2.1 (M 1)*(ay qr v.2.2.1 (M 5)*(ay qr v.2.2.2.1 (M 6)*ay qr v.2.2.2.2 (M 7)))))
def refI (cf:bu)(mb:Nat)(M:Mm):It:=.h (RefH cf mb M)
end
section
open T4
variable [Gl]
def rCheckO (v:qi)(rv:Int)(k:Nat)(f:Bool):dt:=qm [v,qh qg rv,qh qg k,qt f] qj 1
end
section
open T5
variable [Gl]
def iC (a:bj):Int:=if a.cell=8 then 9 else if a.fB=3 then 10 else 8
def eJ (a:bj):Int:=if a.cell=8 then 22 else if a.fB=3 then 23 else 21
def Pr (a:bj)(A:AW)(hw:A.Wf):aE qZ 187 [a.v] A (λv A'=>v=qh qg (iC a)/\A.le A'):=by
 refine aO Tryz.func187 λ_=>?_;by_cases h1:a.cell=8<;>by_cases h2:a.fB=3
 all_goals(revert hw;refine W db (J4 h1 h2 bL @bj.v.eq_1) ?_<;>unhygienic intros)
 all_goals exact⟨_,rfl,by simp[iC,h1,h2],q8 _ _⟩
def Nh (a:bj)(A:AW)(hw:A.Wf):aE qZ 65 [a.v] A (λv A'=>v=qh qg (eJ a)/\A.le A'):=by
 refine aO Tryz.func65 λ_=>?_;by_cases h1:a.cell=8<;>by_cases h2:a.fB=3
 all_goals(revert hw;refine W db (J4 h1 h2 bL @bj.v.eq_1) ?_<;>unhygienic intros)
 all_goals exact⟨_,rfl,by simp[eJ,h1,h2],q8 _ _⟩
def SK (v:qi)(l:List Int)(x:Int)(A:AW)(h:b5 A qg v l)(hl:U l<2^62):
 aE qZ 246 [v,qh qg x] A (λu A'=>(∃r:Int,u=qh qg r/\(0<=r↔x∈l))/\A=A'):=by
 refine aO Tryz.func246 λ_=>?_;obtain⟨o,c,rfl,_⟩:=h.cL;refine W db db ?_<;>(unhygienic intros);refine dO (λk fr A'=>A=A'/\∃i:Nat,k=U l-i/\i<=U l/\fr 0=.slice o (U l) c/\fr 1=qh qg x/\fr 7=qh qg (U l)/\fr 8=qh qg i/\∀j,j<i->l[j]?≠qf x) (U l) ?_ ?_;refine⟨rfl,0,by simp,by simp,rfl,rfl,rfl,rfl,by simp⟩;rintro k fr A'⟨rfl,i,rfl,hi,h0,h1,h7,h8,hj⟩;by_cases b9:i<U l;obtain⟨p,bO,rfl,bP,hcell⟩:=h.at b9;have ij:=C0 (i:=i);refine aU ?_;refine W db (J8 h0 h1 h7 h8 bP hcell b9 ij) (J2 ?_ ?_)<;>intros;refine⟨_,rfl,⟨(i:Int),by simp,?_⟩,rfl⟩;have hx:l[i]=x:=by simp_all
 exact⟨λ_=>hx▸List.getElem_mem b9,λ_=>by omega⟩;refine⟨U l-(i+1),by omega,rfl,i+1,rfl,by omega,?_,?_,?_,?_,?_⟩;simp[h0];simp[h1];simp[h7];simp;intro j BP;by_cases e:j=i;subst e;rw[Zf b9];intro e2;injection e2 with e2;simp_all;exact hj j Ya;refine aU ?_;refine W db (J5 h0 h1 h7 h8 b9) ?_<;>intros;refine⟨_,rfl,⟨-1,by simp,?_⟩,rfl⟩;refine⟨λh=>by omega,λhm=>?_⟩;obtain⟨j,Lb,OJ⟩:=List.getElem_of_mem hm;exact absurd (by rw[Zf Lb,OJ]) (hj j Ya)
def BY (v:qi)(l:List Int)(x:Int)(A:AW)(h:b5 A qg v l)(hl:U l<2^62):
 fQ 181 [v,qh qg x] A (qt (decide (x∈l))):=by
 refine aO Tryz.func181 λ_=>?_
 repeat' (first|(refine lz λR hR=>?_;simp[];try simp(disch:=omega)only[az,ar,an,ax])|(refine hR _ _ ?_;clear hR R)|(refine hK _ _ ?_;clear hK K)|refine nx ?_|refine wn λK hK=>?_|simp only[wS]|(refine bT (SK v l x _ h hl) ?_<;>rintro _ _⟨⟨r,rfl,hr⟩,rfl⟩_ _)|(show df _ _ _ _ _ _;refine nx ?_))
 exact⟨_,rfl,by simp[hr],rfl⟩
end
section
abbrev Ig:List (Nat×Nat):=[(0,0),(1,0),(2,0),(3,0),(4,0),(5,0),(6,0),(7,0),(8,0),(9,0),(10,0)]
open T5
variable [Gl]
def aj.append {P:Program}{A:AW}{L K:List It}{t e:TypeId}{i:TypeInfo}{z:qi}{v:qi}{k:qD}{l:List Int}(h:aj A L)(hp:aF L (.h (ay k v l)) K)(y:Int)(hu:P.underlying t=qf (.slice e))(hi:P.info? e=qf i)(hz:i.zero=qf z)(iP:i.size=1)(rR:z.cells.size=1)(cy:U l<2 ^ 40)(CH:i.bytes<=8)(hw:A.Wf):
 ∃v' A',fD P (A.alloc (qm [qh k y] qj 1)) t t v (.slice (qf ⟨A.next,0,qk⟩) 1 1)=qf (v',A')/\aj A' (.h (ay k v' (l++[y]))::K)/\A'.Wf/\A.next<=A'.next/\∃o c,v'=.slice o (U l+1) c:=by
 have h1:bD A (ay k v l*aP K):=by unfold aj at h;rw[hp.aP]at h;exact h
 obtain⟨v',A',e1,h2,h3,h4⟩:=ay.append (P:=P) (t:=t) y hu hi hz iP rR h1 cy CH hw;obtain⟨o,c,h5,_⟩:=(ay.is h2).cL;exact⟨v',A',e1,h2,h3,h4,o,c,by simpa using h5⟩
def zg (fg:Nat)(v:qi):dt:=qm [qh qg fg,v] qj 1
def Bx (b:Nat)(fg:Nat)(l:List Int):HP:=ut λv:qi=>pt b (zg fg v)*ay qg v l
def eT (fg:Nat)(l:List Int)(x:Int):Bool×List Int:=if x∈l then (qj,l) else if fg<=U l then (qn,l) else (qj,l++[x])
def Bx.open {A:AW}{L K:List It}{b fg:Nat}{l:List Int}(h:aj A L)(hp:aF L (.h (Bx b fg l)) K):∃v,aj A (.at b (zg fg v)::.h (ay qg v l)::K):=by unfold aj at h;rw[hp.aP]at h;have h1:bD A (Bx b fg l*aP K):=h;unfold Bx at h1;rw[bD.ex]at h1;obtain⟨v,h2⟩:=h1;exact⟨v,h2.dJ (by show _=pt b _*(ay qg v l*aP K);rw[HP.dq])⟩
def Bx.eB {A:AW}{L K:List It}{b fg:Nat}{l:List Int}{v:qi}(h:aj A L)(hp:bd L [.at b (zg fg v),.h (ay qg v l)] K):aj A (.h (Bx b fg l)::K):=by unfold aj at h;rw[hp.aP]at h;show bD A (Bx b fg l*aP K);unfold Bx;rw[bD.ex];exact⟨v,h.dJ (by show pt b _*(ay qg v l*eY)*aP K=_;rw[ei])⟩
def Pe (b fg:Nat)(v:qi)(l:List Int)(x:Int)(A:AW)(hg:A.bk b=qf (zg fg v))(h:b5 A qg v l)(hl:U l<2^62):
 fQ 247 [qs (qf ⟨b,0,qk⟩),qh qg x] A (qt (decide (x∈l))):=by
 refine aO Tryz.func247 λ_=>?_;dsimp only[zg]at hg;refine W (J1 (BY v l x _ h hl)) (J2 hg @AW.ab) ?_<;>intros
 all_goals exact⟨_,rfl,rfl,rfl⟩
def oF (b fg:Nat)(l:List Int)(x:Int)(hc:U l<=fg)(AV:fg<=32):
 bz qZ 182 [qs (qf ⟨b,0,qk⟩),qh qg x] [.h (Bx b fg l)] (λu=>u=qt (eT fg l x).1) (λ_=>[.h (Bx b fg (eT fg l x).2)]):=by
 intro A F hw dU;refine aO Tryz.func182 λ_=>?_;obtain⟨vo,hS⟩:=Bx.open dU .z;have hI:=aj.wu hS (.s .z);have wx:=hS.g 0 rfl;have hg:=wx;dsimp only[zg]at hg;obtain⟨oo,co,rfl,_⟩:=hI.cL;have xj:=Pe b fg _ l x A wx hI Ya;by_cases h1:x∈l;rw[decide_eq_true h1]at xj;have e:eT fg l x=(qj,l):=az h1;refine W (J2 (od Ig) @xj) (J3 hg h1 @AW.ab) ?_<;>intros;refine⟨_,rfl,by simp[e],?_⟩;rw[e];exact dU;rw[decide_eq_false h1]at xj;by_cases h2:fg<=U l
 . have e:eT fg l x=(qn,l):=(by unfold eT;rw[ar h1,az h2]);have h3:(fg:Int)<=U l:=Ya
   skip
   refine W (J2 (od Ig) @xj) (J4 hg h1 h3 @AW.ab) ?_<;>intros;refine⟨_,rfl,by simp[e],?_⟩;rw[e];exact dU
 have e:eT fg l x=(qj,l++[x]):=by unfold eT;rw[ar h1,ar h2]
 have h3:¬(fg:Int)<=U l:=Ya
 have h4:¬(U l:Int)=fg:=Ya
 obtain⟨v',A',e1,jK,jG,_,o2,c2,rfl⟩:=aj.append (P:=qZ) (t:=23) hS (.s .z) x Tryz.underlying23 Tryz.info3 Tryz.zero3 rfl rfl Ya Yb hw;have Qm:=jK.g 1 rfl;dsimp only[zg]at Qm;refine W (J2 (od Ig) @xj) (J7 hg h1 h3 h4 e1 Qm bL) ?_<;>intros;refine⟨_,by rfl,by simp[e],?_⟩;rw[e];exact Bx.eB (v:=.slice o2 (U l+1) c2) (aj.io jK (.s .z)) (.s .z (.s .z .z))
end
section
open T6
variable [Gl]
def mZ (fg:Nat)(va vv vi:qi):dt:=qm [qh qg fg,va,vv,vi] qj 1
end
section
open T7
variable [Gl]
def aj.Ut {A:AW}{L K:List It}{k:qD}{v:qi}{l:List Int}(h:aj A L)(hp:aF L (.h (ay k v l)) K){j:Nat}(hj:j<U l):
 ∃b off c bO,v=.slice (qf ⟨b,off,qk⟩) (U l) c/\off+U l<=U bO/\bO[off+j]?=qf (qh k (l.getD j 0))/\
  (∀y A' K',aj A' (.at b (qm (bO.set (off+j) (qh k y)) qj 1)::K')->aj A' (.h (ay k v (l.set j y))::K'))/\aj A (.at b (qm bO qj 1)::K):=by
 have h1:bD A (ay k v l*aP K):=by have h0:=h;unfold aj at h0;rw[hp.aP]at h0;exact h0
 rcases dv.cases h1 with ⟨_,h0,_⟩|⟨b,off,c,bO,rfl,h2,h3,h4,h5⟩;omega;rw[ZY]at h3 h4;refine⟨b,off,c,bO,rfl,h3,?_,λy A' K' hh=>ay.mk Yb Yw (by simpa using h3) ?_ hh,h5⟩;have:bO[off+j]?=(l.map (Value.int k))[j]?:=by rw[h4,List.getElem?_take_of_lt hj,List.getElem?_drop]
 rw[this,List.getElem?_map,Zf hj,Ze,Zf hj];rfl;rw[List.map_set,h4,List.drop_set,ar Ya,show off+j-off=j by omega,List.length_set,List.take_set]
def tG (b:Nat)(s:wj):HP:=ut λva:qi=>ut λvv:qi=>ut λvi:qi=>pt b (mZ s.fg va vv vi)*(ay qg va s.bU*(ay qr vv s.gi*ay qg vi s.index))
def tG.open {A:AW}{L K:List It}{b:Nat}{s:wj}(h:aj A L)(hp:aF L (.h (tG b s)) K):
 ∃va vv vi,aj A (.at b (mZ s.fg va vv vi)::.h (ay qg va s.bU)::.h (ay qr vv s.gi)::.h (ay qg vi s.index)::K):=by unfold aj at h;rw[hp.aP]at h;have h1:bD A (tG b s*aP K):=h;unfold tG at h1;rw[bD.ex]at h1;obtain⟨va,h1⟩:=h1;rw[bD.ex]at h1;obtain⟨vv,h1⟩:=h1;rw[bD.ex]at h1;obtain⟨vi,h1⟩:=h1;exact⟨va,vv,vi,h1.dJ (by show _=pt b _*(ay qg va s.bU*(ay qr vv s.gi*(ay qg vi s.index*aP K)));ac_rfl)⟩
def tG.eB {A:AW}{L K:List It}{b:Nat}{s:wj}{va vv vi:qi}(h:aj A L)(hp:bd L [.at b (mZ s.fg va vv vi),.h (ay qg va s.bU),.h (ay qr vv s.gi),.h (ay qg vi s.index)] K):aj A (.h (tG b s)::K):=by unfold aj at h;rw[hp.aP]at h;show bD A (tG b s*aP K);unfold tG;rw[bD.ex];refine⟨va,?_⟩;rw[bD.ex];refine⟨vv,?_⟩;rw[bD.ex];exact⟨vi,h.dJ (by show pt b _*(ay qg va s.bU*(ay qr vv s.gi*(ay qg vi s.index*eY)))*aP K=_;rw[ei])⟩
def Hz {a:Int}{n:Nat}(ha:0<=a):a.tmod (n:Int)=((a.toNat % n:Nat):Int):=by rw[Int.tmod_eq_emod_of_nonneg ha,Int.natCast_emod,Int.toNat_of_nonneg ha]
def WD {n:Nat}(hn:0<n)(BO:n<=64){a:Int}(ha:0<=a):(Zb.wrap (a.tmod (n:Int)*5)).tmod (n:Int)=(nv n a:Int):=by
 have h1:a.toNat % n<n:=Nat.mod_lt _ hn;rw[Hz ha];generalize he:a.toNat % n=r at h1;rw[an (x:=(r:Int)*5) Ya Ya,Hz Ya];have h2:((r:Int)*5).toNat=r*5:=Ya
 rw[h2];unfold nv;rw[he]
def st_next {n k:Nat}(hn:0<n)(BO:n<=64)(m:Nat):(((st n k m:Nat):Int)+1).tmod (n:Int)=((st n k (m+1):Nat):Int):=by
 have h1:=FE (k:=k) (d:=m) hn;have h2:=FE (k:=k) (d:=m+1) hn;rw[Hz Ya];have h3:(((st n k m:Nat):Int)+1).toNat=st n k m+1:=Ya
 have h4:(st n k m+1) % n=st n k (m+1):=by unfold st;rw[Nat.mod_add_mod];rfl
 rw[h3,h4]
end
section
abbrev Ha:List (Nat×Nat):=[(0,0),(1,0),(2,0),(3,0),(4,0),(5,0),(6,0),(7,0),(8,0),(9,0),(10,0),(11,0),(12,0),(13,0),(14,0)]
abbrev G9:List (Nat×Nat):=[(0,0),(1,0),(2,0),(3,0),(4,0),(5,0),(6,0),(7,0),(8,0),(9,0),(10,0),(11,0),(12,0),(13,0),(14,0),(15,0),(16,0),(17,0),(18,0),(19,0),(20,0),(21,0),(22,0),(23,0),(24,0)]
abbrev UG:List (Nat×Nat):=[(0,0),(1,0),(2,0),(3,0),(4,0),(5,0),(6,2),(7,0),(8,0),(9,0)]
open T7
variable [Gl]
def FV (b:Nat)(va vv vi:qi)(s:wj)(a:Int)(A:AW)(ki:sz s)(ha:0<=a)(AV:s.fg<=32)(OL:U s.index<=64)(hg:A.bk b=qf (mZ s.fg va vv vi))(hIa:b5 A qg va s.bU)(hIi:b5 A qg vi s.index):
 ∃p,p<U s.index/\((∃e,zX s.bU a=qf e/\ix s.index p=e)\/(zX s.bU a=qk/\ix s.index p<0/\Ed s.index (nv (U s.index) a)=p))/\
  fQ 217 [qs (qf ⟨b,0,qk⟩),qh qg a] A (qh qg p):=by
 obtain⟨d,hd,hway,ry⟩:=ki.probe a;have hn:0<U s.index:=Ya
 refine⟨_,FE hn,ry,?_⟩;refine aO Tryz.func217 λ_=>?_;obtain⟨oa,ca,rfl,_⟩:=hIa.cL;obtain⟨oi,ci,rfl,_⟩:=hIi.cL;dsimp only[mZ]at hg;have hk:=WD (n:=U s.index) hn OL ha;have U3:=IZ hn a;generalize nv (U s.index) a=k0 at *;have fL:¬s.index=[]:=λe=>by rw[e]at hn;simp at hn
 have cy:U s.bU<=32:=Nat.le_trans ki.fg AV;refine W (J2 (od Ha) (od G9)) (J4 hg hk fL @AW.ab) ?_<;>(unhygienic intros);refine dO (λk fr A'=>A=A'/\∃m:Nat,k=d-m/\m<=d/\fr 0=qs (qf ⟨b,0,qk⟩)/\fr 1=qh qg a/\fr 5=qh qg (st (U s.index) k0 m)) d ?_ ?_;refine⟨rfl,0,by simp,by simp,rfl,rfl,by simp[GW U3]⟩;rintro k fr A'⟨rfl,m,rfl,hm,h0,h1,h5⟩;have cJ:=st_next (n:=U s.index) (k:=k0) hn OL m;have OH:=FE (k:=k0) (d:=m) hn;obtain⟨p,bO,rfl,bP,hcell⟩:=hIi.at OH;have jv:s.index[st (U s.index) k0 m]=ix s.index (st (U s.index) k0 m):=by unfold ix;rw[Ze,Zf OH];rfl
 rw[jv]at hcell;have hrng:=ki.rng _ OH;by_cases b9:m<d;obtain⟨U4,hnea⟩:=hway m b9;obtain⟨x,hx⟩:∃x:Nat,ix s.index (st (U s.index) k0 m)=x:=⟨(ix s.index (st (U s.index) k0 m)).toNat,by omega⟩;rw[hx]at hcell hnea hrng;have hxl:x<U s.bU:=Ya
 obtain⟨pa,rowa,rfl,hrowa,NG⟩:=hIa.at hxl;have hnea':¬s.bU[x]=a:=by intro e;apply hnea;rw[Int.toNat_natCast,Ze,Zf hxl];exact e
 generalize s.bU[x]=y at *;refine aU ?_;refine W (J2 (od Ha) (od G9)) (y9 hg h0 h1 h5 bP hcell hrowa NG hxl hnea' OH cJ fL @AW.ab) ?_<;>intros;refine⟨d-(m+1),by omega,rfl,m+1,rfl,by omega,?_,?_,?_⟩;simp[h0];simp[h1];simp;obtain rfl:m=d:=Ya
 rcases ry with ⟨e,Ww,he⟩|⟨Ww,he,_⟩;obtain⟨h3,h4,_⟩:=ye Ww;rw[he]at hcell;obtain⟨pa,rowa,rfl,hrowa,NG⟩:=hIa.at h3;have h5':s.bU[e]=a:=by rw[Ze,Zf h3]at h4;exact h4
 rw[h5']at NG;refine aU ?_;refine W (J2 (od Ha) (od G9)) (Ay hg h0 h1 h5 bP hcell hrowa NG h3 OH fL @AW.ab) ?_<;>intros;exact⟨_,by simp,rfl,rfl⟩;have he':¬0<=ix s.index (st (U s.index) k0 m):=Ya
 refine aU ?_;refine W (J2 (od Ha) (od G9)) (Hr hg h0 h1 h5 bP hcell he' OH fL @AW.ab) ?_<;>intros;exact⟨_,by simp,rfl,rfl⟩
def PQ (b:Nat)(va vv vi:qi)(s:wj)(a:Int)(A:AW)(ki:sz s)(ha:0<=a)(AV:s.fg<=32)(OL:U s.index<=64)(hg:A.bk b=qf (mZ s.fg va vv vi))(hIa:b5 A qg va s.bU)(hIv:b5 A qr vv s.gi)(hIi:b5 A qg vi s.index):
 fQ 136 [qs (qf ⟨b,0,qk⟩),qh qg a] A (qF #[qh qr (mG s a).1,qt (mG s a).2]):=by
 refine aO Tryz.func136 λ_=>?_;obtain⟨p,hp,hcase,mT⟩:=FV b va vv vi s a A ki ha AV OL hg hIa hIi;dsimp only[mZ]at hg;have ha':¬a<0:=Ya
 obtain⟨oi,ci,rfl,_⟩:=hIi.cL;obtain⟨ov,cv,rfl,_⟩:=hIv.cL;obtain⟨q,bO,rfl,bP,hcell⟩:=hIi.at hp;have jv:s.index[p]=ix s.index p:=by unfold ix;rw[Ze,Zf hp];rfl
 rw[jv]at hcell;rcases hcase with ⟨e,Ww,he⟩|⟨Ww,he,_⟩;rw[he]at hcell;have h3:e<U s.gi:=by rw[ki.SE];exact(ye Ww).1
 obtain⟨qv,rowv,rfl,hrowv,hcellv⟩:=hIv.at h3;have kH:mG s a=(s.gi[e],qj):=by simp[mG,Ww,Zf h3]
 have hpe:¬(e:Int)<0:=Ya
 refine W (J2 (od UG) @mT) (Hr hg ha' bP hcell hp hpe hrowv hcellv h3 @AW.ab) ?_<;>intros;exact⟨_,rfl,by simp[kH],rfl⟩;have kH:mG s a=(0,qn):=by simp[mG,Ww]
 refine W (J2 (od UG) @mT) (J7 hg ha' bP hcell hp he @AW.ab) ?_<;>intros;exact⟨_,rfl,by simp[kH],rfl⟩
end
section
open T7
variable [Gl]
def MY (b fg:Nat)(v:qi)(l:List Int)(A:AW)(hg:A.bk b=qf (zg fg v))(h:b5 A qg v l)(hl:U l<2^39):
 aE qZ 194 [qs (qf ⟨b,0,qk⟩)] A (λu A'=>fW A.next A' qg u l/\A.le A'):=by refine aO Tryz.func194 λ_=>?_;dsimp only[zg]at hg;refine W db (J2 hg @AW.ab) ?_<;>(unhygienic intros);refine bT (kJ v l A h hl) ?_;rintro u A1⟨h1,h2⟩jt _;refine W db db ?_<;>intros;exact⟨_,rfl,h1,h2⟩
def KR (b fg:Nat)(va vv vi:qi)(l:List Int)(A:AW)(hg:A.bk b=qf (mZ fg va vv vi))(h:b5 A qg va l)(hl:U l<2^39):
 aE qZ 124 [qs (qf ⟨b,0,qk⟩)] A (λu A'=>fW A.next A' qg u l/\A.le A'):=by refine aO Tryz.func124 λ_=>?_;dsimp only[mZ]at hg;refine W db (J2 hg @AW.ab) ?_<;>(unhygienic intros);refine bT (kJ va l A h hl) ?_;rintro u A1⟨h1,h2⟩jt _;refine W db db ?_<;>intros;exact⟨_,rfl,h1,h2⟩
def Iw (b fg:Nat)(va vv vi:qi)(l:List Int)(A:AW)(hg:A.bk b=qf (mZ fg va vv vi))(h:b5 A qr vv l)(hl:U l<2^39):
 aE qZ 202 [qs (qf ⟨b,0,qk⟩)] A (λu A'=>fW A.next A' qr u l/\A.le A'):=by refine aO Tryz.func202 λ_=>?_;dsimp only[mZ]at hg;refine W db (J2 hg @AW.ab) ?_<;>(unhygienic intros);refine bT (jL vv l A h hl) ?_;rintro u A1⟨h1,h2⟩jt _;refine W db db ?_<;>intros;exact⟨_,rfl,h1,h2⟩
def PP (b fg:Nat)(o:Option Addr)(n c:Nat)(vv vi:qi)(A:AW)(hg:A.bk b=qf (mZ fg (.slice o n c) vv vi)):
 fQ 250 [qs (qf ⟨b,0,qk⟩)] A (qh qg n):=by refine aO Tryz.func250 λ_=>?_;dsimp only[mZ]at hg;exact XS
def PI (v:qi)(l:List Int)(rv:Int)(A:AW)(F:HP)(h:b5 A qg v l)(hl:U l<2^38)(hw:A.Wf)(hS:bD A F):
 aE qZ 193 [v,qh qg rv] A (λu A'=>∃b,u=qs (qf ⟨b,0,qk⟩)/\bD A' (kL b ⟨l,rv,qn⟩*F)/\A.le A'):=by refine aO Tryz.func193 λ_=>?_;revert hS hw;refine W db db ?_<;>(unhygienic intros);refine bT (kJ v l A h Ya) ?_;rintro u A1⟨h1,h2⟩jt _;obtain⟨o1,c1,rfl,_⟩:=h1.is.cL;revert hS hw;(repeat first|revert R|revert K);refine W db db ?_<;>(unhygienic intros);refine⟨_,by (simp;done),A1.next,rfl,?_,h2.trans (q8 _ _)⟩;have jH:=(ay.jh hS hw h2 h1).alloc jt (qm [.slice o1 (U l) c1,qh qg rv,qt qn] qj 1);unfold kL;rw[bD.ex];exact⟨.slice o1 (U l) c1,jH.dJ (by show _=pt A1.next (qm [.slice o1 (U l) c1,qh qg rv,qt qn] qj 1)*ay qg (.slice o1 (U l) c1) l*F;rw[HP.dq])⟩
end
section
abbrev oMachC_0:List (Nat×Nat):=[(0,0),(1,0),(2,0),(3,0),(4,0),(5,0),(6,0),(7,0),(8,0),(9,0),(10,0),(11,0)]
abbrev uk:List (Nat×Nat):=[(0,0),(1,0),(2,0),(3,0),(4,0),(5,0),(6,0),(7,0),(8,0),(9,0),(10,0),(11,0),(12,3),(13,0),(14,0),(15,0),(16,3)]
abbrev uj:List (Nat×Nat):=[(0,0),(1,0),(2,0),(3,0),(4,0),(5,0),(6,2),(7,0),(8,0),(9,0),(10,3),(11,0),(12,0),(13,3)]
abbrev ui:List (Nat×Nat):=[(0,0),(1,0),(2,0),(3,0),(4,0),(5,0),(6,0),(7,0),(8,0),(9,0),(10,0),(11,0),(12,0),(13,0),(14,0),(15,0),(16,0),(17,0),(18,0),(19,0),(20,0),(21,0),(22,0),(23,0),(24,0),(25,0),(26,0),(27,3),(28,0),(29,0),(30,0),(31,3)]
abbrev wO:List (Nat×Nat):=[(0,0),(1,0),(2,0),(3,0),(4,0),(5,0),(6,0),(7,0),(8,0),(9,2),(10,3),(11,0),(12,0),(13,3)]
open T7
variable [Gl]
structure iR where
 af:Int
 au:List Int
 eD:List Int
 dC:Int
 fx:Bool
def iR.done (s:iR):Bool:=decide (U s.eD=U s.au)
def jb (b:Nat)(s:iR):HP:=ut λvo:qi=>ut λvw:qi=>pt b (qm [qh qg s.af,vo,vw,qh qr s.dC,qt s.fx] qj 1)*(ay qg vo s.au*ay qr vw s.eD)
def jb.open {A:AW}{b:Nat}{s:iR}{F:HP}(h:bD A (jb b s*F)):
 ∃vo vw,bD A (pt b (qm [qh qg s.af,vo,vw,qh qr s.dC,qt s.fx] qj 1)*(ay qg vo s.au*(ay qr vw s.eD*F))):=by unfold jb at h;rw[bD.ex]at h;obtain⟨vo,h⟩:=h;rw[bD.ex]at h;obtain⟨vw,h⟩:=h;exact⟨vo,vw,h.dJ Ye⟩
def jb.eB {A:AW}{b:Nat}{s:iR}{F:HP}{vo vw:qi}(h:bD A (pt b (qm [qh qg s.af,vo,vw,qh qr s.dC,qt s.fx] qj 1)*(ay qg vo s.au*(ay qr vw s.eD*F)))):
 bD A (jb b s*F):=by unfold jb;rw[bD.ex];refine⟨vo,?_⟩;rw[bD.ex];exact⟨vw,h.dJ Ye⟩
def rQ (b:Nat)(s:iR)(A:AW)(F:HP)(h:bD A (jb b s*F)):
 aE qZ 189 [qs (qf ⟨b,0,qk⟩)] A (λv A'=>v=qt s.done/\A=A'):=by refine aO Tryz.func189 λhw=>?_;obtain⟨vo,vw,hS⟩:=jb.open h;obtain⟨oo,co,rfl,_⟩:=(ay.is hS.right).cL;obtain⟨ow,cw,rfl,_⟩:=(ay.is hS.right.right).cL;have hg:=hS.bk;refine W (J1 (od oMachC_0)) (J2 hg @AW.ab) ?_<;>intros;simp[iR.done];omega
def eg (s:iR):Int:=s.au.getD (U s.eD) 0
def iN (s:iR):Int:=Zc.wrap (Zc.wrap (s.dC+Zc.wrap s.af)+1)
def ep (s:iR)(M:Nat->List Int):bj×iR×(Nat->List Int):=
 if s.done=qj then (bj.zero,s,M)
 else if s.fx=qn then
  let a:=fk M 1 2 (eg s) lQ
  (a,{ s with dC:=a.eV,fx:=decide (mo a.eV<0) },M)
 else
  let a:=fk M 3 2 (eg s) (lc s.dC (iN s))
  (a,{ s with fx:=qn,eD:=if a.done=qj then s.eD++[s.dC]else s.eD },mw M 2 (eg s) (lc s.dC (iN s)))
def KS (b pb:Nat)(s:iR)(M:Nat->List Int)(cy:U s.eD<=U s.au)(Qf:U s.au<2^38):
 tc qZ 188 [qs (qf ⟨b,0,qk⟩),qs (qf ⟨pb,0,qk⟩)] (jb b s*fp pb M)
  (λv=>GL (v=(ep s M).1.v)*(jb b (ep s M).2.1*fp pb (ep s M).2.2)):=by
 intro A F hw dU;refine aO Tryz.func188 λ_=>?_;rw[HP.dq]at dU;have jH:=((dU.alloc hw (qm bx qj 1)).alloc (hw.alloc _) (qm bx qj 1));have jK:bD ((A.alloc (qm bx qj 1)).alloc (qm bx qj 1)) (jb b s*(fp pb M*(pt (A.next+1) (qm bx qj 1)*(pt A.next (qm bx qj 1)*F)))):=jH.dJ YM;by_cases nu:s.done=qj;revert hw;refine W (J5 (od uk) (od uj) (od ui) (od wO) (rQ b s _ _ jK)) (J3 nu bL @bx.eq_1) ?_<;>(unhygienic intros);have cJ:ep s M=(bj.zero,s,M):=by unfold ep;rw[az nu]
 rw[cJ];refine⟨_,by simp[AW.ab];rfl,bD.post Xd ?_⟩;rw[HP.dq];exact dU.le hw ((((q8 A _).trans (q8 _ _)).set (Nat.le_refl _) _));have hdone':s.done=qn:=by simpa using nu
 have b9:U s.eD<U s.au:=by
  have:¬U s.eD=U s.au:=by simpa[iR.done]using nu
  omega
 have gf:(U s.eD:Int)<U s.au:=Ya
 obtain⟨vo,vw,yG⟩:=jb.open dU;have hg:=yG.bk;have hSo:bD A (ay qg vo s.au*(pt b (qm [qh qg s.af,vo,vw,qh qr s.dC,qt s.fx] qj 1)*(ay qr vw s.eD*(fp pb M*F)))):=yG.dJ Ye;obtain⟨bo,off,c,bO,rfl,_,wx,tw,_,_⟩:=ay.at hSo b9;obtain⟨ow,cw,rfl,_⟩:=(ay.is yG.right.right).cL;obtain⟨nb,nb'⟩:=hw.eD hg;obtain⟨no,no'⟩:=hw.eD wx;have Qk:s.au[U s.eD]=eg s:=by unfold eg;rw[Ze,Zf b9];rfl
 rw[Qk]at tw;cases NC:s.fx
 . rw[NC]at hg;revert hw;refine W (J5 (od uk) (od uj) (od ui) (od wO) (rQ b s _ _ jK)) (Ay hdone' hg wx tw nb nb' no no' b9 gf bL @bx.eq_1) ?_<;>(unhygienic intros);have zM:bD _ (fp pb M*(jb b s*(pt (A.next+1) (qm bx qj 1)*(pt A.next (qm bx qj 1)*F)))):=jK.dJ Ye;refine(PM pb M 2 (eg s)).use ((hw.alloc _).alloc _) zM rfl ?_;intro v A2 Bt jG BO;obtain⟨rfl,C4⟩:=Bt.tS;clear Bt;have cJ:ep s M=(fk M 1 2 (eg s) lQ,{ s with dC:=(fk M 1 2 (eg s) lQ).eV,fx:=decide (mo (fk M 1 2 (eg s) lQ).eV<0) },M):=by unfold ep;rw[ar nu,az NC]
   generalize fk M 1 2 (eg s) lQ=a at cJ C4 ⊢;have hS7:bD A2 (jb b s*(pt (A.next+1) (qm bx qj 1)*(pt A.next (qm bx qj 1)*(fp pb M*F)))):=C4.dJ Ye;obtain⟨FB,BA,hS8⟩:=jb.open hS7;have Hf:bD A2 (pt b (qm [qh qg s.af,FB,BA,qh qr s.dC,qt s.fx] qj 1)*(pt (A.next+1) (qm bx qj 1)*(pt A.next (qm bx qj 1)*(ay qg FB s.au*(ay qr BA s.eD*(fp pb M*F)))))):=hS8.dJ Ye;have xk:=Hf.bk;have zL:=Hf.right.bk;have C3:=Hf.right.right.bk;have n1:=Hf.ne;have n2:=Hf.ne2;have n3:=Hf.right.ne;refine W (J5 (od uk) (od uj) (od ui) (od wO) @Dr) (oP xk zL C3 n1 n2 n3 NC (Zp n1) (Zp n2) (Zp n3) bL @bx.eq_1 @bj.v.eq_1) ?_<;>intros;refine⟨_,by simp[AW.ab];rfl,bD.post YQ ?_⟩;rw[cJ,HP.dq];refine jb.eB (vo:=FB) (vw:=BA) (bD.QH Hf (by simp[AW.cU,n2]) (λj x h1 h2 h3 hx=>?_));simp[AW.cU,h1,h2,h3,hx]
 rw[NC]at hg;revert hw;refine W (J5 (od uk) (od uj) (od ui) (od wO) (rQ b s _ _ jK)) (Ay hdone' hg wx tw nb nb' no no' b9 gf bL @bx.eq_1) ?_<;>(unhygienic intros);have zM:bD _ (fp pb M*(jb b s*(pt (A.next+1) (qm bx qj 1)*(pt A.next (qm bx qj 1)*F)))):=jK.dJ Ye;refine(PL pb M 2 (eg s) _ _).use ((hw.alloc _).alloc _) zM rfl ?_;intro v A2 Bt jG BO;obtain⟨rfl,C4⟩:=Bt.tS;clear Bt;have cJ:ep s M=(fk M 3 2 (eg s) (lc s.dC (iN s)),{ s with fx:=qn,eD:=if (fk M 3 2 (eg s) (lc s.dC (iN s))).done=qj then s.eD++[s.dC]else s.eD },mw M 2 (eg s) (lc s.dC (iN s))):=by unfold ep;rw[ar nu,ar (by simp[NC])]
 have ru:Zc.wrap (Zc.wrap (s.dC+Zc.wrap s.af)+1)=iN s:=rfl;rw[ru]at C4 ⊢;generalize fk M 3 2 (eg s) (lc s.dC (iN s))=a at cJ C4 ⊢;generalize mw M 2 (eg s) (lc s.dC (iN s))=M' at cJ C4;have hS7:bD A2 (jb b s*(pt (A.next+1) (qm bx qj 1)*(pt A.next (qm bx qj 1)*(fp pb M'*F)))):=C4.dJ Ye;obtain⟨FB,BA,hS8⟩:=jb.open hS7;have Hf:bD A2 (pt b (qm [qh qg s.af,FB,BA,qh qr s.dC,qt s.fx] qj 1)*(pt (A.next+1) (qm bx qj 1)*(pt A.next (qm bx qj 1)*(ay qg FB s.au*(ay qr BA s.eD*(fp pb M'*F)))))):=hS8.dJ Ye;have xk:=Hf.bk;have zL:=Hf.right.bk;have C3:=Hf.right.right.bk;have n1:=Hf.ne;have n2:=Hf.ne2;have n3:=Hf.right.ne;cases nG:a.done;refine W (J4 (od uk) (od uj) (od ui) (od wO)) (y9 xk zL C3 n1 n2 n3 NC nG (Zp n1) (Zp n2) (Zp n3) bL @bx.eq_1 @bj.v.eq_1) ?_<;>intros;refine⟨_,by simp[AW.ab];rfl,bD.post (by rw[cJ];simp[bj.v,nG]) ?_⟩
 rw[cJ,HP.dq];simp only[nG,Bool.false_eq_true,if_false];refine jb.eB (vo:=FB) (vw:=BA) (bD.QH Hf (by simp[AW.cU,n2]) (λj x h1 h2 h3 hx=>?_));simp[AW.cU,h1,h2,h3,hx];revert hw;(repeat first|revert hc|revert R|revert K);refine W (J3 (od uk) (od uj) (od ui)) (y9 xk zL C3 n1 n2 n3 NC nG (Zp n1) (Zp n2) (Zp n3) bL @bx.eq_1 @bj.v.eq_1) ?_<;>(unhygienic intros);refine Eh (λA3=>A3.Wf/\bD A3 (pt b (qm [qh qg s.af,FB,BA,qh qr s.dC,qt qn] qj 1)*(pt (A.next+1) (qm a.cells qj 1)*(pt A.next (qm bx qj 1)*(ay qg FB s.au*(ay qr BA s.eD*(fp pb M'*F))))))) ?_ ?_;refine⟨(jG.set _ (jG.lt zL)).set _ (jG.lt xk),bD.upd3 Hf Yb (by simp[AW.cU,Zp n1,bj.cells,nG]) (by simp[AW.cU,Zp n2,C3,bx]) (λj x h1 h2 h3 hx=>by simp[AW.cU,h1,h2,hx])⟩;rintro A3⟨E6,GO⟩;have hg3b:=GO.bk;have hg31:=GO.right.bk;have hg30:=GO.right.right.bk
 obtain⟨v',A4,e1,pU,rS,_⟩:=ay.append (P:=qZ) (t:=59) s.dC Tryz.underlying59 Tryz.info45 Tryz.zero45 rfl rfl
  (GO.dJ Ye:bD A3 (ay qr BA s.eD*(pt b (qm [qh qg s.af,FB,BA,qh qr s.dC,qt qn] qj 1)*(pt (A.next+1) (qm a.cells qj 1)*(pt A.next (qm bx qj 1)*(ay qg FB s.au*(fp pb M'*F)))))))
  Ya Yb E6
 have hS12:bD A4 (pt b (qm [qh qg s.af,FB,BA,qh qr s.dC,qt qn] qj 1)*(pt (A.next+1) (qm a.cells qj 1)*(pt A.next (qm bx qj 1)*(ay qg FB s.au*(ay qr v' (s.eD++[s.dC])*(fp pb M'*F)))))):=pU.dJ Ye;have hg4b:=hS12.bk;have hg41:=hS12.right.bk;have hg40:=hS12.right.right.bk;obtain⟨o3,n3',Bj⟩:True/\(b=A3.next)=False/\∀k,(b=A3.next+k)=False:=⟨trivial,(E6.eD hg3b).1,(E6.eD hg3b).2⟩;have hv':∃o c,v'=.slice o (U s.eD+1) c:=by obtain⟨o,c,h,_⟩:=(ay.is pU).cL;exact⟨o,c,by simpa using h⟩
 obtain⟨o',c',rfl⟩:=hv';refine W (J4 (od uk) (od uj) (od ui) (od wO)) (J19 hg3b hg31 hg30 hg4b hg41 hg40 n1 n2 n3 n3' Bj e1 nG (Zp n1) (Zp n2) (Zp n3) bL @bx.eq_1 (J2 @bj.v.eq_1 @bj.cells.eq_1)) ?_<;>intros;refine⟨_,by simp[AW.ab];rfl,bD.post (by rw[cJ];simp[bj.v,nG]) ?_⟩;rw[cJ,HP.dq];simp only[nG,if_true];refine jb.eB (vo:=FB) (vw:=.slice o' (U s.eD+1) c') (bD.QH hS12 (by simp[AW.cU,n2]) (λj x h1 h2 h3 hx=>?_));simp[AW.cU,h1,h3,hx]
end
section
open T7
variable [Gl]
structure jS where
 os:List Int
 ws:List Int
def jm (b:Nat)(s:jS):HP:=ut λvo:qi=>ut λvw:qi=>pt b (qm [vo,vw] qj 1)*(ay qg vo s.os*ay qr vw s.ws)
def jm.open {A:AW}{b:Nat}{s:jS}{F:HP}(h:bD A (jm b s*F)):
 ∃vo vw,bD A (pt b (qm [vo,vw] qj 1)*(ay qg vo s.os*(ay qr vw s.ws*F))):=by unfold jm at h;rw[bD.ex]at h;obtain⟨vo,h⟩:=h;rw[bD.ex]at h;obtain⟨vw,h⟩:=h;exact⟨vo,vw,h.dJ Ye⟩
def jm.eB {A:AW}{b:Nat}{s:jS}{F:HP}{vo vw:qi}(h:bD A (pt b (qm [vo,vw] qj 1)*(ay qg vo s.os*(ay qr vw s.ws*F)))):
 bD A (jm b s*F):=by unfold jm;rw[bD.ex];refine⟨vo,?_⟩;rw[bD.ex];exact⟨vw,h.dJ Ye⟩
def jS.done (s:jS):Bool:=decide (U s.os=0)
def xF (b:Nat)(s:jS)(A:AW)(F:HP)(h:bD A (jm b s*F)):
 aE qZ 209 [qs (qf ⟨b,0,qk⟩)] A (λv A'=>v=qt s.done/\A=A'):=by refine aO Tryz.func209 λhw=>?_;obtain⟨vo,vw,hS⟩:=jm.open h;obtain⟨oo,co,rfl,_⟩:=(ay.is hS.right).cL;obtain⟨ow,cw,rfl,_⟩:=(ay.is hS.right.right).cL;have hg:=hS.bk;refine W db (J2 hg @AW.ab) ?_<;>intros;simp[jS.done]
def ay.tl {A:AW}{k:qD}{v:qi}{x:Int}{l:List Int}{F:HP}(h:bD A (ay k v (x::l)*F)):
 ∃b off c bO,v=.slice (qf ⟨b,off,qk⟩) (U l+1) c/\A.bk b=qf (qm bO qj 1)/\(∀j o F',F=pt j o*F'->b≠j)/\(∀j o i o' F',F=pt j o*(pt i o'*F')->b≠i)/\bD A (ay k (.slice (qf ⟨b,off+1,qk⟩) (U l) (c-1)) l*F):=by rcases dv.cases h with ⟨_,h0,_⟩|⟨b,off,c,bO,rfl,h1,h2,h3,h4⟩;simp at h0;refine⟨b,off,c,bO,by simp,h4.bk,λj o F' e=>by subst e;exact h4.ne,λj o i o' F' e=>by subst e;exact h4.ne2,?_⟩;simp only[ZI,ZY]at h1 h2 h3;refine ay.mk rfl Ya Ya ?_ h4;rw[Z3 Ya,List.map_cons,List.take_succ_cons]at h3;exact(List.cons.inj h3).2
def ii (s:jS)(M:Nat->List Int):bj×jS×(Nat->List Int):=
 if s.done=qj then (bj.zero,s,M)
 else (fk M 2 2 (s.os.getD 0 0) (ga (s.ws.getD 0 0)),⟨s.os.tail,s.ws.tail⟩,mw M 2 (s.os.getD 0 0) (ga (s.ws.getD 0 0)))
def M7 (b pb:Nat)(s:jS)(M:Nat->List Int)(cy:U s.os=U s.ws):
 tc qZ 208 [qs (qf ⟨b,0,qk⟩),qs (qf ⟨pb,0,qk⟩)] (jm b s*fp pb M)
  (λv=>GL (v=(ii s M).1.v)*(jm b (ii s M).2.1*fp pb (ii s M).2.2)):=by
 intro A F hw dU;refine aO Tryz.func208 λ_=>?_;rw[HP.dq]at dU;have jH:=(dU.alloc hw (qm bx qj 1));have jK:bD (A.alloc (qm bx qj 1)) (jm b s*(fp pb M*(pt A.next (qm bx qj 1)*F))):=jH.dJ Ye;by_cases nu:s.done=qj;have hd:=xF b s _ _ jK;rw[nu]at hd;revert hw;refine Wu (J2 (⟨⟩:Ts (λ_=>True) [0,0,0,0,0,0,0,0,0,0,0,0,0,3,0,0,0,2,3,0] (.aM 0 (.aM 1 (.aM 2 (.aM 3 (.aM 4 (.aM 5 (.aM 6 (.aM 7 (.aM 8 (.aM 9 (.aM 10 (.aM 11 (.aM 12 (.wm 13 (.aM 14 (.aM 15 (.aM 16 (.aM 17 (.aM 18 (.aM 19 .nil)))))) 17 (.aM 13 (.aM 14 (.aM 15 (.aM 16 (.aM 18 (.aM 19 .nil))))))))))))))))))))) @hd) (J2 bL @bx.eq_1) ?_<;>(unhygienic intros);have cJ:ii s M=(bj.zero,s,M):=by unfold ii;rw[az nu]
 rw[cJ];refine⟨_,by simp[AW.ab];rfl,bD.post Xd ?_⟩;rw[HP.dq];exact dU.le hw ((q8 A _).set (Nat.le_refl _) _);have hd:=xF b s _ _ jK;rw[show s.done=qn by simpa using nu]at hd;obtain⟨os,ws⟩:=s;cases os with
 |nil=>simp[jS.done]at nu
 |cons o os=>
 cases ws with
 |nil=>simp at cy
 |cons x ws=>
 have cJ:ii ⟨o::os,x::ws⟩ M=(fk M 2 2 o (ga x),⟨os,ws⟩,mw M 2 o (ga x)):=by unfold ii;rw[ar nu];rfl
 obtain⟨vo,vw,yG⟩:=jm.open dU;have hg:=yG.bk;have hSo:bD A (ay qg vo (o::os)*(pt b (qm [vo,vw] qj 1)*(ay qr vw (x::ws)*(fp pb M*F)))):=yG.dJ Ye;have hSw:bD A (ay qr vw (x::ws)*(pt b (qm [vo,vw] qj 1)*(ay qg vo (o::os)*(fp pb M*F)))):=yG.dJ Ye;obtain⟨bo,off,c,bO,rfl,_,wx,tw,_,_⟩:=ay.at hSo (j:=0) Yb;obtain⟨bw,offw,cw,roww,rfl,_,hgw,WA,_,_⟩:=ay.at hSw (j:=0) Yb;obtain⟨nb,nb'⟩:=hw.eD hg;obtain⟨no,no'⟩:=hw.eD wx;obtain⟨nw,nw'⟩:=hw.eD hgw;simp at wx tw hgw WA;revert hw;refine Wu (J2 @hd (⟨⟩:Ts (λ_=>True) [0,0,0,0,0,0,0,0,0,0,0,0,0,3,0,0,0,2,3,3] (.aM 0 (.aM 1 (.aM 2 (.aM 3 (.aM 4 (.aM 5 (.aM 6 (.aM 7 (.aM 8 (.aM 9 (.aM 10 (.aM 11 (.aM 12 (.wm 13 (.aM 14 (.aM 15 (.aM 16 (.aM 17 (.aM 18 (.aM 19 .nil)))))) 17 (.aM 13 (.aM 14 (.aM 15 (.aM 16 (.aM 18 (.aM 19 .nil)))))))))))))))))))))) (oP hg wx tw hgw WA nb nb' no no' nw nw' bL @bx.eq_1) (J2 ?_ ?_)<;>(unhygienic intros)
 . have zM:bD _ (fp pb M*(jm b ⟨o::os,x::ws⟩*(pt A.next (qm bx qj 1)*F))):=jK.dJ Ye;refine(wQ pb M 2 o x).use (hw.alloc _) zM rfl ?_;intro v A2 Bt jG BO;obtain⟨rfl,C4⟩:=Bt.tS;clear Bt;generalize fk M 2 2 o (ga x)=a at cJ C4 ⊢;generalize mw M 2 o (ga x)=M' at cJ C4;generalize s7 M 2 o=er at C4 ⊢;have hS7:bD A2 (jm b ⟨o::os,x::ws⟩*(pt A.next (qm bx qj 1)*(fp pb M'*F))):=C4.dJ Ye;obtain⟨FB,BA,hS8⟩:=jm.open hS7;obtain⟨Ju,If,Jn,rowo2,rfl,xZ,SU,hno3,Hf⟩:=ay.tl (hS8.dJ Ye:bD A2 (ay qg FB (o::os)*(pt b (qm [FB,BA] qj 1)*(ay qr BA (x::ws)*(pt A.next (qm bx qj 1)*(fp pb M'*F))))));obtain⟨N5,Sk,TA,HZ,rfl,xX,ST,hnw3,GO⟩:=ay.tl (Hf.dJ Ye:bD A2 (ay qr BA (x::ws)*(pt b (qm [.slice (qf ⟨Ju,If,qk⟩) (U os+1) Jn,BA] qj 1)*(ay qg (.slice (qf ⟨Ju,If+1,qk⟩) (U os) (Jn-1)) os*(pt A.next (qm bx qj 1)*(fp pb M'*F))))))
   have pU:=(GO.dJ Ye:bD A2 (pt b (qm [.slice (qf ⟨Ju,If,qk⟩) (U os+1) Jn,.slice (qf ⟨N5,Sk,qk⟩) (U ws+1) TA] qj 1)*(pt A.next (qm bx qj 1)*(ay qg (.slice (qf ⟨Ju,If+1,qk⟩) (U os) (Jn-1)) os*(ay qr (.slice (qf ⟨N5,Sk+1,qk⟩) (U ws) (TA-1)) ws*(fp pb M'*F))))));have xk:=pU.bk;have C3:=pU.right.bk;have n1:=pU.ne;obtain⟨rt,Cu⟩:=jG.eD xk;obtain⟨Sp,Cq⟩:=jG.eD xZ;obtain⟨So,Co⟩:=jG.eD xX;obtain⟨Ip,Cv⟩:=jG.eD C3;have e1:(1:Int)<=(U os:Int)+1:=Ya;have e2:(1:Int)<=(U ws:Int)+1:=Ya;have n2:=SU _ _ _ rfl;have n3:=ST _ _ _ rfl;have Nr:A2.next≠b:=λe=>by rw[<-e]at rt;simp at rt
   have PK:A2.next≠A.next:=λe=>by rw[<-e]at Ip;simp at Ip
   repeat' (first|(refine lz λR hR=>?_;simp[AW.ab,aI,bx,xk,C3,xZ,xX,Zp n1,n3,rt,Sp,So,Ip,e1,e2,Nr,fO];try simp(disch:=omega)only[az,ar,an,ax])|(refine hR _ _ ?_;clear hR R)|(refine hK _ _ ?_;clear hK K)|refine nx ?_|(refine VC λR hR=>?_;simp[aI,bj.v];try simp(disch:=omega)only[az,ar,an,ax])|refine VB ?_|refine wn λK hK=>?_|simp only[wS]|(refine ⟨λA' wY=>by rw[wY]<;>rfl,?_⟩)|(refine wlS (λA'=>A'.bk N5=qf (qm HZ qj 1)) Tryz.mx [(0,0),(1,0),(2,0),(3,0),(4,0),(5,0),(6,0),(7,0),(8,0),(9,0),(10,0),(11,1),(12,0),(13,0),(14,3),(15,0),(16,0),(17,3)] Yc λK hK=>?_)|(show df _ _ _ _ _ _;refine nx ?_))
   refine⟨_,by simp[AW.ab];rfl,bD.post YQ ?_⟩;rw[cJ,HP.dq];refine jm.eB (vo:=.slice (qf ⟨Ju,If+1,qk⟩) (U os) (Jn-1)) (vw:=.slice (qf ⟨N5,Sk+1,qk⟩) (U ws) (TA-1)) (bD.fin11 pU Y0 (λj x h1 h2 hx=>?_));have hj:=(jG.eD hx).1;simp[AW.cU,h1,h2,hx,hj]
 have zM:bD _ (fp pb M*(jm b ⟨o::os,x::ws⟩*(pt (A.next+1) (qm bx qj 1)*(pt A.next (qm bx qj 1)*F)))):=((jK.alloc (hw.alloc _) (qm bx qj 1)).dJ YM);refine(wQ pb M 2 o x).use ((hw.alloc _).alloc _) zM rfl ?_;intro v A2 Bt jG BO;obtain⟨rfl,C4⟩:=Bt.tS;clear Bt;generalize fk M 2 2 o (ga x)=a at cJ C4 ⊢;generalize mw M 2 o (ga x)=M' at cJ C4;generalize s7 M 2 o=er at C4 ⊢;have hS7:bD A2 (jm b ⟨o::os,x::ws⟩*(pt (A.next+1) (qm bx qj 1)*(pt A.next (qm bx qj 1)*(fp pb M'*F)))):=C4.dJ Ye;obtain⟨FB,BA,hS8⟩:=jm.open hS7;obtain⟨Ju,If,Jn,rowo2,rfl,xZ,SU,hno3,Hf⟩:=ay.tl (hS8.dJ Ye:bD A2 (ay qg FB (o::os)*(pt b (qm [FB,BA] qj 1)*(pt (A.next+1) (qm bx qj 1)*(ay qr BA (x::ws)*(pt A.next (qm bx qj 1)*(fp pb M'*F)))))));obtain⟨N5,Sk,TA,HZ,rfl,xX,ST,hnw3,GO⟩:=ay.tl (Hf.dJ Ye:bD A2 (ay qr BA (x::ws)*(pt b (qm [.slice (qf ⟨Ju,If,qk⟩) (U os+1) Jn,BA] qj 1)*(pt (A.next+1) (qm bx qj 1)*(ay qg (.slice (qf ⟨Ju,If+1,qk⟩) (U os) (Jn-1)) os*(pt A.next (qm bx qj 1)*(fp pb M'*F)))))))
 have pU:=(GO.dJ Ye:bD A2 (pt b (qm [.slice (qf ⟨Ju,If,qk⟩) (U os+1) Jn,.slice (qf ⟨N5,Sk,qk⟩) (U ws+1) TA] qj 1)*(pt (A.next+1) (qm bx qj 1)*(pt A.next (qm bx qj 1)*(ay qg (.slice (qf ⟨Ju,If+1,qk⟩) (U os) (Jn-1)) os*(ay qr (.slice (qf ⟨N5,Sk+1,qk⟩) (U ws) (TA-1)) ws*(fp pb M'*F)))))));have xk:=pU.bk;have zL:=pU.right.bk;have C3:=pU.right.right.bk;have n1:=pU.ne2;have n4:=pU.ne;have n5:=pU.right.ne;obtain⟨n12,Su⟩:=jG.eD zL;obtain⟨rt,Cu⟩:=jG.eD xk;obtain⟨Sp,Cq⟩:=jG.eD xZ;obtain⟨So,Co⟩:=jG.eD xX;obtain⟨Ip,Cv⟩:=jG.eD C3;have e1:(1:Int)<=(U os:Int)+1:=Ya
 have e2:(1:Int)<=(U ws:Int)+1:=Ya
 have n2:=SU _ _ _ rfl;have n3:=ST _ _ _ rfl;have n6:=hno3 _ _ _ _ _ rfl;have n7:=hnw3 _ _ _ _ _ rfl;have Nr:A2.next≠b:=λe=>by rw[<-e]at rt;simp at rt
 have PK:A2.next≠A.next:=λe=>by rw[<-e]at Ip;simp at Ip
 repeat' (first|(refine lz λR hR=>?_;simp[AW.ab,aI,bx,xk,C3,n6,n7,n4,Zp n4,xZ,xX,Zp n1,n3,e1,e2,fO];try simp(disch:=omega)only[az,ar,an,ax])|(refine hR _ _ ?_;clear hR R)|(refine hK _ _ ?_;clear hK K)|refine nx ?_|(refine VC λR hR=>?_;simp[aI,bx,zL,bj.v];try simp(disch:=omega)only[az,ar,an,ax])|refine VB ?_|refine wn λK hK=>?_|simp only[wS]|(refine ⟨λA' wY=>by rw[wY]<;>rfl,?_⟩)|(refine wlS (λA'=>A'.bk N5=qf (qm HZ qj 1)) Tryz.mx [(0,0),(1,0),(2,0),(3,0),(4,0),(5,0),(6,0),(7,0),(8,0),(9,0),(10,0),(11,1),(12,0),(13,0),(14,3),(15,0),(16,0),(17,3)] Yc λK hK=>?_)|(show df _ _ _ _ _ _;refine nx ?_))
 refine⟨_,by simp[AW.ab];rfl,bD.post YQ ?_⟩;rw[cJ,HP.dq];refine jm.eB (vo:=.slice (qf ⟨Ju,If+1,qk⟩) (U os) (Jn-1)) (vw:=.slice (qf ⟨N5,Sk+1,qk⟩) (U ws) (TA-1)) (bD.QH pU Y0 (λj x h1 h2 h3 hx=>?_));simp[AW.cU,h1,h2,h3,hx]
end
end Go.Stx
