/-
 The machines of a transaction, without the program: what each step does.
-/
import Derived.Test.YtpealkdhmnomhaaGreatDoorG02
set_option linter.unusedVariables false
set_option linter.unusedSimpArgs false
set_option linter.unusedSectionVars false
set_option maxRecDepth 20000
set_option maxHeartbeats 4000000
open Go.IntKind renaming i64->qY,u64->q8
open Go.Proofs.Tryz renaming prog->qV
open Go.Stx.AW.le renaming alloc->qW,refl->Zl,set->ZG,trans->ZB
open Int renaming toNat_natCast->ZQ
open List renaming getD_eq_getElem?_getD->Za,getElem?_eq_getElem->q9,getElem?_set_self->ZV
open Bool renaming false->qk,true->qg
open Go renaming Value->qd
open Go.IntKind renaming i64->qa,u64->qj
open Go.Stx.eh renaming cells->qi
open Go.Value renaming bool->qn,int->qb,pointer->qm,slice->qf,tuple->qA
open Option renaming none->qh,some->qc
namespace Go.Stx
open Go Go.Proofs
attribute [local irreducible] cM aV aB aL cU dh TW bI
section
variable [Gl]
def lG (o:Int):Int×Bool:=(o,qg)
def ej (v:Int) (_:Int):Int×Bool:=(v,qg)
def jJ (ey v:Int) (o:Int):Int×Bool:=(v,decide (o=ey))
def IX (v:Int) (o:Int):Int×Bool:=(q8.wrap (o+v),qg)
abbrev Mm:=Nat->List Int
def iL (M:Mm) (cell cg:Int):bh:=eR M 1 cell cg lG
def EM (M:Mm) (cell cg v:Int):bh:=eR M 2 cell cg (ej v)
def If (M:Mm) (cell cg ey v:Int):bh:=eR M 3 cell cg (jJ ey v)
def H5 (M:Mm) (cell cg v:Int):bh:=eR M 4 cell cg (IX v)
def u7 (M:Mm) (cell cg v:Int):Mm:=kL M cell cg (ej v)
def swM (M:Mm) (cell cg ey v:Int):Mm:=kL M cell cg (jJ ey v)
def adM (M:Mm) (cell cg v:Int):Mm:=kL M cell cg (IX v)
structure gT where
 am:Int
 cr:Int
 aC:Int
def gT.xH (s:gT):Int:=if s.cr<=1 then -1 else qY.wrap s.aC
def gw (s:gT) (M:Mm):bh×gT×Mm:=
 if s.cr=0 then (EM M 6 s.am 1,{ s with cr:=1 },u7 M 6 s.am 1)
 else if s.cr=1 then (iL M 3 0,{ s with cr:=2,aC:=(iL M 3 0).eY },M)
 else if s.cr=2 then (EM M 6 s.am (q8.wrap (s.aC+2)),{ s with cr:=3 },u7 M 6 s.am (q8.wrap (s.aC+2)))
 else (bh.zero,s,M)
structure jh where
 jZ:Bool
 dQ:Int
 done:Bool
def jh.gB (s:jh):Int:=if s.jZ=qg then qY.wrap s.dQ else -1
def fX (s:jh) (M:Mm):bh×jh×Mm:=
 if s.done=qg then (bh.zero,s,M)
 else if s.jZ=qk then (H5 M 4 0 1,{ s with jZ:=qg,dQ:=(H5 M 4 0 1).eY },adM M 4 0 1)
 else (iL M 5 0,{ s with done:=decide ((iL M 5 0).eY=s.dQ) },M)
def rR (dQ:Int):Int:=q8.wrap (q8.wrap dQ+1)
structure rM where
 eZ:Int
 cr:Int
 head:Int
 next:Int
 block:Int
def gH (s:rM) (M:Mm):bh×rM×Mm:=
 if s.cr=0 then (iL M 7 s.eZ,{ s with head:=(iL M 7 s.eZ).eY,cr:=if ka (iL M 7 s.eZ).eY<0 then 3 else 1 },M)
 else if s.cr=1 then (iL M 8 (ka s.head),{ s with next:=(iL M 8 (ka s.head)).eY,cr:=2 },M)
 else if s.cr=2 then
  let w:=rr s.head (qY.wrap (qY.wrap s.next-1))
  (If M 7 s.eZ s.head w,if (If M 7 s.eZ s.head w).done=qg then { s with cr:=3,block:=ka s.head } else { s with cr:=0 },swM M 7 s.eZ s.head w)
 else (bh.zero,s,M)
structure gs where
 eZ:Int
 block:Int
 cr:Int
 head:Int
def dR (s:gs) (M:Mm):bh×gs×Mm:=
 if s.cr=0 then (iL M 7 s.eZ,{ s with head:=(iL M 7 s.eZ).eY,cr:=1 },M)
 else if s.cr=1 then
  let w:=q8.wrap (qY.wrap (ka s.head+1))
  (EM M 8 s.block w,{ s with cr:=2 },u7 M 8 s.block w)
 else if s.cr=2 then
  let w:=rr s.head s.block
  (If M 7 s.eZ s.head w,{ s with cr:=if (If M 7 s.eZ s.head w).done=qg then 3 else 0 },swM M 7 s.eZ s.head w)
 else (bh.zero,s,M)
structure jj where
 d8:Int
 iK:Int
 rv:Int
 cr:Int
 dM:Int
 value:Int
 iS:Bool
def jj.done (s:jj):Bool:=decide (s.cr=3)
def jj.val (s:jj):Int:=if s.cr=3/\s.iS=qk then s.value else 0
def dW (s:jj) (M:Mm):bh×jj×Mm:=
 if s.cr=0 then
  let a:=iL M 2 s.iK
  (a,if oH a.eY≥0\/mX a.eY>s.rv then { s with dM:=a.eY,iS:=qg,cr:=3 } else { s with dM:=a.eY,cr:=1 },M)
 else if s.cr=1 then (iL M 1 s.d8,{ s with value:=(iL M 1 s.d8).eY,cr:=2 },M)
 else if s.cr=2 then (iL M 2 s.iK,{ s with iS:=decide ((iL M 2 s.iK).eY≠s.dM),cr:=3 },M)
 else (bh.zero,s,M)
structure iU where
 av:List Int
 rv:Int
 kB:Bool
def iU.done (s:iU):Bool:=s.kB || decide (s.av.length=0)
def eD (s:iU) (M:Mm):bh×iU×Mm:=
 if s.done=qg then (bh.zero,s,M)
 else (iL M 2 (s.av.getD 0 0),{ s with av:=s.av.tail,kB:=decide (mX (iL M 2 (s.av.getD 0 0)).eY>s.rv) },M)
end
section
abbrev oMemO_0:List (Nat×Nat):=[(0,0),(1,0),(2,0),(3,0),(4,0),(5,0)]
namespace TMemO
theorem nO [Gl] {A:AW} {L:List It} {T:Prop} (hS:aj A L) (hw:A.Wf) (h':(aW A L/\bz A L/\cd L)=T:=by first|(dsimp only [aa,ah,aW,bz,cd,ff];done)|exact rfl):T:=h'▸hS.eX hw
end TMemO
open TMemO
variable [Gl]
theorem Vp {M:Nat->List Int} {cell cg:Int} {g:Int->Int×Bool} (h:∀o,(g o).2=qg->(g o).1=o):kL M cell cg g=M:=by
 unfold kL;split;rename_i hc;funext k;simp only [setRow];split;rename_i e;rw [h _ hc.2];have hh:1<=cell/\cell<=8:=by
  have:=hc.1;simp only [dl,eQ] at this;split at this;assumption;simp at this;omega
 have hr:eQ M cell=M k:=by rw [e];exact ay hh
 have hi:0<=cg/\cg<(M k).length:=by
  have:=hc.1;rw [dl,hr] at this
  simpa using this
 rw [hr];apply List.ext_getElem?;intro q;by_cases eq:cg.toNat=q;subst eq;rw [ZV Ya,Za,q9 Ya];rfl;rw [List.getElem?_set_ne eq];rfl;rfl
theorem PK (ey:Int):oR qV 196 [qb qj ey] fl (λv=>BH (v=qA #[qb qj (lG ey).1,qn (lG ey).2])*fl):=by
 intro A F hw hS;refine aK Tryz.func196 λ_=>?_;revert hS hw;refine W cx cx ?_<;>(unhygienic intros);exact⟨_,rfl,bB.post rfl hS⟩
theorem MN (b:Nat) (x ey:Int):oR qV 235 [qb qj ey,qm (qc ⟨b,0,qh⟩)] (pt b (qi [qb qj x] qg 1))
 (λv=>BH (v=qA #[qb qj (ej x ey).1,qn (ej x ey).2])*pt b (qi [qb qj x] qg 1)):=by
 intro A F hw hS;refine aK Tryz.func235 λ_=>?_;have hg:=hS.bk;revert hS hw;refine W cx (J2 hg @AW.ab) ?_<;>(unhygienic intros);exact⟨_,rfl,bB.post rfl hS⟩
theorem OZ (b c:Nat) (x y ey:Int):oR qV 264 [qb qj ey,qm (qc ⟨b,0,qh⟩),qm (qc ⟨c,0,qh⟩)]
 (pt b (qi [qb qj x] qg 1)*pt c (qi [qb qj y] qg 1))
 (λv=>BH (v=qA #[qb qj (jJ y x ey).1,qn (jJ y x ey).2])*(pt b (qi [qb qj x] qg 1)*pt c (qi [qb qj y] qg 1))):=by
 intro A F hw hS;refine aK Tryz.func264 λ_=>?_;rw [HP.de] at hS;have hg:=hS.bk;have BJ:=hS.right.bk;revert hS hw;refine W (J1 (od oMemO_0)) (J3 hg BJ @AW.ab) ?_<;>(unhygienic intros);exact⟨_,rfl,bB.post (by simp [jJ]) (by rw [HP.de];exact hS)⟩
theorem Nt (pb:Nat) (M:Nat->List Int) (cell cg:Int) :
 oR qV 144 [qm (qc ⟨pb,0,qh⟩),qb qa cell,qb qa cg] (fg pb M)
  (λv=>BH (v=qA #[(eR M 1 cell cg lG).v,qb qa (rS M cell cg)])*fg pb M):=by
 intro A F hw hS;refine aK Tryz.func144 λ_=>?_;revert hS hw;refine W cx cx ?_<;>(unhygienic intros);have js:bB (A.alloc (qi bn qg 1)) ((fg pb M*fl)*(pt A.next (qi bn qg 1)*F)):=by
  rw [dH];exact(hS.alloc hw _).dD Yd
 refine(r9 pb M 1 cell cg _ #[] #[] fl lG PK).use (hw.alloc _) js rfl ?_;intro v A2 lO jE _;obtain⟨rfl,Av⟩:=lO.rB;clear lO;rw [dH,Vp (by intro o _;rfl)] at Av;have Ab:bB A2 (pt A.next (qi bn qg 1)*(fg pb M*F)):=Av.dD Yd;have hg:=Ab.bk;refine W cx (J5 hg bC @bn.eq_1 @opV.eq_1 @bh.v.eq_1) ?_<;>intros;exact⟨_,by simp [AW.ab];rfl,bB.post YR (Ab.set _).right⟩
theorem vG (pb:Nat) (M:Nat->List Int) (cell cg x:Int) :
 oR qV 160 [qm (qc ⟨pb,0,qh⟩),qb qa cell,qb qa cg,qb qj x] (fg pb M)
  (λv=>BH (v=qA #[(eR M 2 cell cg (ej x)).v,qb qa (rS M cell cg)])*fg pb (kL M cell cg (ej x))):=by
 intro A F hw hS;refine aK Tryz.func160 λ_=>?_;revert hS hw;refine W cx cx ?_<;>(unhygienic intros);have iZ:=hw.alloc (qi [qb qj x] qg 1)
 have js:bB ((A.alloc (qi [qb qj x] qg 1)).alloc (qi bn qg 1)) ((fg pb M*pt A.next (qi [qb qj x] qg 1))*(pt (A.next+1) (qi bn qg 1)*F)):=
  ((hS.alloc hw (qi [qb qj x] qg 1)).alloc iZ (qi bn qg 1)).dD YK
 refine(r9 pb M 2 cell cg _ #[] #[qm (qc ⟨A.next,0,qh⟩)] _ (ej x) (MN A.next x)).use (iZ.alloc _) js rfl ?_;intro v A2 lO jE _;obtain⟨rfl,Av⟩:=lO.rB;clear lO;have Ab:bB A2 (pt (A.next+1) (qi bn qg 1)*(pt A.next (qi [qb qj x] qg 1)*(fg pb (kL M cell cg (ej x))*F))):=Av.dD Yd;have hg:=Ab.bk;refine W cx (J5 hg bC @bn.eq_1 @opV.eq_1 @bh.v.eq_1) ?_<;>intros;exact⟨_,by simp [AW.ab];rfl,bB.post YR (Ab.set _).right.right⟩
theorem Ns (pb:Nat) (M:Nat->List Int) (cell cg x y:Int) :
 oR qV 199 [qm (qc ⟨pb,0,qh⟩),qb qa cell,qb qa cg,qb qj x,qb qj y] (fg pb M)
  (λv=>BH (v=qA #[(eR M 3 cell cg (jJ x y)).v,qb qa (rS M cell cg)])*fg pb (kL M cell cg (jJ x y))):=by
 intro A F hw hS;refine aK Tryz.func199 λ_=>?_;revert hS hw;refine W cx cx ?_<;>(unhygienic intros);have iZ:=hw.alloc (qi [qb qj x] qg 1);have jE:=iZ.alloc (qi [qb qj y] qg 1)
 have js:bB (((A.alloc (qi [qb qj x] qg 1)).alloc (qi [qb qj y] qg 1)).alloc (qi bn qg 1))
  ((fg pb M*(pt (A.next+1) (qi [qb qj y] qg 1)*pt A.next (qi [qb qj x] qg 1)))*(pt (A.next+1+1) (qi bn qg 1)*F)):=
  (((hS.alloc hw (qi [qb qj x] qg 1)).alloc iZ (qi [qb qj y] qg 1)).alloc jE (qi bn qg 1)).dD YK
 refine(r9 pb M 3 cell cg _ #[] #[qm (qc ⟨A.next+1,0,qh⟩),qm (qc ⟨A.next,0,qh⟩)] _ (jJ x y) (OZ (A.next+1) A.next y x)).use (jE.alloc _) js rfl ?_;intro v A2 lO wV _;obtain⟨rfl,Av⟩:=lO.rB;clear lO;have Ab:bB A2 (pt (A.next+1+1) (qi bn qg 1)*(pt A.next (qi [qb qj x] qg 1)*(pt (A.next+1) (qi [qb qj y] qg 1)*(fg pb (kL M cell cg (jJ x y))*F)))):=Av.dD Yd;have hg:=Ab.bk;refine W cx (J5 hg bC @bn.eq_1 @opV.eq_1 @bh.v.eq_1) ?_<;>intros;exact⟨_,by simp [AW.ab];rfl,bB.post YR (Ab.set _).right.right.right⟩
theorem T9 (b:Nat) (x ey:Int):oR qV 284 [qb qj ey,qm (qc ⟨b,0,qh⟩)] (pt b (qi [qb qj x] qg 1))
 (λv=>BH (v=qA #[qb qj (IX x ey).1,qn (IX x ey).2])*pt b (qi [qb qj x] qg 1)):=by
 intro A F hw hS;refine aK Tryz.func284 λ_=>?_;have hg:=hS.bk;revert hS hw;refine W cx (J2 hg @AW.ab) ?_<;>(unhygienic intros);exact⟨_,by (simp;rfl),bB.post (by simp [IX]) hS⟩
theorem mem_add (pb:Nat) (M:Nat->List Int) (cell cg x:Int) :
 oR qV 268 [qm (qc ⟨pb,0,qh⟩),qb qa cell,qb qa cg,qb qj x] (fg pb M)
  (λv=>BH (v=qA #[(eR M 4 cell cg (IX x)).v,qb qa (rS M cell cg)])*fg pb (kL M cell cg (IX x))):=by
 intro A F hw hS;refine aK Tryz.func268 λ_=>?_;revert hS hw;refine W cx cx ?_<;>(unhygienic intros);have iZ:=hw.alloc (qi [qb qj x] qg 1)
 have js:bB ((A.alloc (qi [qb qj x] qg 1)).alloc (qi bn qg 1)) ((fg pb M*pt A.next (qi [qb qj x] qg 1))*(pt (A.next+1) (qi bn qg 1)*F)):=
  ((hS.alloc hw (qi [qb qj x] qg 1)).alloc iZ (qi bn qg 1)).dD YK
 refine(r9 pb M 4 cell cg _ #[] #[qm (qc ⟨A.next,0,qh⟩)] _ (IX x) (T9 A.next x)).use (iZ.alloc _) js rfl ?_;intro v A2 lO jE _;obtain⟨rfl,Av⟩:=lO.rB;clear lO;have Ab:bB A2 (pt (A.next+1) (qi bn qg 1)*(pt A.next (qi [qb qj x] qg 1)*(fg pb (kL M cell cg (IX x))*F))):=Av.dD Yd;have hg:=Ab.bk;refine W cx (J5 hg bC @bn.eq_1 @opV.eq_1 @bh.v.eq_1) ?_<;>intros;exact⟨_,by simp [AW.ab];rfl,bB.post YR (Ab.set _).right.right⟩
def ei (pb:Nat) (M:Mm):It:=.h (fg pb M)
theorem mm (pb:Nat) (M:Mm):aO [ei pb M]=fg pb M:=by show fg pb M*fl=_;rw [dH]
theorem VT (pb:Nat) (M:Mm) (cell cg:Int):bx qV 144 [qm (qc ⟨pb,0,qh⟩),qb qa cell,qb qa cg] [ei pb M]
 (λv=>v=qA #[(iL M cell cg).v,qb qa (rS M cell cg)]) (λ_=>[ei pb M]):=
 bx.rf (Nt pb M cell cg) (mm pb M) λv=>by rw [mm];rfl
theorem stL (pb:Nat) (M:Mm) (cell cg x:Int):bx qV 160 [qm (qc ⟨pb,0,qh⟩),qb qa cell,qb qa cg,qb qj x] [ei pb M]
 (λv=>v=qA #[(EM M cell cg x).v,qb qa (rS M cell cg)]) (λ_=>[ei pb (u7 M cell cg x)]):=
 bx.rf (vG pb M cell cg x) (mm pb M) λv=>by rw [mm];rfl
theorem swL (pb:Nat) (M:Mm) (cell cg x y:Int):bx qV 199 [qm (qc ⟨pb,0,qh⟩),qb qa cell,qb qa cg,qb qj x,qb qj y] [ei pb M]
 (λv=>v=qA #[(If M cell cg x y).v,qb qa (rS M cell cg)]) (λ_=>[ei pb (swM M cell cg x y)]):=
 bx.rf (Ns pb M cell cg x y) (mm pb M) λv=>by rw [mm];rfl
theorem adL (pb:Nat) (M:Mm) (cell cg x:Int):bx qV 268 [qm (qc ⟨pb,0,qh⟩),qb qa cell,qb qa cg,qb qj x] [ei pb M]
 (λv=>v=qA #[(H5 M cell cg x).v,qb qa (rS M cell cg)]) (λ_=>[ei pb (adM M cell cg x)]):=
 bx.rf (mem_add pb M cell cg x) (mm pb M) λv=>by rw [mm];rfl
end
section
abbrev Ng:List (Nat×Nat):=[(0,0),(1,0),(2,0),(3,0),(4,0),(5,0),(6,0),(7,0),(8,0),(9,0),(10,3),(11,0),(12,0),(13,0),(14,3)]
abbrev VB:List (Nat×Nat):=[(0,0),(1,0),(2,0),(3,0),(4,0),(5,0),(6,0),(7,0),(8,0),(9,0),(10,3)]
abbrev VA:List (Nat×Nat):=[(0,0),(1,0),(2,0),(3,0),(4,0),(5,0),(6,0),(7,0),(8,0),(9,0),(10,2),(11,0),(12,0),(13,0),(14,0),(15,0)]
open T0
variable [Gl]
def iQ (s:gT):eh:=qi [qb qa s.am,qb qa s.cr,qb qj s.aC] qg 1
def kO (s:jh):eh:=qi [qn s.jZ,qb qj s.dQ,qn s.done] qg 1
def oZ (s:rM):eh:=qi [qb qa s.eZ,qb qa s.cr,qb qj s.head,qb qj s.next,qb qa s.block] qg 1
def iR (s:gs):eh:=qi [qb qa s.eZ,qb qa s.block,qb qa s.cr,qb qj s.head] qg 1
def jw (s:jj):eh:=qi [qb qa s.d8,qb qa s.iK,qb qa s.rv,qb qa s.cr,qb qj s.dM,qb qj s.value,qn s.iS] qg 1
abbrev accC (a:bh):List qd:=[qb qa a.fx,qb qa a.cell,qb qa a.cg,qb qj a.eY,qb qj a.put,qn a.done]
def fD (f:FuncId) (args:List qd) (A:AW) (u:qd):Prop:=aB qV f args A λv A'=>v=u/\A=A'
theorem IF (t:Int) (A:AW):aB qV 247 [qb qa t] A (λv A'=>v=qm (qc ⟨A.next,0,qh⟩)/\A'=A.alloc (iQ ⟨t,0,0⟩)):=by
 refine aK Tryz.func247 λ_=>?_;refine W cx cx ?_<;>intros;exact⟨_,rfl,rfl,rfl⟩
theorem Hj (b:Nat) (s:gT) (A:AW) (hg:A.bk b=qc (iQ s)):fD 202 [qm (qc ⟨b,0,qh⟩)] A (qn (decide (s.cr=3))):=by
 refine aK Tryz.func202 λ_=>?_;dsimp only [iQ] at hg;refine W cx (J2 hg @AW.ab) ?_<;>intros;exact⟨_,rfl,rfl,rfl⟩
theorem yL (b:Nat) (s:gT) (A:AW) (hg:A.bk b=qc (iQ s)):fD 200 [qm (qc ⟨b,0,qh⟩)] A (qb qa s.xH):=by
 refine aK Tryz.func200 λ_=>?_;dsimp only [iQ] at hg;refine W cx (J2 hg @AW.ab) (J2 ?_ ?_)<;>intros
 all_goals exact⟨_,rfl,by first|(simp [gT.xH, *];done)|(simp [gT.xH];omega),rfl⟩
theorem Og (s:gT) (M:Mm):(s.cr=0/\gw s M=(EM M 6 s.am 1,{ s with cr:=1 },u7 M 6 s.am 1)) \/
 (s.cr=1/\gw s M=(iL M 3 0,{ s with cr:=2,aC:=(iL M 3 0).eY },M)) \/
 (s.cr=2/\gw s M=(EM M 6 s.am (q8.wrap (s.aC+2)),{ s with cr:=3 },u7 M 6 s.am (q8.wrap (s.aC+2)))) \/
 ((¬s.cr=0/\¬s.cr=1/\¬s.cr=2)/\gw s M=(bh.zero,s,M)):=by
 unfold gw;by_cases h0:s.cr=0;simp [h0];by_cases h1:s.cr=1;simp [h1];by_cases h2:s.cr=2;simp [h2];simp [h0,h1,h2]
theorem Hi (b pb:Nat) (s:gT) (M:Mm) :
 bx qV 201 [qm (qc ⟨b,0,qh⟩),qm (qc ⟨pb,0,qh⟩)] [.at b (iQ s),ei pb M]
  (λv=>v=(gw s M).1.v) (λ_=>[.at b (iQ (gw s M).2.1),ei pb (gw s M).2.2]):=by
 intro A F hw hS;refine aK Tryz.func201 λ_=>?_;have hq:=NM hS hw;rcases Og s M with ⟨h,e⟩|⟨h,e⟩|⟨h,e⟩|⟨h,e⟩
 all_goals(revert hq hS hw;refine W (J3 (od Ng) (stL pb) (VT pb)) (J4 h bC @bn.eq_1 @bh.v.eq_1) ?_<;>unhygienic intros)
 all_goals(
  try rw [e]
  refine⟨_,by simp [AW.ab];rfl,by simp [bh.v,bh.zero],?_⟩;apply aj.bX
  (·exact sA)
  (·repeat' (first|apply bf.z|apply bf.s|apply aE.z|apply aE.s)))
theorem PO (pb:Nat) (t:Int) (M:Mm) :
 bx qV 165 [qm (qc ⟨pb,0,qh⟩),qb qa t] [ei pb M] (λv=>v=(EM M 6 t 0).v) (λ_=>[ei pb (u7 M 6 t 0)]):=by
 intro A F hw hS;refine aK Tryz.func165 λ_=>?_;have hq:=NM hS hw;have h:True:=trivial;have e:True=True:=rfl;revert hq hS hw;refine W (J1 (stL pb)) (J3 bC @bn.eq_1 @bh.v.eq_1) ?_<;>(unhygienic intros)
 all_goals(
  try rw [e]
  refine⟨_,by simp [AW.ab];rfl,by simp [bh.v],?_⟩;apply aj.bX
  (·exact sA)
  (·repeat' (first|apply bf.z|apply bf.s|apply aE.z|apply aE.s)))
theorem SU (pb:Nat) (t:Int) (M:Mm) :
 bx qV 161 [qm (qc ⟨pb,0,qh⟩),qb qa t] [ei pb M] (λv=>v=(EM M 5 0 (rR t)).v) (λ_=>[ei pb (u7 M 5 0 (rR t))]):=by
 intro A F hw hS;refine aK Tryz.func161 λ_=>?_;have hq:=NM hS hw;have h:True:=trivial;have e:rR t=q8.wrap (q8.wrap t+1):=rfl;revert hq hS hw;refine W (J1 (stL pb)) (J3 bC @bn.eq_1 @bh.v.eq_1) ?_<;>(unhygienic intros)
 all_goals(
  try rw [e]
  refine⟨_,by simp [AW.ab];rfl,by simp [bh.v],?_⟩;apply aj.bX
  (·exact sA)
  (·repeat' (first|apply bf.z|apply bf.s|apply aE.z|apply aE.s)))
theorem oG (A:AW):aB qV 215 [] A (λv A'=>v=qm (qc ⟨A.next,0,qh⟩)/\A'=A.alloc (kO ⟨qk,0,qk⟩)):=by
 refine aK Tryz.func215 λ_=>?_;refine W cx cx ?_<;>intros;exact⟨_,rfl,rfl,rfl⟩
theorem Ic (b:Nat) (s:jh) (A:AW) (hg:A.bk b=qc (kO s)):fD 217 [qm (qc ⟨b,0,qh⟩)] A (qn s.done):=by
 refine aK Tryz.func217 λ_=>?_;dsimp only [kO] at hg;refine W cx (J2 hg @AW.ab) ?_<;>intros;exact⟨_,rfl,rfl,rfl⟩
theorem EK (b:Nat) (s:jh) (A:AW) (hg:A.bk b=qc (kO s)):fD 162 [qm (qc ⟨b,0,qh⟩)] A (qb qa s.gB):=by
 refine aK Tryz.func162 λ_=>?_;dsimp only [kO] at hg;refine W cx (J2 hg @AW.ab) (J2 ?_ ?_)<;>intros
 all_goals exact⟨_,rfl,by simp_all [jh.gB],rfl⟩
theorem OX (s:jh) (M:Mm):(s.done=qg/\fX s M=(bh.zero,s,M)) \/
 ((s.done=qk/\s.jZ=qk)/\fX s M=(H5 M 4 0 1,{ s with jZ:=qg,dQ:=(H5 M 4 0 1).eY },adM M 4 0 1)) \/
 ((s.done=qk/\s.jZ=qg)/\fX s M=(iL M 5 0,{ s with done:=decide ((iL M 5 0).eY=s.dQ) },M)):=by
 unfold fX;cases h0:s.done<;>cases h1:s.jZ<;>simp
theorem Ib (b pb:Nat) (s:jh) (M:Mm) :
 bx qV 216 [qm (qc ⟨b,0,qh⟩),qm (qc ⟨pb,0,qh⟩)] [.at b (kO s),ei pb M]
  (λv=>v=(fX s M).1.v) (λ_=>[.at b (kO (fX s M).2.1),ei pb (fX s M).2.2]):=by
 intro A F hw hS;refine aK Tryz.func216 λ_=>?_;have hq:=NM hS hw;rcases OX s M with ⟨h,e⟩|⟨h,e⟩|⟨h,e⟩
 all_goals(revert hq hS hw;refine Wu (J4 (od VB) (⟨⟩:Os (λA'=>A'.bk (A.next+1)=qc (qi (accC (H5 M 4 0 1)) qg 1)) [(0,0),(1,0),(2,0),(3,1),(4,0),(5,0),(6,3),(7,0),(8,0),(9,3)]) (adL pb) (VT pb)) (J4 h bC @bn.eq_1 @bh.v.eq_1) ?_<;>unhygienic intros)
 all_goals(
  try rw [e]
  refine⟨_,by simp [AW.ab];rfl,by simp [bh.v,bh.zero],?_⟩;apply aj.bX
  (·exact sA)
  (·repeat' (first|apply bf.z|apply bf.s|apply aE.z|(apply aE.Ml;simp [kO,h];done)|apply aE.s)))
theorem Nn (c:Int) (A:AW):aB qV 249 [qb qa c] A (λv A'=>v=qm (qc ⟨A.next,0,qh⟩)/\A'=A.alloc (oZ ⟨c,0,0,0,-1⟩)):=by
 refine aK Tryz.func249 λ_=>?_;refine W cx cx ?_<;>intros;exact⟨_,rfl,rfl,rfl⟩
theorem KT (b:Nat) (s:rM) (A:AW) (hg:A.bk b=qc (oZ s)):fD 211 [qm (qc ⟨b,0,qh⟩)] A (qn (decide (s.cr=3))):=by
 refine aK Tryz.func211 λ_=>?_;dsimp only [oZ] at hg;refine W cx (J2 hg @AW.ab) ?_<;>intros;exact⟨_,rfl,rfl,rfl⟩
theorem IA (b:Nat) (s:rM) (A:AW) (hg:A.bk b=qc (oZ s)):fD 276 [qm (qc ⟨b,0,qh⟩)] A (qb qa s.block):=by
 refine aK Tryz.func276 λ_=>?_;dsimp only [oZ] at hg;refine W cx (J2 hg @AW.ab) ?_<;>intros;exact⟨_,rfl,rfl,rfl⟩
theorem JC (s:rM) (M:Mm) :
 ((s.cr=0/\ka (iL M 7 s.eZ).eY<0)/\gH s M=(iL M 7 s.eZ,{ s with head:=(iL M 7 s.eZ).eY,cr:=3 },M)) \/
 ((s.cr=0/\¬ka (iL M 7 s.eZ).eY<0)/\gH s M=(iL M 7 s.eZ,{ s with head:=(iL M 7 s.eZ).eY,cr:=1 },M)) \/
 (s.cr=1/\gH s M=(iL M 8 (ka s.head),{ s with next:=(iL M 8 (ka s.head)).eY,cr:=2 },M)) \/
 (∃w,((s.cr=2/\rr s.head (qY.wrap (qY.wrap s.next-1))=w)/\(If M 7 s.eZ s.head w).done=qg)/\gH s M=(If M 7 s.eZ s.head w,{ s with cr:=3,block:=ka s.head },swM M 7 s.eZ s.head w)) \/
 (∃w,((s.cr=2/\rr s.head (qY.wrap (qY.wrap s.next-1))=w)/\(If M 7 s.eZ s.head w).done=qk)/\gH s M=(If M 7 s.eZ s.head w,{ s with cr:=0 },swM M 7 s.eZ s.head w)) \/
 ((¬s.cr=0/\¬s.cr=1/\¬s.cr=2)/\gH s M=(bh.zero,s,M)):=by
 unfold gH;by_cases h0:s.cr=0;by_cases h1:ka (iL M 7 s.eZ).eY<0<;>simp [h0,h1];by_cases h1:s.cr=1;simp [h1];by_cases h2:s.cr=2;cases h3:(If M 7 s.eZ s.head (rr s.head (qY.wrap (qY.wrap s.next-1)))).done<;>(simp [h2,h3];exact⟨_,⟨rfl,h3⟩,rfl,rfl⟩);simp [h0,h1,h2]
theorem KS (b pb:Nat) (s:rM) (M:Mm) :
 bx qV 210 [qm (qc ⟨b,0,qh⟩),qm (qc ⟨pb,0,qh⟩)] [.at b (oZ s),ei pb M]
  (λv=>v=(gH s M).1.v) (λ_=>[.at b (oZ (gH s M).2.1),ei pb (gH s M).2.2]):=by
 intro A F hw hS;refine aK Tryz.func210 λ_=>?_;have hq:=NM hS hw;rcases JC s M with ⟨h,e⟩|⟨h,e⟩|⟨h,e⟩|⟨w,h,e⟩|⟨w,h,e⟩|⟨h,e⟩
 all_goals(revert hq hS hw;refine W (J6 (od VA) (od Ng) @JB @Gh (swL pb) (VT pb)) (J4 h bC @bn.eq_1 @bh.v.eq_1) ?_<;>unhygienic intros)
 all_goals(
  try rw [e]
  refine⟨_,by simp [AW.ab];rfl,by simp [bh.v,bh.zero,h],?_⟩;apply aj.bX
  (·exact sA)
  (·repeat' (first|apply bf.z|apply bf.s|apply aE.z|apply aE.s)))
end
section
abbrev Nc:List (Nat×Nat):=[(0,0),(1,0),(2,0),(4,0),(5,0),(6,0),(7,0),(3,2),(8,0),(9,0),(10,0),(11,3)]
open T2
variable [Gl]
theorem aj.front {A:AW} {L K:List It} {x:It} (h:aj A L) (e:aE L x K):aj A (x::K):=by
 unfold aj at *;rw [e.aO] at h;exact h
theorem aj.openI {A:AW} {L K:List It} {k:IntKind} {v:qd} {x:Int} {l:List Int} (h:aj A L) (hp:aE L (.h (au k v (x::l))) K) :
 ∃b off c bS,v=qf (qc ⟨b,off,qh⟩) (l.length+1) c/\l.length+1<=c/\off+(l.length+1)<=bS.length/\bS[off]? = qc (qb k x)/\
  (∀A' K',aj A' (.at b (qi bS qg 1)::K')->aj A' (.h (au k (qf (qc ⟨b,off+1,qh⟩) l.length (c-1)) l)::K'))/\
  (∀A' K',aj A' (.at b (qi bS qg 1)::K')->aj A' (.h (au k v (x::l))::K'))/\aj A (.at b (qi bS qg 1)::K):=by
 have h1:bB A (au k v (x::l)*aO K):=by
  have h0:=h;unfold aj at h0;rw [hp.aO] at h0;exact h0
 rcases dK.cases h1 with ⟨_,h0,_⟩|⟨b,off,c,bS,rfl,h2,h3,h4,h5⟩;simp at h0;simp only [List.length_cons,Nat.mul_one] at h2 h3 h4;have h6:=h4;rw [List.drop_eq_getElem_cons Ya,List.map_cons,List.take_succ_cons] at h6;have h7:=List.cons.inj h6;refine⟨b,off,c,bS,rfl,h2,h3,?_,λA' K' hh=>?_,λA' K' hh=>?_,h5⟩;rw [q9 Ya,<-h7.1];exact au.mk rfl Ya Ya h7.2 hh;exact au.mk Yb Yu (by simpa using h3) (by simpa using h4) hh
def kD (b:Nat) (s:iU):HP:=td λv:qd=>pt b (qi [v,qb qa s.rv,qn s.kB] qg 1)*au qa v s.av
theorem kD.open {A:AW} {L K:List It} {b:Nat} {s:iU} (h:aj A L) (hp:aE L (.h (kD b s)) K) :
 ∃v,aj A (.at b (qi [v,qb qa s.rv,qn s.kB] qg 1)::.h (au qa v s.av)::K):=by
 unfold aj at h;rw [hp.aO] at h;have h1:bB A (kD b s*aO K):=h;unfold kD at h1;rw [bB.ex] at h1;obtain⟨v,h2⟩:=h1;exact⟨v,h2.dD (by show _=pt b _*(au qa v s.av*aO K);rw [HP.de])⟩
theorem kD.dJ {A:AW} {L K:List It} {b:Nat} {s:iU} {v:qd} (h:aj A L) (hp:bf L [.at b (qi [v,qb qa s.rv,qn s.kB] qg 1),.h (au qa v s.av)] K):aj A (.h (kD b s)::K):=by
 unfold aj at h;rw [hp.aO] at h;show bB A (kD b s*aO K);unfold kD;rw [bB.ex];exact⟨v,h.dD (by show pt b _*(au qa v s.av*fl)*aO K=_;rw [dH])⟩
theorem aj.tC {A:AW} {L K:List It} {k:IntKind} {v:qd} {l:List Int} (h:aj A L) (hp:aE L (.h (au k v l)) K):bK A k v l:=by
 unfold aj at h;rw [hp.aO] at h;exact au.is h
theorem tv (b:Nat) (o:Option Addr) (n c:Nat) (rv:Int) (f:Bool) (A:AW) (hg:A.bk b=qc (qi [qf o n c,qb qa rv,qn f] qg 1)) :
 fD 221 [qm (qc ⟨b,0,qh⟩)] A (qn (f || decide (n=0))):=by
 refine aK Tryz.func221 λ_=>?_;cases f
 all_goals(refine W cx (J2 hg @AW.ab) ?_<;>unhygienic intros)
 all_goals exact⟨_,rfl,by simp;try omega,rfl⟩
theorem Hs (b pb:Nat) (s:iU) (M:Mm) :
 bx qV 222 [qm (qc ⟨b,0,qh⟩),qm (qc ⟨pb,0,qh⟩)] [.h (kD b s),ei pb M]
  (λv=>v=(eD s M).1.v) (λ_=>[.h (kD b (eD s M).2.1),ei pb (eD s M).2.2]):=by
 intro A F hw dU;refine aK Tryz.func222 λ_=>?_;obtain⟨vo,hS⟩:=kD.open dU .z;obtain⟨oo,co,rfl,_⟩:=(aj.tC hS (.s .z)).bR;obtain⟨os,rv,kB⟩:=s;by_cases hd:(kB || decide (os.length=0))=qg
 . have hq:=gI hS hw;have xB:∀A',A'.bk b=qc (qi [qf oo os.length co,qb qa rv,qn kB] qg 1)->fD 221 [qm (qc ⟨b,0,qh⟩)] A' (qn qg):=λA' h=>by
    have:=tv b oo os.length co rv kB A' h;rwa [hd] at this
   have e:eD ⟨os,rv,kB⟩ M=(bh.zero,⟨os,rv,kB⟩,M):=ay hd;revert hq hS hw;refine W (J2 (od Nc) @xB) (J4 hd bC @bn.eq_1 @bh.v.eq_1) ?_<;>(unhygienic intros);rw [e];refine⟨_,by simp [AW.ab];rfl,by simp [bh.v,bh.zero],?_⟩;apply aj.bX
   . apply kD.dJ (b:=b) (s:=⟨os,rv,kB⟩) (v:=qf oo os.length co)
     (·exact sA)
     (·repeat' (first|apply bf.z|apply bf.s|apply aE.z|apply aE.s))
   (·repeat' (first|apply bf.z|apply bf.s|apply aE.z|apply aE.s))
 obtain⟨hf,hn⟩:kB=qk/\¬os.length=0:=by simpa using hd
 subst hf;cases os with
 | nil=>simp at hn
 | cons o os=>
 obtain⟨bo,off,c,bS,hv,JP,yx,bO,htl,hwh,hS⟩:=aj.openI hS (.s .z);injection hv with Ui VZ hv3;subst Ui;subst hv3;have xB:∀A',A'.bk b=qc (qi [qf (qc ⟨bo,off,qh⟩) (os.length+1) co,qb qa rv,qn qk] qg 1)->fD 221 [qm (qc ⟨b,0,qh⟩)] A' (qn qk):=λA' h=>tv b _ _ co rv qk A' h;have e:eD ⟨o::os,rv,qk⟩ M=(iL M 2 o,⟨os,rv,decide (rv<mX (iL M 2 o).eY)⟩,M):=aw hd;have hq:=gI hS hw;revert hq hS hw;(repeat clear hS);refine W (J4 (od Nc) @xB @Am (VT pb)) (J5 bO @fC.eq_1 bC @bn.eq_1 @bh.v.eq_1) ?_<;>(unhygienic intros);rw [e];refine⟨_,by simp [AW.ab];rfl,by simp [bh.v],?_⟩;apply aj.bX
 . apply kD.dJ (b:=b) (s:=⟨os,rv,decide (rv<mX (iL M 2 o).eY)⟩) (v:=qf (qc ⟨bo,off+1,qh⟩) os.length (co-1))
   . apply htl;apply aj.front
     (·exact sA)
     (·repeat' (first|apply aE.z|apply aE.s))
   (·repeat' (first|apply bf.z|apply bf.s|apply aE.z|apply aE.s))
 (·repeat' (first|apply bf.z|apply bf.s|apply aE.z|apply aE.s))
end
section
namespace TRefO
theorem nO [Gl] {A:AW} {L:List It} {T:Prop} (hS:aj A L) (hw:A.Wf) (h':(aW A L/\bz A L/\cd L)=T:=by first|(dsimp only [aa,ah,aW,bz,cd,ff];done)|exact rfl):T:=h'▸hS.eX hw
end TRefO
open TRefO
variable [Gl]
def lI (cf:aY) (mb:Nat) (M:Nat->List Int):HP:=
 td λv:qd×qd×qd×qd×qd=>
  pt mb (qi (cf.cells++[v.1,v.2.1,qb qj ((M 2).getD 0 0),qb qj ((M 3).getD 0 0),qb qj ((M 4).getD 0 0),v.2.2.1,v.2.2.2.1,v.2.2.2.2]) qg 1) *
   (au qj v.1 (M 0)*(au qj v.2.1 (M 1)*(au qj v.2.2.1 (M 5)*(au qj v.2.2.2.1 (M 6)*au qj v.2.2.2.2 (M 7)))))
theorem lI.open {A:AW} {cf:aY} {mb:Nat} {M:Nat->List Int} {F:HP} (h:bB A (lI cf mb M*F)) :
 ∃v0 v1 v5 v6 v7,bB A (pt mb (qi (cf.cells++[v0,v1,qb qj ((M 2).getD 0 0),qb qj ((M 3).getD 0 0),qb qj ((M 4).getD 0 0),v5,v6,v7]) qg 1) *
  (au qj v0 (M 0)*(au qj v1 (M 1)*(au qj v5 (M 5)*(au qj v6 (M 6)*(au qj v7 (M 7)*F)))))):=by
 unfold lI at h;rw [bB.ex] at h;obtain⟨⟨v0,v1,v5,v6,v7⟩,h⟩:=h;exact⟨v0,v1,v5,v6,v7,h.dD (by dsimp only;ac_rfl)⟩
def wB (cf:aY) (mb:Nat) (M:Mm):It:=.h (lI cf mb M)
end
end Go.Stx
