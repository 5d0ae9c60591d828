/-
 The machines of a transaction, without the program: what each step does.
-/
import Derived.Test.YtnnbecihffpedaaGreatDoorG01
import Derived.Test.YtnnbecihffpedaaGreatDoorG02
set_option linter.unusedVariables false
set_option linter.unusedSimpArgs false
set_option linter.unusedSectionVars false
set_option maxRecDepth 20000
set_option maxHeartbeats 4000000
namespace Go.Stx
open Go Go.Proofs
attribute [local irreducible] cB aW az aG bZ cz TW bC
section
variable [Gl]
def lf (o:Int):Int×Bool:=(o,true)
def gW (v:Int) (_:Int):Int×Bool:=(v,true)
def nB (eL v:Int) (o:Int):Int×Bool:=(v,decide (o=eL))
def DR (v:Int) (o:Int):Int×Bool:=(IntKind.u64.wrap (o+v),true)
abbrev Mm:=Nat->List Int
def gy (M:Mm) (cell dm:Int):aU:=fv M 1 cell dm lf
def Bm (M:Mm) (cell dm v:Int):aU:=fv M 2 cell dm (gW v)
def Bb (M:Mm) (cell dm eL v:Int):aU:=fv M 3 cell dm (nB eL v)
def Tn (M:Mm) (cell dm v:Int):aU:=fv M 4 cell dm (DR v)
def Dq (M:Mm) (cell dm v:Int):Mm:=pR M cell dm (gW v)
def Q2 (M:Mm) (cell dm eL v:Int):Mm:=pR M cell dm (nB eL v)
def Vt (M:Mm) (cell dm v:Int):Mm:=pR M cell dm (DR v)
structure gn where
 ak:Int
 br:Int
 aw:Int
def gn.Ae (s:gn):Int:=if s.br<=1 then -1 else IntKind.i64.wrap s.aw
def eG (s:gn) (M:Mm):aU×gn×Mm:=
 if s.br=0 then (Bm M 6 s.ak 1,{ s with br:=1 },Dq M 6 s.ak 1)
 else if s.br=1 then (gy M 3 0,{ s with br:=2,aw:=(gy M 3 0).eV },M)
 else if s.br=2 then (Bm M 6 s.ak (IntKind.u64.wrap (s.aw+2)),{ s with br:=3 },Dq M 6 s.ak (IntKind.u64.wrap (s.aw+2)))
 else (aU.zero,s,M)
structure jw where
 om:Bool
 iu:Int
 done:Bool
def jw.fA (s:jw):Int:=if s.om=true then IntKind.i64.wrap s.iu else -1
def fJ (s:jw) (M:Mm):aU×jw×Mm:=
 if s.done=true then (aU.zero,s,M)
 else if s.om=false then (Tn M 4 0 1,{ s with om:=true,iu:=(Tn M 4 0 1).eV },Vt M 4 0 1)
 else (gy M 5 0,{ s with done:=decide ((gy M 5 0).eV=s.iu) },M)
def zw (iu:Int):Int:=IntKind.u64.wrap (IntKind.u64.wrap iu+1)
structure nQ where
 dC:Int
 br:Int
 head:Int
 next:Int
 block:Int
def dY (s:nQ) (M:Mm):aU×nQ×Mm:=
 if s.br=0 then (gy M 7 s.dC,{ s with head:=(gy M 7 s.dC).eV,br:=if gT (gy M 7 s.dC).eV<0 then 3 else 1 },M)
 else if s.br=1 then (gy M 8 (gT s.head),{ s with next:=(gy M 8 (gT s.head)).eV,br:=2 },M)
 else if s.br=2 then
  let w:=mW s.head (IntKind.i64.wrap (IntKind.i64.wrap s.next-1))
  (Bb M 7 s.dC s.head w,if (Bb M 7 s.dC s.head w).done=true then { s with br:=3,block:=gT s.head } else { s with br:=0 },Q2 M 7 s.dC s.head w)
 else (aU.zero,s,M)
structure eZ where
 dC:Int
 block:Int
 br:Int
 head:Int
def ct (s:eZ) (M:Mm):aU×eZ×Mm:=
 if s.br=0 then (gy M 7 s.dC,{ s with head:=(gy M 7 s.dC).eV,br:=1 },M)
 else if s.br=1 then
  let w:=IntKind.u64.wrap (IntKind.i64.wrap (gT s.head+1))
  (Bm M 8 s.block w,{ s with br:=2 },Dq M 8 s.block w)
 else if s.br=2 then
  let w:=mW s.head s.block
  (Bb M 7 s.dC s.head w,{ s with br:=if (Bb M 7 s.dC s.head w).done=true then 3 else 0 },Q2 M 7 s.dC s.head w)
 else (aU.zero,s,M)
structure fV where
 cg:Int
 fw:Int
 rv:Int
 br:Int
 d7:Int
 value:Int
 dh:Bool
def fV.done (s:fV):Bool:=decide (s.br=3)
def fV.val (s:fV):Int:=if s.br=3/\s.dh=false then s.value else 0
def dg (s:fV) (M:Mm):aU×fV×Mm:=
 if s.br=0 then
  let a:=gy M 2 s.fw
  (a,if lK a.eV≥0\/jL a.eV>s.rv then { s with d7:=a.eV,dh:=true,br:=3 } else { s with d7:=a.eV,br:=1 },M)
 else if s.br=1 then (gy M 1 s.cg,{ s with value:=(gy M 1 s.cg).eV,br:=2 },M)
 else if s.br=2 then (gy M 2 s.fw,{ s with dh:=decide ((gy M 2 s.fw).eV≠s.d7),br:=3 },M)
 else (aU.zero,s,M)
structure gw where
 am:List Int
 rv:Int
 iw:Bool
def gw.done (s:gw):Bool:=s.iw || decide (s.am.length=0)
def iA (s:gw) (M:Mm):aU×gw×Mm:=
 if s.done=true then (aU.zero,s,M)
 else (gy M 2 (s.am.getD 0 0),{ s with am:=s.am.tail,iw:=decide (jL (gy M 2 (s.am.getD 0 0)).eV>s.rv) },M)
end
section
abbrev Ri:List (Nat×Nat):=[(0,0),(1,0),(2,0),(3,0),(4,0),(5,0)]
namespace TMemO
theorem kI [Gl] {A:AW} {L:List It} {T:Prop} (hS:ah A L) (hw:A.Wf) (h':(aK A L/\ba A L/\bD L)=T:=by first|(dsimp only [aa,af,aK,ba,bD,dN];done)|exact rfl):T:=h'▸hS.dT hw
end TMemO
open TMemO
variable [Gl]
theorem ON {M:Nat->List Int} {cell dm:Int} {g:Int->Int×Bool} (h:∀o,(g o).2=true->(g o).1=o):pR M cell dm g=M:=by
 unfold pR;split;rename_i hc;funext k;simp only [setRow];split;rename_i e;rw [h _ hc.2];have hh:1<=cell/\cell<=8:=by
  have:=hc.1;simp only [f5,jP] at this;split at this;assumption;simp at this;omega
 have hr:jP M cell=M k:=by rw [e];exact ay hh
 have hi:0<=dm/\dm<(M k).length:=by
  have:=hc.1;rw [f5,hr] at this
  simpa using this
 rw [hr];apply List.ext_getElem?;intro q;by_cases eq:dm.toNat=q;subst eq;rw [List.getElem?_set_self (by omega),List.getD_eq_getElem?_getD,List.getElem?_eq_getElem (by omega)];rfl;rw [List.getElem?_set_ne eq];rfl;rfl
theorem JL (eL:Int):nD Tryz.prog 169 [.int .u64 eL] eP (λv=>C5 (v=.tuple #[.int .u64 (lf eL).1,.bool (lf eL).2])*eP):=by
 intro A F hw hS;refine aH Tryz.func169 λ_=>?_;revert hS hw;refine W cy cy ?_<;>(unhygienic intros);exact⟨_,rfl,bn.post rfl hS⟩
theorem Hd (b:Nat) (x eL:Int):nD Tryz.prog 210 [.int .u64 eL,.pointer (some ⟨b,0,none⟩)] (pt b (.cells [.int .u64 x] true 1))
 (λv=>C5 (v=.tuple #[.int .u64 (gW x eL).1,.bool (gW x eL).2])*pt b (.cells [.int .u64 x] true 1)):=by
 intro A F hw hS;refine aH Tryz.func210 λ_=>?_;have hg:=hS.bt;revert hS hw;refine W cy (J2 hg @AW.ab) ?_<;>(unhygienic intros);exact⟨_,rfl,bn.post rfl hS⟩
theorem I8 (b c:Nat) (x y eL:Int):nD Tryz.prog 243 [.int .u64 eL,.pointer (some ⟨b,0,none⟩),.pointer (some ⟨c,0,none⟩)]
 (pt b (.cells [.int .u64 x] true 1)*pt c (.cells [.int .u64 y] true 1))
 (λv=>C5 (v=.tuple #[.int .u64 (nB y x eL).1,.bool (nB y x eL).2])*(pt b (.cells [.int .u64 x] true 1)*pt c (.cells [.int .u64 y] true 1))):=by
 intro A F hw hS;refine aH Tryz.func243 λ_=>?_;rw [HP.b5] at hS;have hg:=hS.bt;have Kj:=hS.right.bt;revert hS hw;refine W (J1 (od Ri)) (J3 hg Kj @AW.ab) ?_<;>(unhygienic intros);exact⟨_,rfl,bn.post (by simp [nB]) (by rw [HP.b5];exact hS)⟩
theorem HK (pb:Nat) (M:Nat->List Int) (cell dm:Int) :
 nD Tryz.prog 102 [.pointer (some ⟨pb,0,none⟩),.int .i64 cell,.int .i64 dm] (eu pb M)
  (λv=>C5 (v=.tuple #[(fv M 1 cell dm lf).v,.int .i64 (ny M cell dm)])*eu pb M):=by
 intro A F hw hS;refine aH Tryz.func102 λ_=>?_;revert hS hw;refine W cy cy ?_<;>(unhygienic intros);have iI:bn (A.alloc (.cells bd true 1)) ((eu pb M*eP)*(pt A.next (.cells bd true 1)*F)):=by
  rw [dt];exact(hS.alloc hw _).dV (by ac_rfl)
 refine(nI pb M 1 cell dm _ #[] #[] eP lf JL).use (hw.alloc _) iI rfl ?_;intro v A2 mg kS _;obtain⟨rfl,AH⟩:=mg.oc;clear mg;rw [dt,ON (by intro o _;rfl)] at AH;have yU:bn A2 (pt A.next (.cells bd true 1)*(eu pb M*F)):=AH.dV (by ac_rfl);have hg:=yU.bt;refine W cy (J5 hg bF @bd.eq_1 @Rc.eq_1 @aU.v.eq_1) ?_<;>intros;exact⟨_,by simp [AW.eY,AW.dM,AW.ab,aD,aU.v];rfl,bn.post (by simp [aU.v]) (yU.set _).right⟩
theorem rA (pb:Nat) (M:Nat->List Int) (cell dm x:Int) :
 nD Tryz.prog 118 [.pointer (some ⟨pb,0,none⟩),.int .i64 cell,.int .i64 dm,.int .u64 x] (eu pb M)
  (λv=>C5 (v=.tuple #[(fv M 2 cell dm (gW x)).v,.int .i64 (ny M cell dm)])*eu pb (pR M cell dm (gW x))):=by
 intro A F hw hS;refine aH Tryz.func118 λ_=>?_;revert hS hw;refine W cy cy ?_<;>(unhygienic intros);have i5:=hw.alloc (.cells [.int .u64 x] true 1)
 have iI:bn ((A.alloc (.cells [.int .u64 x] true 1)).alloc (.cells bd true 1)) ((eu pb M*pt A.next (.cells [.int .u64 x] true 1))*(pt (A.next+1) (.cells bd true 1)*F)):=
  ((hS.alloc hw (.cells [.int .u64 x] true 1)).alloc i5 (.cells bd true 1)).dV (by simp only [AW.bx];ac_rfl)
 refine(nI pb M 2 cell dm _ #[] #[.pointer (some ⟨A.next,0,none⟩)] _ (gW x) (Hd A.next x)).use (i5.alloc _) iI rfl ?_;intro v A2 mg kS _;obtain⟨rfl,AH⟩:=mg.oc;clear mg;have yU:bn A2 (pt (A.next+1) (.cells bd true 1)*(pt A.next (.cells [.int .u64 x] true 1)*(eu pb (pR M cell dm (gW x))*F))):=AH.dV (by ac_rfl);have hg:=yU.bt;refine W cy (J5 hg bF @bd.eq_1 @Rc.eq_1 @aU.v.eq_1) ?_<;>intros;exact⟨_,by simp [AW.eY,AW.dM,AW.ab,aD,aU.v];rfl,bn.post (by simp [aU.v]) (yU.set _).right.right⟩
theorem HJ (pb:Nat) (M:Nat->List Int) (cell dm x y:Int) :
 nD Tryz.prog 173 [.pointer (some ⟨pb,0,none⟩),.int .i64 cell,.int .i64 dm,.int .u64 x,.int .u64 y] (eu pb M)
  (λv=>C5 (v=.tuple #[(fv M 3 cell dm (nB x y)).v,.int .i64 (ny M cell dm)])*eu pb (pR M cell dm (nB x y))):=by
 intro A F hw hS;refine aH Tryz.func173 λ_=>?_;revert hS hw;refine W cy cy ?_<;>(unhygienic intros);have i5:=hw.alloc (.cells [.int .u64 x] true 1);have kS:=i5.alloc (.cells [.int .u64 y] true 1)
 have iI:bn (((A.alloc (.cells [.int .u64 x] true 1)).alloc (.cells [.int .u64 y] true 1)).alloc (.cells bd true 1))
  ((eu pb M*(pt (A.next+1) (.cells [.int .u64 y] true 1)*pt A.next (.cells [.int .u64 x] true 1)))*(pt (A.next+1+1) (.cells bd true 1)*F)):=
  (((hS.alloc hw (.cells [.int .u64 x] true 1)).alloc i5 (.cells [.int .u64 y] true 1)).alloc kS (.cells bd true 1)).dV (by simp only [AW.bx];ac_rfl)
 refine(nI pb M 3 cell dm _ #[] #[.pointer (some ⟨A.next+1,0,none⟩),.pointer (some ⟨A.next,0,none⟩)] _ (nB x y) (I8 (A.next+1) A.next y x)).use (kS.alloc _) iI rfl ?_;intro v A2 mg J0 _;obtain⟨rfl,AH⟩:=mg.oc;clear mg;have yU:bn A2 (pt (A.next+1+1) (.cells bd true 1)*(pt A.next (.cells [.int .u64 x] true 1)*(pt (A.next+1) (.cells [.int .u64 y] true 1)*(eu pb (pR M cell dm (nB x y))*F)))):=AH.dV (by ac_rfl);have hg:=yU.bt;refine W cy (J5 hg bF @bd.eq_1 @Rc.eq_1 @aU.v.eq_1) ?_<;>intros;exact⟨_,by simp [AW.eY,AW.dM,AW.ab,aD,aU.v];rfl,bn.post (by simp [aU.v]) (yU.set _).right.right.right⟩
theorem NI (b:Nat) (x eL:Int):nD Tryz.prog 264 [.int .u64 eL,.pointer (some ⟨b,0,none⟩)] (pt b (.cells [.int .u64 x] true 1))
 (λv=>C5 (v=.tuple #[.int .u64 (DR x eL).1,.bool (DR x eL).2])*pt b (.cells [.int .u64 x] true 1)):=by
 intro A F hw hS;refine aH Tryz.func264 λ_=>?_;have hg:=hS.bt;revert hS hw;refine W cy (J2 hg @AW.ab) ?_<;>(unhygienic intros);exact⟨_,by first|(simp;done)|(simp;rfl),bn.post (by simp [DR]) hS⟩
theorem Rk (pb:Nat) (M:Nat->List Int) (cell dm x:Int) :
 nD Tryz.prog 248 [.pointer (some ⟨pb,0,none⟩),.int .i64 cell,.int .i64 dm,.int .u64 x] (eu pb M)
  (λv=>C5 (v=.tuple #[(fv M 4 cell dm (DR x)).v,.int .i64 (ny M cell dm)])*eu pb (pR M cell dm (DR x))):=by
 intro A F hw hS;refine aH Tryz.func248 λ_=>?_;revert hS hw;refine W cy cy ?_<;>(unhygienic intros);have i5:=hw.alloc (.cells [.int .u64 x] true 1)
 have iI:bn ((A.alloc (.cells [.int .u64 x] true 1)).alloc (.cells bd true 1)) ((eu pb M*pt A.next (.cells [.int .u64 x] true 1))*(pt (A.next+1) (.cells bd true 1)*F)):=
  ((hS.alloc hw (.cells [.int .u64 x] true 1)).alloc i5 (.cells bd true 1)).dV (by simp only [AW.bx];ac_rfl)
 refine(nI pb M 4 cell dm _ #[] #[.pointer (some ⟨A.next,0,none⟩)] _ (DR x) (NI A.next x)).use (i5.alloc _) iI rfl ?_;intro v A2 mg kS _;obtain⟨rfl,AH⟩:=mg.oc;clear mg;have yU:bn A2 (pt (A.next+1) (.cells bd true 1)*(pt A.next (.cells [.int .u64 x] true 1)*(eu pb (pR M cell dm (DR x))*F))):=AH.dV (by ac_rfl);have hg:=yU.bt;refine W cy (J5 hg bF @bd.eq_1 @Rc.eq_1 @aU.v.eq_1) ?_<;>intros;exact⟨_,by simp [AW.eY,AW.dM,AW.ab,aD,aU.v];rfl,bn.post (by simp [aU.v]) (yU.set _).right.right⟩
def dH (pb:Nat) (M:Mm):It:=.h (eu pb M)
theorem jT (pb:Nat) (M:Mm):aL [dH pb M]=eu pb M:=by show eu pb M*eP=_;rw [dt]
theorem Pg (pb:Nat) (M:Mm) (cell dm:Int):bf Tryz.prog 102 [.pointer (some ⟨pb,0,none⟩),.int .i64 cell,.int .i64 dm] [dH pb M]
 (λv=>v=.tuple #[(gy M cell dm).v,.int .i64 (ny M cell dm)]) (λ_=>[dH pb M]):=
 bf.oB (HK pb M cell dm) (jT pb M) λv=>by rw [jT];rfl
theorem VF (pb:Nat) (M:Mm) (cell dm x:Int):bf Tryz.prog 118 [.pointer (some ⟨pb,0,none⟩),.int .i64 cell,.int .i64 dm,.int .u64 x] [dH pb M]
 (λv=>v=.tuple #[(Bm M cell dm x).v,.int .i64 (ny M cell dm)]) (λ_=>[dH pb (Dq M cell dm x)]):=
 bf.oB (rA pb M cell dm x) (jT pb M) λv=>by rw [jT];rfl
theorem swL (pb:Nat) (M:Mm) (cell dm x y:Int):bf Tryz.prog 173 [.pointer (some ⟨pb,0,none⟩),.int .i64 cell,.int .i64 dm,.int .u64 x,.int .u64 y] [dH pb M]
 (λv=>v=.tuple #[(Bb M cell dm x y).v,.int .i64 (ny M cell dm)]) (λ_=>[dH pb (Q2 M cell dm x y)]):=
 bf.oB (HJ pb M cell dm x y) (jT pb M) λv=>by rw [jT];rfl
theorem adL (pb:Nat) (M:Mm) (cell dm x:Int):bf Tryz.prog 248 [.pointer (some ⟨pb,0,none⟩),.int .i64 cell,.int .i64 dm,.int .u64 x] [dH pb M]
 (λv=>v=.tuple #[(Tn M cell dm x).v,.int .i64 (ny M cell dm)]) (λ_=>[dH pb (Vt M cell dm x)]):=
 bf.oB (Rk pb M cell dm x) (jT pb M) λv=>by rw [jT];rfl
end
section
abbrev Hy:List (Nat×Nat):=[(0,0),(1,0),(2,0),(3,0),(4,0),(5,0),(6,0),(7,0),(8,0),(9,0),(10,3),(11,0),(12,0),(13,0),(14,3)]
abbrev OZ:List (Nat×Nat):=[(0,0),(1,0),(2,0),(3,0),(4,0),(5,0),(6,0),(7,0),(8,0),(9,0),(10,3)]
abbrev OY:List (Nat×Nat):=[(0,0),(1,0),(2,0),(3,0),(4,0),(5,0),(6,0),(7,0),(8,0),(9,0),(10,2),(11,0),(12,0),(13,0),(14,0),(15,0)]
open T0
variable [Gl]
def gm (s:gn):dG:=.cells [.int .i64 s.ak,.int .i64 s.br,.int .u64 s.aw] true 1
def iU (s:jw):dG:=.cells [.bool s.om,.int .u64 s.iu,.bool s.done] true 1
def lX (s:nQ):dG:=.cells [.int .i64 s.dC,.int .i64 s.br,.int .u64 s.head,.int .u64 s.next,.int .i64 s.block] true 1
def gt (s:eZ):dG:=.cells [.int .i64 s.dC,.int .i64 s.block,.int .i64 s.br,.int .u64 s.head] true 1
def gO (s:fV):dG:=.cells [.int .i64 s.cg,.int .i64 s.fw,.int .i64 s.rv,.int .i64 s.br,.int .u64 s.d7,.int .u64 s.value,.bool s.dh] true 1
abbrev Vu (a:aU):List Value:=[.int .i64 a.gd,.int .i64 a.cell,.int .i64 a.dm,.int .u64 a.eV,.int .u64 a.put,.bool a.done]
def et (f:FuncId) (args:List Value) (A:AW) (u:Value):Prop:=az Tryz.prog f args A λv A'=>v=u/\A=A'
theorem DC (t:Int) (A:AW):az Tryz.prog 222 [.int .i64 t] A (λv A'=>v=.pointer (some ⟨A.next,0,none⟩)/\A'=A.alloc (gm ⟨t,0,0⟩)):=by
 refine aH Tryz.func222 λ_=>?_;refine W cy cy ?_<;>intros;exact⟨_,rfl,rfl,rfl⟩
theorem Cn (b:Nat) (s:gn) (A:AW) (hg:A.bt b=some (gm s)):et 176 [.pointer (some ⟨b,0,none⟩)] A (.bool (decide (s.br=3))):=by
 refine aH Tryz.func176 λ_=>?_;dsimp only [gm] at hg;refine W cy (J2 hg @AW.ab) ?_<;>intros;exact⟨_,rfl,rfl,rfl⟩
theorem tR (b:Nat) (s:gn) (A:AW) (hg:A.bt b=some (gm s)):et 174 [.pointer (some ⟨b,0,none⟩)] A (.int .i64 s.Ae):=by
 refine aH Tryz.func174 λ_=>?_;dsimp only [gm] at hg;refine W cy (J2 hg @AW.ab) (J2 ?_ ?_)<;>intros
 all_goals exact⟨_,rfl,by first|(simp [gn.Ae, *];done)|(simp [gn.Ae];omega),rfl⟩
theorem Il (s:gn) (M:Mm):(s.br=0/\eG s M=(Bm M 6 s.ak 1,{ s with br:=1 },Dq M 6 s.ak 1)) \/
 (s.br=1/\eG s M=(gy M 3 0,{ s with br:=2,aw:=(gy M 3 0).eV },M)) \/
 (s.br=2/\eG s M=(Bm M 6 s.ak (IntKind.u64.wrap (s.aw+2)),{ s with br:=3 },Dq M 6 s.ak (IntKind.u64.wrap (s.aw+2)))) \/
 ((¬s.br=0/\¬s.br=1/\¬s.br=2)/\eG s M=(aU.zero,s,M)):=by
 unfold eG;by_cases h0:s.br=0;simp [h0];by_cases h1:s.br=1;simp [h1];by_cases h2:s.br=2;simp [h2];simp [h0,h1,h2]
theorem Cm (b pb:Nat) (s:gn) (M:Mm) :
 bf Tryz.prog 175 [.pointer (some ⟨b,0,none⟩),.pointer (some ⟨pb,0,none⟩)] [.at b (gm s),dH pb M]
  (λv=>v=(eG s M).1.v) (λ_=>[.at b (gm (eG s M).2.1),dH pb (eG s M).2.2]):=by
 intro A F hw hS;refine aH Tryz.func175 λ_=>?_;have hq:=HW hS hw;rcases Il s M with ⟨h,e⟩|⟨h,e⟩|⟨h,e⟩|⟨h,e⟩
 all_goals(revert hq hS hw;refine W (J3 (od Hy) (VF pb) (Pg pb)) (J4 h bF @bd.eq_1 @aU.v.eq_1) ?_<;>unhygienic intros)
 all_goals(
  try rw [e]
  refine⟨_,by simp [hq,AW.ab,aD];rfl,by simp [aU.v,aU.zero,h],?_⟩;apply ah.bI
  (·exact sA)
  (·repeat' (first|apply aQ.z|apply aQ.s|apply aB.z|(apply aB.GO;simp [gm,iU,lX,gt,gO,h];done)|apply aB.s)))
theorem JP (pb:Nat) (t:Int) (M:Mm) :
 bf Tryz.prog 123 [.pointer (some ⟨pb,0,none⟩),.int .i64 t] [dH pb M] (λv=>v=(Bm M 6 t 0).v) (λ_=>[dH pb (Dq M 6 t 0)]):=by
 intro A F hw hS;refine aH Tryz.func123 λ_=>?_;have hq:=HW hS hw;have h:True:=trivial;have e:True=True:=rfl;revert hq hS hw;refine W (J1 (VF pb)) (J3 bF @bd.eq_1 @aU.v.eq_1) ?_<;>(unhygienic intros)
 all_goals(
  try rw [e]
  refine⟨_,by simp [hq,AW.ab,aD];rfl,by simp [aU.v,aU.zero,h],?_⟩;apply ah.bI
  (·exact sA)
  (·repeat' (first|apply aQ.z|apply aQ.s|apply aB.z|(apply aB.GO;simp [gm,iU,lX,gt,gO,h];done)|apply aB.s)))
theorem MI (pb:Nat) (t:Int) (M:Mm) :
 bf Tryz.prog 119 [.pointer (some ⟨pb,0,none⟩),.int .i64 t] [dH pb M] (λv=>v=(Bm M 5 0 (zw t)).v) (λ_=>[dH pb (Dq M 5 0 (zw t))]):=by
 intro A F hw hS;refine aH Tryz.func119 λ_=>?_;have hq:=HW hS hw;have h:True:=trivial;have e:zw t=IntKind.u64.wrap (IntKind.u64.wrap t+1):=rfl;revert hq hS hw;refine W (J1 (VF pb)) (J3 bF @bd.eq_1 @aU.v.eq_1) ?_<;>(unhygienic intros)
 all_goals(
  try rw [e]
  refine⟨_,by simp [hq,AW.ab,aD];rfl,by simp [aU.v,aU.zero,h],?_⟩;apply ah.bI
  (·exact sA)
  (·repeat' (first|apply aQ.z|apply aQ.s|apply aB.z|(apply aB.GO;simp [gm,iU,lX,gt,gO,h];done)|apply aB.s)))
theorem lI (A:AW):az Tryz.prog 190 [] A (λv A'=>v=.pointer (some ⟨A.next,0,none⟩)/\A'=A.alloc (iU ⟨false,0,false⟩)):=by
 refine aH Tryz.func190 λ_=>?_;refine W cy cy ?_<;>intros;exact⟨_,rfl,rfl,rfl⟩
theorem Dc (b:Nat) (s:jw) (A:AW) (hg:A.bt b=some (iU s)):et 192 [.pointer (some ⟨b,0,none⟩)] A (.bool s.done):=by
 refine aH Tryz.func192 λ_=>?_;dsimp only [iU] at hg;refine W cy (J2 hg @AW.ab) ?_<;>intros;exact⟨_,rfl,rfl,rfl⟩
theorem Ac (b:Nat) (s:jw) (A:AW) (hg:A.bt b=some (iU s)):et 120 [.pointer (some ⟨b,0,none⟩)] A (.int .i64 s.fA):=by
 refine aH Tryz.func120 λ_=>?_;dsimp only [iU] at hg;refine W cy (J2 hg @AW.ab) (J2 ?_ ?_)<;>intros
 all_goals exact⟨_,rfl,by simp_all [jw.fA],rfl⟩
theorem I7 (s:jw) (M:Mm):(s.done=true/\fJ s M=(aU.zero,s,M)) \/
 ((s.done=false/\s.om=false)/\fJ s M=(Tn M 4 0 1,{ s with om:=true,iu:=(Tn M 4 0 1).eV },Vt M 4 0 1)) \/
 ((s.done=false/\s.om=true)/\fJ s M=(gy M 5 0,{ s with done:=decide ((gy M 5 0).eV=s.iu) },M)):=by
 unfold fJ;cases h0:s.done<;>cases h1:s.om<;>simp
theorem Db (b pb:Nat) (s:jw) (M:Mm) :
 bf Tryz.prog 191 [.pointer (some ⟨b,0,none⟩),.pointer (some ⟨pb,0,none⟩)] [.at b (iU s),dH pb M]
  (λv=>v=(fJ s M).1.v) (λ_=>[.at b (iU (fJ s M).2.1),dH pb (fJ s M).2.2]):=by
 intro A F hw hS;refine aH Tryz.func191 λ_=>?_;have hq:=HW hS hw;rcases I7 s M with ⟨h,e⟩|⟨h,e⟩|⟨h,e⟩
 all_goals(revert hq hS hw;refine Wu (J4 (od OZ) (⟨⟩:Os (λA'=>A'.bt (A.next+1)=some (.cells (Vu (Tn M 4 0 1)) true 1)) [(0,0),(1,0),(2,0),(3,1),(4,0),(5,0),(6,3),(7,0),(8,0),(9,3)]) (adL pb) (Pg pb)) (J4 h bF @bd.eq_1 @aU.v.eq_1) ?_<;>unhygienic intros)
 all_goals(
  try rw [e]
  refine⟨_,by simp [hq,AW.ab,aD];rfl,by simp [aU.v,aU.zero,h],?_⟩;apply ah.bI
  (·exact sA)
  (·repeat' (first|apply aQ.z|apply aQ.s|apply aB.z|(apply aB.GO;simp [gm,iU,lX,gt,gO,h];done)|apply aB.s)))
theorem HE (c:Int) (A:AW):az Tryz.prog 224 [.int .i64 c] A (λv A'=>v=.pointer (some ⟨A.next,0,none⟩)/\A'=A.alloc (lX ⟨c,0,0,0,-1⟩)):=by
 refine aH Tryz.func224 λ_=>?_;refine W cy cy ?_<;>intros;exact⟨_,rfl,rfl,rfl⟩
theorem FH (b:Nat) (s:nQ) (A:AW) (hg:A.bt b=some (lX s)):et 186 [.pointer (some ⟨b,0,none⟩)] A (.bool (decide (s.br=3))):=by
 refine aH Tryz.func186 λ_=>?_;dsimp only [lX] at hg;refine W cy (J2 hg @AW.ab) ?_<;>intros;exact⟨_,rfl,rfl,rfl⟩
theorem Dw (b:Nat) (s:nQ) (A:AW) (hg:A.bt b=some (lX s)):et 256 [.pointer (some ⟨b,0,none⟩)] A (.int .i64 s.block):=by
 refine aH Tryz.func256 λ_=>?_;dsimp only [lX] at hg;refine W cy (J2 hg @AW.ab) ?_<;>intros;exact⟨_,rfl,rfl,rfl⟩
theorem Et (s:nQ) (M:Mm) :
 ((s.br=0/\gT (gy M 7 s.dC).eV<0)/\dY s M=(gy M 7 s.dC,{ s with head:=(gy M 7 s.dC).eV,br:=3 },M)) \/
 ((s.br=0/\¬gT (gy M 7 s.dC).eV<0)/\dY s M=(gy M 7 s.dC,{ s with head:=(gy M 7 s.dC).eV,br:=1 },M)) \/
 (s.br=1/\dY s M=(gy M 8 (gT s.head),{ s with next:=(gy M 8 (gT s.head)).eV,br:=2 },M)) \/
 (∃w,((s.br=2/\mW s.head (IntKind.i64.wrap (IntKind.i64.wrap s.next-1))=w)/\(Bb M 7 s.dC s.head w).done=true)/\dY s M=(Bb M 7 s.dC s.head w,{ s with br:=3,block:=gT s.head },Q2 M 7 s.dC s.head w)) \/
 (∃w,((s.br=2/\mW s.head (IntKind.i64.wrap (IntKind.i64.wrap s.next-1))=w)/\(Bb M 7 s.dC s.head w).done=false)/\dY s M=(Bb M 7 s.dC s.head w,{ s with br:=0 },Q2 M 7 s.dC s.head w)) \/
 ((¬s.br=0/\¬s.br=1/\¬s.br=2)/\dY s M=(aU.zero,s,M)):=by
 unfold dY;by_cases h0:s.br=0;by_cases h1:gT (gy M 7 s.dC).eV<0<;>simp [h0,h1];by_cases h1:s.br=1;simp [h1];by_cases h2:s.br=2;cases h3:(Bb M 7 s.dC s.head (mW s.head (IntKind.i64.wrap (IntKind.i64.wrap s.next-1)))).done<;>(simp [h2,h3];exact⟨_,⟨rfl,h3⟩,rfl,rfl⟩);simp [h0,h1,h2]
theorem FG (b pb:Nat) (s:nQ) (M:Mm) :
 bf Tryz.prog 185 [.pointer (some ⟨b,0,none⟩),.pointer (some ⟨pb,0,none⟩)] [.at b (lX s),dH pb M]
  (λv=>v=(dY s M).1.v) (λ_=>[.at b (lX (dY s M).2.1),dH pb (dY s M).2.2]):=by
 intro A F hw hS;refine aH Tryz.func185 λ_=>?_;have hq:=HW hS hw;rcases Et s M with ⟨h,e⟩|⟨h,e⟩|⟨h,e⟩|⟨w,h,e⟩|⟨w,h,e⟩|⟨h,e⟩
 all_goals(revert hq hS hw;refine W (J6 (od OY) (od Hy) @Es @BE (swL pb) (Pg pb)) (J4 h bF @bd.eq_1 @aU.v.eq_1) ?_<;>unhygienic intros)
 all_goals(
  try rw [e]
  refine⟨_,by simp [hq,AW.ab,aD];rfl,by simp [aU.v,aU.zero,h],?_⟩;apply ah.bI
  (·exact sA)
  (·repeat' (first|apply aQ.z|apply aQ.s|apply aB.z|(apply aB.GO;simp [gm,iU,lX,gt,gO,h];done)|apply aB.s)))
end
section
abbrev Hv:List (Nat×Nat):=[(0,0),(1,0),(2,0),(4,0),(5,0),(6,0),(7,0),(3,2),(8,0),(9,0),(10,0),(11,3)]
open T2
variable [Gl]
theorem ah.front {A:AW} {L K:List It} {x:It} (h:ah A L) (e:aB L x K):ah A (x::K):=by
 unfold ah at *;rw [e.aL] at h;exact h
theorem ah.WF {A:AW} {L K:List It} {k:IntKind} {v:Value} {x:Int} {l:List Int} (h:ah A L) (hp:aB L (.h (au k v (x::l))) K) :
 ∃b off c cD,v=.slice (some ⟨b,off,none⟩) (l.length+1) c/\l.length+1<=c/\off+(l.length+1)<=cD.length/\cD[off]? = some (.int k x)/\
  (∀A' K',ah A' (.at b (.cells cD true 1)::K')->ah A' (.h (au k (.slice (some ⟨b,off+1,none⟩) l.length (c-1)) l)::K'))/\
  (∀A' K',ah A' (.at b (.cells cD true 1)::K')->ah A' (.h (au k v (x::l))::K'))/\ah A (.at b (.cells cD true 1)::K):=by
 have h1:bn A (au k v (x::l)*aL K):=by
  have h0:=h;unfold ah at h0;rw [hp.aL] at h0;exact h0
 rcases ep.cases h1 with ⟨_,h0,_⟩|⟨b,off,c,cD,rfl,h2,h3,h4,h5⟩;simp at h0;simp only [List.length_cons,Nat.mul_one] at h2 h3 h4;have h6:=h4;rw [List.drop_eq_getElem_cons (by omega),List.map_cons,List.take_succ_cons] at h6;have h7:=List.cons.inj h6;refine⟨b,off,c,cD,rfl,h2,h3,?_,λA' K' hh=>?_,λA' K' hh=>?_,h5⟩;rw [List.getElem?_eq_getElem (by omega),<-h7.1];exact au.mk rfl (by omega) (by omega) h7.2 hh;exact au.mk (by simp) (by simpa using h2) (by simpa using h3) (by simpa using h4) hh
def iK (b:Nat) (s:gw):HP:=pe λv:Value=>pt b (.cells [v,.int .i64 s.rv,.bool s.iw] true 1)*au .i64 v s.am
theorem iK.open {A:AW} {L K:List It} {b:Nat} {s:gw} (h:ah A L) (hp:aB L (.h (iK b s)) K) :
 ∃v,ah A (.at b (.cells [v,.int .i64 s.rv,.bool s.iw] true 1)::.h (au .i64 v s.am)::K):=by
 unfold ah at h;rw [hp.aL] at h;have h1:bn A (iK b s*aL K):=h;unfold iK at h1;rw [bn.ex] at h1;obtain⟨v,h2⟩:=h1;exact⟨v,h2.dV (by show _=pt b _*(au .i64 v s.am*aL K);rw [HP.b5])⟩
theorem iK.dU {A:AW} {L K:List It} {b:Nat} {s:gw} {v:Value} (h:ah A L) (hp:aQ L [.at b (.cells [v,.int .i64 s.rv,.bool s.iw] true 1),.h (au .i64 v s.am)] K):ah A (.h (iK b s)::K):=by
 unfold ah at h;rw [hp.aL] at h;show bn A (iK b s*aL K);unfold iK;rw [bn.ex];exact⟨v,h.dV (by show pt b _*(au .i64 v s.am*eP)*aL K=_;rw [dt])⟩
theorem ah.pG {A:AW} {L K:List It} {k:IntKind} {v:Value} {l:List Int} (h:ah A L) (hp:aB L (.h (au k v l)) K):dz A k v l:=by
 unfold ah at h;rw [hp.aL] at h;exact au.is h
theorem oM (b:Nat) (o:Option Addr) (n c:Nat) (rv:Int) (f:Bool) (A:AW) (hg:A.bt b=some (.cells [.slice o n c,.int .i64 rv,.bool f] true 1)) :
 et 196 [.pointer (some ⟨b,0,none⟩)] A (.bool (f || decide (n=0))):=by
 refine aH Tryz.func196 λ_=>?_;cases f
 all_goals(refine W cy (J2 hg @AW.ab) ?_<;>unhygienic intros)
 all_goals exact⟨_,rfl,by simp;try omega,rfl⟩
theorem Cy (b pb:Nat) (s:gw) (M:Mm) :
 bf Tryz.prog 197 [.pointer (some ⟨b,0,none⟩),.pointer (some ⟨pb,0,none⟩)] [.h (iK b s),dH pb M]
  (λv=>v=(iA s M).1.v) (λ_=>[.h (iK b (iA s M).2.1),dH pb (iA s M).2.2]):=by
 intro A F hw di;refine aH Tryz.func197 λ_=>?_;obtain⟨vo,hS⟩:=iK.open di .z;obtain⟨oo,co,rfl,_⟩:=(ah.pG hS (.s .z)).dO;obtain⟨os,rv,iw⟩:=s;by_cases hd:(iw || decide (os.length=0))=true
 . have hq:=ke hS hw;have Cc:∀A',A'.bt b=some (.cells [.slice oo os.length co,.int .i64 rv,.bool iw] true 1)->et 196 [.pointer (some ⟨b,0,none⟩)] A' (.bool true):=λA' h=>by
    have:=oM b oo os.length co rv iw A' h;rwa [hd] at this
   have e:iA ⟨os,rv,iw⟩ M=(aU.zero,⟨os,rv,iw⟩,M):=ay hd;revert hq hS hw;refine W (J2 (od Hv) @Cc) (J4 hd bF @bd.eq_1 @aU.v.eq_1) ?_<;>(unhygienic intros);rw [e];refine⟨_,by simp [hq,AW.ab,aD];rfl,by simp [aU.v,aU.zero],?_⟩;apply ah.bI
   . apply iK.dU (b:=b) (s:=⟨os,rv,iw⟩) (v:=.slice oo os.length co)
     (·exact sA)
     (·repeat' (first|apply aQ.z|apply aQ.s|apply aB.z|(apply aB.GO;simp;done)|apply aB.s))
   (·repeat' (first|apply aQ.z|apply aQ.s|apply aB.z|(apply aB.GO;simp;done)|apply aB.s))
 obtain⟨hf,hn⟩:iw=false/\¬os.length=0:=by simpa using hd
 subst hf;cases os with
 | nil=>simp at hn
 | cons o os=>
 obtain⟨bo,off,c,cD,hv,IV,yR,cH,htl,hwh,hS⟩:=ah.WF hS (.s .z);injection hv with Pn hv2 Us;subst Pn;subst Us;have Cc:∀A',A'.bt b=some (.cells [.slice (some ⟨bo,off,none⟩) (os.length+1) co,.int .i64 rv,.bool false] true 1)->et 196 [.pointer (some ⟨b,0,none⟩)] A' (.bool false):=λA' h=>oM b _ _ co rv false A' h;have e:iA ⟨o::os,rv,false⟩ M=(gy M 2 o,⟨os,rv,decide (rv<jL (gy M 2 o).eV)⟩,M):=ap hd;have hq:=ke hS hw;revert hq hS hw;(repeat first|clear hq|clear hS|clear hw|revert hc|revert R|revert K);refine W (J4 (od Hv) @Cc @uY (Pg pb)) (J5 cH @eo.eq_1 bF @bd.eq_1 @aU.v.eq_1) ?_<;>(unhygienic intros);rw [e];refine⟨_,by simp [hq,AW.ab,aD];rfl,by simp [aU.v,aU.zero],?_⟩;apply ah.bI
 . apply iK.dU (b:=b) (s:=⟨os,rv,decide (rv<jL (gy M 2 o).eV)⟩) (v:=.slice (some ⟨bo,off+1,none⟩) os.length (co-1))
   . apply htl;apply ah.front
     (·exact sA)
     (·repeat' (first|apply aQ.z|apply aQ.s|apply aB.z|(apply aB.GO;simp;done)|apply aB.s))
   (·repeat' (first|apply aQ.z|apply aQ.s|apply aB.z|(apply aB.GO;simp;done)|apply aB.s))
 (·repeat' (first|apply aQ.z|apply aQ.s|apply aB.z|(apply aB.GO;simp;done)|apply aB.s))
end
section
namespace TRefO
theorem kI [Gl] {A:AW} {L:List It} {T:Prop} (hS:ah A L) (hw:A.Wf) (h':(aK A L/\ba A L/\bD L)=T:=by first|(dsimp only [aa,af,aK,ba,bD,dN];done)|exact rfl):T:=h'▸hS.dT hw
end TRefO
open TRefO
variable [Gl]
def Qu (cf:bH) (mb:Nat) (M:Nat->List Int):HP:=
 pe λv:Value×Value×Value×Value×Value=>
  pt mb (.cells (cf.cells++[v.1,v.2.1,.int .u64 ((M 2).getD 0 0),.int .u64 ((M 3).getD 0 0),.int .u64 ((M 4).getD 0 0),v.2.2.1,v.2.2.2.1,v.2.2.2.2]) true 1) *
   (au .u64 v.1 (M 0)*(au .u64 v.2.1 (M 1)*(au .u64 v.2.2.1 (M 5)*(au .u64 v.2.2.2.1 (M 6)*au .u64 v.2.2.2.2 (M 7)))))
theorem Qu.dU {A:AW} {cf:bH} {mb:Nat} {M:Nat->List Int} {F:HP} {v0 v1 v5 v6 v7:Value} (h:bn A (pt mb (.cells (cf.cells++[v0,v1,.int .u64 ((M 2).getD 0 0),.int .u64 ((M 3).getD 0 0),.int .u64 ((M 4).getD 0 0),v5,v6,v7]) true 1) *
 (au .u64 v0 (M 0)*(au .u64 v1 (M 1)*(au .u64 v5 (M 5)*(au .u64 v6 (M 6)*(au .u64 v7 (M 7)*F))))))):bn A (Qu cf mb M*F):=by
 unfold Qu;rw [bn.ex];exact⟨(v0,v1,v5,v6,v7),h.dV (by dsimp only;ac_rfl)⟩
def Bx (cf:bH) (mb:Nat) (M:Mm):It:=.h (Qu cf mb M)
end
section
open T4
variable [Gl]
def Q7 (v:Value) (rv:Int) (k:Nat) (f:Bool):dG:=.cells [v,.int .i64 rv,.int .i64 k,.bool f] true 1
end
section
open T5
variable [Gl]
def nU (a:aU):Int:=if a.cell=8 then 9 else if a.gd=3 then 10 else 8
def gL (a:aU):Int:=if a.cell=8 then 22 else if a.gd=3 then 23 else 21
theorem Hr (a:aU) (A:AW) (hw:A.Wf):az Tryz.prog 187 [a.v] A (λv A'=>v=.int .i64 (nU a)/\A.le A'):=by
 refine aH Tryz.func187 λ_=>?_;by_cases h1:a.cell=8<;>by_cases h2:a.gd=3
 all_goals(revert hw;refine W cy (J4 h1 h2 bF @aU.v.eq_1) ?_<;>unhygienic intros)
 all_goals exact⟨_,rfl,by simp [nU,h1,h2],AW.le.alloc _ _⟩
theorem FI (a:aU) (A:AW) (hw:A.Wf):az Tryz.prog 65 [a.v] A (λv A'=>v=.int .i64 (gL a)/\A.le A'):=by
 refine aH Tryz.func65 λ_=>?_;by_cases h1:a.cell=8<;>by_cases h2:a.gd=3
 all_goals(revert hw;refine W cy (J4 h1 h2 bF @aU.v.eq_1) ?_<;>unhygienic intros)
 all_goals exact⟨_,rfl,by simp [gL,h1,h2],AW.le.alloc _ _⟩
theorem JY (v:Value) (l:List Int) (x:Int) (A:AW) (h:dz A .i64 v l) (hl:l.length<2^62) :
 az Tryz.prog 246 [v,.int .i64 x] A (λu A'=>(∃r:Int,u=.int .i64 r/\(0<=r↔x∈l))/\A=A'):=by
 refine aH Tryz.func246 λ_=>?_;obtain⟨o,c,rfl,_⟩:=h.dO;refine W cy cy ?_<;>(unhygienic intros);refine dW (λk fr A'=>A=A'/\∃i:Nat,k=l.length-i/\i<=l.length/\fr 0=.slice o l.length c/\fr 1=.int .i64 x/\fr 7=.int .i64 l.length/\fr 8=.int .i64 i/\∀j,j<i->l[j]?≠some x) l.length ?_ ?_;refine⟨rfl,0,by simp,by simp,rfl,rfl,rfl,rfl,by simp⟩;rintro k fr A' ⟨rfl,i,rfl,hi,h0,h1,h7,h8,hj⟩;by_cases cF:i<l.length;obtain⟨p,cD,rfl,cH,hcell⟩:=h.at cF;have hP:=D9 (i:=i);refine bh ?_;refine W cy (J8 h0 h1 h7 h8 cH hcell cF hP) (J2 ?_ ?_)<;>intros;refine⟨_,rfl,⟨(i:Int),by simp,?_⟩,rfl⟩;have hx:l[i]=x:=by simp_all
 exact⟨λ_=>hx▸List.getElem_mem cF,λ_=>by omega⟩;refine⟨l.length-(i+1),by omega,rfl,i+1,rfl,by omega,?_,?_,?_,?_,?_⟩;simp [h0];simp [h1];simp [h7];simp;intro j uB;by_cases e:j=i;subst e;rw [List.getElem?_eq_getElem cF];intro e2;injection e2 with e2;simp_all;exact hj j (by omega);refine bh ?_;refine W cy (J5 h0 h1 h7 h8 cF) ?_<;>intros;refine⟨_,rfl,⟨-1,by simp,?_⟩,rfl⟩;refine⟨λh=>by omega,λhm=>?_⟩;obtain⟨j,LT,GS⟩:=List.getElem_of_mem hm;exact absurd (by rw [List.getElem?_eq_getElem LT,GS]) (hj j (by omega))
theorem vq (v:Value) (l:List Int) (x:Int) (A:AW) (h:dz A .i64 v l) (hl:l.length<2^62) :
 et 181 [v,.int .i64 x] A (.bool (decide (x∈l))):=by
 refine aH Tryz.func181 λ_=>?_
 repeat' (first|(refine jK λR hR=>?_;simp [an,ax];try simp (disch:=omega) only [ay,ap,an,ax])|(refine hR _ _ ?_;clear hR R)|(refine hK _ _ ?_;clear hK K)|refine nx ?_|refine wn λK hK=>?_|simp only [wS]|(refine bV (JY v l x _ h hl) ?_<;>rintro _ _ ⟨⟨r,rfl,hr⟩,rfl⟩ _ _)|(show cB _ _ _ _ _ _;refine nx ?_)|(refine wc rfl (λhc=>?_) (λhc=>?_)<;>(try simp at hc)<;>(try omega))|(refine ib (λhc=>?_) (λhc=>?_)<;>(try omega)<;>(try simp (disch:=omega) only [ay,ap])))
 exact⟨_,rfl,by simp [hr],rfl⟩
end
section
abbrev BJ:List (Nat×Nat):=[(0,0),(1,0),(2,0),(3,0),(4,0),(5,0),(6,0),(7,0),(8,0),(9,0),(10,0)]
open T5
variable [Gl]
theorem ah.append {P:Program} {A:AW} {L K:List It} {t e:TypeId} {i:TypeInfo} {z:Value} {v:Value} {k:IntKind} {l:List Int} (h:ah A L) (hp:aB L (.h (au k v l)) K) (y:Int)
 (hu:P.underlying t=some (.slice e)) (hi:P.info? e=some i) (hz:i.zero=some z) (gf:i.size=1) (nz:z.cells.size=1) (b6:l.length<2 ^ 40) (yS:i.bytes<=8) (hw:A.Wf) :
 ∃v' A',eK P (A.alloc (.cells [.int k y] true 1)) t t v (.slice (some ⟨A.next,0,none⟩) 1 1)=some (v',A')/\ah A' (.h (au k v' (l++[y]))::K)/\A'.Wf/\A.next<=A'.next/\∃o c,v'=.slice o (l.length+1) c:=by
 have h1:bn A (au k v l*aL K):=by
  unfold ah at h;rw [hp.aL] at h;exact h
 obtain⟨v',A',e1,h2,h3,h4⟩:=au.append (P:=P) (t:=t) y hu hi hz gf nz h1 b6 yS hw;obtain⟨o,c,h5,_⟩:=(au.is h2).dO;exact⟨v',A',e1,h2,h3,h4,o,c,by simpa using h5⟩
def tq (ee:Nat) (v:Value):dG:=.cells [.int .i64 ee,v] true 1
def uO (b:Nat) (ee:Nat) (l:List Int):HP:=pe λv:Value=>pt b (tq ee v)*au .i64 v l
def dy (ee:Nat) (l:List Int) (x:Int):Bool×List Int:=if x∈l then (true,l) else if ee<=l.length then (false,l) else (true,l++[x])
theorem uO.open {A:AW} {L K:List It} {b ee:Nat} {l:List Int} (h:ah A L) (hp:aB L (.h (uO b ee l)) K):∃v,ah A (.at b (tq ee v)::.h (au .i64 v l)::K):=by
 unfold ah at h;rw [hp.aL] at h;have h1:bn A (uO b ee l*aL K):=h;unfold uO at h1;rw [bn.ex] at h1;obtain⟨v,h2⟩:=h1;exact⟨v,h2.dV (by show _=pt b _*(au .i64 v l*aL K);rw [HP.b5])⟩
theorem uO.dU {A:AW} {L K:List It} {b ee:Nat} {l:List Int} {v:Value} (h:ah A L) (hp:aQ L [.at b (tq ee v),.h (au .i64 v l)] K):ah A (.h (uO b ee l)::K):=by
 unfold ah at h;rw [hp.aL] at h;show bn A (uO b ee l*aL K);unfold uO;rw [bn.ex];exact⟨v,h.dV (by show pt b _*(au .i64 v l*eP)*aL K=_;rw [dt])⟩
theorem Hg (b ee:Nat) (v:Value) (l:List Int) (x:Int) (A:AW) (hg:A.bt b=some (tq ee v)) (h:dz A .i64 v l) (hl:l.length<2^62) :
 et 247 [.pointer (some ⟨b,0,none⟩),.int .i64 x] A (.bool (decide (x∈l))):=by
 refine aH Tryz.func247 λ_=>?_;dsimp only [tq] at hg;refine W (J1 (vq v l x _ h hl)) (J2 hg @AW.ab) ?_<;>intros
 all_goals exact⟨_,rfl,rfl,rfl⟩
theorem k7 (b ee:Nat) (l:List Int) (x:Int) (hc:l.length<=ee) (yR:ee<=32) :
 bf Tryz.prog 182 [.pointer (some ⟨b,0,none⟩),.int .i64 x] [.h (uO b ee l)] (λu=>u=.bool (dy ee l x).1) (λ_=>[.h (uO b ee (dy ee l x).2)]):=by
 intro A F hw di;refine aH Tryz.func182 λ_=>?_;obtain⟨vo,hS⟩:=uO.open di .z;have hI:=ah.pG hS (.s .z);have yn:=hS.g 0 rfl;have hg:=yn;dsimp only [tq] at hg;obtain⟨oo,co,rfl,_⟩:=hI.dO;have rQ:=Hg b ee _ l x A yn hI (by omega);by_cases h1:x∈l;rw [decide_eq_true h1] at rQ;have e:dy ee l x=(true,l):=ay h1;refine W (J2 (od BJ) @rQ) (J3 hg h1 @AW.ab) ?_<;>intros;refine⟨_,rfl,by simp [e],?_⟩;rw [e];exact di;rw [decide_eq_false h1] at rQ;by_cases h2:ee<=l.length
 . have e:dy ee l x=(false,l):=(by unfold dy;rw [ap h1,ay h2]);have h3:(ee:Int)<=l.length:=by omega
   skip
   refine W (J2 (od BJ) @rQ) (J4 hg h1 h3 @AW.ab) ?_<;>intros;refine⟨_,rfl,by simp [e],?_⟩;rw [e];exact di
 have e:dy ee l x=(true,l++[x]):=by unfold dy;rw [ap h1,ap h2]
 have h3:¬(ee:Int)<=l.length:=by omega
 have h4:¬(l.length:Int)=ee:=by omega
 obtain⟨v',A',e1,mg,kS,_,o2,c2,rfl⟩:=ah.append (P:=Tryz.prog) (t:=23) hS (.s .z) x Tryz.underlying23 Tryz.info3 Tryz.zero3 rfl rfl (by omega) (by simp) hw;have Kj:=mg.g 1 rfl;dsimp only [tq] at Kj;refine W (J2 (od BJ) @rQ) (J7 hg h1 h3 h4 e1 Kj bF) ?_<;>intros;refine⟨_,by first|rfl|(simp;rfl),by simp [e],?_⟩;rw [e];exact uO.dU (v:=.slice o2 (l.length+1) c2) (ah.fp mg (.s .z)) (.s .z (.s .z .z))
end
section
open T6
variable [Gl]
def j9 (ee:Nat) (va vv vi:Value):dG:=.cells [.int .i64 ee,va,vv,vi] true 1
end
section
open T7
variable [Gl]
theorem ah.Ls {A:AW} {L K:List It} {k:IntKind} {v:Value} {l:List Int} (h:ah A L) (hp:aB L (.h (au k v l)) K) {j:Nat} (hj:j<l.length) :
 ∃b off c cD,v=.slice (some ⟨b,off,none⟩) l.length c/\off+l.length<=cD.length/\cD[off+j]? = some (.int k (l.getD j 0))/\
  (∀y A' K',ah A' (.at b (.cells (cD.set (off+j) (.int k y)) true 1)::K')->ah A' (.h (au k v (l.set j y))::K'))/\ah A (.at b (.cells cD true 1)::K):=by
 have h1:bn A (au k v l*aL K):=by
  have h0:=h;unfold ah at h0;rw [hp.aL] at h0;exact h0
 rcases ep.cases h1 with ⟨_,h0,_⟩|⟨b,off,c,cD,rfl,h2,h3,h4,h5⟩;omega;rw [Nat.mul_one] at h3 h4;refine⟨b,off,c,cD,rfl,h3,?_,λy A' K' hh=>au.mk (by simp) (by simpa using h2) (by simpa using h3) ?_ hh,h5⟩;have:cD[off+j]? = (l.map (Value.int k))[j]?:=by rw [h4,List.getElem?_take_of_lt hj,List.getElem?_drop]
 rw [this,List.getElem?_map,List.getElem?_eq_getElem hj,List.getD_eq_getElem?_getD,List.getElem?_eq_getElem hj];rfl;rw [List.map_set,h4,List.drop_set,ap (by omega),show off+j-off=j by omega,List.length_set,List.take_set]
def nR (b:Nat) (s:ri):HP:=pe λva:Value=>pe λvv:Value=>pe λvi:Value=>pt b (j9 s.ee va vv vi)*(au .i64 va s.bK*(au .u64 vv s.eM*au .i64 vi s.index))
theorem nR.open {A:AW} {L K:List It} {b:Nat} {s:ri} (h:ah A L) (hp:aB L (.h (nR b s)) K) :
 ∃va vv vi,ah A (.at b (j9 s.ee va vv vi)::.h (au .i64 va s.bK)::.h (au .u64 vv s.eM)::.h (au .i64 vi s.index)::K):=by
 unfold ah at h;rw [hp.aL] at h;have h1:bn A (nR b s*aL K):=h;unfold nR at h1;rw [bn.ex] at h1;obtain⟨va,h1⟩:=h1;rw [bn.ex] at h1;obtain⟨vv,h1⟩:=h1;rw [bn.ex] at h1;obtain⟨vi,h1⟩:=h1;exact⟨va,vv,vi,h1.dV (by show _=pt b _*(au .i64 va s.bK*(au .u64 vv s.eM*(au .i64 vi s.index*aL K)));ac_rfl)⟩
theorem nR.dU {A:AW} {L K:List It} {b:Nat} {s:ri} {va vv vi:Value} (h:ah A L) (hp:aQ L [.at b (j9 s.ee va vv vi),.h (au .i64 va s.bK),.h (au .u64 vv s.eM),.h (au .i64 vi s.index)] K):ah A (.h (nR b s)::K):=by
 unfold ah at h;rw [hp.aL] at h;show bn A (nR b s*aL K);unfold nR;rw [bn.ex];refine⟨va,?_⟩;rw [bn.ex];refine⟨vv,?_⟩;rw [bn.ex];exact⟨vi,h.dV (by show pt b _*(au .i64 va s.bK*(au .u64 vv s.eM*(au .i64 vi s.index*eP)))*aL K=_;rw [dt])⟩
theorem AV {a:Int} {n:Nat} (ha:0<=a):a.tmod (n:Int)=((a.toNat % n:Nat):Int):=by
 rw [Int.tmod_eq_emod_of_nonneg ha,Int.natCast_emod,Int.toNat_of_nonneg ha]
theorem Nc {n:Nat} (hn:0<n) (GR:n<=64) {a:Int} (ha:0<=a):(IntKind.i64.wrap (a.tmod (n:Int)*5)).tmod (n:Int)=(kj n a:Int):=by
 have h1:a.toNat % n<n:=Nat.mod_lt _ hn;rw [AV ha];generalize he:a.toNat % n=r at h1;rw [an (x:=(r:Int)*5) (by omega) (by omega),AV (by omega)];have h2:((r:Int)*5).toNat=r*5:=by omega
 rw [h2];unfold kj;rw [he]
theorem Q3 {n k:Nat} (hn:0<n) (GR:n<=64) (m:Nat):(((st n k m:Nat):Int)+1).tmod (n:Int)=((st n k (m+1):Nat):Int):=by
 have h1:=zl (k:=k) (d:=m) hn;have h2:=zl (k:=k) (d:=m+1) hn;rw [AV (by omega)];have h3:(((st n k m:Nat):Int)+1).toNat=st n k m+1:=by omega
 have h4:(st n k m+1) % n=st n k (m+1):=by unfold st;rw [Nat.mod_add_mod];rfl
 rw [h3,h4]
end
section
abbrev AB:List (Nat×Nat):=[(0,0),(1,0),(2,0),(3,0),(4,0),(5,0),(6,0),(7,0),(8,0),(9,0),(10,0),(11,0),(12,0),(13,0),(14,0)]
abbrev AA:List (Nat×Nat):=[(0,0),(1,0),(2,0),(3,0),(4,0),(5,0),(6,0),(7,0),(8,0),(9,0),(10,0),(11,0),(12,0),(13,0),(14,0),(15,0),(16,0),(17,0),(18,0),(19,0),(20,0),(21,0),(22,0),(23,0),(24,0)]
abbrev LC:List (Nat×Nat):=[(0,0),(1,0),(2,0),(3,0),(4,0),(5,0),(6,2),(7,0),(8,0),(9,0)]
open T7
variable [Gl]
theorem zu (b:Nat) (va vv vi:Value) (s:ri) (a:Int) (A:AW) (lq:mZ s) (ha:0<=a) (yR:s.ee<=32) (RH:s.index.length<=64) (hg:A.bt b=some (j9 s.ee va vv vi))
 (Td:dz A .i64 va s.bK) (Tc:dz A .i64 vi s.index) :
 ∃p,p<s.index.length/\((∃e,tM s.bK a=some e/\ix s.index p=e)\/(tM s.bK a=none/\ix s.index p<0/\xS s.index (kj s.index.length a)=p))/\
  et 217 [.pointer (some ⟨b,0,none⟩),.int .i64 a] A (.int .i64 p):=by
 obtain⟨d,hd,hway,pf⟩:=lq.WA a;have hn:0<s.index.length:=by omega
 refine⟨_,zl hn,pf,?_⟩;refine aH Tryz.func217 λ_=>?_;obtain⟨oa,ca,rfl,_⟩:=Td.dO;obtain⟨oi,ci,rfl,_⟩:=Tc.dO;dsimp only [j9] at hg;have hk:=Nc (n:=s.index.length) hn RH ha;have RE:=Ce hn a;generalize kj s.index.length a=k0 at *;have gl:¬s.index=[]:=λe=>by rw [e] at hn;simp at hn
 have b6:s.bK.length<=32:=Nat.le_trans lq.ee yR;refine W (J2 (od AB) (od AA)) (J4 hg hk gl @AW.ab) ?_<;>(unhygienic intros);refine dW (λk fr A'=>A=A'/\∃m:Nat,k=d-m/\m<=d/\fr 0=.pointer (some ⟨b,0,none⟩)/\fr 1=.int .i64 a/\fr 5=.int .i64 (st s.index.length k0 m)) d ?_ ?_;refine⟨rfl,0,by simp,by simp,rfl,rfl,by simp [As RE]⟩;rintro k fr A' ⟨rfl,m,rfl,hm,h0,h1,h5⟩;have cL:=Q3 (n:=s.index.length) (k:=k0) hn RH m;have Kb:=zl (k:=k0) (d:=m) hn;obtain⟨p,cD,rfl,cH,hcell⟩:=Tc.at Kb;have iR:s.index[st s.index.length k0 m]=ix s.index (st s.index.length k0 m):=by unfold ix;rw [List.getD_eq_getElem?_getD,List.getElem?_eq_getElem Kb];rfl
 rw [iR] at hcell;have Uv:=lq.VG _ Kb;by_cases cF:m<d;obtain⟨UM,W1⟩:=hway m cF;obtain⟨x,hx⟩:∃x:Nat,ix s.index (st s.index.length k0 m)=x:=⟨(ix s.index (st s.index.length k0 m)).toNat,by omega⟩;rw [hx] at hcell W1 Uv;have hxl:x<s.bK.length:=by omega
 obtain⟨pa,rowa,rfl,Pp,F2⟩:=Td.at hxl;have W0:¬s.bK[x]=a:=by
  intro e;apply W1;rw [Int.toNat_natCast,List.getD_eq_getElem?_getD,List.getElem?_eq_getElem hxl];exact e
 generalize s.bK[x]=y at *;refine bh ?_;refine W (J2 (od AB) (od AA)) (vD hg h0 h1 h5 cH hcell Pp F2 hxl W0 Kb cL gl @AW.ab) ?_<;>intros;refine⟨d-(m+1),by omega,rfl,m+1,rfl,by omega,?_,?_,?_⟩;simp [h0];simp [h1];simp;obtain rfl:m=d:=by omega
 rcases pf with ⟨e,EG,he⟩|⟨EG,he,_⟩;obtain⟨h3,h4,_⟩:=sC EG;rw [he] at hcell;obtain⟨pa,rowa,rfl,Pp,F2⟩:=Td.at h3;have h5':s.bK[e]=a:=by
  rw [List.getD_eq_getElem?_getD,List.getElem?_eq_getElem h3] at h4;exact h4
 rw [h5'] at F2;refine bh ?_;refine W (J2 (od AB) (od AA)) (rL hg h0 h1 h5 cH hcell Pp F2 h3 Kb gl @AW.ab) ?_<;>intros;exact⟨_,by simp [h5],rfl,rfl⟩;have N1:¬0<=ix s.index (st s.index.length k0 m):=by omega
 refine bh ?_;refine W (J2 (od AB) (od AA)) (GK hg h0 h1 h5 cH hcell N1 Kb gl @AW.ab) ?_<;>intros;exact⟨_,by simp [h5],rfl,rfl⟩
theorem HM (b:Nat) (va vv vi:Value) (s:ri) (a:Int) (A:AW) (lq:mZ s) (ha:0<=a) (yR:s.ee<=32) (RH:s.index.length<=64) (hg:A.bt b=some (j9 s.ee va vv vi))
 (Td:dz A .i64 va s.bK) (Tb:dz A .u64 vv s.eM) (Tc:dz A .i64 vi s.index) :
 et 136 [.pointer (some ⟨b,0,none⟩),.int .i64 a] A (.tuple #[.int .u64 (jU s a).1,.bool (jU s a).2]):=by
 refine aH Tryz.func136 λ_=>?_;obtain⟨p,hp,PL,s4⟩:=zu b va vv vi s a A lq ha yR RH hg Td Tc;dsimp only [j9] at hg;have V7:¬a<0:=by omega
 obtain⟨oi,ci,rfl,_⟩:=Tc.dO;obtain⟨ov,cv,rfl,_⟩:=Tb.dO;obtain⟨q,cD,rfl,cH,hcell⟩:=Tc.at hp;have iR:s.index[p]=ix s.index p:=by unfold ix;rw [List.getD_eq_getElem?_getD,List.getElem?_eq_getElem hp];rfl
 rw [iR] at hcell;rcases PL with ⟨e,EG,he⟩|⟨EG,he,_⟩;rw [he] at hcell;have h3:e<s.eM.length:=by rw [lq.JO];exact(sC EG).1
 obtain⟨qv,TP,rfl,Po,US⟩:=Tb.at h3;have iG:jU s a=(s.eM[e],true):=by simp [jU,EG,List.getElem?_eq_getElem h3]
 have N0:¬(e:Int)<0:=by omega
 refine W (J2 (od LC) @s4) (GK hg V7 cH hcell hp N0 Po US h3 @AW.ab) ?_<;>intros;exact⟨_,rfl,by simp [iG],rfl⟩;have iG:jU s a=(0,false):=by simp [jU,EG]
 refine W (J2 (od LC) @s4) (J7 hg V7 cH hcell hp he @AW.ab) ?_<;>intros;exact⟨_,rfl,by simp [iG],rfl⟩
end
section
open T7
variable [Gl]
theorem Fu (b ee:Nat) (v:Value) (l:List Int) (A:AW) (hg:A.bt b=some (tq ee v)) (h:dz A .i64 v l) (hl:l.length<2^39) :
 az Tryz.prog 194 [.pointer (some ⟨b,0,none⟩)] A (λu A'=>eA A.next A' .i64 u l/\A.le A'):=by
 refine aH Tryz.func194 λ_=>?_;dsimp only [tq] at hg;refine W cy (J2 hg @AW.ab) ?_<;>(unhygienic intros);refine bV (j0 v l A h hl) ?_;rintro u A1 ⟨h1,h2⟩ i5 _;refine W cy cy ?_<;>intros;exact⟨_,rfl,h1,h2⟩
theorem DG (b ee:Nat) (va vv vi:Value) (l:List Int) (A:AW) (hg:A.bt b=some (j9 ee va vv vi)) (h:dz A .i64 va l) (hl:l.length<2^39) :
 az Tryz.prog 124 [.pointer (some ⟨b,0,none⟩)] A (λu A'=>eA A.next A' .i64 u l/\A.le A'):=by
 refine aH Tryz.func124 λ_=>?_;dsimp only [j9] at hg;refine W cy (J2 hg @AW.ab) ?_<;>(unhygienic intros);refine bV (j0 va l A h hl) ?_;rintro u A1 ⟨h1,h2⟩ i5 _;refine W cy cy ?_<;>intros;exact⟨_,rfl,h1,h2⟩
theorem BV (b ee:Nat) (va vv vi:Value) (l:List Int) (A:AW) (hg:A.bt b=some (j9 ee va vv vi)) (h:dz A .u64 vv l) (hl:l.length<2^39) :
 az Tryz.prog 202 [.pointer (some ⟨b,0,none⟩)] A (λu A'=>eA A.next A' .u64 u l/\A.le A'):=by
 refine aH Tryz.func202 λ_=>?_;dsimp only [j9] at hg;refine W cy (J2 hg @AW.ab) ?_<;>(unhygienic intros);refine bV (mV vv l A h hl) ?_;rintro u A1 ⟨h1,h2⟩ i5 _;refine W cy cy ?_<;>intros;exact⟨_,rfl,h1,h2⟩
theorem HL (b ee:Nat) (o:Option Addr) (n c:Nat) (vv vi:Value) (A:AW) (hg:A.bt b=some (j9 ee (.slice o n c) vv vi)) :
 et 250 [.pointer (some ⟨b,0,none⟩)] A (.int .i64 n):=by
 refine aH Tryz.func250 λ_=>?_;dsimp only [j9] at hg;refine W cy (J2 hg @AW.ab) ?_<;>intros;exact⟨_,rfl,rfl,rfl⟩
theorem HH (v:Value) (l:List Int) (rv:Int) (A:AW) (F:HP) (h:dz A .i64 v l) (hl:l.length<2^38) (hw:A.Wf) (hS:bn A F) :
 az Tryz.prog 193 [v,.int .i64 rv] A (λu A'=>∃b,u=.pointer (some ⟨b,0,none⟩)/\bn A' (iK b ⟨l,rv,false⟩*F)/\A.le A'):=by
 refine aH Tryz.func193 λ_=>?_;revert hS hw;refine W cy cy ?_<;>(unhygienic intros);refine bV (j0 v l A h (by omega)) ?_;rintro u A1 ⟨h1,h2⟩ i5 _;obtain⟨o1,c1,rfl,_⟩:=h1.is.dO;revert hS hw;(repeat first|clear hS|clear hw|revert hc|revert R|revert K);refine W cy cy ?_<;>(unhygienic intros);refine⟨_,by first|(simp;done)|(simp;rfl),A1.next,rfl,?_,h2.trans (AW.le.alloc _ _)⟩;have iI:=(au.jF hS hw h2 h1).alloc i5 (.cells [.slice o1 l.length c1,.int .i64 rv,.bool false] true 1);unfold iK;rw [bn.ex];exact⟨.slice o1 l.length c1,iI.dV (by show _=pt A1.next (.cells [.slice o1 l.length c1,.int .i64 rv,.bool false] true 1)*au .i64 (.slice o1 l.length c1) l*F;rw [HP.b5])⟩
end
section
abbrev OU:List (Nat×Nat):=[(0,0),(1,0),(2,0),(3,0),(4,0),(5,0),(6,0),(7,0),(8,0),(9,0),(10,0),(11,0)]
abbrev oE:List (Nat×Nat):=[(0,0),(1,0),(2,0),(3,0),(4,0),(5,0),(6,0),(7,0),(8,0),(9,0),(10,0),(11,0),(12,3),(13,0),(14,0),(15,0),(16,3)]
abbrev oD:List (Nat×Nat):=[(0,0),(1,0),(2,0),(3,0),(4,0),(5,0),(6,2),(7,0),(8,0),(9,0),(10,3),(11,0),(12,0),(13,3)]
abbrev oC:List (Nat×Nat):=[(0,0),(1,0),(2,0),(3,0),(4,0),(5,0),(6,0),(7,0),(8,0),(9,0),(10,0),(11,0),(12,0),(13,0),(14,0),(15,0),(16,0),(17,0),(18,0),(19,0),(20,0),(21,0),(22,0),(23,0),(24,0),(25,0),(26,0),(27,3),(28,0),(29,0),(30,0),(31,3)]
abbrev rz:List (Nat×Nat):=[(0,0),(1,0),(2,0),(3,0),(4,0),(5,0),(6,0),(7,0),(8,0),(9,2),(10,3),(11,0),(12,0),(13,3)]
open T7
variable [Gl]
structure hW where
 ak:Int
 am:List Int
 eL:List Int
 d7:Int
 fH:Bool
def hW.done (s:hW):Bool:=decide (s.eL.length=s.am.length)
def gz (b:Nat) (s:hW):HP:=pe λvo:Value=>pe λvw:Value=>
 pt b (.cells [.int .i64 s.ak,vo,vw,.int .u64 s.d7,.bool s.fH] true 1)*(au .i64 vo s.am*au .u64 vw s.eL)
theorem gz.open {A:AW} {b:Nat} {s:hW} {F:HP} (h:bn A (gz b s*F)) :
 ∃vo vw,bn A (pt b (.cells [.int .i64 s.ak,vo,vw,.int .u64 s.d7,.bool s.fH] true 1)*(au .i64 vo s.am*(au .u64 vw s.eL*F))):=by
 unfold gz at h;rw [bn.ex] at h;obtain⟨vo,h⟩:=h;rw [bn.ex] at h;obtain⟨vw,h⟩:=h;exact⟨vo,vw,h.dV (by ac_rfl)⟩
theorem gz.dU {A:AW} {b:Nat} {s:hW} {F:HP} {vo vw:Value} (h:bn A (pt b (.cells [.int .i64 s.ak,vo,vw,.int .u64 s.d7,.bool s.fH] true 1)*(au .i64 vo s.am*(au .u64 vw s.eL*F)))) :
 bn A (gz b s*F):=by
 unfold gz;rw [bn.ex];refine⟨vo,?_⟩;rw [bn.ex];exact⟨vw,h.dV (by ac_rfl)⟩
theorem mJ (b:Nat) (s:hW) (A:AW) (F:HP) (h:bn A (gz b s*F)) :
 az Tryz.prog 189 [.pointer (some ⟨b,0,none⟩)] A (λv A'=>v=.bool s.done/\A=A'):=by
 refine aH Tryz.func189 λhw=>?_;obtain⟨vo,vw,hS⟩:=gz.open h;obtain⟨oo,co,rfl,_⟩:=(au.is hS.right).dO;obtain⟨ow,cw,rfl,_⟩:=(au.is hS.right.right).dO;have hg:=hS.bt;refine W (J1 (od OU)) (J2 hg @AW.ab) ?_<;>intros;simp [hW.done];omega
def iC (s:hW):Int:=s.am.getD s.eL.length 0
def lJ (s:hW):Int:=IntKind.u64.wrap (IntKind.u64.wrap (s.d7+IntKind.u64.wrap s.ak)+1)
def eN (s:hW) (M:Nat->List Int):aU×hW×(Nat->List Int):=
 if s.done=true then (aU.zero,s,M)
 else if s.fH=false then
  let a:=fv M 1 2 (iC s) lf
  (a,{ s with d7:=a.eV,fH:=decide (lK a.eV<0) },M)
 else
  let a:=fv M 3 2 (iC s) (nB s.d7 (lJ s))
  (a,{ s with fH:=false,eL:=if a.done=true then s.eL++[s.d7] else s.eL },pR M 2 (iC s) (nB s.d7 (lJ s)))
theorem DH (b pb:Nat) (s:hW) (M:Nat->List Int) (b6:s.eL.length<=s.am.length) (RD:s.am.length<2^38) :
 nD Tryz.prog 188 [.pointer (some ⟨b,0,none⟩),.pointer (some ⟨pb,0,none⟩)] (gz b s*eu pb M)
  (λv=>C5 (v=(eN s M).1.v)*(gz b (eN s M).2.1*eu pb (eN s M).2.2)):=by
 intro A F hw di;refine aH Tryz.func188 λ_=>?_;rw [HP.b5] at di;have iI:=((di.alloc hw (.cells bd true 1)).alloc (hw.alloc _) (.cells bd true 1));have mg:bn ((A.alloc (.cells bd true 1)).alloc (.cells bd true 1)) (gz b s*(eu pb M*(pt (A.next+1) (.cells bd true 1)*(pt A.next (.cells bd true 1)*F)))):=iI.dV (by simp only [AW.bx];ac_rfl);by_cases hdone:s.done=true;revert hw;refine W (J5 (od oE) (od oD) (od oC) (od rz) (mJ b s _ _ mg)) (J3 hdone bF @bd.eq_1) ?_<;>(unhygienic intros);have cL:eN s M=(aU.zero,s,M):=by unfold eN;rw [ay hdone]
 rw [cL];refine⟨_,by simp [AW.eY,AW.dM,AW.ab,aD];rfl,bn.post (by simp [aU.v,aU.zero]) ?_⟩;rw [HP.b5];exact di.le hw ((((AW.le.alloc A _).trans (AW.le.alloc _ _)).set (Nat.le_refl _) _));have PG:s.done=false:=by simpa using hdone
 have cF:s.eL.length<s.am.length:=by
  have:¬s.eL.length=s.am.length:=by simpa [hW.done] using hdone
  omega
 have fZ:(s.eL.length:Int)<s.am.length:=by omega
 obtain⟨vo,vw,AH⟩:=gz.open di;have hg:=AH.bt;have hSo:bn A (au .i64 vo s.am*(pt b (.cells [.int .i64 s.ak,vo,vw,.int .u64 s.d7,.bool s.fH] true 1)*(au .u64 vw s.eL*(eu pb M*F)))):=AH.dV (by ac_rfl);obtain⟨bo,off,c,cD,rfl,_,yn,mu,_,_⟩:=au.at hSo cF;obtain⟨ow,cw,rfl,_⟩:=(au.is AH.right.right).dO;obtain⟨nb,SH⟩:=hw.eL hg;obtain⟨no,VL⟩:=hw.eL yn;have UJ:s.am[s.eL.length]=iC s:=by unfold iC;rw [List.getD_eq_getElem?_getD,List.getElem?_eq_getElem cF];rfl
 rw [UJ] at mu;cases Kf:s.fH
 . rw [Kf] at hg;revert hw;(repeat first|clear hw|revert hc|revert R|revert K);refine W (J5 (od oE) (od oD) (od oC) (od rz) (mJ b s _ _ mg)) (rL PG hg yn mu nb SH no VL cF fZ bF @bd.eq_1) ?_<;>(unhygienic intros);have yU:bn _ (eu pb M*(gz b s*(pt (A.next+1) (.cells bd true 1)*(pt A.next (.cells bd true 1)*F)))):=mg.dV (by ac_rfl);refine(HK pb M 2 (iC s)).use ((hw.alloc _).alloc _) yU rfl ?_;intro v A2 EJ kS GR;obtain⟨rfl,wQ⟩:=EJ.oc;clear EJ;have cL:eN s M=(fv M 1 2 (iC s) lf,{ s with d7:=(fv M 1 2 (iC s) lf).eV,fH:=decide (lK (fv M 1 2 (iC s) lf).eV<0) },M):=by
    unfold eN;rw [ap hdone,ay Kf]
   generalize fv M 1 2 (iC s) lf=a at cL wQ ⊢;have PO:bn A2 (gz b s*(pt (A.next+1) (.cells bd true 1)*(pt A.next (.cells bd true 1)*(eu pb M*F)))):=wQ.dV (by ac_rfl);obtain⟨zi,uR,PN⟩:=gz.open PO;have AG:bn A2 (pt b (.cells [.int .i64 s.ak,zi,uR,.int .u64 s.d7,.bool s.fH] true 1)*(pt (A.next+1) (.cells bd true 1)*(pt A.next (.cells bd true 1)*(au .i64 zi s.am*(au .u64 uR s.eL*(eu pb M*F)))))):=PN.dV (by ac_rfl);have u7:=AG.bt;have yO:=AG.right.bt;have yp:=AG.right.right.bt;have n1:=AG.ne;have n2:=AG.Ud;have n3:=AG.right.ne;refine W (J5 (od oE) (od oD) (od oC) (od rz) @xf) (kM u7 yO yp n1 n2 n3 Kf (Ne.symm n1) (Ne.symm n2) (Ne.symm n3) bF @bd.eq_1 @aU.v.eq_1) ?_<;>intros;refine⟨_,by simp [AW.eY,AW.dM,AW.ab,aD];rfl,bn.post (by rw [cL];simp [aU.v]) ?_⟩;rw [cL,HP.b5];refine gz.dU (vo:=zi) (vw:=uR) (bn.Ih AG (by simp [AW.dM,n1,n2]) (λj x h1 h2 h3 hx=>?_));simp [AW.dM,h1,h2,h3,hx]
 rw [Kf] at hg;revert hw;(repeat first|clear hw|revert hc|revert R|revert K);refine W (J5 (od oE) (od oD) (od oC) (od rz) (mJ b s _ _ mg)) (rL PG hg yn mu nb SH no VL cF fZ bF @bd.eq_1) ?_<;>(unhygienic intros);have yU:bn _ (eu pb M*(gz b s*(pt (A.next+1) (.cells bd true 1)*(pt A.next (.cells bd true 1)*F)))):=mg.dV (by ac_rfl);refine(HJ pb M 2 (iC s) _ _).use ((hw.alloc _).alloc _) yU rfl ?_;intro v A2 EJ kS GR;obtain⟨rfl,wQ⟩:=EJ.oc;clear EJ;have cL:eN s M=(fv M 3 2 (iC s) (nB s.d7 (lJ s)),{ s with fH:=false,eL:=if (fv M 3 2 (iC s) (nB s.d7 (lJ s))).done=true then s.eL++[s.d7] else s.eL },pR M 2 (iC s) (nB s.d7 (lJ s))):=by
  unfold eN;rw [ap hdone,ap (by simp [Kf])]
 have DN:IntKind.u64.wrap (IntKind.u64.wrap (s.d7+IntKind.u64.wrap s.ak)+1)=lJ s:=rfl;rw [DN] at wQ ⊢;generalize fv M 3 2 (iC s) (nB s.d7 (lJ s))=a at cL wQ ⊢;generalize pR M 2 (iC s) (nB s.d7 (lJ s))=M' at cL wQ;have PO:bn A2 (gz b s*(pt (A.next+1) (.cells bd true 1)*(pt A.next (.cells bd true 1)*(eu pb M'*F)))):=wQ.dV (by ac_rfl);obtain⟨zi,uR,PN⟩:=gz.open PO;have AG:bn A2 (pt b (.cells [.int .i64 s.ak,zi,uR,.int .u64 s.d7,.bool s.fH] true 1)*(pt (A.next+1) (.cells bd true 1)*(pt A.next (.cells bd true 1)*(au .i64 zi s.am*(au .u64 uR s.eL*(eu pb M'*F)))))):=PN.dV (by ac_rfl);have u7:=AG.bt;have yO:=AG.right.bt;have yp:=AG.right.right.bt;have n1:=AG.ne;have n2:=AG.Ud;have n3:=AG.right.ne;cases mr:a.done;refine W (J4 (od oE) (od oD) (od oC) (od rz)) (vD u7 yO yp n1 n2 n3 Kf mr (Ne.symm n1) (Ne.symm n2) (Ne.symm n3) bF @bd.eq_1 @aU.v.eq_1) ?_<;>intros;refine⟨_,by simp [AW.eY,AW.dM,AW.ab,aD];rfl,bn.post (by rw [cL];simp [aU.v,mr]) ?_⟩
 rw [cL,HP.b5];simp only [mr,Bool.false_eq_true,if_false];refine gz.dU (vo:=zi) (vw:=uR) (bn.Ih AG (by simp [AW.dM,n1,n2]) (λj x h1 h2 h3 hx=>?_));simp [AW.dM,h1,h2,h3,hx];revert hw;(repeat first|clear hw|revert hc|revert R|revert K);refine W (J3 (od oE) (od oD) (od oC)) (vD u7 yO yp n1 n2 n3 Kf mr (Ne.symm n1) (Ne.symm n2) (Ne.symm n3) bF @bd.eq_1 @aU.v.eq_1) ?_<;>(unhygienic intros);refine Gh (λA3=>A3.Wf/\bn A3 (pt b (.cells [.int .i64 s.ak,zi,uR,.int .u64 s.d7,.bool false] true 1)*(pt (A.next+1) (.cells a.cells true 1)*(pt A.next (.cells bd true 1)*(au .i64 zi s.am*(au .u64 uR s.eL*(eu pb M'*F))))))) ?_ ?_;refine⟨(kS.set _ (kS.lt yO)).set _ (kS.lt u7),bn.upd3 AG (by simp [AW.dM]) (by simp [AW.dM,Ne.symm n1,aU.cells,mr]) (by simp [AW.dM,Ne.symm n2,Ne.symm n3,yp,bd]) (λj x h1 h2 h3 hx=>by simp [AW.dM,h1,h2,h3,hx])⟩;rintro A3 ⟨J0,Al⟩;have UN:=Al.bt;have hg31:=Al.right.bt;have hg30:=Al.right.right.bt
 obtain⟨v',A4,e1,lY,VQ,_⟩:=au.append (P:=Tryz.prog) (t:=59) s.d7 Tryz.underlying59 Tryz.info45 Tryz.zero45 rfl rfl
  (Al.dV (by ac_rfl):bn A3 (au .u64 uR s.eL*(pt b (.cells [.int .i64 s.ak,zi,uR,.int .u64 s.d7,.bool false] true 1)*(pt (A.next+1) (.cells a.cells true 1)*(pt A.next (.cells bd true 1)*(au .i64 zi s.am*(eu pb M'*F)))))))
  (by omega) (by simp) J0
 have RT:bn A4 (pt b (.cells [.int .i64 s.ak,zi,uR,.int .u64 s.d7,.bool false] true 1)*(pt (A.next+1) (.cells a.cells true 1)*(pt A.next (.cells bd true 1)*(au .i64 zi s.am*(au .u64 v' (s.eL++[s.d7])*(eu pb M'*F)))))):=lY.dV (by ac_rfl);have hg4b:=RT.bt;have hg41:=RT.right.bt;have hg40:=RT.right.right.bt;obtain⟨o3,n3',uI⟩:True/\(b=A3.next)=False/\∀k,(b=A3.next+k)=False:=⟨trivial,(J0.eL UN).1,(J0.eL UN).2⟩;have VR:∃o c,v'=.slice o (s.eL.length+1) c:=by
  obtain⟨o,c,h,_⟩:=(au.is lY).dO;exact⟨o,c,by simpa using h⟩
 obtain⟨o',c',rfl⟩:=VR;refine W (J4 (od oE) (od oD) (od oC) (od rz)) (J19 UN hg31 hg30 hg4b hg41 hg40 n1 n2 n3 n3' uI e1 mr (Ne.symm n1) (Ne.symm n2) (Ne.symm n3) bF @bd.eq_1 (J2 @aU.v.eq_1 @aU.cells.eq_1)) ?_<;>intros;refine⟨_,by simp [AW.eY,AW.dM,AW.ab,aD];rfl,bn.post (by rw [cL];simp [aU.v,mr]) ?_⟩;rw [cL,HP.b5];simp only [mr,if_true];refine gz.dU (vo:=zi) (vw:=.slice o' (s.eL.length+1) c') (bn.Ih RT (by simp [AW.dM,n1,n2]) (λj x h1 h2 h3 hx=>?_));simp [AW.dM,h1,h2,h3,hx]
end
section
open T7
variable [Gl]
structure jx where
 os:List Int
 ws:List Int
def gG (b:Nat) (s:jx):HP:=pe λvo:Value=>pe λvw:Value=>
 pt b (.cells [vo,vw] true 1)*(au .i64 vo s.os*au .u64 vw s.ws)
theorem gG.open {A:AW} {b:Nat} {s:jx} {F:HP} (h:bn A (gG b s*F)) :
 ∃vo vw,bn A (pt b (.cells [vo,vw] true 1)*(au .i64 vo s.os*(au .u64 vw s.ws*F))):=by
 unfold gG at h;rw [bn.ex] at h;obtain⟨vo,h⟩:=h;rw [bn.ex] at h;obtain⟨vw,h⟩:=h;exact⟨vo,vw,h.dV (by ac_rfl)⟩
theorem gG.dU {A:AW} {b:Nat} {s:jx} {F:HP} {vo vw:Value} (h:bn A (pt b (.cells [vo,vw] true 1)*(au .i64 vo s.os*(au .u64 vw s.ws*F)))) :
 bn A (gG b s*F):=by
 unfold gG;rw [bn.ex];refine⟨vo,?_⟩;rw [bn.ex];exact⟨vw,h.dV (by ac_rfl)⟩
def jx.done (s:jx):Bool:=decide (s.os.length=0)
theorem r9 (b:Nat) (s:jx) (A:AW) (F:HP) (h:bn A (gG b s*F)) :
 az Tryz.prog 209 [.pointer (some ⟨b,0,none⟩)] A (λv A'=>v=.bool s.done/\A=A'):=by
 refine aH Tryz.func209 λhw=>?_;obtain⟨vo,vw,hS⟩:=gG.open h;obtain⟨oo,co,rfl,_⟩:=(au.is hS.right).dO;obtain⟨ow,cw,rfl,_⟩:=(au.is hS.right.right).dO;have hg:=hS.bt;refine W cy (J2 hg @AW.ab) ?_<;>intros;simp [jx.done]
theorem au.tl {A:AW} {k:IntKind} {v:Value} {x:Int} {l:List Int} {F:HP} (h:bn A (au k v (x::l)*F)) :
 ∃b off c cD,v=.slice (some ⟨b,off,none⟩) (l.length+1) c/\A.bt b=some (.cells cD true 1)/\(∀j o F',F=pt j o*F'->b≠j)/\(∀j o i o' F',F=pt j o*(pt i o'*F')->b≠i)/\bn A (au k (.slice (some ⟨b,off+1,none⟩) l.length (c-1)) l*F):=by
 rcases ep.cases h with ⟨_,h0,_⟩|⟨b,off,c,cD,rfl,h1,h2,h3,h4⟩;simp at h0;refine⟨b,off,c,cD,by simp,h4.bt,λj o F' e=>by subst e;exact h4.ne,λj o i o' F' e=>by subst e;exact h4.Ud,?_⟩;simp only [List.length_cons,Nat.mul_one] at h1 h2 h3;refine au.mk rfl (by omega) (by omega) ?_ h4;rw [List.drop_eq_getElem_cons (by omega),List.map_cons,List.take_succ_cons] at h3;exact(List.cons.inj h3).2
def j7 (s:jx) (M:Nat->List Int):aU×jx×(Nat->List Int):=
 if s.done=true then (aU.zero,s,M)
 else (fv M 2 2 (s.os.getD 0 0) (gW (s.ws.getD 0 0)),⟨s.os.tail,s.ws.tail⟩,pR M 2 (s.os.getD 0 0) (gW (s.ws.getD 0 0)))
theorem FC (b pb:Nat) (s:jx) (M:Nat->List Int) (b6:s.os.length=s.ws.length) :
 nD Tryz.prog 208 [.pointer (some ⟨b,0,none⟩),.pointer (some ⟨pb,0,none⟩)] (gG b s*eu pb M)
  (λv=>C5 (v=(j7 s M).1.v)*(gG b (j7 s M).2.1*eu pb (j7 s M).2.2)):=by
 intro A F hw di;refine aH Tryz.func208 λ_=>?_;rw [HP.b5] at di;have iI:=(di.alloc hw (.cells bd true 1));have mg:bn (A.alloc (.cells bd true 1)) (gG b s*(eu pb M*(pt A.next (.cells bd true 1)*F))):=iI.dV (by ac_rfl);by_cases hdone:s.done=true;have hd:=r9 b s _ _ mg;rw [hdone] at hd;revert hw;refine Wu (J2 (⟨⟩:Ts (λ_=>True) [0,0,0,0,0,0,0,0,0,0,0,0,0,3,0,0,0,2,3,0] (.aY 0 (.aY 1 (.aY 2 (.aY 3 (.aY 4 (.aY 5 (.aY 6 (.aY 7 (.aY 8 (.aY 9 (.aY 10 (.aY 11 (.aY 12 (.uS 13 (.aY 14 (.aY 15 (.aY 16 (.aY 17 (.aY 18 (.aY 19 .nil)))))) 17 (.aY 13 (.aY 14 (.aY 15 (.aY 16 (.aY 18 (.aY 19 .nil))))))))))))))))))))) @hd) (J2 bF @bd.eq_1) ?_<;>(unhygienic intros);have cL:j7 s M=(aU.zero,s,M):=by unfold j7;rw [ay hdone]
 rw [cL];refine⟨_,by simp [AW.ab,aD];rfl,bn.post (by simp [aU.v,aU.zero]) ?_⟩;rw [HP.b5];exact di.le hw ((AW.le.alloc A _).set (Nat.le_refl _) _);have hd:=r9 b s _ _ mg;rw [show s.done=false by simpa using hdone] at hd;obtain⟨os,ws⟩:=s;cases os with
 | nil=>simp [jx.done] at hdone
 | cons o os=>
 cases ws with
 | nil=>simp at b6
 | cons x ws=>
 have cL:j7 ⟨o::os,x::ws⟩ M=(fv M 2 2 o (gW x),⟨os,ws⟩,pR M 2 o (gW x)):=by
  unfold j7;rw [ap hdone];rfl
 obtain⟨vo,vw,AH⟩:=gG.open di;have hg:=AH.bt;have hSo:bn A (au .i64 vo (o::os)*(pt b (.cells [vo,vw] true 1)*(au .u64 vw (x::ws)*(eu pb M*F)))):=AH.dV (by ac_rfl);have hSw:bn A (au .u64 vw (x::ws)*(pt b (.cells [vo,vw] true 1)*(au .i64 vo (o::os)*(eu pb M*F)))):=AH.dV (by ac_rfl);obtain⟨bo,off,c,cD,rfl,_,yn,mu,_,_⟩:=au.at hSo (j:=0) (by simp);obtain⟨bw,offw,cw,roww,rfl,_,UL,V2,_,_⟩:=au.at hSw (j:=0) (by simp);obtain⟨nb,SH⟩:=hw.eL hg;obtain⟨no,VL⟩:=hw.eL yn;obtain⟨nw,nw'⟩:=hw.eL UL;simp at yn mu UL V2;revert hw;(repeat first|clear hw|revert hc|revert R|revert K);refine Wu (J2 @hd (⟨⟩:Ts (λ_=>True) [0,0,0,0,0,0,0,0,0,0,0,0,0,3,0,0,0,2,3,3] (.aY 0 (.aY 1 (.aY 2 (.aY 3 (.aY 4 (.aY 5 (.aY 6 (.aY 7 (.aY 8 (.aY 9 (.aY 10 (.aY 11 (.aY 12 (.uS 13 (.aY 14 (.aY 15 (.aY 16 (.aY 17 (.aY 18 (.aY 19 .nil)))))) 17 (.aY 13 (.aY 14 (.aY 15 (.aY 16 (.aY 18 (.aY 19 .nil)))))))))))))))))))))) (kM hg yn mu UL V2 nb SH no VL nw nw' bF @bd.eq_1) (J2 ?_ ?_)<;>(unhygienic intros)
 . have yU:bn _ (eu pb M*(gG b ⟨o::os,x::ws⟩*(pt A.next (.cells bd true 1)*F))):=mg.dV (by ac_rfl);refine(rA pb M 2 o x).use (hw.alloc _) yU rfl ?_;intro v A2 EJ kS GR;obtain⟨rfl,wQ⟩:=EJ.oc;clear EJ;generalize fv M 2 2 o (gW x)=a at cL wQ ⊢;generalize pR M 2 o (gW x)=M' at cL wQ;generalize ny M 2 o=er at wQ ⊢;have PO:bn A2 (gG b ⟨o::os,x::ws⟩*(pt A.next (.cells bd true 1)*(eu pb M'*F))):=wQ.dV (by ac_rfl);obtain⟨zi,uR,PN⟩:=gG.open PO;obtain⟨CG,BI,Cv,OA,rfl,sB,Ke,Pv,AG⟩:=au.tl (PN.dV (by ac_rfl):bn A2 (au .i64 zi (o::os)*(pt b (.cells [zi,uR] true 1)*(au .u64 uR (x::ws)*(pt A.next (.cells bd true 1)*(eu pb M'*F))))));obtain⟨Gg,Jy,KH,Bt,rfl,sz,Kd,Pt,Al⟩:=au.tl (AG.dV (by ac_rfl):bn A2 (au .u64 uR (x::ws)*(pt b (.cells [.slice (some ⟨CG,BI,none⟩) (os.length+1) Cv,uR] true 1)*(au .i64 (.slice (some ⟨CG,BI+1,none⟩) os.length (Cv-1)) os*(pt A.next (.cells bd true 1)*(eu pb M'*F))))));have lY:=(Al.dV (by ac_rfl):bn A2 (pt b (.cells [.slice (some ⟨CG,BI,none⟩) (os.length+1) Cv,.slice (some ⟨Gg,Jy,none⟩) (ws.length+1) KH] true 1)*(pt A.next (.cells bd true 1)*(au .i64 (.slice (some ⟨CG,BI+1,none⟩) os.length (Cv-1)) os*(au .u64 (.slice (some ⟨Gg,Jy+1,none⟩) ws.length (KH-1)) ws*(eu pb M'*F))))))
   have u7:=lY.bt;have yp:=lY.right.bt;have n1:=lY.ne;obtain⟨mq,wi⟩:=kS.eL u7;obtain⟨JB,vZ⟩:=kS.eL sB;obtain⟨JA,vY⟩:=kS.eL sz;obtain⟨BQ,wj⟩:=kS.eL yp;have e1:(1:Int)<=(os.length:Int)+1:=(by omega);have e2:(1:Int)<=(ws.length:Int)+1:=(by omega);have n2:=Ke _ _ _ rfl;have n3:=Kd _ _ _ rfl;have FQ:A2.next≠b:=λe=>by rw [<-e] at mq;simp at mq
   have HI:A2.next≠A.next:=λe=>by rw [<-e] at BQ;simp at BQ
   repeat' (first|(refine jK λR hR=>?_;simp [an,ax,AW.ab,aD,bd,u7,yp,sB,sz,n1,Ne.symm n1,n2,n3,Ne.symm n2,Ne.symm n3,mq,wi,JB,vZ,JA,vY,BQ,wj,e1,e2,FQ,HI,aU.v,eo];try simp (disch:=omega) only [ay,ap,an,ax])|(refine hR _ _ ?_;clear hR R)|(refine hK _ _ ?_;clear hK K)|refine nx ?_|(refine Sw λR hR=>?_;simp [an,ax,AW.ab,aD,bd,u7,yp,sB,sz,n1,Ne.symm n1,n2,n3,Ne.symm n2,Ne.symm n3,mq,wi,JB,vZ,JA,vY,BQ,wj,e1,e2,FQ,HI,aU.v,eo];try simp (disch:=omega) only [ay,ap,an,ax])|(refine QZ (λR hR=>?_) (λR hR=>?_)<;>(simp [an,ax,AW.ab,aD,bd,u7,yp,sB,sz,n1,Ne.symm n1,n2,n3,Ne.symm n2,Ne.symm n3,mq,wi,JB,vZ,JA,vY,BQ,wj,e1,e2,FQ,HI,aU.v,eo];try simp (disch:=omega) only [ay,ap,an,ax]))|refine Sv ?_|refine wn λK hK=>?_|simp only [wS]|simp only [bC,vI,mN,Option.map_none,Option.map_some,List.getElem?_toArray,List.getElem?_cons_zero,List.getElem?_cons_succ,List.getD_cons_zero,List.getD_cons_succ,Option.bind_some]|(refine ⟨λA' xL=>by rw [xL]<;>rfl,?_⟩)|(refine TC (λA'=>A'.bt Gg=some (.cells Bt true 1)) Tryz.mx [(0,0),(1,0),(2,0),(3,0),(4,0),(5,0),(6,0),(7,0),(8,0),(9,0),(10,0),(11,1),(12,0),(13,0),(14,3),(15,0),(16,0),(17,3)] (by decide +kernel) λK hK=>?_)|((refine wt (λ_=>True) Tryz.mx [] .nil (by decide +kernel) ?_<;>fail))|(show cB _ _ _ _ _ _;refine nx ?_)|(refine wc rfl (λhc=>?_) (λhc=>?_)<;>(try simp at hc)<;>(try omega))|(refine ib (λhc=>?_) (λhc=>?_)<;>(try omega)<;>(try simp (disch:=omega) only [ay,ap])))
   refine⟨_,by simp [AW.ab,aD,FQ,HI];rfl,bn.post (by rw [cL];simp [aU.v]) ?_⟩;rw [cL,HP.b5];refine gG.dU (vo:=.slice (some ⟨CG,BI+1,none⟩) os.length (Cv-1)) (vw:=.slice (some ⟨Gg,Jy+1,none⟩) ws.length (KH-1)) (bn.PZ lY (by simp [AW.dM,n1,FQ]) (λj x h1 h2 hx=>?_));have hj:=(kS.eL hx).1;simp [AW.dM,h1,h2,hx,hj]
 have yU:bn _ (eu pb M*(gG b ⟨o::os,x::ws⟩*(pt (A.next+1) (.cells bd true 1)*(pt A.next (.cells bd true 1)*F)))):=((mg.alloc (hw.alloc _) (.cells bd true 1)).dV (by simp only [AW.bx];ac_rfl));refine(rA pb M 2 o x).use ((hw.alloc _).alloc _) yU rfl ?_;intro v A2 EJ kS GR;obtain⟨rfl,wQ⟩:=EJ.oc;clear EJ;generalize fv M 2 2 o (gW x)=a at cL wQ ⊢;generalize pR M 2 o (gW x)=M' at cL wQ;generalize ny M 2 o=er at wQ ⊢;have PO:bn A2 (gG b ⟨o::os,x::ws⟩*(pt (A.next+1) (.cells bd true 1)*(pt A.next (.cells bd true 1)*(eu pb M'*F)))):=wQ.dV (by ac_rfl);obtain⟨zi,uR,PN⟩:=gG.open PO;obtain⟨CG,BI,Cv,OA,rfl,sB,Ke,Pv,AG⟩:=au.tl (PN.dV (by ac_rfl):bn A2 (au .i64 zi (o::os)*(pt b (.cells [zi,uR] true 1)*(pt (A.next+1) (.cells bd true 1)*(au .u64 uR (x::ws)*(pt A.next (.cells bd true 1)*(eu pb M'*F)))))));obtain⟨Gg,Jy,KH,Bt,rfl,sz,Kd,Pt,Al⟩:=au.tl (AG.dV (by ac_rfl):bn A2 (au .u64 uR (x::ws)*(pt b (.cells [.slice (some ⟨CG,BI,none⟩) (os.length+1) Cv,uR] true 1)*(pt (A.next+1) (.cells bd true 1)*(au .i64 (.slice (some ⟨CG,BI+1,none⟩) os.length (Cv-1)) os*(pt A.next (.cells bd true 1)*(eu pb M'*F)))))))
 have lY:=(Al.dV (by ac_rfl):bn A2 (pt b (.cells [.slice (some ⟨CG,BI,none⟩) (os.length+1) Cv,.slice (some ⟨Gg,Jy,none⟩) (ws.length+1) KH] true 1)*(pt (A.next+1) (.cells bd true 1)*(pt A.next (.cells bd true 1)*(au .i64 (.slice (some ⟨CG,BI+1,none⟩) os.length (Cv-1)) os*(au .u64 (.slice (some ⟨Gg,Jy+1,none⟩) ws.length (KH-1)) ws*(eu pb M'*F)))))));have u7:=lY.bt;have yO:=lY.right.bt;have yp:=lY.right.right.bt;have n1:=lY.Ud;have n4:=lY.ne;have n5:=lY.right.ne;obtain⟨O3,JG⟩:=kS.eL yO;obtain⟨mq,wi⟩:=kS.eL u7;obtain⟨JB,vZ⟩:=kS.eL sB;obtain⟨JA,vY⟩:=kS.eL sz;obtain⟨BQ,wj⟩:=kS.eL yp;have e1:(1:Int)<=(os.length:Int)+1:=by omega
 have e2:(1:Int)<=(ws.length:Int)+1:=by omega
 have n2:=Ke _ _ _ rfl;have n3:=Kd _ _ _ rfl;have n6:=Pv _ _ _ _ _ rfl;have n7:=Pt _ _ _ _ _ rfl;have FQ:A2.next≠b:=λe=>by rw [<-e] at mq;simp at mq
 have HI:A2.next≠A.next:=λe=>by rw [<-e] at BQ;simp at BQ
 repeat' (first|(refine jK λR hR=>?_;simp [an,ax,AW.ab,aD,bd,u7,yp,yO,n6,n7,Ne.symm n6,Ne.symm n7,n4,n5,Ne.symm n4,Ne.symm n5,O3,JG,sB,sz,n1,Ne.symm n1,n2,n3,Ne.symm n2,Ne.symm n3,mq,wi,JB,vZ,JA,vY,BQ,wj,e1,e2,FQ,HI,aU.v,eo];try simp (disch:=omega) only [ay,ap,an,ax])|(refine hR _ _ ?_;clear hR R)|(refine hK _ _ ?_;clear hK K)|refine nx ?_|(refine Sw λR hR=>?_;simp [an,ax,AW.ab,aD,bd,u7,yp,yO,n6,n7,Ne.symm n6,Ne.symm n7,n4,n5,Ne.symm n4,Ne.symm n5,O3,JG,sB,sz,n1,Ne.symm n1,n2,n3,Ne.symm n2,Ne.symm n3,mq,wi,JB,vZ,JA,vY,BQ,wj,e1,e2,FQ,HI,aU.v,eo];try simp (disch:=omega) only [ay,ap,an,ax])|(refine QZ (λR hR=>?_) (λR hR=>?_)<;>(simp [an,ax,AW.ab,aD,bd,u7,yp,yO,n6,n7,Ne.symm n6,Ne.symm n7,n4,n5,Ne.symm n4,Ne.symm n5,O3,JG,sB,sz,n1,Ne.symm n1,n2,n3,Ne.symm n2,Ne.symm n3,mq,wi,JB,vZ,JA,vY,BQ,wj,e1,e2,FQ,HI,aU.v,eo];try simp (disch:=omega) only [ay,ap,an,ax]))|refine Sv ?_|refine wn λK hK=>?_|simp only [wS]|simp only [bC,vI,mN,Option.map_none,Option.map_some,List.getElem?_toArray,List.getElem?_cons_zero,List.getElem?_cons_succ,List.getD_cons_zero,List.getD_cons_succ,Option.bind_some]|(refine ⟨λA' xL=>by rw [xL]<;>rfl,?_⟩)|(refine TC (λA'=>A'.bt Gg=some (.cells Bt true 1)) Tryz.mx [(0,0),(1,0),(2,0),(3,0),(4,0),(5,0),(6,0),(7,0),(8,0),(9,0),(10,0),(11,1),(12,0),(13,0),(14,3),(15,0),(16,0),(17,3)] (by decide +kernel) λK hK=>?_)|((refine wt (λ_=>True) Tryz.mx [] .nil (by decide +kernel) ?_<;>fail))|(show cB _ _ _ _ _ _;refine nx ?_)|(refine wc rfl (λhc=>?_) (λhc=>?_)<;>(try simp at hc)<;>(try omega))|(refine ib (λhc=>?_) (λhc=>?_)<;>(try omega)<;>(try simp (disch:=omega) only [ay,ap])))
 refine⟨_,by simp [AW.ab,aD,n1,n4,n5,Ne.symm n1,Ne.symm n4,Ne.symm n5];rfl,bn.post (by rw [cL];simp [aU.v]) ?_⟩;rw [cL,HP.b5];refine gG.dU (vo:=.slice (some ⟨CG,BI+1,none⟩) os.length (Cv-1)) (vw:=.slice (some ⟨Gg,Jy+1,none⟩) ws.length (KH-1)) (bn.Ih lY (by simp [AW.dM,n1,n4]) (λj x h1 h2 h3 hx=>?_));simp [AW.dM,h1,h2,h3,hx]
end
end Go.Stx
