/-
 Contracts of the small functions that the statements share: places, lists compared and copied.
-/
import Derived.Test.YtnnbecihffpedaaGreatDoorF1
import Derived.Test.YtnnbecihffpedaaGreatDoorF2
import Derived.Test.YtnnbecihffpedaaGreatDoorF3
set_option linter.unusedVariables false
set_option linter.unusedSimpArgs false
set_option linter.unusedSectionVars false
set_option maxRecDepth 20000
set_option maxHeartbeats 4000000
namespace Go.Stx
open Go Go.Proofs
attribute [local irreducible] TW bC cB aW az aG bZ cz
section
namespace TKit
theorem kI [Gl] {A:AW} {L:List It} {T:Prop} (hS:ah A L) (hw:A.Wf) (h':(aK A L/\ba A L/\bD L)=T:=by first|(dsimp only [aa,af,aK,ba,bD,dN];done)|exact rfl):T:=h'▸hS.dT hw
end TKit
open TKit
variable [Gl]
def jR (a n:Int):Int:=IntKind.u64.wrap a % n
theorem lu (a:Int):0<=IntKind.u64.wrap a/\IntKind.u64.wrap a<18446744073709551616:=by
 simp only [IntKind.wrap,IntKind.bits,IntKind.signed,Bool.false_and,Bool.false_eq_true,if_false];omega
theorem fB (a n:Int) (hn:0<n):0<=jR a n/\jR a n<n:=⟨Int.emod_nonneg _ (by omega),Int.emod_lt_of_pos _ hn⟩
theorem ij (a n:Int) (A:AW) (hn:0<n) (GR:n<=9223372036854775807) :
 az Tryz.prog 8 [.int .i64 a,.int .i64 n] A (λv A'=>v=.int .i64 (jR a n)/\A=A'):=by
 refine aH Tryz.func8 λhw=>?_;have i5:IntKind.u64.wrap n=n:=ax (by omega) (by omega);have gl:n≠0:=by omega
 obtain⟨h1,h2⟩:=lu a;obtain⟨h3,h4⟩:=fB a n hn;have hr:(IntKind.u64.wrap a).tmod n=jR a n:=Int.tmod_eq_emod_of_nonneg h1;have kS:IntKind.i64.wrap (jR a n)=jR a n:=an (by omega) (by omega);refine W cy (J4 i5 gl hr kS) ?_<;>intros;simp
end
section
namespace TCells
theorem kI [Gl] {A:AW} {L:List It} {T:Prop} (hS:ah A L) (hw:A.Wf) (h':(aK A L/\ba A L/\bD L)=T:=by first|(dsimp only [aa,af,aK,ba,bD,dN];done)|exact rfl):T:=h'▸hS.dT hw
end TCells
open TCells
variable [Gl]
def wu (vs:Nat->Value) (a:Int):Option Value:=if 1<=a/\a<=8 then some (vs (a-1).toNat) else none
def eu (pb:Nat) (M:Nat->List Int):HP:=
 pe λr:Nat=>pe λvs:Nat->Value=>
  pt pb (.cells [.map (some r)] true 1)*(fM .i64 r (wu vs)*jI (λk=>au .u64 (vs k) (M k)) 8)
theorem eu.open {A:AW} {pb:Nat} {M:Nat->List Int} {F:HP} (h:bn A (eu pb M*F)) :
 ∃r vs,bn A (pt pb (.cells [.map (some r)] true 1)*(fM .i64 r (wu vs)*(jI (λk=>au .u64 (vs k) (M k)) 8*F))):=by
 unfold eu at h;rw [bn.ex] at h;obtain⟨r,h⟩:=h;rw [bn.ex] at h;obtain⟨vs,h⟩:=h;rw [HP.b5,HP.b5] at h;exact⟨r,vs,h⟩
theorem eu.dU {A:AW} {pb:Nat} {M:Nat->List Int} {F:HP} {r:Nat} {vs:Nat->Value} (h:bn A (pt pb (.cells [.map (some r)] true 1)*(fM .i64 r (wu vs)*(jI (λk=>au .u64 (vs k) (M k)) 8*F)))) :
 bn A (eu pb M*F):=by
 unfold eu;rw [bn.ex];refine⟨r,?_⟩;rw [bn.ex];refine⟨vs,?_⟩;rw [HP.b5,HP.b5];exact h
structure aU where
 gd:Int
 cell:Int
 dm:Int
 eV:Int
 put:Int
 done:Bool
deriving DecidableEq
def aU.v (a:aU):Value:=.agg #[.int .i64 a.gd,.int .i64 a.cell,.int .i64 a.dm,.int .u64 a.eV,.int .u64 a.put,.bool a.done]
def aU.cells (a:aU):List Value:=[.int .i64 a.gd,.int .i64 a.cell,.int .i64 a.dm,.int .u64 a.eV,.int .u64 a.put,.bool a.done]
def aU.zero:aU:=⟨0,0,0,0,0,false⟩
def jP (M:Nat->List Int) (cell:Int):List Int:=if 1<=cell/\cell<=8 then M (cell-1).toNat else []
def setRow (M:Nat->List Int) (cell dm v:Int):Nat->List Int:=λk=>if k=(cell-1).toNat then (M k).set dm.toNat v else M k
def f5 (M:Nat->List Int) (cell dm:Int):Bool:=decide (0<=dm/\dm<(jP M cell).length)
def fv (M:Nat->List Int) (gd cell dm:Int) (g:Int->Int×Bool):aU:=
 if f5 M cell dm=true then
  let eV:=(jP M cell).getD dm.toNat 0
  ⟨gd,cell,dm,eV,if (g eV).2=true then (g eV).1 else eV,(g eV).2⟩
 else aU.zero
def ny (M:Nat->List Int) (cell dm:Int):Int:=if f5 M cell dm=true then 0 else 60
def Rc (M:Nat->List Int) (gd cell dm:Int) (g:Int->Int×Bool):Value:=.tuple #[(fv M gd cell dm g).v,.int .i64 (ny M cell dm)]
def pR (M:Nat->List Int) (cell dm:Int) (g:Int->Int×Bool):Nat->List Int:=
 if f5 M cell dm=true/\(g ((jP M cell).getD dm.toNat 0)).2=true then setRow M cell dm (g ((jP M cell).getD dm.toNat 0)).1 else M
def bd:List Value:=[.int .i64 0,.int .i64 0,.int .i64 0,.int .u64 0,.int .u64 0,.bool false]
theorem nI (pb:Nat) (M:Nat->List Int) (gd cell dm:Int) (fc:FuncId) (fs cs:Array Value) (C:HP) (g:Int->Int×Bool)
 (iR:∀eL,nD Tryz.prog fc (fs.toList++.int .u64 eL::cs.toList) C (λv=>C5 (v=.tuple #[.int .u64 (g eL).1,.bool (g eL).2])*C)) :
 nD Tryz.prog 168 [.pointer (some ⟨pb,0,none⟩),.int .i64 gd,.int .i64 cell,.int .i64 dm,.func (.func fc) fs cs] (eu pb M*C)
  (λv=>C5 (v=Rc M gd cell dm g)*(eu pb (pR M cell dm g)*C)):=by
 intro A F MW hS;refine aH Tryz.func168 λhw=>?_;rw [HP.b5] at hS;obtain⟨r,vs,hS⟩:=eu.open hS;have hgp:=hS.bt;have mg:bn A (fM .i64 r (wu vs)*(pt pb (.cells [.map (some r)] true 1)*(jI (λk=>au .u64 (vs k) (M k)) 8*(C*F)))):=hS.dV (by ac_rfl);obtain⟨My,ym,hfind,Pu,AH,S8⟩:=fM.dT mg;obtain⟨np,np'⟩:=hw.eL hgp;obtain⟨nr,nr'⟩:=hw.eL ym;by_cases hcell:1<=cell/\cell<=8
 . obtain⟨k,hk⟩:∃k,k=(cell-1).toNat:=⟨_,rfl⟩;have cH:jP M cell=M k:=(by rw [hk];exact ay hcell);have zH:=hfind .i64 cell (vs k) (by simp [wu,hcell,hk]);obtain⟨q,zH⟩:=zH;have hk8:k<8:=(by omega)
   have yU:bn A (au .u64 (vs k) (M k)*(jI (pN (λk=>au .u64 (vs k) (M k)) k eP) 8*(pt pb (.cells [.map (some r)] true 1)*(fM .i64 r (wu vs)*(C*F))))):=
    bn.pick (f:=λk=>au .u64 (vs k) (M k)) (F:=pt pb (.cells [.map (some r)] true 1)*(fM .i64 r (wu vs)*(C*F))) (hS.dV (by ac_rfl)) hk8
   by_cases rQ:0<=dm/\dm<(M k).length
   . have Uk:f5 M cell dm=true:=by simpa [f5,cH] using rQ
     obtain⟨j,hj⟩:∃j,j=dm.toNat:=⟨_,rfl⟩;have wP:j<(M k).length:=(by omega);have UJ:dm=(j:Int):=(by omega);subst UJ;have UG:(j:Int)<(M k).length:=(by omega);obtain⟨b,off,c,cD,hv,hc0,u7,UT,oH,_⟩:=au.at yU wP;rw [hv] at zH;have M8:(jP M cell).getD (j:Int).toNat 0=(M k)[j]:=(by rw [cH,<-hj,List.getD_eq_getElem?_getD,List.getElem?_eq_getElem wP];rfl);obtain⟨nb,SH⟩:=hw.eL u7;revert hS hw;clear hS;refine W cy (vD hgp ym u7 UT zH np np' nr nr' nb SH UG wP bF) ?_<;>(unhygienic intros)
     have iI:bn (A.alloc (.cells bd true 1)) (C*(pt A.next (.cells bd true 1)*(au .u64 (vs k) (M k)*(jI (pN (λk=>au .u64 (vs k) (M k)) k eP) 8*(pt pb (.cells [.map (some r)] true 1)*(fM .i64 r (wu vs)*F)))))):=
      (yU.alloc hw _).dV (by ac_rfl)
     refine(iR _).use (hw.alloc _) iI rfl ?_;intro v A2 wQ kS _;obtain⟨rfl,EJ⟩:=wQ.oc;clear wQ;have AH:bn A2 (au .u64 (vs k) (M k)*(pt A.next (.cells bd true 1)*(C*(jI (pN (λk=>au .u64 (vs k) (M k)) k eP) 8*(pt pb (.cells [.map (some r)] true 1)*(fM .i64 r (wu vs)*F)))))):=EJ.dV (by ac_rfl);have hgx:=(show bn A2 (pt A.next (.cells bd true 1)*(au .u64 (vs k) (M k)*(C*(jI (pN (λk=>au .u64 (vs k) (M k)) k eP) 8*(pt pb (.cells [.map (some r)] true 1)*(fM .i64 r (wu vs)*F)))))) from EJ.dV (by ac_rfl)).bt;clear u7 UT oH;obtain⟨b',off',c',Wt,VR,_,u7,UT,oH,kc⟩:=au.at AH wP;rw [hv] at VR;injection VR with e1 e2 e3;injection e1 with e1;injection e1 with e1 e4;subst e1;subst e4;subst e3;have gl:(b=A.next)=False:=nb;have W2:(A.next=b)=False:=eq_false λe=>by rw [e] at gl;simp at gl
     have bI:∀(A3:AW) (L:List Int) (x:dG),bn A3 (au .u64 (vs k) L*(pt A.next (.cells bd true 1)*(C*(jI (pN (λk=>au .u64 (vs k) (M k)) k eP) 8*(pt pb (.cells [.map (some r)] true 1)*(fM .i64 r (wu vs)*F))))))->
      bn (A3.set A.next (some x)) (eu pb (λq=>if q=k then L else M q)*(C*F)):=by
      intro A3 L x h;have h1:bn A3 (pt A.next (.cells bd true 1)*(au .u64 (vs k) L*(jI (pN (λk=>au .u64 (vs k) (M k)) k eP) 8*(pt pb (.cells [.map (some r)] true 1)*(fM .i64 r (wu vs)*(C*F)))))):=h.dV (by ac_rfl);have h2:=bn.put (f:=λk=>au .u64 (vs k) (M k)) (h1.set x).right hk8;have e:pN (λk=>au .u64 (vs k) (M k)) k (au .u64 (vs k) L)=λq=>au .u64 (vs q) (if q=k then L else M q):=by
       funext q;simp only [pN];split;rename_i e;rw [e];rfl
      rw [e] at h2;exact eu.dU (r:=r) (vs:=vs) (h2.dV (by ac_rfl))
     have hbnd:off+j+1<=Wt.length:=(by omega);have kJ:Rc M gd cell (j:Int) g=.tuple #[(aU.mk gd cell j (M k)[j] (if (g (M k)[j]).2=true then (g (M k)[j]).1 else (M k)[j]) (g (M k)[j]).2).v,.int .i64 0]:=by
      unfold Rc fv ny;rw [ay Uk,ay Uk,M8]
     cases Kj:(g (M k)[j]).2
     . repeat' (first|(refine jK λR hR=>?_;simp [an,ax,hgx,u7,UT,gl,W2,AW.ab,aD,UG,wP,bd,Kj];try simp (disch:=omega) only [ay,ap,an,ax])|(refine hR _ _ ?_;clear hR R)|(refine hK _ _ ?_;clear hK K)|refine nx ?_|refine wn λK hK=>?_|simp only [wS]|(show cB _ _ _ _ _ _;refine nx ?_)|(refine wc rfl (λhc=>?_) (λhc=>?_)<;>(try simp at hc)<;>(try omega))|(refine ib (λhc=>?_) (λhc=>?_)<;>(try omega)<;>(try simp (disch:=omega) only [ay,ap])))
       refine⟨_,by simp [AW.eY,AW.dM,AW.ab,aD];rfl,bn.post (by simp [kJ,aU.v,Kj]) ?_⟩;have hM:pR M cell (j:Int) g=λq=>if q=k then M k else M q:=by
        funext q;simp only [pR,M8,Kj];simp only [Bool.false_eq_true,and_false,if_false];split;rename_i e;rw [e];rfl
       rw [hM,HP.b5];exact bI A2 (M k) _ AH
     have hcb':(Wt.set (off+j) (Value.int .u64 (g (M k)[j]).1))[off+j]? = some (Value.int .u64 (g (M k)[j]).1):=List.getElem?_set_self (by omega);refine W cy (rL hgx u7 UT hcb' gl W2 hbnd UG wP Kj bF @bd.eq_1) ?_<;>intros;refine⟨_,by simp [AW.eY,AW.dM,AW.ab,aD];rfl,bn.post (by simp [kJ,aU.v,Kj]) ?_⟩;have hM:pR M cell (j:Int) g=λq=>if q=k then (M k).set j (g (M k)[j]).1 else M q:=by
      have e0:pR M cell (j:Int) g=setRow M cell j (g (M k)[j]).1:=(by unfold pR;rw [M8,ay ⟨Uk,Kj⟩]);rw [e0];funext q;simp only [setRow,<-hk,<-hj];by_cases e:q=k;rw [ay e,ay e,e];rw [ap e,ap e]
     rw [hM,HP.b5];exact bI _ _ _ (kc _)
   obtain⟨o,c,hv,_⟩:=(au.is yU).dO;rw [hv] at zH;have AD:f5 M cell dm=false:=by simpa [f5,cH] using rQ
   repeat' (first|(refine jK λR hR=>?_;simp [an,ax,hgp,ym,zH,np,np',nr,nr',AW.ab,aD,rQ];try simp (disch:=omega) only [ay,ap,an,ax])|(refine hR _ _ ?_;clear hR R)|(refine hK _ _ ?_;clear hK K)|refine nx ?_|refine wn λK hK=>?_|simp only [wS]|(show cB _ _ _ _ _ _;refine nx ?_)|(refine wc rfl (λhc=>?_) (λhc=>?_)<;>(try simp at hc)<;>(try omega))|(refine ib (λhc=>?_) (λhc=>?_)<;>(try omega)<;>(try simp (disch:=omega) only [ay,ap])))
   all_goals
    refine⟨_,by simp [AW.eY,AW.dM,AW.ab,aD];rfl,bn.post (by simp [Rc,fv,ny,AD,aU.v,aU.zero]) ?_⟩;have hM:pR M cell dm g=M:=(by simp [pR,AD]);rw [hM,HP.b5];exact(eu.dU hS).le hw (((AW.le.alloc A _).set (Nat.le_refl _) _))
 have zH:=Pu .i64 cell (by simp [wu,hcell]);have cH:jP M cell=[]:=ap hcell;have AD:f5 M cell dm=false:=by simp [f5,cH]
 repeat' (first|(refine jK λR hR=>?_;simp [an,ax,hgp,ym,zH,np,np',nr,nr',AW.ab,aD];try simp (disch:=omega) only [ay,ap,an,ax])|(refine hR _ _ ?_;clear hR R)|(refine hK _ _ ?_;clear hK K)|refine nx ?_|refine wn λK hK=>?_|simp only [wS]|(show cB _ _ _ _ _ _;refine nx ?_)|(refine wc rfl (λhc=>?_) (λhc=>?_)<;>(try simp at hc)<;>(try omega))|(refine ib (λhc=>?_) (λhc=>?_)<;>(try omega)<;>(try simp (disch:=omega) only [ay,ap])))
 all_goals first
  | (exfalso;omega)
  | (refine ⟨_,(by simp [AW.eY,AW.dM,AW.ab,aD];rfl),bn.post (by simp [Rc,fv,ny,AD,aU.v,aU.zero]) ?_⟩
     have hM:pR M cell dm g=M:=(by simp [pR,AD]);rw [hM,HP.b5];exact(eu.dU hS).le hw (((AW.le.alloc A _).set (Nat.le_refl _) _)))
end
section
namespace TCfg
theorem kI [Gl] {A:AW} {L:List It} {T:Prop} (hS:ah A L) (hw:A.Wf) (h':(aK A L/\ba A L/\bD L)=T:=by first|(dsimp only [aa,af,aK,ba,bD,dN];done)|exact rfl):T:=h'▸hS.dT hw
end TCfg
open TCfg
variable [Gl]
structure bH where
 aR:Int
 am:Int
 base:Int
 c0:Int
 c1:Int
 c2:Int
 c3:Int
 reads:Int
 cM:Int
 ag:Int
 ar:Int
 aw:Int
 aT:Bool
def bH.v (c:bH):Value:=.agg #[.int .i64 c.aR,.int .i64 c.am,.int .i64 c.base,.int .i64 c.c0,.int .i64 c.c1,.int .i64 c.c2,.int .i64 c.c3,.int .i64 c.reads,.int .i64 c.cM,.int .i64 c.ag,.int .i64 c.ar,.int .i64 c.aw,.bool c.aT]
def bH.cells (c:bH):List Value:=[.int .i64 c.aR,.int .i64 c.am,.int .i64 c.base,.int .i64 c.c0,.int .i64 c.c1,.int .i64 c.c2,.int .i64 c.c3,.int .i64 c.reads,.int .i64 c.cM,.int .i64 c.ag,.int .i64 c.ar,.int .i64 c.aw,.bool c.aT]
def bH.nb (c:bH):Int:=c.c0+c.c1+c.c2+c.c3
def bH.hw (c:bH):Int:=c.c0+c.c1*2+c.c2*4+c.c3*8
structure cx (c:bH):Prop where
 aR:1<=c.aR/\c.aR<=64
 am:1<=c.am/\c.am<=64
 k0:0<=c.c0/\c.c0<=64
 k1:0<=c.c1/\c.c1<=64
 k2:0<=c.c2/\c.c2<=64
 k3:0<=c.c3/\c.c3<=64
 nb:c.nb<=64
 base:0<=c.base/\c.base<=c.aR
 R0:c.hw<=c.aR-c.base
 reads:1<=c.reads/\c.reads<=32
 cM:1<=c.cM/\c.cM<=32
 ag:0<=c.ag/\c.ag<=8
 ar:0<=c.ar/\c.ar<=8
 aw:0<=c.aw/\c.aw<=1099511627776
theorem G4 (n lo hi:Int) (A:AW):az Tryz.prog 58 [.int .i64 n,.int .i64 lo,.int .i64 hi] A (λv A'=>v=.bool (decide (lo<=n/\n<=hi))/\A=A'):=by
 refine aH Tryz.func58 λ_=>?_;refine W cy cy (J2 ?_ ?_)<;>intros
 all_goals(simp_all<;>omega)
theorem wW (n lo hi:Int) (A:AW):az Tryz.prog 154 [.int .i64 n,.int .i64 lo,.int .i64 hi] A (λv A'=>v=.bool (decide (lo<=n/\n<=hi))/\A=A'):=by
 refine aH Tryz.func154 λ_=>?_;refine W cy cy (J2 ?_ ?_)<;>intros
 all_goals(simp_all<;>omega)
end
section
variable [Gl]
inductive aB:List It->It->List It->Prop where
 | z {x:It} {L:List It}:aB (x::L) x L
 | s {x y:It} {L K:List It}:aB L x K->aB (y::L) x (y::K)
 | e {x y:It} {L:List It}:x.hp=y.hp->aB (x::L) y L
inductive aQ:List It->List It->List It->Prop where
 | z {L:List It}:aQ L [] L
 | s {x:It} {L M J K:List It}:aB L x M->aQ M J K->aQ L (x::J) K
theorem aB.aL {L K:List It} {x:It} (h:aB L x K):aL L=x.hp*aL K:=by
 induction h with
 | z=>rfl
 | e h=>
   rename_i x y L;show x.hp*Stx.aL L=y.hp*Stx.aL L;rw [h]
 | s h ih=>
   rename_i x y L K;show y.hp*Stx.aL L=x.hp*(y.hp*Stx.aL K);rw [ih];ac_rfl
theorem aQ.aL {L J K:List It} (h:aQ L J K):aL L=aL J*aL K:=by
 induction h with
 | z=>rename_i L;show Stx.aL L=eP*Stx.aL L;rw [iD]
 | s h1 h2 ih=>
   rename_i x L M J K;rw [h1.aL,ih];show x.hp*(Stx.aL J*Stx.aL K)=x.hp*Stx.aL J*Stx.aL K
   ac_rfl
theorem aB.GO {b:Nat} {o o':dG} {L:List It} (h:o=o'):aB (.at b o::L) (.at b o') L:=by rw [h];exact .z
theorem bf.eH {P:Program} {f:FuncId} {args:List Value} {rk:List It} {φ:Value->Prop} {post:Value->List It} (h:bf P f args rk φ post) {A:AW} {L K:List It} {k:Value->AW->Prop} (hw:A.Wf) (hS:ah A L) (e:aQ L rk K)
 (hk:∀v A',φ v->ah A' (post v++K)->A'.Wf->A.next<=A'.next->k v A'):az P f args A k:=by
 have mT:ah A (rk++[.h (Stx.aL K)]):=by
  unfold ah at *;rw [e.aL] at hS;rw [fi];show bn A (Stx.aL rk*(Stx.aL K*eP));rw [dt];exact hS
 refine bV (h A (Stx.aL K) hw mT) ?_;rintro v A' ⟨h1,h2⟩ lp hn;refine hk v A' h1 ?_ lp hn;unfold ah at *;rw [fi] at h2 ⊢;have h3:bn A' (Stx.aL (post v)*(Stx.aL K*eP)):=h2;rwa [dt] at h3
def d8 {ι:Type} (P:Program) (f:FuncId) (args:List Value) (rk:List It) (φ:ι->Value->Prop) (post:ι->List It):Prop:=
 ∀(A:AW) (F:HP),A.Wf->ah A (rk++[.h F])->az P f args A λv A'=>∃x,φ x v/\ah A' (post x++[.h F])
theorem d8.eH {ι:Type} {P:Program} {f:FuncId} {args:List Value} {rk:List It} {φ:ι->Value->Prop} {post:ι->List It} (h:d8 P f args rk φ post) {A:AW} {L K:List It} {k:Value->AW->Prop} (hw:A.Wf) (hS:ah A L) (e:aQ L rk K)
 (hk:∀x v A',φ x v->ah A' (post x++K)->A'.Wf->A.next<=A'.next->k v A'):az P f args A k:=by
 have mT:ah A (rk++[.h (aL K)]):=by
  unfold ah at *;rw [e.aL] at hS;rw [fi];show bn A (aL rk*(aL K*eP));rw [dt];exact hS
 refine bV (h A (aL K) hw mT) ?_;rintro v A' ⟨x,h1,h2⟩ lp hn;refine hk x v A' h1 ?_ lp hn;unfold ah at *;rw [fi] at h2 ⊢;have h3:bn A' (aL (post x)*(aL K*eP)):=h2;rwa [dt] at h3
theorem ah.bI {A:AW} {L G K:List It} (h:ah A L) (e:aQ L G K):ah A G:=by
 unfold ah at *;rw [e.aL] at h;exact h.left
theorem ah.fp {A:AW} {L K:List It} {i:Nat} {o o':dG} (h:ah A L) (e:aB L (.at i o) K):ah (A.set i (some o')) (.at i o'::K):=by
 unfold ah at *;rw [e.aL] at h;exact bn.set h o'
theorem ah.Vq {A:AW} {L:List It} {o:dG} (h:ah A L) (hw:A.Wf):ah (A.alloc o) (.at A.next o::L):=h.alloc hw o
theorem ah.WK {A X:AW} {L K:List It} {i:Nat} {o:dG} (h:ah A L) (hw:A.Wf) (e:aB L (.at i o) K) (hl:A.next<=X.next):i<X.next:=by
 unfold ah at h;rw [e.aL] at h;exact Nat.lt_of_lt_of_le (hw.lt (bn.bt h)) hl
theorem wA {A:AW} (h':A.Wf:=by first|((repeat' (first|assumption|apply AW.Wf.alloc|apply AW.Wf.set|exact Nat.le_refl _|(simp only [AW.bx,AW.rq];omega)|apply ah.WK hS hw|apply aB.z|apply aB.s));done)|fail):A.Wf:=h'
theorem sA {A:AW} {L:List It} (h':ah A L:=by first|((repeat' (first|exact hS|exact Nat.le_refl _|with_reducible apply ah.fp|with_reducible apply ah.KY|with_reducible apply AW.BK|with_reducible apply AW.Jz|with_reducible apply ah.Vq|with_reducible apply aB.z|with_reducible apply aB.s|assumption|apply AW.Wf.alloc|apply AW.Wf.set|(simp only [AW.bx,AW.rq];omega)|apply ah.WK hS hw|exact rfl));done)|fail):ah A L:=h'
theorem pA {L G K:List It} (h':aQ L G K:=by first|((repeat' (first|apply aQ.z|apply aQ.s|apply aB.z|apply aB.s));done)|fail):aQ L G K:=h'
theorem kA {L K:List It} {x:It} (h':aB L x K:=by first|((repeat' (first|apply aQ.z|apply aQ.s|apply aB.z|apply aB.s));done)|fail):aB L x K:=h'
theorem lA {A:AW} {L L':List It} (h:ah A L) (h':L=L':=by first|(dsimp only [AW.bx,aa,af];done)|exact rfl):ah A L':=h'▸h
namespace T0
theorem kI [Gl] {A:AW} {L:List It} {T:Prop} (hS:ah A L) (hw:A.Wf) (h':(aK A L/\ba A L/\bD L)=T:=by first|(dsimp only [aa,af,aK,ba,bD,dN,dH,gm,iU,lX,gt,gO];done)|exact rfl):T:=h'▸hS.dT hw
end T0
theorem HW [Gl] {A:AW} {L:List It} {T:Prop} (hS:ah A L) (hw:A.Wf) (h':(aK A L/\ba A L/\bD L)=T:=by first|(dsimp only [aa,af,dH,aK,ba,bD,dN,gm,iU,lX,gt,gO];done)|exact rfl):T:=h'▸hS.dT hw
namespace T2
theorem kI [Gl] {A:AW} {L:List It} {T:Prop} (hS:ah A L) (hw:A.Wf) (h':(aK A L/\ba A L/\bD L)=T:=by first|(dsimp only [aa,af,aK,ba,bD,dN,dH];done)|exact rfl):T:=h'▸hS.dT hw
end T2
theorem ke [Gl] {A:AW} {L:List It} {T:Prop} (hS:ah A L) (hw:A.Wf) (h':(aK A L/\ba A L/\bD L)=T:=by first|(dsimp only [aa,af,dH,aK,ba,bD,dN];done)|exact rfl):T:=h'▸hS.dT hw
namespace T4
theorem kI [Gl] {A:AW} {L:List It} {T:Prop} (hS:ah A L) (hw:A.Wf) (h':(aK A L/\ba A L/\bD L)=T:=by first|(dsimp only [aa,af,aK,ba,bD,dN,Bx,Q7];done)|exact rfl):T:=h'▸hS.dT hw
end T4
namespace T5
theorem kI [Gl] {A:AW} {L:List It} {T:Prop} (hS:ah A L) (hw:A.Wf) (h':(aK A L/\ba A L/\bD L)=T:=by first|(dsimp only [aa,af,aK,ba,bD,dN,tq];done)|exact rfl):T:=h'▸hS.dT hw
end T5
namespace T6
theorem kI [Gl] {A:AW} {L:List It} {T:Prop} (hS:ah A L) (hw:A.Wf) (h':(aK A L/\ba A L/\bD L)=T:=by first|(dsimp only [aa,af,aK,ba,bD,dN,j9];done)|exact rfl):T:=h'▸hS.dT hw
end T6
namespace T7
theorem kI [Gl] {A:AW} {L:List It} {T:Prop} (hS:ah A L) (hw:A.Wf) (h':(aK A L/\ba A L/\bD L)=T:=by first|(dsimp only [aa,af,aK,ba,bD,dN];done)|exact rfl):T:=h'▸hS.dT hw
end T7
theorem hqx8 [Gl] {A:AW} {L:List It} {T:Prop} (hS:ah A L) (hw:A.Wf) (h':(aK A L/\ba A L/\bD L)=T:=by first|(dsimp only [aa,af,aK,ba,bD,dN,j9];done)|exact rfl):T:=h'▸hS.dT hw
theorem eO [Gl] {A:AW} {L:List It} {T:Prop} (hS:ah A L) (hw:A.Wf) (h':(aK A L/\ba A L/\bD L)=T:=by first|(dsimp only [aa,af,aK,ba,bD,dN];done)|exact rfl):T:=h'▸hS.dT hw
namespace T10
theorem kI [Gl] {A:AW} {L:List It} {T:Prop} (hS:ah A L) (hw:A.Wf) (h':(aK A L/\ba A L/\bD L)=T:=by first|(dsimp only [aa,af,aK,ba,bD,dN,Bx,Q6,TU,Wx,TX,TV];done)|exact rfl):T:=h'▸hS.dT hw
end T10
namespace T11
theorem kI [Gl] {A:AW} {L:List It} {T:Prop} (hS:ah A L) (hw:A.Wf) (h':(aK A L/\ba A L/\bD L)=T:=by first|(dsimp only [aa,af,aK,ba,bD,dN,Bx];done)|exact rfl):T:=h'▸hS.dT hw
end T11
namespace T12
theorem kI [Gl] {A:AW} {L:List It} {T:Prop} (hS:ah A L) (hw:A.Wf) (h':(aK A L/\ba A L/\bD L)=T:=by first|(dsimp only [aa,af,aK,ba,bD,dN,s9,gm,iU,lX,gt,gO];done)|exact rfl):T:=h'▸hS.dT hw
end T12
namespace T13
theorem hqO [Gl] {A:AW} {L:List It} {T:Prop} (hS:ah A L) (hw:A.Wf) (h':(aK A L/\ba A L/\bD L)=T:=by first|(dsimp only [aa,af,aK,ba,bD,dN,s9,oz,kR,oR,vU,kV,kN,ig,oA,oe,vF,og];done)|exact rfl):T:=h'▸hS.dT hw
end T13
theorem LN [Gl] {A:AW} {L:List It} {T:Prop} (hS:ah A L) (hw:A.Wf) (h':(aK A L/\ba A L/\bD L)=T:=by first|(dsimp only [aa,af,aK,ba,bD,dN,s9];done)|exact rfl):T:=h'▸hS.dT hw
theorem EF [Gl] {A:AW} {L:List It} {T:Prop} (hS:ah A L) (hw:A.Wf) (h':(aK A L/\ba A L/\bD L)=T:=by first|(dsimp only [aa,af,aK,ba,bD,dN,s9,gm,iU,lX,gt,gO];done)|exact rfl):T:=h'▸hS.dT hw
theorem ed [Gl] {A:AW} {L:List It} {T:Prop} (hS:ah A L) (hw:A.Wf) (h':(aK A L/\ba A L/\bD L)=T:=by first|(dsimp only [aa,af,aK,ba,bD,dN,s9,oz,kR,oR,vU,kV,kN,ig,oA,oe,vF,og];done)|exact rfl):T:=h'▸hS.dT hw
namespace T17
theorem kI [Gl] {A:AW} {L:List It} {T:Prop} (hS:ah A L) (hw:A.Wf) (h':(aK A L/\ba A L/\bD L)=T:=by first|(dsimp only [aa,af,aK,ba,bD,dN,s9,gm,iU,lX,gt,gO,dH];done)|exact rfl):T:=h'▸hS.dT hw
end T17
theorem zE [Gl] {A:AW} {L:List It} {T:Prop} (hS:ah A L) (hw:A.Wf) (h':(aK A L/\ba A L/\bD L)=T:=by first|(dsimp only [aa,af,aK,ba,bD,dN,s9,gm,iU,lX,gt,gO,dH];done)|exact rfl):T:=h'▸hS.dT hw
theorem ff [Gl] {A:AW} {L:List It} {T:Prop} (hS:ah A L) (hw:A.Wf) (h':(aK A L/\ba A L/\bD L)=T:=by first|(dsimp only [aa,af,dH,aK,ba,bD,dN,s9,oz,kR,oR,vU,kV,kN,ig,oA,oe,vF,og];done)|exact rfl):T:=h'▸hS.dT hw
namespace T20
theorem kI [Gl] {A:AW} {L:List It} {T:Prop} (hS:ah A L) (hw:A.Wf) (h':(aK A L/\ba A L/\bD L)=T:=by first|(dsimp only [aa,af,aK,ba,bD,dN,s9,gm,iU,lX,gt,gO,dH,oz,kR,oR,vU,kV,kN,ig,oA,oe,vF,og];done)|exact rfl):T:=h'▸hS.dT hw
end T20
theorem WX [Gl] {A:AW} {L:List It} {T:Prop} (hS:ah A L) (hw:A.Wf) (h':(aK A L/\ba A L/\bD L)=T:=by first|(dsimp only [aa,af,aK,ba,bD,dN,s9,gm,iU,lX,gt,gO,dH,oz,kR,oR,vU,kV,kN,ig,oA,oe,vF,og];done)|exact rfl):T:=h'▸hS.dT hw
namespace T22
theorem kI [Gl] {A:AW} {L:List It} {T:Prop} (hS:ah A L) (hw:A.Wf) (h':(aK A L/\ba A L/\bD L)=T:=by first|(dsimp only [aa,af,aK,ba,bD,dN,wY,oN];done)|exact rfl):T:=h'▸hS.dT hw
end T22
theorem LM [Gl] {A:AW} {L:List It} {T:Prop} (hS:ah A L) (hw:A.Wf) (h':(aK A L/\ba A L/\bD L)=T:=by first|(dsimp only [aa,af,aK,ba,bD,dN,wY,oN];done)|exact rfl):T:=h'▸hS.dT hw
namespace T24
theorem kI [Gl] {A:AW} {L:List It} {T:Prop} (hS:ah A L) (hw:A.Wf) (h':(aK A L/\ba A L/\bD L)=T:=by first|(dsimp only [aa,af,aK,ba,bD,dN,dH,rE];done)|exact rfl):T:=h'▸hS.dT hw
end T24
theorem nA [Gl] {A:AW} {L:List It} {T:Prop} (hS:ah A L) (hw:A.Wf) (h':(aK A L/\ba A L/\bD L)=T:=by first|(dsimp only [aa,af,dH,aK,ba,bD,dN,rE];done)|exact rfl):T:=h'▸hS.dT hw
namespace T26
theorem kI [Gl] {A:AW} {L:List It} {T:Prop} (hS:ah A L) (hw:A.Wf) (h':(aK A L/\ba A L/\bD L)=T:=by first|(dsimp only [aa,af,aK,ba,bD,dN,dH,Pc,gt];done)|exact rfl):T:=h'▸hS.dT hw
end T26
theorem xG [Gl] {A:AW} {L:List It} {T:Prop} (hS:ah A L) (hw:A.Wf) (h':(aK A L/\ba A L/\bD L)=T:=by first|(dsimp only [aa,af,dH,aK,ba,bD,dN,Pc,gt];done)|exact rfl):T:=h'▸hS.dT hw
theorem Pq [Gl] {A:AW} {L:List It} {T:Prop} (hS:ah A L) (hw:A.Wf) (h':(aK A L/\ba A L/\bD L)=T:=by first|(dsimp only [aa,af,dH,Bx,aK,ba,bD,dN,wY,oN];done)|exact rfl):T:=h'▸hS.dT hw
namespace T29
theorem kI [Gl] {A:AW} {L:List It} {T:Prop} (hS:ah A L) (hw:A.Wf) (h':(aK A L/\ba A L/\bD L)=T:=by first|(dsimp only [aa,af,aK,ba,bD,dN,dH,Bx,oN];done)|exact rfl):T:=h'▸hS.dT hw
end T29
theorem rD [Gl] {A:AW} {L:List It} {T:Prop} (hS:ah A L) (hw:A.Wf) (h':(aK A L/\ba A L/\bD L)=T:=by first|(dsimp only [aa,af,dH,Bx,oN,aK,ba,bD,dN];done)|exact rfl):T:=h'▸hS.dT hw
end
section
variable [Gl]
structure ri where
 ee:Nat
 bK:List Int
 eM:List Int
 index:List Int
def tM (l:List Int) (a:Int):Option Nat:=l.findIdx? (·== a)
def kj (n:Nat) (a:Int):Nat:=(a.toNat % n*5) % n
def ix (index:List Int) (k:Nat):Int:=index.getD k (-1)
def AI (index:List Int):Nat->Nat->Nat
 | 0,k=>k
 | f+1,k=>if ix index k<0 then k else AI index f ((k+1) % index.length)
def xS (index:List Int) (k:Nat):Nat:=AI index index.length k
def fj (s:ri) (a v:Int):Bool×ri:=match tM s.bK a with
 | some e=>(true,{ s with eM:=s.eM.set e v })
 | none=>if s.bK.length=s.ee then (false,s) else
   (true,{ s with bK:=s.bK++[a],eM:=s.eM++[v],index:=s.index.set (xS s.index (kj s.index.length a)) s.bK.length })
def jU (s:ri) (a:Int):Int×Bool:=match tM s.bK a with
 | some e=>(s.eM.getD e 0,true)
 | none=>(0,false)
theorem sC {l:List Int} {a:Int} {e:Nat} (h:tM l a=some e):e<l.length/\l.getD e 0=a/\∀j,j<e->l.getD j 0≠a:=by
 unfold tM at h;rw [List.findIdx?_eq_some_iff_getElem] at h;obtain⟨h1,h2,h3⟩:=h;refine⟨h1,?_,λj hj=>?_⟩;rw [List.getD_eq_getElem?_getD,List.getElem?_eq_getElem h1];simpa using h2;have:=h3 j hj;rw [List.getD_eq_getElem?_getD,List.getElem?_eq_getElem (by omega)]
 simpa using this
theorem Ck {l:List Int} {a:Int} (h:tM l a=none):∀j,j<l.length->l.getD j 0≠a:=by
 unfold tM at h;rw [List.findIdx?_eq_none_iff] at h;intro j hj;have:=h l[j] (List.getElem_mem hj);rw [List.getD_eq_getElem?_getD,List.getElem?_eq_getElem hj]
 simpa using this
def tN (index:List Int):Nat:=index.countP (λx=>decide (0<=x))
def st (n k d:Nat):Nat:=(k+d) % n
structure mZ (s:ri):Prop where
 JO:s.eM.length=s.bK.length
 ee:s.bK.length<=s.ee
 OB:s.ee<s.index.length
 WB:∀a∈s.bK,0<=a
 VG:∀k,k<s.index.length->ix s.index k<s.bK.length
 fill:tN s.index=s.bK.length
 way:∀e,e<s.bK.length->∃d,d<s.index.length/\ix s.index (st s.index.length (kj s.index.length (s.bK.getD e 0)) d)=e/\
  ∀d',d'<d->0<=ix s.index (st s.index.length (kj s.index.length (s.bK.getD e 0)) d')/\ix s.index (st s.index.length (kj s.index.length (s.bK.getD e 0)) d')≠e
 Vg:∀i j,i<s.bK.length->j<s.bK.length->s.bK.getD i 0=s.bK.getD j 0->i=j
theorem Ij {index:List Int} (h:∀k,k<index.length->0<=ix index k):tN index=index.length:=by
 unfold tN;rw [List.countP_eq_length];intro x hx;obtain⟨k,hk,rfl⟩:=List.getElem_of_mem hx;have:=h k hk;unfold ix at this;rw [List.getD_eq_getElem?_getD,List.getElem?_eq_getElem hk] at this
 simpa using this
theorem mZ.lh {s:ri} (h:mZ s):∃k,k<s.index.length/\ix s.index k<0:=by
 apply Classical.byContradiction;intro hn;have jW:∀k,k<s.index.length->0<=ix s.index k:=λk hk=>by
  apply Classical.byContradiction;intro h1;exact hn ⟨k,hk,by omega⟩
 have h1:=Ij jW;have h2:=h.fill;have h3:=h.ee;have h4:=h.OB;omega
theorem Fq {n k d:Nat} (hn:0<n):st n ((k+1) % n) d=st n k (d+1):=by
 unfold st;rw [Nat.mod_add_mod];congr 1;omega
theorem As {n k:Nat} (hk:k<n):st n k 0=k:=by
 unfold st;rw [Nat.add_zero,Nat.mod_eq_of_lt hk]
theorem zl {n k d:Nat} (hn:0<n):st n k d<n:=Nat.mod_lt _ hn
theorem Ow {n k j:Nat} (hk:k<n) (hj:j<n):∃d,d<n/\st n k d=j:=by
 by_cases h:k<=j;exact⟨j-k,by omega,by unfold st;rw [show k+(j-k)=j by omega,Nat.mod_eq_of_lt hj]⟩;refine⟨n+j-k,by omega,?_⟩;unfold st;rw [show k+(n+j-k)=j+n by omega,Nat.add_mod_right,Nat.mod_eq_of_lt hj]
theorem mZ.first {s:ri} (h:mZ s) {k:Nat} (hk:k<s.index.length):∃d,d<s.index.length/\ix s.index (st s.index.length k d)<0/\∀d',d'<d->0<=ix s.index (st s.index.length k d'):=by
 obtain⟨j,hj,HY⟩:=h.lh;obtain⟨d0,sR,he⟩:=Ow hk hj;have key:∀n,(∃d,d<=n/\ix s.index (st s.index.length k d)<0)->∃d,d<=n/\ix s.index (st s.index.length k d)<0/\∀d',d'<d->0<=ix s.index (st s.index.length k d'):=by
  intro n
  induction n with
  | zero=>
    rintro ⟨d,hd,h1⟩;exact⟨d,hd,h1,λd' Km=>by omega⟩
  | succ n ih=>
    rintro ⟨d,hd,h1⟩;by_cases pe:∃d,d<=n/\ix s.index (st s.index.length k d)<0;obtain⟨d2,h2,h3⟩:=ih pe;exact⟨d2,by omega,h3⟩;refine⟨d,hd,h1,λd' Km=>?_⟩;apply Classical.byContradiction;intro h4;exact pe ⟨d',by omega,by omega⟩
 obtain⟨d,h1,h2,h3⟩:=key d0 ⟨d0,Nat.le_refl _,by rw [he];exact HY⟩;exact⟨d,by omega,h2,h3⟩
theorem xT (index:List Int):∀(f k d:Nat),k<index.length->d<=f->ix index (st index.length k d)<0->(∀d',d'<d->0<=ix index (st index.length k d'))->AI index f k=st index.length k d
 | 0,k,d,hk,hd,h1,h2=>by
   have:d=0:=by omega
   subst this;rw [As hk];rfl
 | f+1,k,d,hk,hd,h1,h2=>by
   unfold AI;cases d with
   | zero=>
     rw [As hk] at h1 ⊢;rw [ay h1]
   | succ d=>
     have h0:=h2 0 (by omega);rw [As hk] at h0;rw [ap (by omega)];have hn:0<index.length:=(by omega);rw [xT index f ((k+1) % index.length) d (Nat.mod_lt _ hn) (by omega) (by rw [Fq hn];exact h1) (λd' Km=>by rw [Fq hn];exact h2 _ (by omega)),Fq hn]
theorem vk {s:ri} (h:mZ s) {k d:Nat} (hk:k<s.index.length) (hd:d<s.index.length) (h1:ix s.index (st s.index.length k d)<0) (h2:∀d',d'<d->0<=ix s.index (st s.index.length k d')) :
 xS s.index k=st s.index.length k d:=xT _ _ _ _ hk (by omega) h1 h2
theorem Ce {n:Nat} (hn:0<n) (a:Int):kj n a<n:=Nat.mod_lt _ hn
theorem BY {index:List Int} {p:Nat} (hp:p<index.length) (x:Int) (k:Nat):ix (index.set p x) k=if k=p then x else ix index k:=by
 unfold ix;by_cases e:k=p;subst e;rw [ay rfl,List.getD_eq_getElem?_getD,List.getElem?_set_self hp];rfl;rw [ap e,List.getD_eq_getElem?_getD,List.getElem?_set_ne (Ne.symm e),<-List.getD_eq_getElem?_getD]
theorem Cl:∀{index:List Int} {p:Nat} (hp:p<index.length) {x:Int},0<=x->ix index p<0->tN (index.set p x)=tN index+1
 | [],p,hp,_,_,_=>by simp at hp
 | y::l,0,hp,x,hx,h=>by
   have h':y<0:=h;have e1:decide (0<=x)=true:=by simpa using hx
   have e2:decide (0<=y)=false:=(by simp;omega);simp [tN,List.countP_cons,e1,e2]
 | y::l,p+1,hp,x,hx,h=>by
   have:=Cl (index:=l) (p:=p) (by simpa using hp) hx h;simp only [tN,List.set_cons_succ,List.countP_cons] at this ⊢;omega
theorem Ey {s:ri} (h:mZ s) {a:Int} (ha:0<=a) (v:Int):mZ (fj s a v).2:=by
 unfold fj;split;exact⟨by simpa using h.JO,h.ee,h.OB,h.WB,h.VG,h.fill,h.way,h.Vg⟩;rename_i Pu;split;exact h;rename_i F3;have hn:0<s.index.length:=by have:=h.OB;omega
 have hk:=Ce hn a;obtain⟨d,hd,h1,h2⟩:=h.first hk;have hp:=vk h hk hd h1 h2;have s4:st s.index.length (kj s.index.length a) d<s.index.length:=zl hn;have hcapl:=h.ee;have yn:∀e,e<s.bK.length->(s.bK++[a]).getD e 0=s.bK.getD e 0:=λe he=>by
  rw [List.getD_eq_getElem?_getD,List.getElem?_append_left he,<-List.getD_eq_getElem?_getD]
 have hgn:(s.bK++[a]).getD s.bK.length 0=a:=by
  rw [List.getD_eq_getElem?_getD,List.getElem?_append_right (Nat.le_refl _)];simp
 refine⟨by simp [h.JO],by simp;omega,by simpa using h.OB,?_,?_,?_,?_,?_⟩;intro x hx;rw [List.mem_append] at hx;rcases hx with hx|hx;exact h.WB x hx;simp at hx;subst hx;exact ha;intro k jC;simp only [List.length_set] at jC;simp only [hp,BY s4,List.length_append,List.length_cons,List.length_nil];split;omega;have:=h.VG k jC;omega;simp only [hp,List.length_append,List.length_cons,List.length_nil];rw [Cl s4 (by omega) h1,h.fill];intro e he;simp only [List.length_append,List.length_cons,List.length_nil] at he;simp only [hp,List.length_set];by_cases S2:e=s.bK.length;subst S2;rw [hgn];refine⟨d,hd,by rw [BY s4,ay rfl],λd' Km=>?_⟩;have UM:=h2 d' Km;have gl:st s.index.length (kj s.index.length a) d'≠st s.index.length (kj s.index.length a) d:=λe=>by rw [e] at UM;omega
 rw [BY s4,ap gl];refine⟨UM,?_⟩;have:=h.VG _ (zl (k:=kj s.index.length a) (d:=d') hn);omega;have N1:e<s.bK.length:=by omega
 rw [yn e N1];obtain⟨d2,g1,g2,g3⟩:=h.way e N1;refine⟨d2,g1,?_,λd' Km=>?_⟩;rw [BY s4,ap (λe2=>by rw [e2] at g2;omega)];exact g2;obtain⟨g4,g5⟩:=g3 d' Km;rw [BY s4,ap (λe2=>by rw [e2] at g4;omega)];exact⟨g4,g5⟩;intro i j hi hj he;simp only [List.length_append,List.length_cons,List.length_nil] at hi hj;have gl:=Ck Pu;by_cases yl:i<s.bK.length;by_cases uB:j<s.bK.length;rw [yn i yl,yn j uB] at he;exact h.Vg i j yl uB he;have:j=s.bK.length:=by omega
 subst this;rw [yn i yl,hgn] at he;exact absurd he (gl i yl);have:i=s.bK.length:=by omega
 subst this;by_cases uB:j<s.bK.length;rw [yn j uB,hgn] at he;exact absurd he.symm (gl j uB);omega
theorem mZ.WA {s:ri} (h:mZ s) (a:Int):∃d,d<s.index.length/\
 (∀d',d'<d->0<=ix s.index (st s.index.length (kj s.index.length a) d')/\s.bK.getD (ix s.index (st s.index.length (kj s.index.length a) d')).toNat 0≠a)/\
 ((∃e,tM s.bK a=some e/\ix s.index (st s.index.length (kj s.index.length a) d)=e) \/
   (tM s.bK a=none/\ix s.index (st s.index.length (kj s.index.length a) d)<0/\xS s.index (kj s.index.length a)=st s.index.length (kj s.index.length a) d)):=by
 have hn:0<s.index.length:=by have:=h.OB;omega
 have hk:=Ce hn a;cases hf:tM s.bK a with
 | some e=>
   obtain⟨f1,f2,f3⟩:=sC hf;obtain⟨d,g1,g2,g3⟩:=h.way e f1;rw [f2] at g2 g3;refine⟨d,g1,λd' Km=>?_,.inl ⟨e,rfl,g2⟩⟩;obtain⟨g4,g5⟩:=g3 d' Km;refine⟨g4,λe2=>?_⟩;have hr:=h.VG _ (zl (k:=kj s.index.length a) (d:=d') hn);have:=h.Vg (ix s.index (st s.index.length (kj s.index.length a) d')).toNat e (by omega) f1 (by rw [e2,f2]);omega
 | none=>
   have gl:=Ck hf;obtain⟨d,g1,g2,g3⟩:=h.first hk;refine⟨d,g1,λd' Km=>⟨g3 d' Km,?_⟩,.inr ⟨rfl,g2,vk h hk g1 g2 g3⟩⟩;have hr:=h.VG _ (zl (k:=kj s.index.length a) (d:=d') hn);have:=g3 d' Km;exact gl _ (by omega)
end
section
namespace TClone
theorem kI [Gl] {A:AW} {L:List It} {T:Prop} (hS:ah A L) (hw:A.Wf) (h':(aK A L/\ba A L/\bD L)=T:=by first|(dsimp only [aa,af,aK,ba,bD,dN];done)|exact rfl):T:=h'▸hS.dT hw
end TClone
open TClone
variable [Gl]
theorem dz.zz {A:AW} {k:IntKind} {l:List Int} {n c:Nat} (h:dz A k (.slice none n c) l):l=[]:=by
 rcases h with ⟨_,h,_⟩|⟨p,c,cD,own,u,h,_⟩;exact List.eq_nil_of_length_eq_zero h;cases h
theorem j0 (v:Value) (l:List Int) (A:AW) (h:dz A .i64 v l) (hl:l.length<2^39) :
 az Tryz.prog 90 [v] A (λv' A'=>eA A.next A' .i64 v' l/\A.le A'):=by
 refine aH Tryz.func90 λhw=>?_;obtain⟨o,c,rfl,_⟩:=h.dO;cases o with
 | none=>
   have:=h.zz;subst this;refine W cy cy ?_<;>intros
   simpa using ⟨eA.nil _ _ _,AW.le.refl A⟩
 | some p=>
   have l0:=AW.le.alloc A (.cells [] true 1);have w0:=hw.alloc (.cells [] true 1);have h1:=h.le l0 hw
   have pd:eA A.next (A.alloc (.cells [] true 1)) .i64 (.slice (some ⟨A.next,0,none⟩) 0 0) []:=
    .inr ⟨⟨A.next,0,none⟩,0,[],rfl,Nat.le_refl _,rfl,Nat.le_refl _,AW.dw _ _,by simp,by simp⟩
   obtain⟨v',A',h2,h3,h4,h5,h6⟩:=zP (P:=Tryz.prog) (t:=23) Tryz.underlying23 Tryz.info3 Tryz.zero3 rfl rfl pd h1 (by simp;omega) (by simp) (by simp) w0;refine W cy (J1 h2) ?_<;>intros;simp;exact⟨by simpa using h3,h4 A (Nat.le_refl _) l0⟩
theorem mV (v:Value) (l:List Int) (A:AW) (h:dz A .u64 v l) (hl:l.length<2^39) :
 az Tryz.prog 55 [v] A (λv' A'=>eA A.next A' .u64 v' l/\A.le A'):=by
 refine aH Tryz.func55 λhw=>?_;obtain⟨o,c,rfl,_⟩:=h.dO;cases o with
 | none=>
   have:=h.zz;subst this;refine W cy cy ?_<;>intros
   simpa using ⟨eA.nil _ _ _,AW.le.refl A⟩
 | some p=>
   have l0:=AW.le.alloc A (.cells [] true 1);have w0:=hw.alloc (.cells [] true 1);have h1:=h.le l0 hw
   have pd:eA A.next (A.alloc (.cells [] true 1)) .u64 (.slice (some ⟨A.next,0,none⟩) 0 0) []:=
    .inr ⟨⟨A.next,0,none⟩,0,[],rfl,Nat.le_refl _,rfl,Nat.le_refl _,AW.dw _ _,by simp,by simp⟩
   obtain⟨v',A',h2,h3,h4,h5,h6⟩:=zP (P:=Tryz.prog) (t:=59) Tryz.underlying59 Tryz.info45 Tryz.zero45 rfl rfl pd h1 (by simp;omega) (by simp) (by simp) w0;refine W cy (J1 h2) ?_<;>intros;simp;exact⟨by simpa using h3,h4 A (Nat.le_refl _) l0⟩
end
section
variable [Gl]
def pj (l:List Int):List Int:=l.mergeSort λx y=>decide (x<=y)
theorem Mw (B:Nat) (v:Value) (l:List Int) (A:AW) (hw:A.Wf) (h:eA B A .i64 v l) (hl:l.length<2^40) :
 az Tryz.prog 253 [v] A (λu A'=>eA B A' .i64 v (pj l)/\∀A0:AW,A0.next<=B->A0.le A->A0.le A'):=by
 have de:i7 Tryz.prog 253=true:=by kernel_rfl
 rcases h.dO with ⟨o,c,rfl,rfl,_⟩|⟨p,c,cD,rfl,h0,hc,hs,hB,hg,oH,hcs⟩;refine(az.lh de (rv:=.tuple #[]) (ret:=λ_ _=>.tuple #[]) (λm _ _ _=>bu.undef m) (λo' c' w=>Tryz.slices_Sort_int_none o' c' w)).mono ?_;rintro u A' ⟨rfl,rfl⟩;exact⟨by simpa [pj] using h,λA0 _ hl=>hl⟩;have b6:(pj l).length=l.length:=by simp [pj]
 refine(Ln de (k:=.i64) (d:=pj l) (rv:=.tuple #[]) (ret:=λ_ _=>.tuple #[]) rfl h0 hc hg oH hcs b6 (λm _ _ _ _=>bu.undef m)
  (λiy off ee w hH hb _=>Tryz.slices_Sort_int iy off ee l w hH hb (by omega))).mono ?_
 rintro u A' ⟨rfl,rfl⟩;refine⟨?_,λA0 hA0 fo=>fo.set (by omega) _⟩;have:=BF (B:=B) (k:=.i64) (pj l) [] hw hB hs hg (c:=c) (by simpa [b6] using oH) (by omega) b6.symm
 simpa using this
theorem tU (l:List Int):(Lib.compact l).length<=l.length:=by
 simp only [Lib.compact,Lib.compactUpTo,List.length_map];exact Nat.le_trans (List.length_filter_le _ _) (by simp)
theorem Gd (B:Nat) (v:Value) (l:List Int) (A:AW) (hw:A.Wf) (h:eA B A .i64 v l) (hl:l.length<2^40) :
 az Tryz.prog 254 [v] A (λu A'=>eA B A' .i64 u (Lib.compact l)/\∀A0:AW,A0.next<=B->A0.le A->A0.le A'):=by
 have de:i7 Tryz.prog 254=true:=by kernel_rfl
 rcases h.dO with ⟨o,c,rfl,rfl,_⟩|⟨p,c,cD,rfl,h0,hc,hs,hB,hg,oH,hcs⟩;refine(az.lh de (rv:=.slice o 0 c) (ret:=λo' c'=>.slice o' 0 c') (λm _ _ h=>h) (λo' c' w=>Tryz.slices_Compact_int_empty o' c' w)).mono ?_;rintro u A' ⟨rfl,rfl⟩;exact⟨h,λA0 _ hl=>hl⟩;have b6:=tU l
 refine(Ln de (k:=.i64) (d:=Lib.compact l++List.replicate (l.length-(Lib.compact l).length) 0) (rv:=.slice (some p) (Lib.compact l).length c) (ret:=λa' gY=>.slice (some a') (Lib.compact l).length gY)
  rfl h0 hc hg oH hcs (by simp;omega) (λm a' gY wO S7=>.slice (.inl wO) (by omega) S7)
  (λiy off ee w hH hb F3=>(Tryz.slices_Compact_int iy off ee l w hH (by omega) F3).mono λe w' ⟨h1,q,h2⟩=>⟨h1,q,#[],by rw [h2];exact(Go.Sort.grow_empty _).symm⟩)).mono ?_
 rintro u A' ⟨rfl,rfl⟩;refine⟨?_,λA0 hA0 fo=>fo.set (by omega) _⟩;exact BF (B:=B) (k:=.i64) (Lib.compact l) _ hw hB hs hg (c:=c) (by simp;omega) (by omega) rfl
end
section
namespace TLockA
theorem kI [Gl] {A:AW} {L:List It} {T:Prop} (hS:ah A L) (hw:A.Wf) (h':(aK A L/\ba A L/\bD L)=T:=by first|(dsimp only [aa,af,aK,ba,bD,dN];done)|exact rfl):T:=h'▸hS.dT hw
end TLockA
open TLockA
variable [Gl]
def eb (l:List Int):List Int:=Lib.compact (pj l)
theorem zo (v:Value) (l:List Int) (A:AW) (h:dz A .i64 v l) (hl:l.length<2^39) :
 az Tryz.prog 215 [v] A (λu A'=>eA A.next A' .i64 u (eb l)/\A.le A'):=by
 refine aH Tryz.func215 λhw=>?_;revert hw;refine W cy cy ?_<;>(unhygienic intros);refine bV (j0 v l A h hl) ?_;rintro v1 A1 ⟨h1,l1⟩ w1 _;revert hw;(repeat first|clear hw|revert hc|revert R|revert K);refine W cy cy ?_<;>(unhygienic intros);refine bV (Mw A.next v1 l A1 w1 h1 (by omega)) ?_;rintro _ A2 ⟨h2,l2⟩ w2 _;revert hw;(repeat first|clear hw|revert hc|revert R|revert K);refine W cy cy ?_<;>(unhygienic intros);refine bV (Gd A.next v1 (pj l) A2 w2 h2 (by simp [pj];omega)) ?_;rintro v3 A3 ⟨h3,l3⟩ w3 _;refine W cy cy ?_<;>intros;simp;exact⟨h3,l3 A (Nat.le_refl _) (l2 A (Nat.le_refl _) l1)⟩
end
section
namespace TLockB
theorem kI [Gl] {A:AW} {L:List It} {T:Prop} (hS:ah A L) (hw:A.Wf) (h':(aK A L/\ba A L/\bD L)=T:=by first|(dsimp only [aa,af,aK,ba,bD,dN];done)|exact rfl):T:=h'▸hS.dT hw
end TLockB
open TLockB
variable [Gl]
def B1 (rO:List Int) (x:Int):List Int:=
 match rO with
 | []=>[x]
 | y::r=>if y<x then y::B1 r x else if y=x then y::r else x::y::r
def sc (l:List Int):List Int:=l.foldl B1 []
end
section
variable [Gl]
theorem KA:∀(a b:List Int),a.Pairwise (·< ·)->b.Pairwise (·< ·)->(∀x,x∈a↔x∈b)->a=b
 | [],[],_,_,_=>rfl
 | [],y::b,_,_,h=>by have:=(h y).2 (by simp);simp at this
 | x::a,[],_,_,h=>by have:=(h x).1 (by simp);simp at this
 | x::a,y::b,ha,hb,h=>by
   rw [List.pairwise_cons] at ha hb;have hxy:x=y:=by
    have h1:=(h x).1 (by simp);have h2:=(h y).2 (by simp);rw [List.mem_cons] at h1 h2;rcases h1 with h1|h1;exact h1;rcases h2 with h2|h2;exact h2.symm;have:=hb.1 x h1;have:=ha.1 y h2;omega
   subst hxy;congr 1;refine KA a b ha.2 hb.2 λz=>⟨λhz=>?_,λhz=>?_⟩;have:=ha.1 z hz;have h1:=(h z).1 (by simp [hz]);rw [List.mem_cons] at h1;rcases h1 with h1|h1;omega;exact h1;have:=hb.1 z hz;have h1:=(h z).2 (by simp [hz]);rw [List.mem_cons] at h1;rcases h1 with h1|h1;omega;exact h1
theorem HS (rO:List Int) (x z:Int):z∈B1 rO x↔z=x\/z∈rO:=by
 induction rO with
 | nil=>simp [B1]
 | cons y r ih=>
   simp only [B1];split;simp only [List.mem_cons,ih];constructor;rintro (h|h|h);exact .inr (.inl h);exact .inl h;exact .inr (.inr h);rintro (h|h|h);exact .inr (.inl h);exact .inl h;exact .inr (.inr h);split;rename_i h1 h2;subst h2;simp;simp
theorem Rt (rO:List Int) (x:Int) (h:rO.Pairwise (·< ·)):(B1 rO x).Pairwise (·< ·):=by
 induction rO with
 | nil=>simp [B1]
 | cons y r ih=>
   have h0:=List.pairwise_cons.1 h;simp only [B1];split;rename_i h1;refine List.pairwise_cons.2 ⟨λz hz=>?_,ih h0.2⟩;rcases (HS r x z).1 hz with e|e;omega;exact h0.1 z e;split;exact h;rename_i h1 h2;refine List.pairwise_cons.2 ⟨λz hz=>?_,h⟩;rw [List.mem_cons] at hz;rcases hz with e|e;omega;have:=h0.1 z e;omega
theorem sP (l:List Int):(sc l).Pairwise (·< ·)/\∀z,z∈sc l↔z∈l:=by
 have:∀(l rO:List Int),rO.Pairwise (·< ·)->(l.foldl B1 rO).Pairwise (·< ·)/\∀z,z∈l.foldl B1 rO↔z∈rO\/z∈l:=by
  intro l
  induction l with
  | nil=>intro rO h;exact⟨h,by simp⟩
  | cons x r ih=>
    intro rO h;obtain⟨h1,h2⟩:=ih (B1 rO x) (Rt rO x h);refine⟨h1,λz=>?_⟩;rw [List.foldl_cons,h2,HS,List.mem_cons];constructor;rintro ((h|h)|h);exact .inr (.inl h);exact .inl h;exact .inr (.inr h);rintro (h|h|h);exact .inl (.inr h);exact .inl (.inl h);exact .inr h
 have h:=this l [] List.Pairwise.nil;exact⟨h.1,λz=>by rw [sc,h.2];simp⟩
theorem Gc (l:List Int) (h:l.Pairwise (·<=·)):(Lib.compact l).Pairwise (·< ·)/\∀z,z∈Lib.compact l↔z∈l:=by
 have fo:∀i j,i<=j->j<l.length->l.toArray[i]!<=l.toArray[j]!:=by
  intro i j hij hj;rw [getElem!_pos l.toArray i (by simp;omega),getElem!_pos l.toArray j (by simpa using hj)];simp only [List.getElem_toArray];by_cases e:i=j;subst e;exact Int.le_refl _;exact List.pairwise_iff_getElem.1 h i j (by omega) hj (by omega)
 constructor;rw [Lib.compact,Lib.compactUpTo,List.pairwise_map];have hr:((List.range l.length).filter (Lib.keeps l.toArray)).Pairwise (·< ·):=List.Pairwise.filter _ List.pairwise_lt_range;refine List.Pairwise.imp_of_mem ?_ hr;intro i j hi hj hij;rw [List.mem_filter,List.mem_range] at hi hj;have hk:=hj.2;simp only [Lib.keeps,decide_eq_true_eq] at hk;rcases hk with hk|hk;omega;have h1:=fo i (j-1) (by omega) (by omega);have h2:=fo (j-1) j (by omega) hj.1;omega;intro z;rw [Lib.compact,Lib.compactUpTo,List.mem_map];constructor;rintro ⟨i,hi,rfl⟩;rw [List.mem_filter,List.mem_range] at hi;rw [getElem!_pos l.toArray i (by simpa using hi.1)];simp;intro hz;obtain⟨i,hi,rfl⟩:=List.getElem_of_mem hz;have key:∀n i (hi:i<l.length),i<=n->∃a,a∈(List.range l.length).filter (Lib.keeps l.toArray)/\l.toArray[a]! = l[i]:=by
  intro n
  induction n with
  | zero=>
    intro i hi rQ;have:i=0:=by omega
    subst this;exact⟨0,by simp [List.mem_filter,Lib.keeps,hi],by rw [getElem!_pos l.toArray 0 (by simpa using hi)];simp⟩
  | succ n ih=>
    intro i hi rQ;by_cases hk:Lib.keeps l.toArray i=true;exact⟨i,by simp [List.mem_filter,hk,hi],by rw [getElem!_pos l.toArray i (by simpa using hi)];simp⟩;simp only [Lib.keeps,decide_eq_true_eq,not_or,Decidable.not_not] at hk;obtain⟨a,ha,hb⟩:=ih (i-1) (by omega) (by omega);refine⟨a,ha,?_⟩;rw [hb];have h3:=hk.2;rw [getElem!_pos l.toArray i (by simpa using hi),getElem!_pos l.toArray (i-1) (by simp;omega)] at h3
    simpa using h3.symm
 exact key i i hi (Nat.le_refl _)
theorem Ji (l:List Int):eb l=sc l:=by
 have hs:(pj l).Pairwise (·<=·):=by
  have:=List.pairwise_mergeSort (le:=λx y:Int=>decide (x<=y)) (by simp;omega) (by simp;omega) l;exact this.imp (by simp)
 obtain⟨h1,h2⟩:=Gc (pj l) hs;obtain⟨h3,h4⟩:=sP l;refine KA _ _ h1 h3 λz=>?_;rw [eb,h2,h4,pj,List.mem_mergeSort]
end
end Go.Stx
