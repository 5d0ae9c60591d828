import Derived.Test.YtnnbecihffpedaaGreatDoorF2
import Derived.Test.YtnnbecihffpedaaGreatDoorF3
import Derived.Test.YtnnbecihffpedaaGreatDoorF7
set_option linter.all false
set_option maxRecDepth 20000
set_option maxHeartbeats 4000000
open List renaming length->U
open Classical renaming byContradiction->kbP
open Go.IntKind renaming u64->Zc
open Go.Lib renaming compact->kai,compactUpTo->kcl,keeps->kbx
open Go.Proofs.Tryz renaming prog->qZ
open Go.Stx.AW.le renaming alloc->q8
open List renaming getD_eq_getElem?_getD->Ze,getElem?_eq_getElem->Zf,getElem?_set_self->ZN,getElem_of_mem->kaZ,length_append->Zh,length_cons->ZI,length_nil->kay,length_set->ZZ,mem_cons->Zz,mem_filter->kax,mem_range->Zr,pairwise_cons->kba
open Nat renaming le_refl->Za,mod_eq_of_lt->kbU
open Bool renaming false->qn,true->qj
open Go renaming FuncId->qN,Program->qp,Value->qi
open Go.IntKind renaming i64->qg,u64->qr
open Go.Stx.dt renaming cells->qm
open Go.Value renaming bool->qt,int->qh,tuple->qF
open Option renaming none->qk,some->qf
open Or renaming inl->qw,inr->qB
namespace Go.Stx
open Go Go.Proofs
attribute [local irreducible] TW bK df aW aE aL cY dm
section
namespace TKit
def oK [Gl]{A:AW}{L:List It}{T:Prop}(hS:aj A L)(hw:A.Wf)(h':(ba A L/\bB A L/\cd L)=T:=by first|(dsimp only[aa,ah,ba,bB,cd,fw];done)|exact rfl):T:=h'▸hS.fm hw
end TKit
open TKit
variable [Gl]
def nz (a n:Int):Int:=Zc.wrap a % n
def kV (a:Int):0<=Zc.wrap a/\Zc.wrap a<18446744073709551616:=by exact X1
def iM (a n:Int)(hn:0<n):0<=nz a n/\nz a n<n:=⟨Int.emod_nonneg _ Ya,Int.emod_lt_of_pos _ hn⟩
def kE (a n:Int)(A:AW)(hn:0<n)(BO:n<=9223372036854775807):
 aE qZ 8 [qh qg a,qh qg n] A (λv A'=>v=qh qg (nz a n)/\A=A'):=by
 refine aO Tryz.func8 λhw=>?_;have jt:Zc.wrap n=n:=ax Ya Ya;have fL:n≠0:=Ya
 obtain⟨h1,h2⟩:=kV a;obtain⟨h3,h4⟩:=iM a n hn;have hr:(Zc.wrap a).tmod n=nz a n:=Int.tmod_eq_emod_of_nonneg h1;have jG:IntKind.i64.wrap (nz a n)=nz a n:=an Ya Ya;refine W db (J4 jt fL hr jG) ?_<;>intros;simp
end
section
namespace TCells
def oK [Gl]{A:AW}{L:List It}{T:Prop}(hS:aj A L)(hw:A.Wf)(h':(ba A L/\bB A L/\cd L)=T:=by first|(dsimp only[aa,ah,ba,bB,cd,fw];done)|exact rfl):T:=h'▸hS.fm hw
end TCells
open TCells
variable [Gl]
def Bk (vs:Nat->qi)(a:Int):Option qi:=if 1<=a/\a<=8 then qf (vs (a-1).toNat) else qk
def fp (pb:Nat)(M:Nat->List Int):HP:=
 ut λr:Nat=>ut λvs:Nat->qi=>pt pb (qm [.map (qf r)] qj 1)*(gh qg r (Bk vs)*fI (λk=>ay qr (vs k) (M k)) 8)
def fp.open {A:AW}{pb:Nat}{M:Nat->List Int}{F:HP}(h:bD A (fp pb M*F)):
 ∃r vs,bD A (pt pb (qm [.map (qf r)] qj 1)*(gh qg r (Bk vs)*(fI (λk=>ay qr (vs k) (M k)) 8*F))):=by unfold fp at h;rw[bD.ex]at h;obtain⟨r,h⟩:=h;rw[bD.ex]at h;obtain⟨vs,h⟩:=h;rw[HP.dq,HP.dq]at h;exact⟨r,vs,h⟩
def fp.eB {A:AW}{pb:Nat}{M:Nat->List Int}{F:HP}{r:Nat}{vs:Nat->qi}(h:bD A (pt pb (qm [.map (qf r)] qj 1)*(gh qg r (Bk vs)*(fI (λk=>ay qr (vs k) (M k)) 8*F)))):
 bD A (fp pb M*F):=by unfold fp;rw[bD.ex];refine⟨r,?_⟩;rw[bD.ex];refine⟨vs,?_⟩;rw[HP.dq,HP.dq];exact h
structure bj where
 fB:Int
 cell:Int
 cZ:Int
 eV:Int
 put:Int
 done:Bool
deriving DecidableEq
def bj.v (a:bj):qi:=.agg #[qh qg a.fB,qh qg a.cell,qh qg a.cZ,qh qr a.eV,qh qr a.put,qt a.done]
def bj.cells (a:bj):List qi:=[qh qg a.fB,qh qg a.cell,qh qg a.cZ,qh qr a.eV,qh qr a.put,qt a.done]
def bj.zero:bj:=⟨0,0,0,0,0,qn⟩
def j4 (M:Nat->List Int)(cell:Int):List Int:=if 1<=cell/\cell<=8 then M (cell-1).toNat else []
def setRow (M:Nat->List Int)(cell cZ v:Int):Nat->List Int:=λk=>if k=(cell-1).toNat then (M k).set cZ.toNat v else M k
def eU (M:Nat->List Int)(cell cZ:Int):Bool:=decide (0<=cZ/\cZ<U (j4 M cell))
def fk (M:Nat->List Int)(fB cell cZ:Int)(g:Int->Int×Bool):bj:=
 if eU M cell cZ=qj then
  let eV:=(j4 M cell).getD cZ.toNat 0
  ⟨fB,cell,cZ,eV,if (g eV).2=qj then (g eV).1 else eV,(g eV).2⟩
 else bj.zero
def s7 (M:Nat->List Int)(cell cZ:Int):Int:=if eU M cell cZ=qj then 0 else 60
def opV (M:Nat->List Int)(fB cell cZ:Int)(g:Int->Int×Bool):qi:=qF #[(fk M fB cell cZ g).v,qh qg (s7 M cell cZ)]
def mw (M:Nat->List Int)(cell cZ:Int)(g:Int->Int×Bool):Nat->List Int:=
 if eU M cell cZ=qj/\(g ((j4 M cell).getD cZ.toNat 0)).2=qj then setRow M cell cZ (g ((j4 M cell).getD cZ.toNat 0)).1 else M
def bx:List qi:=[qh qg 0,qh qg 0,qh qg 0,qh qr 0,qh qr 0,qt qn]
def tm (pb:Nat)(M:Nat->List Int)(fB cell cZ:Int)(fc:qN)(fs cs:Array qi)(C:HP)(g:Int->Int×Bool)(jv:∀eD,tc qZ fc (fs.toList++qh qr eD::cs.toList) C (λv=>GL (v=qF #[qh qr (g eD).1,qt (g eD).2])*C)):
 tc qZ 168 [.pointer (qf ⟨pb,0,qk⟩),qh qg fB,qh qg cell,qh qg cZ,.func (.func fc) fs cs] (fp pb M*C)
  (λv=>GL (v=opV M fB cell cZ g)*(fp pb (mw M cell cZ g)*C)):=by
 intro A F OG hS;refine aO Tryz.func168 λhw=>?_;rw[HP.dq]at hS;obtain⟨r,vs,hS⟩:=fp.open hS;have Kd:=hS.bk;have jK:bD A (gh qg r (Bk vs)*(pt pb (qm [.map (qf r)] qj 1)*(fI (λk=>ay qr (vs k) (M k)) 8*(C*F)))):=hS.dJ Ye;obtain⟨gI,Bq,vC,wW,yG,hback⟩:=gh.fm jK;obtain⟨np,np'⟩:=hw.eD Kd;obtain⟨nr,nr'⟩:=hw.eD Bq;by_cases hcell:1<=cell/\cell<=8
 . obtain⟨k,hk⟩:∃k,k=(cell-1).toNat:=⟨_,rfl⟩;have bP:j4 M cell=M k:=(by rw[hk];exact az hcell);have yF:=vC qg cell (vs k) (by simp[Bk,hcell,hk]);obtain⟨q,yF⟩:=yF;have hk8:k<8:=Ya
   have zM:bD A (ay qr (vs k) (M k)*(fI (oV (λk=>ay qr (vs k) (M k)) k eY) 8*(pt pb (qm [.map (qf r)] qj 1)*(gh qg r (Bk vs)*(C*F))))):=
    bD.pick (f:=λk=>ay qr (vs k) (M k)) (F:=pt pb (qm [.map (qf r)] qj 1)*(gh qg r (Bk vs)*(C*F))) (hS.dJ Ye) hk8
   by_cases xj:0<=cZ/\cZ<U (M k)
   . have hyes:eU M cell cZ=qj:=by simpa[eU,bP]using xj
     obtain⟨j,hj⟩:∃j,j=cZ.toNat:=⟨_,rfl⟩;have wv:j<U (M k):=Ya;have Qk:cZ=(j:Int):=Ya;subst Qk;have hjl':(j:Int)<U (M k):=Ya;obtain⟨b,off,c,bO,hv,hc0,xk,hcb,ur,_⟩:=ay.at zM wv;rw[hv]at yF;have S9:(j4 M cell).getD (j:Int).toNat 0=(M k)[j]:=(by rw[bP,<-hj,Ze,Zf wv];rfl);obtain⟨nb,nb'⟩:=hw.eD xk;revert hS hw;clear hS;refine W db (y9 Kd Bq xk hcb yF np np' nr nr' nb nb' hjl' wv bL) ?_<;>(unhygienic intros)
     have jH:bD (A.alloc (qm bx qj 1)) (C*(pt A.next (qm bx qj 1)*(ay qr (vs k) (M k)*(fI (oV (λk=>ay qr (vs k) (M k)) k eY) 8*(pt pb (qm [.map (qf r)] qj 1)*(gh qg r (Bk vs)*F)))))):=
      (zM.alloc hw _).dJ Ye
     refine(jv _).use (hw.alloc _) jH rfl ?_;intro v A2 C4 jG _;obtain⟨rfl,Bt⟩:=C4.tS;clear C4;have yG:bD A2 (ay qr (vs k) (M k)*(pt A.next (qm bx qj 1)*(C*(fI (oV (λk=>ay qr (vs k) (M k)) k eY) 8*(pt pb (qm [.map (qf r)] qj 1)*(gh qg r (Bk vs)*F)))))):=Bt.dJ Ye;have hgx:=(show bD A2 (pt A.next (qm bx qj 1)*(ay qr (vs k) (M k)*(C*(fI (oV (λk=>ay qr (vs k) (M k)) k eY) 8*(pt pb (qm [.map (qf r)] qj 1)*(gh qg r (Bk vs)*F)))))) from Bt.dJ Ye).bk;clear xk hcb ur;obtain⟨b',off',c',row',hv',_,xk,hcb,ur,jM⟩:=ay.at yG wv;rw[hv]at hv';injection hv' with e1 e2 e3;injection e1 with e1;injection e1 with e1 e4;subst e1;subst e4;subst e3;have fL:(b=A.next)=False:=nb;have hne':(A.next=b)=False:=eq_false λe=>by rw[e]at fL;simp at fL
     have bZ:∀(A3:AW)(L:List Int)(x:dt),bD A3 (ay qr (vs k) L*(pt A.next (qm bx qj 1)*(C*(fI (oV (λk=>ay qr (vs k) (M k)) k eY) 8*(pt pb (qm [.map (qf r)] qj 1)*(gh qg r (Bk vs)*F))))))->
      bD (A3.set A.next (qf x)) (fp pb (λq=>if q=k then L else M q)*(C*F)):=by
      intro A3 L x h;have h1:bD A3 (pt A.next (qm bx qj 1)*(ay qr (vs k) L*(fI (oV (λk=>ay qr (vs k) (M k)) k eY) 8*(pt pb (qm [.map (qf r)] qj 1)*(gh qg r (Bk vs)*(C*F)))))):=h.dJ Ye;have h2:=bD.put (f:=λk=>ay qr (vs k) (M k)) (h1.set x).right hk8;have e:oV (λk=>ay qr (vs k) (M k)) k (ay qr (vs k) L)=λq=>ay qr (vs q) (if q=k then L else M q):=by funext q;simp only[oV];split;rename_i e;rw[e];rfl
      rw[e]at h2;exact fp.eB (r:=r) (vs:=vs) (h2.dJ Ye)
     have hbnd:off+j+1<=U row':=Ya;have lV:opV M fB cell (j:Int) g=qF #[(bj.mk fB cell j (M k)[j] (if (g (M k)[j]).2=qj then (g (M k)[j]).1 else (M k)[j]) (g (M k)[j]).2).v,qh qg 0]:=by unfold opV fk s7;rw[az hyes,az hyes,S9]
     cases Qm:(g (M k)[j]).2
     . repeat' (first|(refine lz λR hR=>?_;simp[hgx,xk,hcb,AW.ab,aI,hjl',bx];try simp(disch:=omega)only[az,ar,an,ax])|(refine hR _ _ ?_;clear hR R)|(refine hK _ _ ?_;clear hK K)|refine nx ?_|refine wn λK hK=>?_|simp only[wS]|(show df _ _ _ _ _ _;refine nx ?_)|(refine wc rfl (λhc=>?_) (λhc=>?_)<;>(try simp at hc)))
       refine⟨_,by simp[AW.ab];rfl,bD.post (by simp[lV,bj.v,Qm]) ?_⟩;have hM:mw M cell (j:Int) g=λq=>if q=k then M k else M q:=by funext q;simp only[mw,S9,Qm];simp only[Bool.false_eq_true,and_false,if_false];split;rename_i e;rw[e];rfl
       rw[hM,HP.dq];exact bZ A2 (M k) _ yG
     have hcb':(row'.set (off+j) (Value.int qr (g (M k)[j]).1))[off+j]?=qf (Value.int qr (g (M k)[j]).1):=ZN Ya;refine W db (Ay hgx xk hcb hcb' fL hne' hbnd hjl' wv Qm bL @bx.eq_1) ?_<;>intros;refine⟨_,by simp[AW.ab];rfl,bD.post (by simp[lV,bj.v,Qm]) ?_⟩;have hM:mw M cell (j:Int) g=λq=>if q=k then (M k).set j (g (M k)[j]).1 else M q:=by have e0:mw M cell (j:Int) g=setRow M cell j (g (M k)[j]).1:=(by unfold mw;rw[S9,az ⟨hyes,Qm⟩]);rw[e0];funext q;simp only[setRow,<-hk,<-hj];by_cases e:q=k;rw[az e,az e,e];rw[ar e,ar e]
     rw[hM,HP.dq];exact bZ _ _ _ (jM _)
   obtain⟨o,c,hv,_⟩:=(ay.is zM).cL;rw[hv]at yF;have Bp:eU M cell cZ=qn:=by simpa[eU,bP]using xj
   repeat' (first|(refine lz λR hR=>?_;simp[Kd,Bq,yF,np,nr,AW.ab,aI];try simp(disch:=omega)only[az,ar])|(refine hR _ _ ?_;clear hR R)|(refine hK _ _ ?_;clear hK K)|refine nx ?_|refine wn λK hK=>?_|simp only[wS]|(show df _ _ _ _ _ _;refine nx ?_)|(refine wc rfl (λhc=>?_) (λhc=>?_)<;>(try simp at hc)<;>(try omega))|(refine ib (λhc=>?_) (λhc=>?_)))
   all_goals
    refine⟨_,by simp[AW.ab];rfl,bD.post (by simp[opV,fk,s7,Bp,bj.v,bj.zero]) ?_⟩;have hM:mw M cell cZ g=M:=(by simp[mw,Bp]);rw[hM,HP.dq];exact(fp.eB hS).le hw (((q8 A _).set (Za _) _))
 have yF:=wW qg cell (by simp[Bk,hcell]);have bP:j4 M cell=[]:=ar hcell;have Bp:eU M cell cZ=qn:=by simp[eU,bP]
 repeat' (first|(refine lz λR hR=>?_;simp[Kd,Bq,yF,np,nr,AW.ab,aI];try simp(disch:=omega)only[az,ar])|(refine hR _ _ ?_;clear hR R)|(refine hK _ _ ?_;clear hK K)|refine nx ?_|refine wn λK hK=>?_|simp only[wS]|(show df _ _ _ _ _ _;refine nx ?_)|(refine wc rfl (λhc=>?_) (λhc=>?_)<;>(try simp at hc)<;>(try omega))|(refine ib (λhc=>?_) (λhc=>?_)))
 all_goals first
  | (exfalso;omega)
  | (refine ⟨_,(by simp[AW.ab];rfl),bD.post (by simp[opV,fk,s7,Bp,bj.v,bj.zero]) ?_⟩
     have hM:mw M cell cZ g=M:=(by simp[mw,Bp]);rw[hM,HP.dq];exact(fp.eB hS).le hw (((q8 A _).set (Za _) _)))
end
section
namespace TCfg
def oK [Gl]{A:AW}{L:List It}{T:Prop}(hS:aj A L)(hw:A.Wf)(h':(ba A L/\bB A L/\cd L)=T:=by first|(dsimp only[aa,ah,ba,bB,cd,fw];done)|exact rfl):T:=h'▸hS.fm hw
end TCfg
open TCfg
variable [Gl]
structure bu where
 bm:Int
 au:Int
 base:Int
 c0:Int
 c1:Int
 c2:Int
 c3:Int
 reads:Int
 b8:Int
 ao:Int
 aB:Int
 aC:Int
 aZ:Bool
def bu.v (c:bu):qi:=.agg #[qh qg c.bm,qh qg c.au,qh qg c.base,qh qg c.c0,qh qg c.c1,qh qg c.c2,qh qg c.c3,qh qg c.reads,qh qg c.b8,qh qg c.ao,qh qg c.aB,qh qg c.aC,qt c.aZ]
def bu.cells (c:bu):List qi:=[qh qg c.bm,qh qg c.au,qh qg c.base,qh qg c.c0,qh qg c.c1,qh qg c.c2,qh qg c.c3,qh qg c.reads,qh qg c.b8,qh qg c.ao,qh qg c.aB,qh qg c.aC,qt c.aZ]
def bu.nb (c:bu):Int:=c.c0+c.c1+c.c2+c.c3
def bu.hw (c:bu):Int:=c.c0+c.c1*2+c.c2*4+c.c3*8
structure dl (c:bu):Prop where
 bm:1<=c.bm/\c.bm<=64
 au:1<=c.au/\c.au<=64
 k0:0<=c.c0/\c.c0<=64
 k1:0<=c.c1/\c.c1<=64
 k2:0<=c.c2/\c.c2<=64
 k3:0<=c.c3/\c.c3<=64
 nb:c.nb<=64
 base:0<=c.base/\c.base<=c.bm
 fit:c.hw<=c.bm-c.base
 reads:1<=c.reads/\c.reads<=32
 b8:1<=c.b8/\c.b8<=32
 ao:0<=c.ao/\c.ao<=8
 aB:0<=c.aB/\c.aB<=8
 aC:0<=c.aC/\c.aC<=1099511627776
def OV (n lo hi:Int)(A:AW):aE qZ 58 [qh qg n,qh qg lo,qh qg hi] A (λv A'=>v=qt (decide (lo<=n/\n<=hi))/\A=A'):=by
 refine aO Tryz.func58 λ_=>?_;refine W db db (J2 ?_ ?_)<;>intros
 all_goals(simp_all<;>omega)
end
section
variable [Gl]
inductive aF:List It->It->List It->Prop where
 | z {x:It} {L:List It}:aF (x::L) x L
 | s {x y:It} {L K:List It}:aF L x K->aF (y::L) x (y::K)
 | e {x y:It} {L:List It}:x.hp=y.hp->aF (x::L) y L
inductive bd:List It->List It->List It->Prop where
 | z {L:List It}:bd L [] L
 | s {x:It} {L M J K:List It}:aF L x M->bd M J K->bd L (x::J) K
def aF.aP {L K:List It}{x:It}(h:aF L x K):aP L=x.hp*aP K:=by
 induction h with
 |z=>rfl
 |e h=>rename_i x y L;show x.hp*Stx.aP L=y.hp*Stx.aP L;rw[h]
 |s h ih=>rename_i x y L K;show y.hp*Stx.aP L=x.hp*(y.hp*Stx.aP K);rw[ih];ac_rfl
def bd.aP {L J K:List It}(h:bd L J K):aP L=aP J*aP K:=by
 induction h with
 |z=>rename_i L;show Stx.aP L=eY*Stx.aP L;rw[iD]
 |s h1 h2 ih=>
   rename_i x L M J K;rw[h1.aP,ih];show x.hp*(Stx.aP J*Stx.aP K)=x.hp*Stx.aP J*Stx.aP K
   ac_rfl
def aF.OE {b:Nat}{o o':dt}{L:List It}(h:o=o'):aF (.at b o::L) (.at b o') L:=by rw[h];exact .z
def bz.gk {P:qp}{f:qN}{args:List qi}{tN:List It}{φ:qi->Prop}{post:qi->List It}(h:bz P f args tN φ post){A:AW}{L K:List It}{k:qi->AW->Prop}(hw:A.Wf)(hS:aj A L)(e:bd L tN K)(hk:∀v A',φ v->aj A' (post v++K)->A'.Wf->A.next<=A'.next->k v A'):aE P f args A k:=by
 have sG:aj A (tN++[.h (Stx.aP K)]):=by unfold aj at *;rw[e.aP]at hS;rw[gO];show bD A (Stx.aP tN*(Stx.aP K*eY));rw[ei];exact hS
 refine bT (h A (Stx.aP K) hw sG) ?_;rintro v A'⟨h1,h2⟩lC hn;refine hk v A' h1 ?_ lC hn;unfold aj at *;rw[gO]at h2 ⊢;have h3:bD A' (Stx.aP (post v)*(Stx.aP K*eY)):=h2;rwa [ei]at h3
def eL {ι:Type}(P:qp)(f:qN)(args:List qi)(tN:List It)(φ:ι->qi->Prop)(post:ι->List It):Prop:=
 ∀(A:AW)(F:HP),A.Wf->aj A (tN++[.h F])->aE P f args A λv A'=>∃x,φ x v/\aj A' (post x++[.h F])
def eL.gk {ι:Type}{P:qp}{f:qN}{args:List qi}{tN:List It}{φ:ι->qi->Prop}{post:ι->List It}(h:eL P f args tN φ post){A:AW}{L K:List It}{k:qi->AW->Prop}(hw:A.Wf)(hS:aj A L)(e:bd L tN K)(hk:∀x v A',φ x v->aj A' (post x++K)->A'.Wf->A.next<=A'.next->k v A'):aE P f args A k:=by
 have sG:aj A (tN++[.h (aP K)]):=by unfold aj at *;rw[e.aP]at hS;rw[gO];show bD A (aP tN*(aP K*eY));rw[ei];exact hS
 refine bT (h A (aP K) hw sG) ?_;rintro v A'⟨x,h1,h2⟩lC hn;refine hk x v A' h1 ?_ lC hn;unfold aj at *;rw[gO]at h2 ⊢;have h3:bD A' (aP (post x)*(aP K*eY)):=h2;rwa [ei]at h3
def aj.bZ {A:AW}{L G K:List It}(h:aj A L)(e:bd L G K):aj A G:=by unfold aj at *;rw[e.aP]at h;exact h.left
def aj.io {A:AW}{L K:List It}{i:Nat}{o o':dt}(h:aj A L)(e:aF L (.at i o) K):aj (A.set i (qf o')) (.at i o'::K):=by unfold aj at *;rw[e.aP]at h;exact bD.set h o'
def aj.allocR {A:AW}{L:List It}{o:dt}(h:aj A L)(hw:A.Wf):aj (A.alloc o) (.at A.next o::L):=h.alloc hw o
def aj.ltR {A X:AW}{L K:List It}{i:Nat}{o:dt}(h:aj A L)(hw:A.Wf)(e:aF L (.at i o) K)(hl:A.next<=X.next):i<X.next:=by unfold aj at h;rw[e.aP]at h;exact Nat.lt_of_lt_of_le (hw.lt (bD.bk h)) hl
def wA {A:AW}(h':A.Wf:=by first|((repeat' (first|assumption|apply AW.Wf.alloc|apply AW.Wf.set|exact Nat.le_refl _|(simp only[AW.bn,AW.lN];omega)|apply aj.ltR hS hw|apply aF.z|apply aF.s));done)|fail):A.Wf:=h'
def sA {A:AW}{L:List It}(h':aj A L:=by first|((repeat' (first|exact hS|exact Nat.le_refl _|with_reducible apply aj.io|with_reducible apply aj.allocN|with_reducible apply AW.PA|with_reducible apply AW.nx_set|with_reducible apply aj.allocR|with_reducible apply aF.z|with_reducible apply aF.s|assumption|apply AW.Wf.alloc|apply AW.Wf.set|(simp only[AW.bn,AW.lN];omega)|apply aj.ltR hS hw|exact rfl));done)|fail):aj A L:=h'
def pA {L G K:List It}(h':bd L G K:=by first|((repeat' (first|apply bd.z|apply bd.s|apply aF.z|apply aF.s));done)|fail):bd L G K:=h'
def kA {L K:List It}{x:It}(h':aF L x K:=by first|((repeat' (first|apply bd.z|apply bd.s|apply aF.z|apply aF.s));done)|fail):aF L x K:=h'
def lA {A:AW}{L L':List It}(h:aj A L)(h':L=L':=by first|(dsimp only[AW.bn,aa,ah];done)|exact rfl):aj A L':=h'▸h
namespace T0
def oK [Gl]{A:AW}{L:List It}{T:Prop}(hS:aj A L)(hw:A.Wf)(h':(ba A L/\bB A L/\cd L)=T:=by first|(dsimp only[aa,ah,ba,bB,cd,fw,eA,iV,kW,pO,iW,jB];done)|exact rfl):T:=h'▸hS.fm hw
end T0
def P6 [Gl]{A:AW}{L:List It}{T:Prop}(hS:aj A L)(hw:A.Wf)(h':(ba A L/\bB A L/\cd L)=T:=by first|(dsimp only[aa,ah,eA,ba,bB,cd,fw,iV,kW,pO,iW,jB];done)|exact rfl):T:=h'▸hS.fm hw
namespace T2
def oK [Gl]{A:AW}{L:List It}{T:Prop}(hS:aj A L)(hw:A.Wf)(h':(ba A L/\bB A L/\cd L)=T:=by first|(dsimp only[aa,ah,ba,bB,cd,fw,eA];done)|exact rfl):T:=h'▸hS.fm hw
end T2
def gP [Gl]{A:AW}{L:List It}{T:Prop}(hS:aj A L)(hw:A.Wf)(h':(ba A L/\bB A L/\cd L)=T:=by first|(dsimp only[aa,ah,eA,ba,bB,cd,fw];done)|exact rfl):T:=h'▸hS.fm hw
namespace T4
def oK [Gl]{A:AW}{L:List It}{T:Prop}(hS:aj A L)(hw:A.Wf)(h':(ba A L/\bB A L/\cd L)=T:=by first|(dsimp only[aa,ah,ba,bB,cd,fw,refI,rCheckO];done)|exact rfl):T:=h'▸hS.fm hw
end T4
namespace T5
def oK [Gl]{A:AW}{L:List It}{T:Prop}(hS:aj A L)(hw:A.Wf)(h':(ba A L/\bB A L/\cd L)=T:=by first|(dsimp only[aa,ah,ba,bB,cd,fw,zg];done)|exact rfl):T:=h'▸hS.fm hw
end T5
namespace T6
def oK [Gl]{A:AW}{L:List It}{T:Prop}(hS:aj A L)(hw:A.Wf)(h':(ba A L/\bB A L/\cd L)=T:=by first|(dsimp only[aa,ah,ba,bB,cd,fw,mZ];done)|exact rfl):T:=h'▸hS.fm hw
end T6
namespace T7
def oK [Gl]{A:AW}{L:List It}{T:Prop}(hS:aj A L)(hw:A.Wf)(h':(ba A L/\bB A L/\cd L)=T:=by first|(dsimp only[aa,ah,ba,bB,cd,fw];done)|exact rfl):T:=h'▸hS.fm hw
end T7
def hqx8 [Gl]{A:AW}{L:List It}{T:Prop}(hS:aj A L)(hw:A.Wf)(h':(ba A L/\bB A L/\cd L)=T:=by first|(dsimp only[aa,ah,ba,bB,cd,fw,mZ];done)|exact rfl):T:=h'▸hS.fm hw
def gv [Gl]{A:AW}{L:List It}{T:Prop}(hS:aj A L)(hw:A.Wf)(h':(ba A L/\bB A L/\cd L)=T:=by first|(dsimp only[aa,ah,ba,bB,cd,fw];done)|exact rfl):T:=h'▸hS.fm hw
namespace T10
def oK [Gl]{A:AW}{L:List It}{T:Prop}(hS:aj A L)(hw:A.Wf)(h':(ba A L/\bB A L/\cd L)=T:=by first|(dsimp only[aa,ah,ba,bB,cd,fw,refI,rEnterO,rTurnO,rPopO,rPushO,rReadO];done)|exact rfl):T:=h'▸hS.fm hw
end T10
namespace T11
def oK [Gl]{A:AW}{L:List It}{T:Prop}(hS:aj A L)(hw:A.Wf)(h':(ba A L/\bB A L/\cd L)=T:=by first|(dsimp only[aa,ah,ba,bB,cd,fw,refI];done)|exact rfl):T:=h'▸hS.fm hw
end T11
namespace T12
def oK [Gl]{A:AW}{L:List It}{T:Prop}(hS:aj A L)(hw:A.Wf)(h':(ba A L/\bB A L/\cd L)=T:=by first|(dsimp only[aa,ah,ba,bB,cd,fw,yT,iV,kW,pO,iW,jB];done)|exact rfl):T:=h'▸hS.fm hw
end T12
namespace T13
def hqO [Gl]{A:AW}{L:List It}{T:Prop}(hS:aj A L)(hw:A.Wf)(h':(ba A L/\bB A L/\cd L)=T:=by first|(dsimp only[aa,ah,ba,bB,cd,fw,yT,tZ,ox,uK,Cl,oB,nY,jQ,ud,tT,Cb,tU];done)|exact rfl):T:=h'▸hS.fm hw
end T13
def UW [Gl]{A:AW}{L:List It}{T:Prop}(hS:aj A L)(hw:A.Wf)(h':(ba A L/\bB A L/\cd L)=T:=by first|(dsimp only[aa,ah,ba,bB,cd,fw,yT];done)|exact rfl):T:=h'▸hS.fm hw
def LZ [Gl]{A:AW}{L:List It}{T:Prop}(hS:aj A L)(hw:A.Wf)(h':(ba A L/\bB A L/\cd L)=T:=by first|(dsimp only[aa,ah,ba,bB,cd,fw,yT,iV,kW,pO,iW,jB];done)|exact rfl):T:=h'▸hS.fm hw
def fF [Gl]{A:AW}{L:List It}{T:Prop}(hS:aj A L)(hw:A.Wf)(h':(ba A L/\bB A L/\cd L)=T:=by first|(dsimp only[aa,ah,ba,bB,cd,fw,yT,tZ,ox,uK,Cl,oB,nY,jQ,ud,tT,Cb,tU];done)|exact rfl):T:=h'▸hS.fm hw
namespace T17
def oK [Gl]{A:AW}{L:List It}{T:Prop}(hS:aj A L)(hw:A.Wf)(h':(ba A L/\bB A L/\cd L)=T:=by first|(dsimp only[aa,ah,ba,bB,cd,fw,yT,iV,kW,pO,iW,jB,eA,tZ,ox,uK,Cl,oB,nY,jQ,ud,tT,Cb,tU];done)|exact rfl):T:=h'▸hS.fm hw
end T17
def hqx18 [Gl]{A:AW}{L:List It}{T:Prop}(hS:aj A L)(hw:A.Wf)(h':(ba A L/\bB A L/\cd L)=T:=by first|(dsimp only[aa,ah,ba,bB,cd,fw,yT,iV,kW,pO,iW,jB,eA,tZ,ox,uK,Cl,oB,nY,jQ,ud,tT,Cb,tU];done)|exact rfl):T:=h'▸hS.fm hw
def gL [Gl]{A:AW}{L:List It}{T:Prop}(hS:aj A L)(hw:A.Wf)(h':(ba A L/\bB A L/\cd L)=T:=by first|(dsimp only[aa,ah,eA,ba,bB,cd,fw,yT,tZ,ox,uK,Cl,oB,nY,jQ,ud,tT,Cb,tU];done)|exact rfl):T:=h'▸hS.fm hw
namespace T20
def oK [Gl]{A:AW}{L:List It}{T:Prop}(hS:aj A L)(hw:A.Wf)(h':(ba A L/\bB A L/\cd L)=T:=by first|(dsimp only[aa,ah,ba,bB,cd,fw,yT,iV,kW,pO,iW,jB,eA];done)|exact rfl):T:=h'▸hS.fm hw
end T20
def F8 [Gl]{A:AW}{L:List It}{T:Prop}(hS:aj A L)(hw:A.Wf)(h':(ba A L/\bB A L/\cd L)=T:=by first|(dsimp only[aa,ah,ba,bB,cd,fw,yT,iV,kW,pO,iW,jB,eA];done)|exact rfl):T:=h'▸hS.fm hw
namespace T22
def oK [Gl]{A:AW}{L:List It}{T:Prop}(hS:aj A L)(hw:A.Wf)(h':(ba A L/\bB A L/\cd L)=T:=by first|(dsimp only[aa,ah,ba,bB,cd,fw,refO,cfgO];done)|exact rfl):T:=h'▸hS.fm hw
end T22
namespace T24
def oK [Gl]{A:AW}{L:List It}{T:Prop}(hS:aj A L)(hw:A.Wf)(h':(ba A L/\bB A L/\cd L)=T:=by first|(dsimp only[aa,ah,ba,bB,cd,fw,eA,w6];done)|exact rfl):T:=h'▸hS.fm hw
end T24
def s9 [Gl]{A:AW}{L:List It}{T:Prop}(hS:aj A L)(hw:A.Wf)(h':(ba A L/\bB A L/\cd L)=T:=by first|(dsimp only[aa,ah,eA,ba,bB,cd,fw,w6];done)|exact rfl):T:=h'▸hS.fm hw
namespace T26
def oK [Gl]{A:AW}{L:List It}{T:Prop}(hS:aj A L)(hw:A.Wf)(h':(ba A L/\bB A L/\cd L)=T:=by first|(dsimp only[aa,ah,ba,bB,cd,fw,eA,limO,iW];done)|exact rfl):T:=h'▸hS.fm hw
end T26
def DS [Gl]{A:AW}{L:List It}{T:Prop}(hS:aj A L)(hw:A.Wf)(h':(ba A L/\bB A L/\cd L)=T:=by first|(dsimp only[aa,ah,eA,ba,bB,cd,fw,limO,iW];done)|exact rfl):T:=h'▸hS.fm hw
end
section
variable [Gl]
structure wj where
 fg:Nat
 bU:List Int
 gi:List Int
 index:List Int
def zX (l:List Int)(a:Int):Option Nat:=l.findIdx? (·== a)
def nv (n:Nat)(a:Int):Nat:=(a.toNat % n*5) % n
def ix (index:List Int)(k:Nat):Int:=index.getD k (-1)
def Hi (index:List Int):Nat->Nat->Nat
 |0,k=>k
 |f+1,k=>if ix index k<0 then k else Hi index f ((k+1) % U index)
def Ed (index:List Int)(k:Nat):Nat:=Hi index (U index) k
def gD (s:wj)(a v:Int):Bool×wj:=match zX s.bU a with
 |some e=>(qj,{ s with gi:=s.gi.set e v })
 |none=>if U s.bU=s.fg then (qn,s) else
   (qj,{ s with bU:=s.bU++[a],gi:=s.gi++[v],index:=s.index.set (Ed s.index (nv (U s.index) a)) (U s.bU) })
def mG (s:wj)(a:Int):Int×Bool:=match zX s.bU a with
 |some e=>(s.gi.getD e 0,qj)
 |none=>(0,qn)
def ye {l:List Int}{a:Int}{e:Nat}(h:zX l a=qf e):e<U l/\l.getD e 0=a/\∀j,j<e->l.getD j 0≠a:=by
 unfold zX at h;rw[List.findIdx?_eq_some_iff_getElem]at h;obtain⟨h1,h2,h3⟩:=h;refine⟨h1,?_,λj hj=>?_⟩;rw[Ze,Zf h1];simpa using h2;have:=h3 j hj;rw[Ze,Zf Ya]
 exact X9
def I8 {l:List Int}{a:Int}(h:zX l a=qk):∀j,j<U l->l.getD j 0≠a:=by
 unfold zX at h;rw[List.findIdx?_eq_none_iff]at h;intro j hj;have:=h l[j] (List.getElem_mem hj);rw[Ze,Zf hj]
 exact X9
def zZ (index:List Int):Nat:=index.countP (λx=>decide (0<=x))
def st (n k d:Nat):Nat:=(k+d) % n
structure sz (s:wj):Prop where
 SE:s.gi.length=s.bU.length
 fg:s.bU.length<=s.fg
 Dh:s.fg<s.index.length
 pos:∀a∈s.bU,0<=a
 rng:∀k,k<s.index.length->ix s.index k<s.bU.length
 fill:zZ s.index=s.bU.length
 way:∀e,e<s.bU.length->∃d,d<s.index.length/\ix s.index (st s.index.length (nv s.index.length (s.bU.getD e 0)) d)=e/\
  ∀d',d'<d->0<=ix s.index (st s.index.length (nv s.index.length (s.bU.getD e 0)) d')/\ix s.index (st s.index.length (nv s.index.length (s.bU.getD e 0)) d')≠e
 dist:∀i j,i<s.bU.length->j<s.bU.length->s.bU.getD i 0=s.bU.getD j 0->i=j
def QI {index:List Int}(h:∀k,k<U index->0<=ix index k):zZ index=U index:=by
 unfold zZ;rw[List.countP_eq_length];intro x hx;obtain⟨k,hk,rfl⟩:=kaZ hx;have:=h k hk;unfold ix at this;rw[Ze,Zf hk]at this
 exact X9
def sz.lS {s:wj}(h:sz s):∃k,k<U s.index/\ix s.index k<0:=by
 apply kbP;intro hn;have gQ:∀k,k<U s.index->0<=ix s.index k:=λk hk=>by apply kbP;intro h1;exact hn ⟨k,hk,by omega⟩
 have h1:=QI gQ;have h2:=h.fill;have h3:=h.fg;have h4:=h.Dh;omega
def MU {n k d:Nat}(hn:0<n):st n ((k+1) % n) d=st n k (d+1):=by unfold st;rw[Nat.mod_add_mod];congr 1;omega
def GW {n k:Nat}(hk:k<n):st n k 0=k:=by unfold st;rw[Nat.add_zero,kbU hk]
def FE {n k d:Nat}(hn:0<n):st n k d<n:=Nat.mod_lt _ hn
def st_reach {n k j:Nat}(hk:k<n)(hj:j<n):∃d,d<n/\st n k d=j:=by by_cases h:k<=j;exact⟨j-k,by omega,by unfold st;rw[show k+(j-k)=j by omega,kbU hj]⟩;refine⟨n+j-k,by omega,?_⟩;unfold st;rw[show k+(n+j-k)=j+n by omega,Nat.add_mod_right,kbU hj]
def sz.first {s:wj}(h:sz s){k:Nat}(hk:k<U s.index):∃d,d<U s.index/\ix s.index (st (U s.index) k d)<0/\∀d',d'<d->0<=ix s.index (st (U s.index) k d'):=by
 obtain⟨j,hj,Qe⟩:=h.lS;obtain⟨d0,uv,he⟩:=st_reach hk hj;have key:∀n,(∃d,d<=n/\ix s.index (st (U s.index) k d)<0)->∃d,d<=n/\ix s.index (st (U s.index) k d)<0/\∀d',d'<d->0<=ix s.index (st (U s.index) k d'):=by
  intro n
  induction n with
  |zero=>rintro ⟨d,hd,h1⟩;exact⟨d,hd,h1,λd' IV=>by omega⟩
  |succ n ih=>rintro ⟨d,hd,h1⟩;by_cases ut:∃d,d<=n/\ix s.index (st (U s.index) k d)<0;obtain⟨d2,h2,h3⟩:=ih ut;exact⟨d2,by omega,h3⟩;refine⟨d,hd,h1,λd' IV=>?_⟩;apply kbP;intro h4;exact ut ⟨d',by omega,by omega⟩
 obtain⟨d,h1,h2,h3⟩:=key d0 ⟨d0,Za _,by rw[he];exact Qe⟩;exact⟨d,by omega,h2,h3⟩
def Ee (index:List Int):∀(f k d:Nat),k<U index->d<=f->ix index (st (U index) k d)<0->(∀d',d'<d->0<=ix index (st (U index) k d'))->Hi index f k=st (U index) k d
 |0,k,d,hk,hd,h1,h2=>by
   have:d=0:=Ya
   subst this;rw[GW hk];rfl
 |f+1,k,d,hk,hd,h1,h2=>by
   unfold Hi;cases d with
   |zero=>rw[GW hk]at h1 ⊢;rw[az h1]
   |succ d=>have h0:=h2 0 Ya;rw[GW hk]at h0;rw[ar Ya];have hn:0<U index:=Ya;rw[Ee index f ((k+1) % U index) d (Nat.mod_lt _ hn) Ya (by rw[MU hn];exact h1) (λd' IV=>by rw[MU hn];exact h2 _ Ya),MU hn]
def BW {s:wj}(h:sz s){k d:Nat}(hk:k<U s.index)(hd:d<U s.index)(h1:ix s.index (st (U s.index) k d)<0)(h2:∀d',d'<d->0<=ix s.index (st (U s.index) k d')):
 Ed s.index k=st (U s.index) k d:=Ee _ _ _ _ hk Ya h1 h2
def IZ {n:Nat}(hn:0<n)(a:Int):nv n a<n:=Nat.mod_lt _ hn
def IB {index:List Int}{p:Nat}(hp:p<U index)(x:Int)(k:Nat):ix (index.set p x) k=if k=p then x else ix index k:=by unfold ix;by_cases e:k=p;subst e;rw[az rfl,Ze,ZN hp];rfl;rw[ar e,Ze,List.getElem?_set_ne (Ne.symm e),<-Ze]
def I9:∀{index:List Int}{p:Nat}(hp:p<U index){x:Int},0<=x->ix index p<0->zZ (index.set p x)=zZ index+1
 |[],p,hp,_,_,_=>by simp at hp
 |y::l,0,hp,x,hx,h=>by
   have h':y<0:=h;have e1:decide (0<=x)=qj:=by simpa using hx
   have e2:decide (0<=y)=qn:=Yg;simp[zZ,e1,e2]
 |y::l,p+1,hp,x,hx,h=>by have:=I9 (index:=l) (p:=p) (by simpa using hp) hx h;simp only[zZ,List.set_cons_succ,List.countP_cons]at this ⊢;omega
def LV {s:wj}(h:sz s){a:Int}(ha:0<=a)(v:Int):sz (gD s a v).2:=by
 unfold gD;split;exact⟨by simpa using h.SE,h.fg,h.Dh,h.pos,h.rng,h.fill,h.way,h.dist⟩;rename_i wW;split;exact h;rename_i NH;have hn:0<U s.index:=by have:=h.Dh;omega
 have hk:=IZ hn a;obtain⟨d,hd,h1,h2⟩:=h.first hk;have hp:=BW h hk hd h1 h2;have mT:st (U s.index) (nv (U s.index) a) d<U s.index:=FE hn;have hcapl:=h.fg;have wx:∀e,e<U s.bU->(s.bU++[a]).getD e 0=s.bU.getD e 0:=λe he=>by rw[Ze,List.getElem?_append_left he,<-Ze]
 have hgn:(s.bU++[a]).getD (U s.bU) 0=a:=by rw[Ze,List.getElem?_append_right (Za _)];simp
 refine⟨by simp[h.SE],by simp;omega,by simpa using h.Dh,?_,?_,?_,?_,?_⟩;intro x hx;rw[List.mem_append]at hx;rcases hx with hx|hx;exact h.pos x hx;simp at hx;subst hx;exact ha;intro k j6;simp only[ZZ]at j6;simp only[hp,IB mT,Zh,ZI,kay];split;omega;have:=h.rng k j6;omega;simp only[hp,Zh,ZI,kay];rw[I9 mT Ya h1,h.fill];intro e he;simp only[Zh,ZI,kay]at he;simp only[hp,ZZ];by_cases hlast:e=U s.bU;subst hlast;rw[hgn];refine⟨d,hd,by rw[IB mT,az rfl],λd' IV=>?_⟩;have U4:=h2 d' IV;have fL:st (U s.index) (nv (U s.index) a) d'≠st (U s.index) (nv (U s.index) a) d:=λe=>by rw[e]at U4;omega
 rw[IB mT,ar fL];refine⟨U4,?_⟩;have:=h.rng _ (FE (k:=nv (U s.index) a) (d:=d') hn);omega;have he':e<U s.bU:=Ya
 rw[wx e he'];obtain⟨d2,g1,g2,g3⟩:=h.way e he';refine⟨d2,g1,?_,λd' IV=>?_⟩;rw[IB mT,ar (λe2=>by rw[e2]at g2;omega)];exact g2;obtain⟨g4,g5⟩:=g3 d' IV;rw[IB mT,ar (λe2=>by rw[e2]at g4;omega)];exact⟨g4,g5⟩;intro i j hi hj he;simp only[Zh,ZI,kay]at hi hj;have fL:=I8 wW;by_cases ww:i<U s.bU;by_cases BP:j<U s.bU;rw[wx i ww,wx j BP]at he;exact h.dist i j ww BP he;have:j=U s.bU:=Ya
 subst this;rw[wx i ww,hgn]at he;exact absurd he (fL i ww);have:i=U s.bU:=Ya
 subst this;by_cases BP:j<U s.bU;rw[wx j BP,hgn]at he;exact absurd he.symm (fL j BP);omega
def sz.probe {s:wj}(h:sz s)(a:Int):∃d,d<U s.index/\
 (∀d',d'<d->0<=ix s.index (st (U s.index) (nv (U s.index) a) d')/\s.bU.getD (ix s.index (st (U s.index) (nv (U s.index) a) d')).toNat 0≠a)/\
 ((∃e,zX s.bU a=qf e/\ix s.index (st (U s.index) (nv (U s.index) a) d)=e) \/
   (zX s.bU a=qk/\ix s.index (st (U s.index) (nv (U s.index) a) d)<0/\Ed s.index (nv (U s.index) a)=st (U s.index) (nv (U s.index) a) d)):=by
 have hn:0<U s.index:=by have:=h.Dh;omega
 have hk:=IZ hn a;cases hf:zX s.bU a with
 |some e=>obtain⟨f1,f2,f3⟩:=ye hf;obtain⟨d,g1,g2,g3⟩:=h.way e f1;rw[f2]at g2 g3;refine⟨d,g1,λd' IV=>?_,qw ⟨e,rfl,g2⟩⟩;obtain⟨g4,g5⟩:=g3 d' IV;refine⟨g4,λe2=>?_⟩;have hr:=h.rng _ (FE (k:=nv (U s.index) a) (d:=d') hn);have:=h.dist (ix s.index (st (U s.index) (nv (U s.index) a) d')).toNat e Ya f1 (by rw[e2,f2]);omega
 |none=>have fL:=I8 hf;obtain⟨d,g1,g2,g3⟩:=h.first hk;refine⟨d,g1,λd' IV=>⟨g3 d' IV,?_⟩,qB ⟨rfl,g2,BW h hk g1 g2 g3⟩⟩;have hr:=h.rng _ (FE (k:=nv (U s.index) a) (d:=d') hn);have:=g3 d' IV;exact fL _ Ya
end
section
namespace TClone
def oK [Gl]{A:AW}{L:List It}{T:Prop}(hS:aj A L)(hw:A.Wf)(h':(ba A L/\bB A L/\cd L)=T:=by first|(dsimp only[aa,ah,ba,bB,cd,fw];done)|exact rfl):T:=h'▸hS.fm hw
end TClone
open TClone
variable [Gl]
def b5.FZ {A:AW}{k:IntKind}{l:List Int}{n c:Nat}(h:b5 A k (.slice qk n c) l):l=[]:=by rcases h with ⟨_,h,_⟩|⟨p,c,bO,own,u,h,_⟩;exact List.eq_nil_of_length_eq_zero h;cases h
def kJ (v:qi)(l:List Int)(A:AW)(h:b5 A qg v l)(hl:U l<2^39):
 aE qZ 90 [v] A (λv' A'=>fW A.next A' qg v' l/\A.le A'):=by
 refine aO Tryz.func90 λhw=>?_;obtain⟨o,c,rfl,_⟩:=h.cL;cases o with
 |none=>
   have:=h.FZ;subst this;refine W db db ?_<;>intros
   simpa using ⟨fW.nil _ _ _,AW.le.refl A⟩
 |some p=>
   have l0:=q8 A (qm [] qj 1);have w0:=hw.alloc (qm [] qj 1);have h1:=h.le l0 hw
   have jd:fW A.next (A.alloc (qm [] qj 1)) qg (.slice (qf ⟨A.next,0,qk⟩) 0 0) []:=
    qB ⟨⟨A.next,0,qk⟩,0,[],rfl,Za _,rfl,Za _,AW.cD _ _,by simp,by simp⟩
   obtain⟨v',A',h2,h3,h4,h5,h6⟩:=Gr (P:=qZ) (t:=23) Tryz.underlying23 Tryz.info3 Tryz.zero3 rfl rfl jd h1 Yg Yb Yb w0;refine W db (J1 h2) ?_<;>intros;simp;exact⟨by simpa using h3,h4 A (Za _) l0⟩
def jL (v:qi)(l:List Int)(A:AW)(h:b5 A qr v l)(hl:U l<2^39):
 aE qZ 55 [v] A (λv' A'=>fW A.next A' qr v' l/\A.le A'):=by
 refine aO Tryz.func55 λhw=>?_;obtain⟨o,c,rfl,_⟩:=h.cL;cases o with
 |none=>
   have:=h.FZ;subst this;refine W db db ?_<;>intros
   simpa using ⟨fW.nil _ _ _,AW.le.refl A⟩
 |some p=>
   have l0:=q8 A (qm [] qj 1);have w0:=hw.alloc (qm [] qj 1);have h1:=h.le l0 hw
   have jd:fW A.next (A.alloc (qm [] qj 1)) qr (.slice (qf ⟨A.next,0,qk⟩) 0 0) []:=
    qB ⟨⟨A.next,0,qk⟩,0,[],rfl,Za _,rfl,Za _,AW.cD _ _,by simp,by simp⟩
   obtain⟨v',A',h2,h3,h4,h5,h6⟩:=Gr (P:=qZ) (t:=59) Tryz.underlying59 Tryz.info45 Tryz.zero45 rfl rfl jd h1 Yg Yb Yb w0;refine W db (J1 h2) ?_<;>intros;simp;exact⟨by simpa using h3,h4 A (Za _) l0⟩
end
section
variable [Gl]
def uX (l:List Int):List Int:=l.mergeSort λx y=>decide (x<=y)
def VS (B:Nat)(v:qi)(l:List Int)(A:AW)(hw:A.Wf)(h:fW B A qg v l)(hl:U l<2^40):
 aE qZ 253 [v] A (λu A'=>fW B A' qg v (uX l)/\∀A0:AW,A0.next<=B->A0.le A->A0.le A'):=by
 have dT:lh qZ 253=qj:=Yf
 rcases h.cL with ⟨o,c,rfl,rfl,_⟩|⟨p,c,bO,rfl,h0,hc,hs,hB,hg,ur,hcs⟩;refine(aE.lS dT (rv:=qF #[]) (ret:=λ_ _=>qF #[]) (λm _ _ _=>bH.undef m) (λo' c' w=>Tryz.slices_Sort_int_none o' c' w)).mono ?_;rintro u A'⟨rfl,rfl⟩;exact⟨by simpa[uX]using h,λA0 _ hl=>hl⟩;have cy:U (uX l)=U l:=by simp[uX]
 refine(Um dT (k:=qg) (d:=uX l) (rv:=qF #[]) (ret:=λ_ _=>qF #[]) rfl h0 hc hg ur hcs cy (λm _ _ _ _=>bH.undef m)
  (λjj off fg w hH hb _=>Tryz.slices_Sort_int jj off fg l w hH hb Ya)).mono ?_
 rintro u A'⟨rfl,rfl⟩;refine⟨?_,λA0 hA0 gb=>gb.set Ya _⟩;have:=Ie (B:=B) (k:=qg) (uX l) [] hw hB hs hg (c:=c) (by simpa[cy]using ur) Ya cy.symm
 exact X9
def Ak (l:List Int):U (kai l)<=U l:=by simp only[kai,kcl,List.length_map];exact Nat.le_trans (List.length_filter_le _ _) Yb
def N0 (B:Nat)(v:qi)(l:List Int)(A:AW)(hw:A.Wf)(h:fW B A qg v l)(hl:U l<2^40):
 aE qZ 254 [v] A (λu A'=>fW B A' qg u (kai l)/\∀A0:AW,A0.next<=B->A0.le A->A0.le A'):=by
 have dT:lh qZ 254=qj:=Yf
 rcases h.cL with ⟨o,c,rfl,rfl,_⟩|⟨p,c,bO,rfl,h0,hc,hs,hB,hg,ur,hcs⟩;refine(aE.lS dT (rv:=.slice o 0 c) (ret:=λo' c'=>.slice o' 0 c') (λm _ _ h=>h) (λo' c' w=>Tryz.slices_Compact_int_empty o' c' w)).mono ?_;rintro u A'⟨rfl,rfl⟩;exact⟨h,λA0 _ hl=>hl⟩;have cy:=Ak l
 refine(Um dT (k:=qg) (d:=kai l++List.replicate (U l-(kai l).length) 0) (rv:=.slice (qf p) (U (kai l)) c) (ret:=λa' jJ=>.slice (qf a') (U (kai l)) jJ)
  rfl h0 hc hg ur hcs Yg (λm a' jJ Hb hcc=>.slice (qw Hb) Ya hcc)
  (λjj off fg w hH hb NH=>(Tryz.slices_Compact_int jj off fg l w hH Ya NH).mono λe w' ⟨h1,q,h2⟩=>⟨h1,q,#[],by rw[h2];exact(Go.Sort.grow_empty _).symm⟩)).mono ?_
 rintro u A'⟨rfl,rfl⟩;refine⟨?_,λA0 hA0 gb=>gb.set Ya _⟩;exact Ie (B:=B) (k:=qg) (kai l) _ hw hB hs hg (c:=c) Yg Ya rfl
end
section
namespace TLockA
def oK [Gl]{A:AW}{L:List It}{T:Prop}(hS:aj A L)(hw:A.Wf)(h':(ba A L/\bB A L/\cd L)=T:=by first|(dsimp only[aa,ah,ba,bB,cd,fw];done)|exact rfl):T:=h'▸hS.fm hw
end TLockA
open TLockA
variable [Gl]
def fC (l:List Int):List Int:=kai (uX l)
def FI (v:qi)(l:List Int)(A:AW)(h:b5 A qg v l)(hl:U l<2^39):
 aE qZ 215 [v] A (λu A'=>fW A.next A' qg u (fC l)/\A.le A'):=by refine aO Tryz.func215 λhw=>?_;revert hw;refine W db db ?_<;>(unhygienic intros);refine bT (kJ v l A h hl) ?_;rintro v1 A1⟨h1,l1⟩w1 _;revert hw;(repeat first|revert R|revert K);refine W db db ?_<;>(unhygienic intros);refine bT (VS A.next v1 l A1 w1 h1 Ya) ?_;rintro _ A2⟨h2,l2⟩w2 _;revert hw;(repeat first|revert R|revert K);refine W db db ?_<;>(unhygienic intros);refine bT (N0 A.next v1 (uX l) A2 w2 h2 (by simp[uX];omega)) ?_;rintro v3 A3⟨h3,l3⟩w3 _;refine W db db ?_<;>intros;simp;exact⟨h3,l3 A (Za _) (l2 A (Za _) l1)⟩
end
section
namespace TLockB
def oK [Gl]{A:AW}{L:List It}{T:Prop}(hS:aj A L)(hw:A.Wf)(h':(ba A L/\bB A L/\cd L)=T:=by first|(dsimp only[aa,ah,ba,bB,cd,fw];done)|exact rfl):T:=h'▸hS.fm hw
end TLockB
open TLockB
variable [Gl]
def IE (sD:List Int)(x:Int):List Int:=
 match sD with
 |[]=>[x]
 |y::r=>if y<x then y::IE r x else if y=x then y::r else x::y::r
def xG (l:List Int):List Int:=l.foldl IE []
end
section
variable [Gl]
def Tp:∀(a b:List Int),a.Pairwise (·< ·)->b.Pairwise (·< ·)->(∀x,x∈a↔x∈b)->a=b
 |[],[],_,_,_=>rfl
 |[],y::b,_,_,h=>by have:=(h y).2 Yb;simp at this
 |x::a,[],_,_,h=>by have:=(h x).1 Yb;simp at this
 |x::a,y::b,ha,hb,h=>by
   rw[kba]at ha hb;have hxy:x=y:=by have h1:=(h x).1 Yb;have h2:=(h y).2 Yb;rw[Zz]at h1 h2;rcases h1 with h1|h1;exact h1;rcases h2 with h2|h2;exact h2.symm;have:=hb.1 x h1;have:=ha.1 y h2;omega
   subst hxy;congr 1;refine Tp a b ha.2 hb.2 λz=>⟨λhz=>?_,λhz=>?_⟩;have:=ha.1 z hz;have h1:=(h z).1 (by simp[hz]);rw[Zz]at h1;rcases h1 with h1|h1;omega;exact h1;have:=hb.1 z hz;have h1:=(h z).2 (by simp[hz]);rw[Zz]at h1;rcases h1 with h1|h1;omega;exact h1
def P0 (sD:List Int)(x z:Int):z∈IE sD x↔z=x\/z∈sD:=by
 induction sD with
 |nil=>simp[IE]
 |cons y r ih=>simp only[IE];split;simp only[Zz,ih];constructor;rintro (h|h|h);exact qB (qw h);exact qw h;exact qB (qB h);rintro (h|h|h);exact qB (qw h);exact qw h;exact qB (qB h);split;rename_i h1 h2;subst h2;simp;simp
def insS_lt (sD:List Int)(x:Int)(h:sD.Pairwise (·< ·)):(IE sD x).Pairwise (·< ·):=by
 induction sD with
 |nil=>simp[IE]
 |cons y r ih=>have h0:=kba.1 h;simp only[IE];split;rename_i h1;refine kba.2 ⟨λz hz=>?_,ih h0.2⟩;rcases (P0 r x z).1 hz with e|e;omega;exact h0.1 z e;split;exact h;rename_i h1 h2;refine kba.2 ⟨λz hz=>?_,h⟩;rw[Zz]at hz;rcases hz with e|e;omega;have:=h0.1 z e;omega
def yB (l:List Int):(xG l).Pairwise (·< ·)/\∀z,z∈xG l↔z∈l:=by
 have:∀(l sD:List Int),sD.Pairwise (·< ·)->(l.foldl IE sD).Pairwise (·< ·)/\∀z,z∈l.foldl IE sD↔z∈sD\/z∈l:=by
  intro l
  induction l with
  |nil=>intro sD h;exact⟨h,by simp⟩
  |cons x r ih=>intro sD h;obtain⟨h1,h2⟩:=ih (IE sD x) (insS_lt sD x h);refine⟨h1,λz=>?_⟩;rw[List.foldl_cons,h2,P0,Zz];constructor;rintro ((h|h)|h);exact qB (qw h);exact qw h;exact qB (qB h);rintro (h|h|h);exact qw (qB h);exact qw (qw h);exact qB h
 have h:=this l [] List.Pairwise.nil;exact⟨h.1,λz=>by rw[xG,h.2];simp⟩
def NZ (l:List Int)(h:l.Pairwise (·<=·)):(kai l).Pairwise (·< ·)/\∀z,z∈kai l↔z∈l:=by
 have gb:∀i j,i<=j->j<U l->l.toArray[i]!<=l.toArray[j]!:=by intro i j hij hj;rw[getElem!_pos l.toArray i Yg,getElem!_pos l.toArray j (by simpa using hj)];simp only[List.getElem_toArray];by_cases e:i=j;subst e;exact Int.le_refl _;exact List.pairwise_iff_getElem.1 h i j Ya hj Ya
 constructor;rw[kai,kcl,List.pairwise_map];have hr:((List.range (U l)).filter (kbx l.toArray)).Pairwise (·< ·):=List.Pairwise.filter _ List.pairwise_lt_range;refine List.Pairwise.imp_of_mem ?_ hr;intro i j hi hj hij;rw[kax,Zr]at hi hj;have hk:=hj.2;simp only[kbx,decide_eq_true_eq]at hk;rcases hk with hk|hk;omega;have h1:=gb i (j-1) Ya Ya;have h2:=gb (j-1) j Ya hj.1;omega;intro z;rw[kai,kcl,List.mem_map];constructor;rintro ⟨i,hi,rfl⟩;rw[kax,Zr]at hi;rw[getElem!_pos l.toArray i (by simpa using hi.1)];simp;intro hz;obtain⟨i,hi,rfl⟩:=kaZ hz;have key:∀n i (hi:i<U l),i<=n->∃a,a∈(List.range (U l)).filter (kbx l.toArray)/\l.toArray[a]! = l[i]:=by
  intro n
  induction n with
  |zero=>
    intro i hi xj;have:i=0:=Ya
    subst this;exact⟨0,by simp[kax,kbx,hi],by rw[getElem!_pos l.toArray 0 YP];simp⟩
  |succ n ih=>
    intro i hi xj;by_cases hk:kbx l.toArray i=qj;exact⟨i,by simp[kax,hk,hi],by rw[getElem!_pos l.toArray i YP];simp⟩;simp only[kbx,decide_eq_true_eq,not_or,Decidable.not_not]at hk;obtain⟨a,ha,hb⟩:=ih (i-1) Ya Ya;refine⟨a,ha,?_⟩;rw[hb];have h3:=hk.2;rw[getElem!_pos l.toArray i YP,getElem!_pos l.toArray (i-1) Yg]at h3
    simpa using h3.symm
 exact key i i hi (Za _)
def RY (l:List Int):fC l=xG l:=by
 have hs:(uX l).Pairwise (·<=·):=by have:=List.pairwise_mergeSort (le:=λx y:Int=>decide (x<=y)) Yg Yg l;exact this.imp Yb
 obtain⟨h1,h2⟩:=NZ (uX l) hs;obtain⟨h3,h4⟩:=yB l;refine Tp _ _ h1 h3 λz=>?_;rw[fC,h2,h4,uX,List.mem_mergeSort]
end
section
open Go.Proofs
variable [Gl]
noncomputable def tab30:Ez:=[(20,[]),
 (28,[]),
 (29,[]),
 (46,[]),
 (47,[]),
 (48,[(6,[(0,0),(1,0),(2,0),(3,0),(4,0),(5,0),(6,0),(7,0),(8,4),(9,0)],[])]),
 (57,[]),
 (58,[]),
 (59,[]),
 (83,[]),
 (84,[]),
 (87,[]),
 (91,[(1,[(0,0),(1,0),(2,1),(3,0),(4,0),(5,3),(6,3),(7,0),(8,4),(9,0)],[])]),
 (92,[(1,[(0,0),(1,0),(2,0),(3,1),(4,0),(5,1),(6,0),(7,1),(8,3),(9,4)],[]),(10,[(0,0),(1,1),(2,0),(3,0),(4,0),(5,0),(6,0),(7,3),(8,0),(9,0),(10,4)],[]),(14,[(0,0),(1,0),(2,0),(3,0),(4,0),(5,0),(6,0),(7,0),(8,0),(9,4)],[])]),
 (93,[(6,[(0,0),(1,0),(2,0),(3,0),(4,0),(5,0),(6,0),(7,0),(8,0)],[])]),
 (100,[]),
 (101,[]),
 (148,[]),
 (149,[(10,[(0,0),(1,0),(2,0),(3,0),(4,3),(5,0),(6,0),(7,0),(8,0),(9,0),(10,0),(11,0),(12,0),(13,0),(14,0),(15,0),(16,0),(17,0),(18,0),(19,1),(20,0),(21,0),(22,0),(23,0),(24,3),(25,0),(26,0),(27,0)],[])]),
 (155,[(3,[(0,0),(1,0),(2,0),(3,0),(4,1),(5,0),(6,0),(7,0),(8,3),(9,0),(10,0),(11,0),(12,4)],[]),(5,[(0,0),(1,0),(2,0),(3,0),(4,0),(5,0),(6,0),(7,0),(8,0),(9,0),(10,0),(11,0),(12,0),(13,0),(14,0),(15,0),(16,0),(17,0),(18,0),(19,0),(20,0),(21,0),(22,0),(23,0),(24,0),(25,0),(26,0),(27,4)],[])]),
 (156,[(1,[(0,0),(1,0),(2,0),(3,0),(4,0),(5,0),(6,0),(7,0),(8,0),(9,0),(10,0),(11,0),(12,0),(13,0),(14,0),(15,0),(16,0),(17,0),(18,0),(19,0),(20,0),(21,0)],[]),(4,[(0,0),(1,0),(2,0),(3,0),(4,0),(5,0),(6,0),(7,0),(8,0),(9,0),(10,0),(11,0),(12,0),(13,0),(14,0),(15,0),(16,0),(17,0),(18,0)],[]),(8,[(0,0),(1,0),(2,0),(3,0),(4,0),(5,0),(6,0),(7,0),(8,0),(9,0),(10,0)],[]),(10,[(0,0),(1,0),(2,0),(3,0),(4,0),(5,0),(6,0),(7,0),(8,0),(9,0),(10,0),(11,0),(12,0),(13,0),(14,4),(15,0),(16,0),(17,4)],[]),(11,[(0,0),(1,0),(2,0),(3,0),(4,1),(5,0),(6,0),(7,0),(8,0),(9,0),(10,0),(11,0),(12,0),(13,0),(14,0),(15,0),(16,0),(17,0),(18,3),(19,3),(20,4),(21,0),(22,0),(23,4)],[])]),
 (157,[]),
 (158,[(1,[(0,0),(1,0),(2,0),(3,0),(4,0),(5,0),(6,0),(7,0),(8,0),(9,0),(10,0),(11,0),(12,0),(13,0),(14,0),(15,0)],[])]),
 (159,[(1,[(0,0),(1,0),(2,0),(3,0),(4,0),(5,0),(6,0),(7,0),(8,0)],[]),(5,[(0,0),(1,0),(2,0),(3,0),(4,0),(5,0),(6,0),(7,0),(8,0),(9,0),(10,0),(11,0)],[]),(6,[(0,0),(1,0),(2,0),(3,0),(4,0),(5,0),(6,0),(7,0),(8,0),(9,4),(10,0)],[])]),
 (160,[]),
 (161,[]),
 (162,[]),
 (163,[]),
 (164,[]),
 (165,[]),
 (166,[]),
 (167,[]),
 (170,[]),
 (181,[]),
 (237,[(3,[(0,0),(1,1),(2,0),(3,3),(4,0),(5,0)],[])]),
 (239,[]),
 (240,[(1,[(0,0),(1,0),(2,0),(3,0),(4,0),(5,0),(6,0),(7,0),(8,0),(9,0),(10,0),(11,0),(12,0),(13,0),(14,0),(15,0)],[])]),
 (241,[]),
 (246,[]),
 (271,[]),
 (273,[]),
 (274,[]),
 (291,[])]
def tab30_ok:HE qZ tab30=qj:=Yf
def baseP:mt:=λ_ _ _=>qk
def baseP_ok:baseP.Ok qZ:=λf args m v m' h=>by cases h
def TK:qj=Hh qZ tab30 baseP 4 20:=Yf
def N8 (hN:Gl.N=4)(A:AW):aE qZ 20 [] A (λu A'=>u=qt qj/\A=A'):=
 ((BS baseP_ok tab30_ok Tryz.mx hN TK.symm).N1 (R:=λu=>u=qt qj) (λv h=>by rw[h];rfl) A).mono λu A' h=>⟨h.1,h.2.symm⟩
end
end Go.Stx
