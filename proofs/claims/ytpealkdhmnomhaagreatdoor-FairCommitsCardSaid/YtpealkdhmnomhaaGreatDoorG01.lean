/-
 Contracts of the small functions that the statements share: places, lists compared and copied.
-/
import Derived.Test.YtpealkdhmnomhaaGreatDoorF1
import Derived.Test.YtpealkdhmnomhaaGreatDoorF2
set_option linter.unusedVariables false
set_option linter.unusedSimpArgs false
set_option linter.unusedSectionVars false
set_option maxRecDepth 20000
set_option maxHeartbeats 4000000
open Bool renaming false_eq_true->Zg
open Classical renaming byContradiction->kbu
open Go.IntKind renaming u64->q8
open Go.Proofs.Tryz renaming prog->qV
open Go.Stx.AW.le renaming alloc->qW
open List renaming getD_eq_getElem?_getD->Za,getElem?_eq_getElem->q9,getElem?_eq_none->Zx,getElem?_set_self->ZV,length_append->Zc,length_cons->Zy,length_nil->kam
open Nat renaming le_refl->qZ,mod_eq_of_lt->kby
open Bool renaming false->qk,true->qg
open Go renaming FuncId->qJ,Program->ql,Value->qd
open Go.IntKind renaming i64->qa,u64->qj
open Go.Stx.eh renaming cells->qi
open Go.Value renaming bool->qn,int->qb,map->qS,slice->qf,tuple->qA
open Option renaming none->qh,some->qc
namespace Go.Stx
open Go Go.Proofs
attribute [local irreducible] TW bI cM aV aB aL cU dh
section
namespace TKit
theorem nO [Gl] {A:AW} {L:List It} {T:Prop} (hS:aj A L) (hw:A.Wf) (h':(aW A L/\bz A L/\cd L)=T:=by first|(dsimp only [aa,ah,aW,bz,cd,ff];done)|exact rfl):T:=h'▸hS.eX hw
end TKit
open TKit
variable [Gl]
def mQ (a n:Int):Int:=q8.wrap a % n
theorem kN (a:Int):0<=q8.wrap a/\q8.wrap a<18446744073709551616:=by
 simp only [IntKind.wrap,IntKind.bits,IntKind.signed,Bool.false_and,Zg,if_false];omega
theorem iF (a n:Int) (hn:0<n):0<=mQ a n/\mQ a n<n:=⟨Int.emod_nonneg _ Ya,Int.emod_lt_of_pos _ hn⟩
theorem kv (a n:Int) (A:AW) (hn:0<n) (yt:n<=9223372036854775807) :
 aB qV 18 [qb qa a,qb qa n] A (λv A'=>v=qb qa (mQ a n)/\A=A'):=by
 refine aK Tryz.func18 λhw=>?_;have iZ:q8.wrap n=n:=an Ya Ya;have gZ:n≠0:=Ya
 obtain⟨h1,h2⟩:=kN a;obtain⟨h3,h4⟩:=iF a n hn;have hr:(q8.wrap a).tmod n=mQ a n:=Int.tmod_eq_emod_of_nonneg h1;have jE:IntKind.i64.wrap (mQ a n)=mQ a n:=af Ya Ya;refine W cx (J4 iZ gZ hr jE) ?_<;>intros;simp
end
section
namespace TCells
theorem nO [Gl] {A:AW} {L:List It} {T:Prop} (hS:aj A L) (hw:A.Wf) (h':(aW A L/\bz A L/\cd L)=T:=by first|(dsimp only [aa,ah,aW,bz,cd,ff];done)|exact rfl):T:=h'▸hS.eX hw
end TCells
open TCells
variable [Gl]
def zO (vs:Nat->qd) (a:Int):Option qd:=if 1<=a/\a<=8 then qc (vs (a-1).toNat) else qh
def fg (pb:Nat) (M:Nat->List Int):HP:=
 td λr:Nat=>td λvs:Nat->qd=>
  pt pb (qi [qS (qc r)] qg 1)*(il qa r (zO vs)*lZ (λk=>au qj (vs k) (M k)) 8)
theorem fg.open {A:AW} {pb:Nat} {M:Nat->List Int} {F:HP} (h:bB A (fg pb M*F)) :
 ∃r vs,bB A (pt pb (qi [qS (qc r)] qg 1)*(il qa r (zO vs)*(lZ (λk=>au qj (vs k) (M k)) 8*F))):=by
 unfold fg at h;rw [bB.ex] at h;obtain⟨r,h⟩:=h;rw [bB.ex] at h;obtain⟨vs,h⟩:=h;rw [HP.de,HP.de] at h;exact⟨r,vs,h⟩
theorem fg.dJ {A:AW} {pb:Nat} {M:Nat->List Int} {F:HP} {r:Nat} {vs:Nat->qd} (h:bB A (pt pb (qi [qS (qc r)] qg 1)*(il qa r (zO vs)*(lZ (λk=>au qj (vs k) (M k)) 8*F)))) :
 bB A (fg pb M*F):=by
 unfold fg;rw [bB.ex];refine⟨r,?_⟩;rw [bB.ex];refine⟨vs,?_⟩;rw [HP.de,HP.de];exact h
structure bh where
 fx:Int
 cell:Int
 cg:Int
 eY:Int
 put:Int
 done:Bool
deriving DecidableEq
def bh.v (a:bh):qd:=.agg #[qb qa a.fx,qb qa a.cell,qb qa a.cg,qb qj a.eY,qb qj a.put,qn a.done]
def bh.cells (a:bh):List qd:=[qb qa a.fx,qb qa a.cell,qb qa a.cg,qb qj a.eY,qb qj a.put,qn a.done]
def bh.zero:bh:=⟨0,0,0,0,0,qk⟩
def eQ (M:Nat->List Int) (cell:Int):List Int:=if 1<=cell/\cell<=8 then M (cell-1).toNat else []
def setRow (M:Nat->List Int) (cell cg v:Int):Nat->List Int:=λk=>if k=(cell-1).toNat then (M k).set cg.toNat v else M k
def dl (M:Nat->List Int) (cell cg:Int):Bool:=decide (0<=cg/\cg<(eQ M cell).length)
def eR (M:Nat->List Int) (fx cell cg:Int) (g:Int->Int×Bool):bh:=
 if dl M cell cg=qg then
  let eY:=(eQ M cell).getD cg.toNat 0
  ⟨fx,cell,cg,eY,if (g eY).2=qg then (g eY).1 else eY,(g eY).2⟩
 else bh.zero
def rS (M:Nat->List Int) (cell cg:Int):Int:=if dl M cell cg=qg then 0 else 60
def opV (M:Nat->List Int) (fx cell cg:Int) (g:Int->Int×Bool):qd:=qA #[(eR M fx cell cg g).v,qb qa (rS M cell cg)]
def kL (M:Nat->List Int) (cell cg:Int) (g:Int->Int×Bool):Nat->List Int:=
 if dl M cell cg=qg/\(g ((eQ M cell).getD cg.toNat 0)).2=qg then setRow M cell cg (g ((eQ M cell).getD cg.toNat 0)).1 else M
def bn:List qd:=[qb qa 0,qb qa 0,qb qa 0,qb qj 0,qb qj 0,qn qk]
theorem r9 (pb:Nat) (M:Nat->List Int) (fx cell cg:Int) (fc:qJ) (fs cs:Array qd) (C:HP) (g:Int->Int×Bool)
 (lh:∀ey,oR qV fc (fs.toList++qb qj ey::cs.toList) C (λv=>BH (v=qA #[qb qj (g ey).1,qn (g ey).2])*C)) :
 oR qV 195 [.pointer (qc ⟨pb,0,qh⟩),qb qa fx,qb qa cell,qb qa cg,.func (.func fc) fs cs] (fg pb M*C)
  (λv=>BH (v=opV M fx cell cg g)*(fg pb (kL M cell cg g)*C)):=by
 intro A F Mo hS;refine aK Tryz.func195 λhw=>?_;rw [HP.de] at hS;obtain⟨r,vs,hS⟩:=fg.open hS;have hgp:=hS.bk;have lO:bB A (il qa r (zO vs)*(pt pb (qi [qS (qc r)] qg 1)*(lZ (λk=>au qj (vs k) (M k)) 8*(C*F)))):=hS.dD Yd;obtain⟨tI,zY,xA,NP,Av,hback⟩:=il.eX lO;obtain⟨np,np'⟩:=hw.ey hgp;obtain⟨nr,nr'⟩:=hw.ey zY;by_cases hcell:1<=cell/\cell<=8
 . obtain⟨k,hk⟩:∃k,k=(cell-1).toNat:=⟨_,rfl⟩;have bO:eQ M cell=M k:=(by rw [hk];exact ay hcell);have Em:=xA qa cell (vs k) (by simp [zO,hcell,hk]);obtain⟨q,Em⟩:=Em;have hk8:k<8:=Ya
   have Ab:bB A (au qj (vs k) (M k)*(lZ (uA (λk=>au qj (vs k) (M k)) k fl) 8*(pt pb (qi [qS (qc r)] qg 1)*(il qa r (zO vs)*(C*F))))):=
    bB.pick (f:=λk=>au qj (vs k) (M k)) (F:=pt pb (qi [qS (qc r)] qg 1)*(il qa r (zO vs)*(C*F))) (hS.dD Yd) hk8
   by_cases wZ:0<=cg/\cg<(M k).length
   . have hyes:dl M cell cg=qg:=by simpa [dl,bO] using wZ
     obtain⟨j,hj⟩:∃j,j=cg.toNat:=⟨_,rfl⟩;have zG:j<(M k).length:=Ya;have hidx:cg=(j:Int):=Ya;subst hidx;have hjl':(j:Int)<(M k).length:=Ya;obtain⟨b,off,c,bS,hv,hc0,At,hcb,pf,_⟩:=au.at Ab zG;rw [hv] at Em;have EW:(eQ M cell).getD (j:Int).toNat 0=(M k)[j]:=(by rw [bO,<-hj,Za,q9 zG];rfl);obtain⟨nb,nb'⟩:=hw.ey At;revert hS hw;clear hS;refine W cx (y9 hgp zY At hcb Em np np' nr nr' nb nb' hjl' zG bC) ?_<;>(unhygienic intros)
     have js:bB (A.alloc (qi bn qg 1)) (C*(pt A.next (qi bn qg 1)*(au qj (vs k) (M k)*(lZ (uA (λk=>au qj (vs k) (M k)) k fl) 8*(pt pb (qi [qS (qc r)] qg 1)*(il qa r (zO vs)*F)))))):=
      (Ab.alloc hw _).dD Yd
     refine(lh _).use (hw.alloc _) js rfl ?_;intro v A2 BK jE _;obtain⟨rfl,w6⟩:=BK.rB;clear BK;have Av:bB A2 (au qj (vs k) (M k)*(pt A.next (qi bn qg 1)*(C*(lZ (uA (λk=>au qj (vs k) (M k)) k fl) 8*(pt pb (qi [qS (qc r)] qg 1)*(il qa r (zO vs)*F)))))):=w6.dD Yd;have hgx:=(show bB A2 (pt A.next (qi bn qg 1)*(au qj (vs k) (M k)*(C*(lZ (uA (λk=>au qj (vs k) (M k)) k fl) 8*(pt pb (qi [qS (qc r)] qg 1)*(il qa r (zO vs)*F)))))) from w6.dD Yd).bk;clear At hcb pf;obtain⟨b',off',c',U9,hv',_,At,hcb,pf,jx⟩:=au.at Av zG;rw [hv] at hv';injection hv' with e1 e2 e3;injection e1 with e1;injection e1 with e1 e4;subst e1;subst e4;subst e3;have gZ:(b=A.next)=False:=nb;have hne':(A.next=b)=False:=eq_false λe=>by rw [e] at gZ;simp at gZ
     have bX:∀(A3:AW) (L:List Int) (x:eh),bB A3 (au qj (vs k) L*(pt A.next (qi bn qg 1)*(C*(lZ (uA (λk=>au qj (vs k) (M k)) k fl) 8*(pt pb (qi [qS (qc r)] qg 1)*(il qa r (zO vs)*F))))))->
      bB (A3.set A.next (qc x)) (fg pb (λq=>if q=k then L else M q)*(C*F)):=by
      intro A3 L x h;have h1:bB A3 (pt A.next (qi bn qg 1)*(au qj (vs k) L*(lZ (uA (λk=>au qj (vs k) (M k)) k fl) 8*(pt pb (qi [qS (qc r)] qg 1)*(il qa r (zO vs)*(C*F)))))):=h.dD Yd;have h2:=bB.put (f:=λk=>au qj (vs k) (M k)) (h1.set x).right hk8;have e:uA (λk=>au qj (vs k) (M k)) k (au qj (vs k) L)=λq=>au qj (vs q) (if q=k then L else M q):=by
       funext q;simp only [uA];split;rename_i e;rw [e];rfl
      rw [e] at h2;exact fg.dJ (r:=r) (vs:=vs) (h2.dD Yd)
     have hbnd:off+j+1<=U9.length:=Ya;have nq:opV M fx cell (j:Int) g=qA #[(bh.mk fx cell j (M k)[j] (if (g (M k)[j]).2=qg then (g (M k)[j]).1 else (M k)[j]) (g (M k)[j]).2).v,qb qa 0]:=by
      unfold opV eR rS;rw [ay hyes,ay hyes,EW]
     cases BJ:(g (M k)[j]).2
     . repeat' (first|(refine iT λR hR=>?_;simp [hgx,At,hcb,AW.ab,aG,hjl',bn];try simp (disch:=omega) only [ay,aw,af,an])|(refine hR _ _ ?_;clear hR R)|(refine hK _ _ ?_;clear hK K)|refine nx ?_|refine wn λK hK=>?_|simp only [wS]|(show cM _ _ _ _ _ _;refine nx ?_)|(refine wc rfl (λhc=>?_) (λhc=>?_)<;>(try simp at hc)))
       refine⟨_,by simp [AW.ab];rfl,bB.post (by simp [nq,bh.v,BJ]) ?_⟩;have hM:kL M cell (j:Int) g=λq=>if q=k then M k else M q:=by
        funext q;simp only [kL,EW,BJ];simp only [Zg,and_false,if_false];split;rename_i e;rw [e];rfl
       rw [hM,HP.de];exact bX A2 (M k) _ Av
     have hcb':(U9.set (off+j) (Value.int qj (g (M k)[j]).1))[off+j]? = qc (Value.int qj (g (M k)[j]).1):=ZV Ya;refine W cx (vZ hgx At hcb hcb' gZ hne' hbnd hjl' zG BJ bC @bn.eq_1) ?_<;>intros;refine⟨_,by simp [AW.ab];rfl,bB.post (by simp [nq,bh.v,BJ]) ?_⟩;have hM:kL M cell (j:Int) g=λq=>if q=k then (M k).set j (g (M k)[j]).1 else M q:=by
      have e0:kL M cell (j:Int) g=setRow M cell j (g (M k)[j]).1:=(by unfold kL;rw [EW,ay ⟨hyes,BJ⟩]);rw [e0];funext q;simp only [setRow,<-hk,<-hj];by_cases e:q=k;rw [ay e,ay e,e];rw [aw e,aw e]
     rw [hM,HP.de];exact bX _ _ _ (jx _)
   obtain⟨o,c,hv,_⟩:=(au.is Ab).bR;rw [hv] at Em;have zW:dl M cell cg=qk:=by simpa [dl,bO] using wZ
   repeat' (first|(refine iT λR hR=>?_;simp [hgp,zY,Em,np,nr,AW.ab,aG];try simp (disch:=omega) only [ay,aw])|(refine hR _ _ ?_;clear hR R)|(refine hK _ _ ?_;clear hK K)|refine nx ?_|refine wn λK hK=>?_|simp only [wS]|(show cM _ _ _ _ _ _;refine nx ?_)|(refine wc rfl (λhc=>?_) (λhc=>?_)<;>(try simp at hc)<;>(try omega))|(refine ib (λhc=>?_) (λhc=>?_)))
   all_goals
    refine⟨_,by simp [AW.ab];rfl,bB.post (by simp [opV,eR,rS,zW,bh.v,bh.zero]) ?_⟩;have hM:kL M cell cg g=M:=(by simp [kL,zW]);rw [hM,HP.de];exact(fg.dJ hS).le hw (((qW A _).set (qZ _) _))
 have Em:=NP qa cell (by simp [zO,hcell]);have bO:eQ M cell=[]:=aw hcell;have zW:dl M cell cg=qk:=by simp [dl,bO]
 repeat' (first|(refine iT λR hR=>?_;simp [hgp,zY,Em,np,nr,AW.ab,aG];try simp (disch:=omega) only [ay,aw])|(refine hR _ _ ?_;clear hR R)|(refine hK _ _ ?_;clear hK K)|refine nx ?_|refine wn λK hK=>?_|simp only [wS]|(show cM _ _ _ _ _ _;refine nx ?_)|(refine wc rfl (λhc=>?_) (λhc=>?_)<;>(try simp at hc)<;>(try omega))|(refine ib (λhc=>?_) (λhc=>?_)))
 all_goals first
  | (exfalso;omega)
  | (refine ⟨_,(by simp [AW.ab];rfl),bB.post (by simp [opV,eR,rS,zW,bh.v,bh.zero]) ?_⟩
     have hM:kL M cell cg g=M:=(by simp [kL,zW]);rw [hM,HP.de];exact(fg.dJ hS).le hw (((qW A _).set (qZ _) _)))
end
section
namespace TCfg
theorem nO [Gl] {A:AW} {L:List It} {T:Prop} (hS:aj A L) (hw:A.Wf) (h':(aW A L/\bz A L/\cd L)=T:=by first|(dsimp only [aa,ah,aW,bz,cd,ff];done)|exact rfl):T:=h'▸hS.eX hw
end TCfg
open TCfg
variable [Gl]
structure aY where
 bg:Int
 av:Int
 base:Int
 c0:Int
 c1:Int
 c2:Int
 c3:Int
 reads:Int
 bU:Int
 ar:Int
 aA:Int
 aC:Int
 bd:Bool
def aY.v (c:aY):qd:=.agg #[qb qa c.bg,qb qa c.av,qb qa c.base,qb qa c.c0,qb qa c.c1,qb qa c.c2,qb qa c.c3,qb qa c.reads,qb qa c.bU,qb qa c.ar,qb qa c.aA,qb qa c.aC,qn c.bd]
def aY.cells (c:aY):List qd:=[qb qa c.bg,qb qa c.av,qb qa c.base,qb qa c.c0,qb qa c.c1,qb qa c.c2,qb qa c.c3,qb qa c.reads,qb qa c.bU,qb qa c.ar,qb qa c.aA,qb qa c.aC,qn c.bd]
def aY.nb (c:aY):Int:=c.c0+c.c1+c.c2+c.c3
def aY.hw (c:aY):Int:=c.c0+c.c1*2+c.c2*4+c.c3*8
structure da (c:aY):Prop where
 bg:1<=c.bg/\c.bg<=64
 av:1<=c.av/\c.av<=64
 k0:0<=c.c0/\c.c0<=64
 k1:0<=c.c1/\c.c1<=64
 k2:0<=c.c2/\c.c2<=64
 k3:0<=c.c3/\c.c3<=64
 nb:c.nb<=64
 base:0<=c.base/\c.base<=c.bg
 WK:c.hw<=c.bg-c.base
 reads:1<=c.reads/\c.reads<=32
 bU:1<=c.bU/\c.bU<=32
 ar:0<=c.ar/\c.ar<=8
 aA:0<=c.aA/\c.aA<=8
 aC:0<=c.aC/\c.aC<=1099511627776
theorem MC (n lo hi:Int) (A:AW):aB qV 82 [qb qa n,qb qa lo,qb qa hi] A (λv A'=>v=qn (decide (lo<=n/\n<=hi))/\A=A'):=by
 refine aK Tryz.func82 λ_=>?_;refine W cx cx (J2 ?_ ?_)<;>intros
 all_goals(simp_all<;>omega)
end
section
variable [Gl]
inductive aE:List It->It->List It->Prop where
 | z {x:It} {L:List It}:aE (x::L) x L
 | s {x y:It} {L K:List It}:aE L x K->aE (y::L) x (y::K)
 | e {x y:It} {L:List It}:x.hp=y.hp->aE (x::L) y L
inductive bf:List It->List It->List It->Prop where
 | z {L:List It}:bf L [] L
 | s {x:It} {L M J K:List It}:aE L x M->bf M J K->bf L (x::J) K
theorem aE.aO {L K:List It} {x:It} (h:aE L x K):aO L=x.hp*aO K:=by
 induction h with
 | z=>rfl
 | e h=>
   rename_i x y L;show x.hp*Stx.aO L=y.hp*Stx.aO L;rw [h]
 | s h ih=>
   rename_i x y L K;show y.hp*Stx.aO L=x.hp*(y.hp*Stx.aO K);rw [ih];ac_rfl
theorem bf.aO {L J K:List It} (h:bf L J K):aO L=aO J*aO K:=by
 induction h with
 | z=>rename_i L;show Stx.aO L=fl*Stx.aO L;rw [jf]
 | s h1 h2 ih=>
   rename_i x L M J K;rw [h1.aO,ih];show x.hp*(Stx.aO J*Stx.aO K)=x.hp*Stx.aO J*Stx.aO K
   ac_rfl
theorem aE.Ml {b:Nat} {o o':eh} {L:List It} (h:o=o'):aE (.at b o::L) (.at b o') L:=by rw [h];exact .z
theorem bx.fM {P:ql} {f:qJ} {args:List qd} {sG:List It} {φ:qd->Prop} {post:qd->List It} (h:bx P f args sG φ post) {A:AW} {L K:List It} {k:qd->AW->Prop} (hw:A.Wf) (hS:aj A L) (e:bf L sG K)
 (hk:∀v A',φ v->aj A' (post v++K)->A'.Wf->A.next<=A'.next->k v A'):aB P f args A k:=by
 have rk:aj A (sG++[.h (Stx.aO K)]):=by
  unfold aj at *;rw [e.aO] at hS;rw [gG];show bB A (Stx.aO sG*(Stx.aO K*fl));rw [dH];exact hS
 refine bD (h A (Stx.aO K) hw rk) ?_;rintro v A' ⟨h1,h2⟩ jN hn;refine hk v A' h1 ?_ jN hn;unfold aj at *;rw [gG] at h2 ⊢;have h3:bB A' (Stx.aO (post v)*(Stx.aO K*fl)):=h2;rwa [dH] at h3
def eI {ι:Type} (P:ql) (f:qJ) (args:List qd) (sG:List It) (φ:ι->qd->Prop) (post:ι->List It):Prop:=
 ∀(A:AW) (F:HP),A.Wf->aj A (sG++[.h F])->aB P f args A λv A'=>∃x,φ x v/\aj A' (post x++[.h F])
theorem eI.fM {ι:Type} {P:ql} {f:qJ} {args:List qd} {sG:List It} {φ:ι->qd->Prop} {post:ι->List It} (h:eI P f args sG φ post) {A:AW} {L K:List It} {k:qd->AW->Prop} (hw:A.Wf) (hS:aj A L) (e:bf L sG K)
 (hk:∀x v A',φ x v->aj A' (post x++K)->A'.Wf->A.next<=A'.next->k v A'):aB P f args A k:=by
 have rk:aj A (sG++[.h (aO K)]):=by
  unfold aj at *;rw [e.aO] at hS;rw [gG];show bB A (aO sG*(aO K*fl));rw [dH];exact hS
 refine bD (h A (aO K) hw rk) ?_;rintro v A' ⟨x,h1,h2⟩ jN hn;refine hk x v A' h1 ?_ jN hn;unfold aj at *;rw [gG] at h2 ⊢;have h3:bB A' (aO (post x)*(aO K*fl)):=h2;rwa [dH] at h3
theorem aj.bX {A:AW} {L G K:List It} (h:aj A L) (e:bf L G K):aj A G:=by
 unfold aj at *;rw [e.aO] at h;exact h.left
theorem aj.gX {A:AW} {L K:List It} {i:Nat} {o o':eh} (h:aj A L) (e:aE L (.at i o) K):aj (A.set i (qc o')) (.at i o'::K):=by
 unfold aj at *;rw [e.aO] at h;exact bB.set h o'
theorem aj.allocR {A:AW} {L:List It} {o:eh} (h:aj A L) (hw:A.Wf):aj (A.alloc o) (.at A.next o::L):=h.alloc hw o
theorem aj.ltR {A X:AW} {L K:List It} {i:Nat} {o:eh} (h:aj A L) (hw:A.Wf) (e:aE L (.at i o) K) (hl:A.next<=X.next):i<X.next:=by
 unfold aj at h;rw [e.aO] at h;exact Nat.lt_of_lt_of_le (hw.lt (bB.bk h)) hl
theorem wA {A:AW} (h':A.Wf:=by first|((repeat' (first|assumption|apply AW.Wf.alloc|apply AW.Wf.set|exact Nat.le_refl _|(simp only [AW.be,AW.lC];omega)|apply aj.ltR hS hw|apply aE.z|apply aE.s));done)|fail):A.Wf:=h'
theorem sA {A:AW} {L:List It} (h':aj A L:=by first|((repeat' (first|exact hS|exact Nat.le_refl _|with_reducible apply aj.gX|with_reducible apply aj.QX|with_reducible apply AW.Gp|with_reducible apply AW.Pv|with_reducible apply aj.allocR|with_reducible apply aE.z|with_reducible apply aE.s|assumption|apply AW.Wf.alloc|apply AW.Wf.set|(simp only [AW.be,AW.lC];omega)|apply aj.ltR hS hw|exact rfl));done)|fail):aj A L:=h'
theorem pA {L G K:List It} (h':bf L G K:=by first|((repeat' (first|apply bf.z|apply bf.s|apply aE.z|apply aE.s));done)|fail):bf L G K:=h'
theorem kA {L K:List It} {x:It} (h':aE L x K:=by first|((repeat' (first|apply bf.z|apply bf.s|apply aE.z|apply aE.s));done)|fail):aE L x K:=h'
theorem lA {A:AW} {L L':List It} (h:aj A L) (h':L=L':=by first|(dsimp only [AW.be,aa,ah];done)|exact rfl):aj A L':=h'▸h
namespace T0
theorem nO [Gl] {A:AW} {L:List It} {T:Prop} (hS:aj A L) (hw:A.Wf) (h':(aW A L/\bz A L/\cd L)=T:=by first|(dsimp only [aa,ah,aW,bz,cd,ff,ei,iQ,kO,oZ,iR,jw];done)|exact rfl):T:=h'▸hS.eX hw
end T0
theorem NM [Gl] {A:AW} {L:List It} {T:Prop} (hS:aj A L) (hw:A.Wf) (h':(aW A L/\bz A L/\cd L)=T:=by first|(dsimp only [aa,ah,ei,aW,bz,cd,ff,iQ,kO,oZ,iR,jw];done)|exact rfl):T:=h'▸hS.eX hw
namespace T2
theorem nO [Gl] {A:AW} {L:List It} {T:Prop} (hS:aj A L) (hw:A.Wf) (h':(aW A L/\bz A L/\cd L)=T:=by first|(dsimp only [aa,ah,aW,bz,cd,ff,ei];done)|exact rfl):T:=h'▸hS.eX hw
end T2
theorem gI [Gl] {A:AW} {L:List It} {T:Prop} (hS:aj A L) (hw:A.Wf) (h':(aW A L/\bz A L/\cd L)=T:=by first|(dsimp only [aa,ah,ei,aW,bz,cd,ff];done)|exact rfl):T:=h'▸hS.eX hw
namespace T4
theorem nO [Gl] {A:AW} {L:List It} {T:Prop} (hS:aj A L) (hw:A.Wf) (h':(aW A L/\bz A L/\cd L)=T:=by first|(dsimp only [aa,ah,aW,bz,cd,ff,wB,rCheckO];done)|exact rfl):T:=h'▸hS.eX hw
end T4
namespace T5
theorem nO [Gl] {A:AW} {L:List It} {T:Prop} (hS:aj A L) (hw:A.Wf) (h':(aW A L/\bz A L/\cd L)=T:=by first|(dsimp only [aa,ah,aW,bz,cd,ff,xZ];done)|exact rfl):T:=h'▸hS.eX hw
end T5
namespace T6
theorem nO [Gl] {A:AW} {L:List It} {T:Prop} (hS:aj A L) (hw:A.Wf) (h':(aW A L/\bz A L/\cd L)=T:=by first|(dsimp only [aa,ah,aW,bz,cd,ff,mD];done)|exact rfl):T:=h'▸hS.eX hw
end T6
namespace T7
theorem nO [Gl] {A:AW} {L:List It} {T:Prop} (hS:aj A L) (hw:A.Wf) (h':(aW A L/\bz A L/\cd L)=T:=by first|(dsimp only [aa,ah,aW,bz,cd,ff];done)|exact rfl):T:=h'▸hS.eX hw
end T7
theorem hqx8 [Gl] {A:AW} {L:List It} {T:Prop} (hS:aj A L) (hw:A.Wf) (h':(aW A L/\bz A L/\cd L)=T:=by first|(dsimp only [aa,ah,aW,bz,cd,ff,mD];done)|exact rfl):T:=h'▸hS.eX hw
theorem gh [Gl] {A:AW} {L:List It} {T:Prop} (hS:aj A L) (hw:A.Wf) (h':(aW A L/\bz A L/\cd L)=T:=by first|(dsimp only [aa,ah,aW,bz,cd,ff];done)|exact rfl):T:=h'▸hS.eX hw
namespace T10
theorem nO [Gl] {A:AW} {L:List It} {T:Prop} (hS:aj A L) (hw:A.Wf) (h':(aW A L/\bz A L/\cd L)=T:=by first|(dsimp only [aa,ah,aW,bz,cd,ff,wB,rEnterO,rTurnO,rPopO,rPushO,rReadO];done)|exact rfl):T:=h'▸hS.eX hw
end T10
namespace T11
theorem nO [Gl] {A:AW} {L:List It} {T:Prop} (hS:aj A L) (hw:A.Wf) (h':(aW A L/\bz A L/\cd L)=T:=by first|(dsimp only [aa,ah,aW,bz,cd,ff,wB];done)|exact rfl):T:=h'▸hS.eX hw
end T11
namespace T12
theorem nO [Gl] {A:AW} {L:List It} {T:Prop} (hS:aj A L) (hw:A.Wf) (h':(aW A L/\bz A L/\cd L)=T:=by first|(dsimp only [aa,ah,aW,bz,cd,ff,xI,iQ,kO,oZ,iR,jw];done)|exact rfl):T:=h'▸hS.eX hw
end T12
namespace T13
theorem hqO [Gl] {A:AW} {L:List It} {T:Prop} (hS:aj A L) (hw:A.Wf) (h':(aW A L/\bz A L/\cd L)=T:=by first|(dsimp only [aa,ah,aW,bz,cd,ff,xI,sX,nD,tz,AV,nG,nA,jQ,sY,sP,AK,sQ];done)|exact rfl):T:=h'▸hS.eX hw
end T13
theorem RI [Gl] {A:AW} {L:List It} {T:Prop} (hS:aj A L) (hw:A.Wf) (h':(aW A L/\bz A L/\cd L)=T:=by first|(dsimp only [aa,ah,aW,bz,cd,ff,xI];done)|exact rfl):T:=h'▸hS.eX hw
theorem JL [Gl] {A:AW} {L:List It} {T:Prop} (hS:aj A L) (hw:A.Wf) (h':(aW A L/\bz A L/\cd L)=T:=by first|(dsimp only [aa,ah,aW,bz,cd,ff,xI,iQ,kO,oZ,iR,jw];done)|exact rfl):T:=h'▸hS.eX hw
theorem fv [Gl] {A:AW} {L:List It} {T:Prop} (hS:aj A L) (hw:A.Wf) (h':(aW A L/\bz A L/\cd L)=T:=by first|(dsimp only [aa,ah,aW,bz,cd,ff,xI,sX,nD,tz,AV,nG,nA,jQ,sY,sP,AK,sQ];done)|exact rfl):T:=h'▸hS.eX hw
namespace T17
theorem nO [Gl] {A:AW} {L:List It} {T:Prop} (hS:aj A L) (hw:A.Wf) (h':(aW A L/\bz A L/\cd L)=T:=by first|(dsimp only [aa,ah,aW,bz,cd,ff,xI,iQ,kO,oZ,iR,jw,ei];done)|exact rfl):T:=h'▸hS.eX hw
end T17
theorem El [Gl] {A:AW} {L:List It} {T:Prop} (hS:aj A L) (hw:A.Wf) (h':(aW A L/\bz A L/\cd L)=T:=by first|(dsimp only [aa,ah,aW,bz,cd,ff,xI,iQ,kO,oZ,iR,jw,ei];done)|exact rfl):T:=h'▸hS.eX hw
theorem gD [Gl] {A:AW} {L:List It} {T:Prop} (hS:aj A L) (hw:A.Wf) (h':(aW A L/\bz A L/\cd L)=T:=by first|(dsimp only [aa,ah,ei,aW,bz,cd,ff,xI,sX,nD,tz,AV,nG,nA,jQ,sY,sP,AK,sQ];done)|exact rfl):T:=h'▸hS.eX hw
namespace T20
theorem nO [Gl] {A:AW} {L:List It} {T:Prop} (hS:aj A L) (hw:A.Wf) (h':(aW A L/\bz A L/\cd L)=T:=by first|(dsimp only [aa,ah,aW,bz,cd,ff,xI,iQ,kO,oZ,iR,jw,ei,sX,nD,tz,AV,nG,nA,jQ,sY,sP,AK,sQ];done)|exact rfl):T:=h'▸hS.eX hw
end T20
theorem hqx21 [Gl] {A:AW} {L:List It} {T:Prop} (hS:aj A L) (hw:A.Wf) (h':(aW A L/\bz A L/\cd L)=T:=by first|(dsimp only [aa,ah,aW,bz,cd,ff,xI,iQ,kO,oZ,iR,jw,ei,sX,nD,tz,AV,nG,nA,jQ,sY,sP,AK,sQ];done)|exact rfl):T:=h'▸hS.eX hw
namespace T22
theorem nO [Gl] {A:AW} {L:List It} {T:Prop} (hS:aj A L) (hw:A.Wf) (h':(aW A L/\bz A L/\cd L)=T:=by first|(dsimp only [aa,ah,aW,bz,cd,ff,Dm,Hx];done)|exact rfl):T:=h'▸hS.eX hw
end T22
namespace T24
theorem nO [Gl] {A:AW} {L:List It} {T:Prop} (hS:aj A L) (hw:A.Wf) (h':(aW A L/\bz A L/\cd L)=T:=by first|(dsimp only [aa,ah,aW,bz,cd,ff,ei,vM];done)|exact rfl):T:=h'▸hS.eX hw
end T24
theorem rV [Gl] {A:AW} {L:List It} {T:Prop} (hS:aj A L) (hw:A.Wf) (h':(aW A L/\bz A L/\cd L)=T:=by first|(dsimp only [aa,ah,ei,aW,bz,cd,ff,vM];done)|exact rfl):T:=h'▸hS.eX hw
namespace T26
theorem nO [Gl] {A:AW} {L:List It} {T:Prop} (hS:aj A L) (hw:A.Wf) (h':(aW A L/\bz A L/\cd L)=T:=by first|(dsimp only [aa,ah,aW,bz,cd,ff,ei,VR,iR];done)|exact rfl):T:=h'▸hS.eX hw
end T26
theorem Cv [Gl] {A:AW} {L:List It} {T:Prop} (hS:aj A L) (hw:A.Wf) (h':(aW A L/\bz A L/\cd L)=T:=by first|(dsimp only [aa,ah,ei,aW,bz,cd,ff,VR,iR];done)|exact rfl):T:=h'▸hS.eX hw
end
section
variable [Gl]
structure uU where
 eV:Nat
 bZ:List Int
 fU:List Int
 index:List Int
def yG (l:List Int) (a:Int):Option Nat:=l.findIdx? (·== a)
def mM (n:Nat) (a:Int):Nat:=(a.toNat % n*5) % n
def ix (index:List Int) (k:Nat):Int:=index.getD k (-1)
def Fl (index:List Int):Nat->Nat->Nat
 | 0,k=>k
 | f+1,k=>if ix index k<0 then k else Fl index f ((k+1) % index.length)
def CI (index:List Int) (k:Nat):Nat:=Fl index index.length k
def gu (s:uU) (a v:Int):Bool×uU:=match yG s.bZ a with
 | some e=>(qg,{ s with fU:=s.fU.set e v })
 | none=>if s.bZ.length=s.eV then (qk,s) else
   (qg,{ s with bZ:=s.bZ++[a],fU:=s.fU++[v],index:=s.index.set (CI s.index (mM s.index.length a)) s.bZ.length })
def mn (s:uU) (a:Int):Int×Bool:=match yG s.bZ a with
 | some e=>(s.fU.getD e 0,qg)
 | none=>(0,qk)
theorem w7 {l:List Int} {a:Int} {e:Nat} (h:yG l a=qc e):e<l.length/\l.getD e 0=a/\∀j,j<e->l.getD j 0≠a:=by
 unfold yG at h;rw [List.findIdx?_eq_some_iff_getElem] at h;obtain⟨h1,h2,h3⟩:=h;refine⟨h1,?_,λj hj=>?_⟩;rw [Za,q9 h1];simpa using h2;have:=h3 j hj;rw [Za,q9 Ya]
 simpa using this
theorem Hf {l:List Int} {a:Int} (h:yG l a=qh):∀j,j<l.length->l.getD j 0≠a:=by
 unfold yG at h;rw [List.findIdx?_eq_none_iff] at h;intro j hj;have:=h l[j] (List.getElem_mem hj);rw [Za,q9 hj]
 simpa using this
def yH (index:List Int):Nat:=index.countP (λx=>decide (0<=x))
def st (n k d:Nat):Nat:=(k+d) % n
structure ry (s:uU):Prop where
 PN:s.fU.length=s.bZ.length
 eV:s.bZ.length<=s.eV
 Va:s.eV<s.index.length
 pos:∀a∈s.bZ,0<=a
 rng:∀k,k<s.index.length->ix s.index k<s.bZ.length
 fill:yH s.index=s.bZ.length
 way:∀e,e<s.bZ.length->∃d,d<s.index.length/\ix s.index (st s.index.length (mM s.index.length (s.bZ.getD e 0)) d)=e/\
  ∀d',d'<d->0<=ix s.index (st s.index.length (mM s.index.length (s.bZ.getD e 0)) d')/\ix s.index (st s.index.length (mM s.index.length (s.bZ.getD e 0)) d')≠e
 dist:∀i j,i<s.bZ.length->j<s.bZ.length->s.bZ.getD i 0=s.bZ.getD j 0->i=j
theorem Oc {index:List Int} (h:∀k,k<index.length->0<=ix index k):yH index=index.length:=by
 unfold yH;rw [List.countP_eq_length];intro x hx;obtain⟨k,hk,rfl⟩:=List.getElem_of_mem hx;have:=h k hk;unfold ix at this;rw [Za,q9 hk] at this
 simpa using this
theorem ry.mr {s:uU} (h:ry s):∃k,k<s.index.length/\ix s.index k<0:=by
 apply kbu;intro hn;have kU:∀k,k<s.index.length->0<=ix s.index k:=λk hk=>by
  apply kbu;intro h1;exact hn ⟨k,hk,by omega⟩
 have h1:=Oc kU;have h2:=h.fill;have h3:=h.eV;have h4:=h.Va;omega
theorem KE {n k d:Nat} (hn:0<n):st n ((k+1) % n) d=st n k (d+1):=by
 unfold st;rw [Nat.mod_add_mod];congr 1;omega
theorem E6 {n k:Nat} (hk:k<n):st n k 0=k:=by
 unfold st;rw [Nat.add_zero,kby hk]
theorem D3 {n k d:Nat} (hn:0<n):st n k d<n:=Nat.mod_lt _ hn
theorem U1 {n k j:Nat} (hk:k<n) (hj:j<n):∃d,d<n/\st n k d=j:=by
 by_cases h:k<=j;exact⟨j-k,by omega,by unfold st;rw [show k+(j-k)=j by omega,kby hj]⟩;refine⟨n+j-k,by omega,?_⟩;unfold st;rw [show k+(n+j-k)=j+n by omega,Nat.add_mod_right,kby hj]
theorem ry.first {s:uU} (h:ry s) {k:Nat} (hk:k<s.index.length):∃d,d<s.index.length/\ix s.index (st s.index.length k d)<0/\∀d',d'<d->0<=ix s.index (st s.index.length k d'):=by
 obtain⟨j,hj,NQ⟩:=h.mr;obtain⟨d0,xC,he⟩:=U1 hk hj;have key:∀n,(∃d,d<=n/\ix s.index (st s.index.length k d)<0)->∃d,d<=n/\ix s.index (st s.index.length k d)<0/\∀d',d'<d->0<=ix s.index (st s.index.length k d'):=by
  intro n
  induction n with
  | zero=>
    rintro ⟨d,hd,h1⟩;exact⟨d,hd,h1,λd' G0=>by omega⟩
  | succ n ih=>
    rintro ⟨d,hd,h1⟩;by_cases td:∃d,d<=n/\ix s.index (st s.index.length k d)<0;obtain⟨d2,h2,h3⟩:=ih td;exact⟨d2,by omega,h3⟩;refine⟨d,hd,h1,λd' G0=>?_⟩;apply kbu;intro h4;exact td ⟨d',by omega,by omega⟩
 obtain⟨d,h1,h2,h3⟩:=key d0 ⟨d0,qZ _,by rw [he];exact NQ⟩;exact⟨d,by omega,h2,h3⟩
theorem CJ (index:List Int):∀(f k d:Nat),k<index.length->d<=f->ix index (st index.length k d)<0->(∀d',d'<d->0<=ix index (st index.length k d'))->Fl index f k=st index.length k d
 | 0,k,d,hk,hd,h1,h2=>by
   have:d=0:=Ya
   subst this;rw [E6 hk];rfl
 | f+1,k,d,hk,hd,h1,h2=>by
   unfold Fl;cases d with
   | zero=>
     rw [E6 hk] at h1 ⊢;rw [ay h1]
   | succ d=>
     have h0:=h2 0 Ya;rw [E6 hk] at h0;rw [aw Ya];have hn:0<index.length:=Ya;rw [CJ index f ((k+1) % index.length) d (Nat.mod_lt _ hn) Ya (by rw [KE hn];exact h1) (λd' G0=>by rw [KE hn];exact h2 _ Ya),KE hn]
theorem AA {s:uU} (h:ry s) {k d:Nat} (hk:k<s.index.length) (hd:d<s.index.length) (h1:ix s.index (st s.index.length k d)<0) (h2:∀d',d'<d->0<=ix s.index (st s.index.length k d')) :
 CI s.index k=st s.index.length k d:=CJ _ _ _ _ hk Ya h1 h2
theorem G5 {n:Nat} (hn:0<n) (a:Int):mM n a<n:=Nat.mod_lt _ hn
theorem GG {index:List Int} {p:Nat} (hp:p<index.length) (x:Int) (k:Nat):ix (index.set p x) k=if k=p then x else ix index k:=by
 unfold ix;by_cases e:k=p;subst e;rw [ay rfl,Za,ZV hp];rfl;rw [aw e,Za,List.getElem?_set_ne (Ne.symm e),<-Za]
theorem Hg:∀{index:List Int} {p:Nat} (hp:p<index.length) {x:Int},0<=x->ix index p<0->yH (index.set p x)=yH index+1
 | [],p,hp,_,_,_=>by simp at hp
 | y::l,0,hp,x,hx,h=>by
   have h':y<0:=h;have e1:decide (0<=x)=qg:=by simpa using hx
   have e2:decide (0<=y)=qk:=Yg;simp [yH,e1,e2]
 | y::l,p+1,hp,x,hx,h=>by
   have:=Hg (index:=l) (p:=p) (by simpa using hp) hx h;simp only [yH,List.set_cons_succ,List.countP_cons] at this ⊢;omega
theorem JH {s:uU} (h:ry s) {a:Int} (ha:0<=a) (v:Int):ry (gu s a v).2:=by
 unfold gu;split;exact⟨by simpa using h.PN,h.eV,h.Va,h.pos,h.rng,h.fill,h.way,h.dist⟩;rename_i NP;split;exact h;rename_i Lx;have hn:0<s.index.length:=by have:=h.Va;omega
 have hk:=G5 hn a;obtain⟨d,hd,h1,h2⟩:=h.first hk;have hp:=AA h hk hd h1 h2;have mV:st s.index.length (mM s.index.length a) d<s.index.length:=D3 hn;have hcapl:=h.eV;have yu:∀e,e<s.bZ.length->(s.bZ++[a]).getD e 0=s.bZ.getD e 0:=λe he=>by
  rw [Za,List.getElem?_append_left he,<-Za]
 have hgn:(s.bZ++[a]).getD s.bZ.length 0=a:=by
  rw [Za,List.getElem?_append_right (qZ _)];simp
 refine⟨by simp [h.PN],by simp;omega,by simpa using h.Va,?_,?_,?_,?_,?_⟩;intro x hx;rw [List.mem_append] at hx;rcases hx with hx|hx;exact h.pos x hx;simp at hx;subst hx;exact ha;intro k j9;simp only [List.length_set] at j9;simp only [hp,GG mV,Zc,Zy,kam];split;omega;have:=h.rng k j9;omega;simp only [hp,Zc,Zy,kam];rw [Hg mV Ya h1,h.fill];intro e he;simp only [Zc,Zy,kam] at he;simp only [hp,List.length_set];by_cases NT:e=s.bZ.length;subst NT;rw [hgn];refine⟨d,hd,by rw [GG mV,ay rfl],λd' G0=>?_⟩;have hge:=h2 d' G0;have gZ:st s.index.length (mM s.index.length a) d'≠st s.index.length (mM s.index.length a) d:=λe=>by rw [e] at hge;omega
 rw [GG mV,aw gZ];refine⟨hge,?_⟩;have:=h.rng _ (D3 (k:=mM s.index.length a) (d:=d') hn);omega;have he':e<s.bZ.length:=Ya
 rw [yu e he'];obtain⟨d2,g1,g2,g3⟩:=h.way e he';refine⟨d2,g1,?_,λd' G0=>?_⟩;rw [GG mV,aw (λe2=>by rw [e2] at g2;omega)];exact g2;obtain⟨g4,g5⟩:=g3 d' G0;rw [GG mV,aw (λe2=>by rw [e2] at g4;omega)];exact⟨g4,g5⟩;intro i j hi hj he;simp only [Zc,Zy,kam] at hi hj;have gZ:=Hf NP;by_cases BI:i<s.bZ.length;by_cases kh:j<s.bZ.length;rw [yu i BI,yu j kh] at he;exact h.dist i j BI kh he;have:j=s.bZ.length:=Ya
 subst this;rw [yu i BI,hgn] at he;exact absurd he (gZ i BI);have:i=s.bZ.length:=Ya
 subst this;by_cases kh:j<s.bZ.length;rw [yu j kh,hgn] at he;exact absurd he.symm (gZ j kh);omega
theorem ry.probe {s:uU} (h:ry s) (a:Int):∃d,d<s.index.length/\
 (∀d',d'<d->0<=ix s.index (st s.index.length (mM s.index.length a) d')/\s.bZ.getD (ix s.index (st s.index.length (mM s.index.length a) d')).toNat 0≠a)/\
 ((∃e,yG s.bZ a=qc e/\ix s.index (st s.index.length (mM s.index.length a) d)=e) \/
   (yG s.bZ a=qh/\ix s.index (st s.index.length (mM s.index.length a) d)<0/\CI s.index (mM s.index.length a)=st s.index.length (mM s.index.length a) d)):=by
 have hn:0<s.index.length:=by have:=h.Va;omega
 have hk:=G5 hn a;cases hf:yG s.bZ a with
 | some e=>
   obtain⟨f1,f2,f3⟩:=w7 hf;obtain⟨d,g1,g2,g3⟩:=h.way e f1;rw [f2] at g2 g3;refine⟨d,g1,λd' G0=>?_,.inl ⟨e,rfl,g2⟩⟩;obtain⟨g4,g5⟩:=g3 d' G0;refine⟨g4,λe2=>?_⟩;have hr:=h.rng _ (D3 (k:=mM s.index.length a) (d:=d') hn);have:=h.dist (ix s.index (st s.index.length (mM s.index.length a) d')).toNat e Ya f1 (by rw [e2,f2]);omega
 | none=>
   have gZ:=Hf hf;obtain⟨d,g1,g2,g3⟩:=h.first hk;refine⟨d,g1,λd' G0=>⟨g3 d' G0,?_⟩,.inr ⟨rfl,g2,AA h hk g1 g2 g3⟩⟩;have hr:=h.rng _ (D3 (k:=mM s.index.length a) (d:=d') hn);have:=g3 d' G0;exact gZ _ Ya
end
section
namespace TClone
theorem nO [Gl] {A:AW} {L:List It} {T:Prop} (hS:aj A L) (hw:A.Wf) (h':(aW A L/\bz A L/\cd L)=T:=by first|(dsimp only [aa,ah,aW,bz,cd,ff];done)|exact rfl):T:=h'▸hS.eX hw
end TClone
open TClone
variable [Gl]
theorem bK.Ef {A:AW} {k:IntKind} {l:List Int} {n c:Nat} (h:bK A k (qf qh n c) l):l=[]:=by
 rcases h with ⟨_,h,_⟩|⟨p,c,bS,own,u,h,_⟩;exact List.eq_nil_of_length_eq_zero h;cases h
theorem kC (v:qd) (l:List Int) (A:AW) (h:bK A qa v l) (hl:l.length<2^39) :
 aB qV 60 [v] A (λv' A'=>eE A.next A' qa v' l/\A.le A'):=by
 refine aK Tryz.func60 λhw=>?_;obtain⟨o,c,rfl,_⟩:=h.bR;cases o with
 | none=>
   have:=h.Ef;subst this;refine W cx cx ?_<;>intros
   simpa using ⟨eE.nil _ _ _,AW.le.refl A⟩
 | some p=>
   have l0:=qW A (qi [] qg 1);have w0:=hw.alloc (qi [] qg 1);have h1:=h.le l0 hw
   have iz:eE A.next (A.alloc (qi [] qg 1)) qa (qf (qc ⟨A.next,0,qh⟩) 0 0) []:=
    .inr ⟨⟨A.next,0,qh⟩,0,[],rfl,qZ _,rfl,qZ _,AW.bN _ _,by simp,by simp⟩
   obtain⟨v',A',h2,h3,h4,h5,h6⟩:=Ex (P:=qV) (t:=24) Tryz.underlying24 Tryz.info3 Tryz.zero3 rfl rfl iz h1 Yg Yb Yb w0;refine W cx (J1 h2) ?_<;>intros;simp;exact⟨by simpa using h3,h4 A (qZ _) l0⟩
theorem jK (v:qd) (l:List Int) (A:AW) (h:bK A qj v l) (hl:l.length<2^39) :
 aB qV 85 [v] A (λv' A'=>eE A.next A' qj v' l/\A.le A'):=by
 refine aK Tryz.func85 λhw=>?_;obtain⟨o,c,rfl,_⟩:=h.bR;cases o with
 | none=>
   have:=h.Ef;subst this;refine W cx cx ?_<;>intros
   simpa using ⟨eE.nil _ _ _,AW.le.refl A⟩
 | some p=>
   have l0:=qW A (qi [] qg 1);have w0:=hw.alloc (qi [] qg 1);have h1:=h.le l0 hw
   have iz:eE A.next (A.alloc (qi [] qg 1)) qj (qf (qc ⟨A.next,0,qh⟩) 0 0) []:=
    .inr ⟨⟨A.next,0,qh⟩,0,[],rfl,qZ _,rfl,qZ _,AW.bN _ _,by simp,by simp⟩
   obtain⟨v',A',h2,h3,h4,h5,h6⟩:=Ex (P:=qV) (t:=28) Tryz.underlying28 Tryz.info35 Tryz.zero35 rfl rfl iz h1 Yg Yb Yb w0;refine W cx (J1 h2) ?_<;>intros;simp;exact⟨by simpa using h3,h4 A (qZ _) l0⟩
end
end Go.Stx
