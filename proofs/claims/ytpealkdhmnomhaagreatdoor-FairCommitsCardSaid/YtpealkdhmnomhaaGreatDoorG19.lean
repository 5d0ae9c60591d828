/-
 One attempt, without the program: what always holds of the cells and of its state.
-/
import Derived.Test.YtpealkdhmnomhaaGreatDoorG12
import Derived.Test.YtpealkdhmnomhaaGreatDoorG10
set_option linter.unusedVariables false
set_option linter.unusedSimpArgs false
set_option linter.unusedSectionVars false
set_option maxRecDepth 20000
set_option maxHeartbeats 4000000
open Bool renaming and_eq_true->Zd
open Go.IntKind renaming i64->qY,u64->q8
open Int renaming tmod_eq_emod_of_nonneg->ZI
open List renaming drop_zero->ZO,getD_eq_getElem?_getD->Za,getElem?_eq_getElem->q9,getElem?_eq_none->Zx,getElem_mem->ZR,length_append->Zc,length_cons->Zy,length_drop->kas,length_nil->kam,length_tail->kb0,mem_append->ZH,replicate->qX,tail_drop->kbk
open Nat renaming le_succ->Zo
open Bool renaming false->qk,true->qg
open Option renaming some->qc
open Or renaming inl->qq,inr->qt
namespace Go.Stx
open Go Go.Proofs
attribute [local irreducible] cM aV aB aL cU dh
section
variable [Gl]
theorem N5 (l:List Int) (i:Nat):l.getD i 0=0\/l.getD i 0∈l:=by
 rw [Za];by_cases h:i<l.length;rw [q9 h];exact qt (ZR h);rw [Zx Ya];exact qq rfl
theorem vB (M:Mm) (fx cell cg:Int) (g:Int->Int×Bool):(eR M fx cell cg g).eY=0\/(dl M cell cg=qg/\(eR M fx cell cg g).eY=(eQ M cell).getD cg.toNat 0):=by
 unfold eR;split;rename_i h;exact qt ⟨h,rfl⟩;exact qq rfl
theorem wj (M:Mm) (cell cg v:Int) (k:Nat):(setRow M cell cg v k).length=(M k).length:=by
 unfold setRow;split<;>simp
theorem tX (M:Mm) (cell cg:Int) (g:Int->Int×Bool) (k:Nat):(kL M cell cg g k).length=(M k).length:=by
 unfold kL;split;exact wj _ _ _ _ _;rfl
theorem wG (M:Mm) (cell cg:Int) (g:Int->Int×Bool) (k j:Nat) :
 (kL M cell cg g k).getD j 0=(M k).getD j 0\/(dl M cell cg=qg/\k=(cell-1).toNat/\j=cg.toNat/\(kL M cell cg g k).getD j 0=(g ((eQ M cell).getD cg.toNat 0)).1):=by
 unfold kL;split;rename_i hc;unfold setRow;split;rename_i e;by_cases hj:j=cg.toNat;by_cases hl:j<(M k).length;refine qt ⟨hc.1,e,hj,?_⟩;subst hj;rw [Za,List.getElem?_set_self hl];rfl;left;simp only [Za];rw [Zx Yg,Zx Ya];left;simp only [Za];rw [List.getElem?_set_ne (Ne.symm hj)];exact qq rfl;exact qq rfl
theorem nP {M:Mm} {cell cg:Int} (h:dl M cell cg=qg):(1<=cell/\cell<=8)/\0<=cg/\cg<(M (cell-1).toNat).length:=by
 unfold dl eQ at h;split at h;rename_i hh;refine⟨hh,?_⟩
 simpa using h
 simp at h;omega
def lx (k:Nat) (x:Int):Prop:=0<=x/\x / 64<=k/\x % 64<=16
theorem lx.mono {k k':Nat} {x:Int} (h:lx k x) (hk:k<=k'):lx k' x:=⟨h.1,by have:=h.2.1;omega,h.2.2⟩
theorem lx.zero (k:Nat):lx k 0:=⟨by omega,by omega,by omega⟩
def kY (c:aY) (eZ x:Int):Prop:=0<=x/\ka x<c.nb/\(0<=ka x->dN c (ka x)=eZ)
def pG (c:aY) (eZ x:Int):Prop:=0<=x/\x<=c.nb/\(0<x->dN c (x-1)=eZ)
theorem ta {c:aY} (hc:da c):0<=c.nb:=by
 have h0:=hc.k0;have h1:=hc.k1;have h3:=hc.k2;have h4:=hc.k3;have e:c.nb=c.c0+c.c1+c.c2+c.c3:=rfl;omega
theorem Db:ka 0 = -1:=Yf
theorem kY.zero {c:aY} (hc:da c) (eZ:Int):kY c eZ 0:=by
 have h:=ta hc;refine⟨by omega,by rw [Db];omega,λe=>?_⟩;rw [Db] at e;omega
theorem pG.zero {c:aY} (hc:da c) (eZ:Int):pG c eZ 0:=⟨by omega,ta hc,λe=>by omega⟩
structure lK (c:aY) (nt k:Nat) (M:Mm):Prop where
 l0:((M 0).length:Int)=c.bg+c.nb
 l1:((M 1).length:Int)=c.av
 l2:(M 2).length=1
 l3:(M 3).length=1
 l4:(M 4).length=1
 l5:(M 5).length=nt
 l6:(M 6).length=4
 l7:((M 7).length:Int)=c.nb
 head:∀i:Nat,kY c i ((M 6).getD i 0)
 next:∀b:Nat,pG c (dN c b) ((M 7).getD b 0)
 gL:0<=(M 2).getD 0 0/\(M 2).getD 0 0<=k
 tik:0<=(M 3).getD 0 0/\(M 3).getD 0 0<=k
 orc:∀i:Nat,lx k ((M 1).getD i 0)
theorem lK.mono {c:aY} {nt k k':Nat} {M:Mm} (h:lK c nt k M) (hk:k<=k'):lK c nt k' M:=
 ⟨h.l0,h.l1,h.l2,h.l3,h.l4,h.l5,h.l6,h.l7,h.head,h.next,by have:=h.gL;omega,by have:=h.tik;omega,λi=>(h.orc i).mono hk⟩
theorem lK.op {c:aY} {nt k k':Nat} {M:Mm} (h:lK c nt k M) (hk:k<=k') (cell cg:Int) (g:Int->Int×Bool)
 (hv:dl M cell cg=qg->(cell=7->kY c cg (g ((eQ M cell).getD cg.toNat 0)).1)/\
  (cell=8->pG c (dN c cg) (g ((eQ M cell).getD cg.toNat 0)).1)/\
  (cell=3\/cell=4->0<=(g ((eQ M cell).getD cg.toNat 0)).1/\(g ((eQ M cell).getD cg.toNat 0)).1<=k')/\
  (cell=2->lx k' (g ((eQ M cell).getD cg.toNat 0)).1)):lK c nt k' (kL M cell cg g):=by
 have hcell:dl M cell cg=qg->(1<=cell/\cell<=8)/\0<=cg:=λh=>⟨(nP h).1,(nP h).2.1⟩;refine⟨by rw [tX];exact h.l0,by rw [tX];exact h.l1,by rw [tX];exact h.l2,by rw [tX];exact h.l3,by rw [tX];exact h.l4,by rw [tX];exact h.l5,by rw [tX];exact h.l6,by rw [tX];exact h.l7,?_,?_,?_,?_,?_⟩;intro i;rcases wG M cell cg g 6 i with h1|⟨h1,h2,h3,h4⟩;rw [h1];exact h.head i;have hr:=hcell h1;have:=(hv h1).1 Ya;rw [h4];have e:cg=(i:Int):=Ya
 rw [e] at this ⊢;exact this;intro i;rcases wG M cell cg g 7 i with h1|⟨h1,h2,h3,h4⟩;rw [h1];exact h.next i;have hr:=hcell h1;have:=(hv h1).2.1 Ya;rw [h4];have e:cg=(i:Int):=Ya
 rw [e] at this ⊢;exact this;rcases wG M cell cg g 2 0 with h1|⟨h1,h2,h3,h4⟩;rw [h1];have:=h.gL;omega;have hr:=hcell h1;rw [h4];exact(hv h1).2.2.1 Ya;rcases wG M cell cg g 3 0 with h1|⟨h1,h2,h3,h4⟩;rw [h1];have:=h.tik;omega;have hr:=hcell h1;rw [h4];exact(hv h1).2.2.1 Ya;intro i;rcases wG M cell cg g 1 i with h1|⟨h1,h2,h3,h4⟩;rw [h1];exact(h.orc i).mono hk;have hr:=hcell h1;rw [h4];exact(hv h1).2.2.2 Ya
theorem lK.op0 {c:aY} {nt k k':Nat} {M:Mm} (h:lK c nt k M) (hk:k<=k') (cell cg:Int) (g:Int->Int×Bool) (h1:cell≠7/\cell≠8/\cell≠3/\cell≠4/\cell≠2):lK c nt k' (kL M cell cg g):=
 h.op hk cell cg g λ_=>⟨λe=>absurd e h1.1,λe=>absurd e h1.2.1,λe=>by rcases e with e|e;exact absurd e h1.2.2.1;exact absurd e h1.2.2.2.1,λe=>absurd e h1.2.2.2.2⟩
theorem lK.opO {c:aY} {nt k k':Nat} {M:Mm} (h:lK c nt k M) (hk:k<=k') (cg:Int) (g:Int->Int×Bool) (h1:lx k' (g ((eQ M 2).getD cg.toNat 0)).1):lK c nt k' (kL M 2 cg g):=
 h.op hk 2 cg g λ_=>⟨λe=>by omega,λe=>by omega,λe=>by omega,λ_=>h1⟩
theorem Kj {h:Int} (h0:0<=h):ka h=h % 65536-1:=by
 unfold ka;rw [ZI h0];rw [af (x:=h % 65536) Ya Ya,af Ya Ya]
theorem MH {h:Int} (h0:0<=h):-1<=ka h/\ka h<=65534:=by rw [Kj h0];omega
theorem Tu (t p:Int):0<=tf t p/\(ka (tf t p)=p\/ka (tf t p) = -1):=by
 unfold tf;split;rename_i h;refine⟨by omega,qq ?_⟩;rw [Kj Ya];omega;exact⟨by omega,qt Db⟩
theorem Hy {c:aY} (hc:da c) {h p eZ:Int} (hp:p<c.nb) (lh:0<=p->dN c p=eZ):kY c eZ (rr h p):=by
 have ES:=ta hc;obtain⟨h1,h2⟩:=Tu ((qY.wrap (UU h+1)).tmod 281474976710656) p;refine⟨h1,?_,λh0=>?_⟩;show ka (tf _ _)<c.nb;rcases h2 with h2|h2<;>rw [h2]<;>omega;have h0':0<=ka (tf ((qY.wrap (UU h+1)).tmod 281474976710656) p):=h0;show dN c (ka (tf _ _))=eZ;rcases h2 with h2|h2;rw [h2] at h0' ⊢;exact lh h0';rw [h2] at h0';omega
def LocI (c:aY):E4->Prop
 | .mI a _=>0<=a
 | .dy b _=>0<=b/\b<c.nb
 | _=>True
def UseI (c:aY):Ac->Prop
 | .take=>True
 | .dy b=>0<=b/\b<c.nb
structure kG (s:aI):Prop where
 av:s.av=[]
 aP:s.aP=none
 aN:s.aN=none
 ax:s.ax=0
 dec:s.ao=false
structure AH (k:Nat) (l:iI):Prop where
 dM:lx k l.dM
 load:l.fZ=true->l.dM % 64=0
 ey:∀w∈l.ey,lx k w/\w % 64=0
theorem AH.mono {k k':Nat} {l:iI} (h:AH k l) (hk:k<=k'):AH k' l:=⟨h.dM.mono hk,h.load,λw hw=>⟨((h.ey w hw).1).mono hk,(h.ey w hw).2⟩⟩
def xq (k:Nat) (s:aI):Prop:=(s.av=[]/\s.aP=none)\/∃l,s.aP=qc l/\l.av=s.av/\l.ey.length=s.av.length/\0<s.av.length/\AH k l
def oT (k:Nat) (s:aI):Prop:=xq k s/\(s.iO=qg↔0<s.av.length)
theorem xq.mono {k k':Nat} {s:aI} (h:xq k s) (hk:k<=k'):xq k' s:=by
 rcases h with h|⟨l,h1,h2,h3,h4,h5⟩;exact qq h;exact qt ⟨l,h1,h2,h3,h4,h5.mono hk⟩
theorem oT.mono {k k':Nat} {s:aI} (h:oT k s) (hk:k<=k'):oT k' s:=⟨h.1.mono hk,h.2⟩
def vy (s:aI):List Int:=if s.ao=qg then qX s.av.length (lH s.oX) else s.ey
structure jX (c:aY) (k:Nat) (s:aI):Prop where
 cf:s.cf=c
 Mn:0<=s.am/\s.am<16
 bG:ry s.bG
 eV:s.bG.eV=c.bU.toNat
 cg:s.bG.index.length<=64
 Ka:∀a∈s.bG.bZ,0<=a/\a<c.bg+c.nb
 Uw:∀x∈s.ar,0<=x/\x<c.nb
 oO:(s.ar.length:Int)<=c.ar
 push:s.ax<=s.ar.length
 set:s.set.length<=c.reads.toNat
 rnd:s.reads.Nodup
 rrg:∀a∈s.reads,0<=a/\a<c.bg
 E1:(s.aA.length:Int)<=c.aA
 gL:0<=s.aC/\s.aC<=k
 orl:s.av.length<=64
 orr:∀x∈s.av,0<=x/\x<c.av
def DoI (c:aY) (k:Nat) (s:aI):bJ->Prop
 | .bL=>s.aF≠2->kG s
 | .je l=>kG s/\LocI c l
 | .dA=>kG s/\∃e,s.bT=qc e/\(0<=e.aC/\e.aC<=k)/\(0<=e.cr/\e.cr<=2)/\e.am=s.am
 | .bj r u=>kG s/\(0<=r.cr/\r.cr<=2)/\r.iK=gV c r.d8/\r.iS=qk/\UseI c u/\(0<=r.d8/\r.d8<c.bg+c.nb)/\r.rv=s.rv
 | .eP p=>kG s/\(s.ar.length:Int)<c.ar/\(0<=p.eZ/\p.eZ<=3)/\kY c p.eZ p.head/\pG c p.eZ p.next/\p.block = -1/\(0<=p.cr/\p.cr<=2)/\(1<=p.cr->0<=ka p.head)
 | .eg=>(s.aN=none/\s.ax=0/\s.ao=qk)/\(s.aD=1/\s.iO=qg)/\∃l,s.aP=qc l/\l.av=s.av/\l.am=s.am/\l.ey.length<l.av.length/\AH k l
 | .cY=>(s.ax=0/\s.ao=qk)/\oT k s/\∃t,s.aN=qc t/\t.done=qk/\(0<=t.dQ/\t.dQ<=k)
 | .cG ck=>(s.ax=0/\s.ao=qk)/\oT k s/\(∃t,s.aN=qc t)/\ck.kB=qk/\(∃q,q<s.set.length/\ck.av=s.set.drop q)/\ck.rv=s.rv
 | .bM=>(s.ax=0/\s.ao=qk)/\oT k s/\∃t,s.aN=qc t
 | .dt w=>s.ax=0/\(s.ao=qg/\s.iO=qg)/\oT k s/\(∃t,s.aN=qc t)/\∃q,q<s.bG.bZ.length/\w=⟨s.bG.bZ.drop q,s.bG.fU.drop q⟩
 | .bE w=>s.ax=0/\(s.ao=qg->s.iO=qg)/\xq k s/\(∃t,s.aN=qc t)/\∃q,q<s.av.length/\w=⟨s.av.drop q,(vy s).drop q⟩
 | .eA=>s.ax=0/\(s.ao=qg/\s.iO=qg)/\∃t,s.aN=qc t
 | .eb=>s.ax=0/\∃t,s.aN=qc t
 | .eC p=>s.aD≠1/\s.ax<s.ar.length/\p.block=s.ar.getD s.ax 0/\p.eZ=dN c p.block/\kY c p.eZ p.head/\(0<=p.cr/\p.cr<=2)
 | .gq=>True
structure nZ (c:aY) (k:Nat) (s:aI):Prop where
 b:jX c k s
 d:DoI c k s s.aH
theorem jX.mono {c:aY} {k k':Nat} {s:aI} (h:jX c k s) (hk:k<=k'):jX c k' s:={ h with gL:=⟨h.gL.1,by have:=h.gL.2;omega⟩ }
theorem nZ.mono {c:aY} {k k':Nat} {s:aI} (h:nZ c k s) (hk:k<=k'):nZ c k' s:=by
 refine⟨h.b.mono hk,?_⟩;have hd:=h.d;revert hd;cases s.aH with
 | dA=>
   rintro ⟨h0,e,h1,h2,h3⟩;exact⟨h0,e,h1,⟨h2.1,by omega⟩,h3⟩
 | eg=>
   rintro ⟨h0,Mu,l,h1,h2,h3,h4,h5⟩;exact⟨h0,Mu,l,h1,h2,h3,h4,h5.mono hk⟩
 | cY=>
   rintro ⟨h0,hl,t,h1,h2,h3⟩;exact⟨h0,hl.mono hk,t,h1,h2,h3.1,by omega⟩
 | cG ck=>
   rintro ⟨h0,hl,h1⟩;exact⟨h0,hl.mono hk,h1⟩
 | bM=>
   rintro ⟨h0,hl,h1⟩;exact⟨h0,hl.mono hk,h1⟩
 | dt w=>
   rintro ⟨h0,hd,hl,h1⟩;exact⟨h0,hd,hl.mono hk,h1⟩
 | bE w=>
   rintro ⟨h0,hd,hl,h1⟩;exact⟨h0,hd,hl.mono hk,h1⟩
 | _=>exact id
theorem jX.to {c:aY} {k:Nat} {s s':aI} (h:jX c k s) (h1:s'.cf=s.cf:=by rfl) (h2:s'.am=s.am:=by rfl) (h3:s'.bG=s.bG:=by rfl) (h4:s'.ar=s.ar:=by rfl) (h5:s'.ax=s.ax:=by rfl) (h6:s'.set=s.set:=by rfl) (h7:s'.reads=s.reads:=by rfl) (h8:s'.aA=s.aA:=by rfl) (h9:s'.aC=s.aC:=by rfl) (Qi:s'.av=s.av:=by rfl):jX c k s':=by
 (unhygienic cases s);obtain⟨cf',thread',state',rq,value',ent',W0,reads',allocs',frees',set',log',clock',orecs',lock',turn',pushed',doing'⟩:=s';dsimp only at h1 h2 h3 h4 h5 h6 h7 h8 h9 Qi;subst h1 h2 h3 h4 h5 h6 h7 h8 h9 Qi;exact⟨h.cf,h.Mn,h.bG,h.eV,h.cg,h.Ka,h.Uw,h.oO,h.push,h.set,h.rnd,h.rrg,h.E1,h.gL,h.orl,h.orr⟩
section
variable {c:aY} {k:Nat} {s:aI}
theorem yC {l:List Int} {i:Nat} (h:i<l.length):l.getD i 0∈l:=by
 rw [Za,q9 h];exact ZR h
theorem Bm (hc:da c) (h:jX c k s):nZ c k (fH s):=by
 unfold fH;split;exact⟨h.to,trivial⟩;rename_i hn;have hp:=h.push;have bY:s.ax<s.ar.length:=Ya
 refine⟨h.to,λe=>hn (qq e),bY,rfl,?_,.zero hc _,by show (0:Int)<=0;omega,by show (0:Int)<=2;omega⟩;show dN s.cf (s.ar.getD s.ax 0)=dN c (s.ar.getD s.ax 0);rw [h.cf]
theorem u4 (hc:da c) (h:jX c k s) (aD:Int):nZ c k (kE s aD):=Bm hc (h.to)
theorem oh (l:List Int):(ft l).Pairwise (·< ·)/\∀z,z∈ft l↔z∈l:=by rw [O8];exact xx l
theorem KF (l:List Int):ft (ft l)=ft l:=by
 obtain⟨h1,h2⟩:=oh l;obtain⟨h3,h4⟩:=oh (ft l);exact Qq _ _ h3 h1 h4
theorem Vn {l:List Int} (hl:l.Pairwise (·< ·)) (a:Int):(∀x∈l,a<=x)->∀n:Nat,(∀x∈l,x<a+n)->l.length<=n:=by
 induction l generalizing a with
 | nil=>intro _ n _;simp
 | cons y r ih=>
   intro h1 n h2;rw [List.pairwise_cons] at hl;have hy1:=h1 y Yb;have hy2:=h2 y Yb;have:r.length<=n-1:=ih hl.2 (y+1) (λx hx=>by have:=hl.1 x hx;omega) (n-1) (λx hx=>by have:=h2 x YB;omega);simp only [Zy];omega
theorem Vo {c:aY} (hc:da c) {a:Int} (h:0<=a/\a<c.bg+c.nb):0<=gV c a/\gV c a<c.av:=by
 have:=hc.av;unfold gV;rw [ay h,ZI h.1];exact⟨Int.emod_nonneg a Ya,Int.emod_lt_of_pos a Ya⟩
theorem CG (hc:da c) (h:jX c k s) (he:kG s) (aD:Int):nZ c k (nE s aD):=by
 unfold nE;split;rename_i hs;simp only [Zd,decide_eq_true_eq] at hs;obtain⟨NK,uI⟩:=hs;have BG:=oh (s.bG.bZ.map (gV s.cf));have hidem:=KF (s.bG.bZ.map (gV s.cf));have hr:∀x∈ft (s.bG.bZ.map (gV s.cf)),0<=x/\x<c.av:=λx hx=>by
  obtain⟨a,ha,rfl⟩:=List.mem_map.1 ((BG.2 x).1 hx);rw [h.cf];exact Vo hc (h.Ka a ha)
 refine⟨{ h.to (s':={ s with aD:=aD,aP:=qc ⟨s.am,ft (ft (s.bG.bZ.map (gV s.cf))),[],0,qk⟩,aH:=.eg }) rfl rfl rfl rfl rfl rfl rfl rfl rfl rfl with orl:=?_,orr:=hr },⟨he.aN,he.ax,he.dec⟩,⟨NK,?_⟩,_,rfl,hidem,rfl,?_,⟨.zero _,λe=>Ym,λw hw=>(by cases hw)⟩⟩;show (ft (s.bG.bZ.map (gV s.cf))).length<=64;have ho:=hc.av;have:=Vn BG.1 0 (λx hx=>(hr x hx).1) c.av.toNat λx hx=>by have:=(hr x hx).2;omega
 omega;show (decide (aD=1) && decide (0<s.bG.bZ.length))=qg;simp [NK,uI];show 0<(ft (ft (s.bG.bZ.map (gV s.cf)))).length;rw [hidem];have hm:gV s.cf s.bG.bZ[0]∈ft (s.bG.bZ.map (gV s.cf)):=(BG.2 _).2 (List.mem_map.2 ⟨_,ZR uI,rfl⟩);exact List.length_pos_of_mem hm;rename_i hs;refine⟨h.to,⟨he.ax,he.dec⟩,⟨qq ⟨he.av,he.aP⟩,⟨λe=>absurd e hs,λe=>?_⟩⟩,_,rfl,rfl,?_⟩;rw [show ({ s with aD:=aD,aN:=qc ⟨qk,0,qk⟩,aH:=bJ.cY }:aI).av=s.av from rfl,he.av] at e;simp at e;show (0:Int)<=0/\(0:Int)<=k;omega
theorem ye (h:jX c k s) (hp:s.ax=0) (hl:xq k s) (hd:s.ao=qg->s.av=[]) (ht:∃t,s.aN=qc t):nZ c k (fO s):=by
 unfold fO;split;exact⟨h.to,hp,ht⟩;rename_i hn;have hdf:s.ao=qk:=by
  cases e:s.ao with
  | false=>rfl
  | true=>rw [hd e] at hn;simp at hn
 refine⟨h.to,hp,λe=>?_,hl,ht,0,by show 0<s.av.length;omega,?_⟩;rw [show ({ s with aH:=bJ.bE ⟨s.av,s.ey⟩ }:aI).ao=s.ao from rfl,hdf] at e;cases e;rw [ZO,ZO];show (⟨s.av,s.ey⟩:jO)=⟨s.av,vy _⟩;unfold vy;rw [aw (by show ¬s.ao=qg;rw [hdf];decide)];rfl
theorem kG.to {s s':aI} (h:kG s) (h1:s'.av=s.av) (h2:s'.aP=s.aP) (h3:s'.aN=s.aN) (h4:s'.ax=s.ax) (h5:s'.ao=s.ao):kG s':=
 ⟨h1.trans h.av,h2.trans h.aP,h3.trans h.aN,h4.trans h.ax,h5.trans h.dec⟩
theorem jX.put (h:jX c k s) {a:Int} (ha:0<=a/\a<c.bg+c.nb) (v:Int):jX c k { s with bG:=(gu s.bG a v).2 }:=by
 obtain⟨h1,h2,h3⟩:=Cq s.bG a v;refine⟨h.cf,h.Mn,JH h.bG ha.1 v,h1.trans h.eV,by have:=h.cg;show (gu s.bG a v).2.index.length<=64;omega,?_,h.Uw,h.oO,h.push,h.set,h.rnd,h.rrg,h.E1,h.gL,h.orl,h.orr⟩;intro x hx;rcases h3 x hx with h4|h4;exact h.Ka x h4;subst h4;exact ha
structure OF (s s':aI):Prop where
 aH:s'.aH=s.aH
 av:s'.av=s.av
 aP:s'.aP=s.aP
 aN:s'.aN=s.aN
 ax:s'.ax=s.ax
 dec:s'.ao=s.ao
 cf:s'.cf=s.cf
 aA:s'.aA=s.aA
theorem OF.WX {s s':aI} (h:OF s s') (he:kG s):kG s':=he.to h.av h.aP h.aN h.ax h.dec
theorem OF.trans {s s' s'':aI} (h:OF s s') (h':OF s' s''):OF s s'':=
 ⟨h'.aH.trans h.aH,h'.av.trans h.av,h'.aP.trans h.aP,h'.aN.trans h.aN,h'.ax.trans h.ax,h'.dec.trans h.dec,h'.cf.trans h.cf,h'.aA.trans h.aA⟩
theorem E8 (hc:da c) (h:jX c k s) {a:Int} (ha:0<=a/\a<c.bg+c.nb) (v:Int):((jS s a v).1=qg/\jX c k (jS s a v).2/\OF s (jS s a v).2)\/((jS s a v).1=qk/\nZ c k (jS s a v).2):=by
 unfold jS;split;exact qq ⟨rfl,h.put ha v,rfl,rfl,rfl,rfl,rfl,rfl,rfl,rfl⟩;exact qt ⟨rfl,u4 hc h 3⟩
theorem JK (h:jX c k s) (he:kG s) (hd:s.aH=.bL):nZ c k s:=⟨h,by rw [hd];exact λ_=>he⟩
theorem JT (hc:da c) (h:jX c k s) (he:kG s) (hd:s.aH=.bL) (b st:Int) (hb:0<=b/\b<c.nb):nZ c k (jF s b st):=by
 have rH:=h.cf;subst rH;unfold jF;split;exact CG hc h he 8;split;exact u4 hc h 3;rename_i hf;have hw:=hc.bg;rcases E8 hc h (a:=s.cf.bg+b) Ya 0 with ⟨h1,h2,h3⟩|⟨h1,h2⟩;rw [ay h1];refine JK ?_ ((h3.WX he).to rfl rfl rfl rfl rfl) (h3.aH.trans hd);refine { h2.to (s':={ (jS s (s.cf.bg+b) 0).2 with aA:=s.aA }) rfl rfl rfl rfl rfl rfl rfl h3.aA.symm rfl rfl with E1:=?_ };show ((s.aA++[b]).length:Int)<=s.cf.aA;simp only [Zc,Zy,kam];omega;rw [aw Y2];exact h2
theorem Jf (hc:da c):∀(n:Nat) (a:Int) (s:aI),jX c k s->0<=a->a+n<=c.bg+c.nb->((gt n a s).1=qg/\jX c k (gt n a s).2/\OF s (gt n a s).2)\/((gt n a s).1=qk/\nZ c k (gt n a s).2)
 | 0,a,s,h,_,_=>qq ⟨rfl,h,rfl,rfl,rfl,rfl,rfl,rfl,rfl,rfl⟩
 | n+1,a,s,h,h0,hn=>by
   unfold gt;rcases E8 hc h (a:=a) Ya 0 with ⟨h1,h2,h3⟩|⟨h1,h2⟩;rw [ay h1];rcases Jf hc n (a+1) _ h2 Ya Ya with ⟨g1,g2,g3⟩|⟨g1,g2⟩;exact qq ⟨g1,g2,h3.trans g3⟩;exact qt ⟨g1,g2⟩;rw [aw Y2];exact qt ⟨rfl,h2⟩
theorem Ja (hc:da c) (h:jX c k s) (he:kG s) (hd:s.aH=.bL) (hl:(s.ar.length:Int)<c.ar) (eZ b:Int) (hb:-1<=b/\b<c.nb) (DE:0<=b->dN c b=eZ):nZ c k (fq s eZ b):=by
 have rH:=h.cf;subst rH;unfold fq;split;exact u4 hc h 4;rename_i Ly;have hw:=hc.bg;have zF:=Cs hc b Ya;have lh:=DE Ya;have ES:=ta hc;have h1:jX s.cf k { s with ar:=s.ar++[b] }:=by
  refine⟨rfl,h.Mn,h.bG,h.eV,h.cg,h.Ka,?_,?_,?_,h.set,h.rnd,h.rrg,h.E1,h.gL,h.orl,h.orr⟩;intro x hx;rw [ZH] at hx;rcases hx with hx|hx;exact h.Uw x hx;have:x=b:=by simpa using hx
  omega;show ((s.ar++[b]).length:Int)<=s.cf.ar;simp only [Zc,Zy,kam];omega;show s.ax<=(s.ar++[b]).length;have:=h.push;simp only [Zc,Zy,kam];omega
 have e1:kG { s with ar:=s.ar++[b] }:=he.to rfl rfl rfl rfl rfl;dsimp only;rcases E8 hc h1 (a:=s.cf.bg+b) Ya (eZ+1) with ⟨g1,g2,g3⟩|⟨g1,g2⟩;rw [ay g1];have h2p:((2 ^ eZ.toNat:Nat):Int)=2 ^ (dN s.cf b).toNat:=by rw [lh];push_cast;rfl
 rcases Jf hc (2 ^ eZ.toNat) (jg s.cf b) _ g2 zF.2.1 (by rw [h2p];have:=zF.2.2;omega) with ⟨z1,z2,z3⟩|⟨z1,z2⟩;rw [ay z1];have hwent:=g3.trans z3;exact JK (z2.to) ((hwent.WX e1).to rfl rfl rfl rfl rfl) (hwent.aH.trans hd);rw [aw (by rw [z1];decide)];exact z2;rw [aw (by rw [g1];decide)];exact g2
theorem locS_ok (hc:da c) (h:jX c k s) (he:kG s) (hd:s.aH=.bL) (l:E4) (hl:LocI c l):nZ c k (sh s l):=by
 cases l with
 | uY=>exact CG hc h he 7
 | QF=>exact CG hc h he 8
 | bX aD=>exact CG hc h he aD
 | take v=>exact JK (h.to) (he.to rfl rfl rfl rfl rfl) hd
 | mI a v=>
   have hw:=hc.bg;show nZ c k (if s.cf.bg<=a then nE s 7 else (jS s a v).2);split;exact CG hc h he 7;rename_i hn;rw [h.cf] at hn;rcases E8 hc h (a:=a) ⟨hl,by have:=ta hc;omega⟩ v with ⟨h1,h2,h3⟩|⟨h1,h2⟩;exact JK h2 (h3.WX he) (h3.aH.trans hd);exact h2
 | Bl=>exact u4 hc h 3
 | dy b v=>exact JT hc h he hd b v hl
theorem useS_ok (hc:da c) (h:jX c k s) (he:kG s) (hd:s.aH=.bL) (v:Int) (u:Ac) (hu:UseI c u):nZ c k (AL s v u):=by
 cases u with
 | take=>exact JK (h.to) (he.to rfl rfl rfl rfl rfl) hd
 | dy b=>exact JT hc h he hd b v hu
end
def sz (c:aY) (nt k:Nat) (r:ru):Prop:=nZ c (k+1) r.2.2.1/\lK c nt (k+1) r.2.2.2
theorem sz.of {c:aY} {nt k:Nat} {a:bh} {ph:Int} {s':aI} {M':Mm} (h1:nZ c (k+1) s') (h2:lK c nt (k+1) M'):sz c nt k (a,ph,s',M'):=⟨h1,h2⟩
section
variable {c:aY} {nt k:Nat} {s:aI} {M:Mm}
theorem RW (hM:lK c nt k M) (fx:Int) (g:Int->Int×Bool):0<=(eR M fx 3 0 g).eY/\(eR M fx 3 0 g).eY<=k:=by
 rcases vB M fx 3 0 g with h|⟨_,h⟩;rw [h];omega;rw [h];exact hM.gL
theorem got_tik (hM:lK c nt k M) (fx:Int) (g:Int->Int×Bool):0<=(eR M fx 4 0 g).eY/\(eR M fx 4 0 g).eY<=k:=by
 rcases vB M fx 4 0 g with h|⟨_,h⟩;rw [h];omega;rw [h];exact hM.tik
theorem G7 (hc:da c) (hM:lK c nt k M) (fx:Int) {cg:Int} (hi:0<=cg) (g:Int->Int×Bool):kY c cg (eR M fx 7 cg g).eY:=by
 rcases vB M fx 7 cg g with h|⟨_,h⟩;rw [h];exact .zero hc _;have e:cg=(cg.toNat:Int):=Ya
 have:=hM.head cg.toNat;rw [h];rw [<-e] at this;exact this
theorem WF (hc:da c) (hM:lK c nt k M) (fx:Int) {cg:Int} (hi:0<=cg) (g:Int->Int×Bool):pG c (dN c cg) (eR M fx 8 cg g).eY:=by
 rcases vB M fx 8 cg g with h|⟨_,h⟩;rw [h];exact .zero hc _;have e:cg=(cg.toNat:Int):=Ya
 have:=hM.next cg.toNat;rw [h];rw [<-e] at this;exact this
theorem LD (e:gT) (M:Mm) (nV:0<=e.cr/\e.cr<=2):(e.cr=0/\gw e M=(EM M 6 e.am 1,{ e with cr:=1 },u7 M 6 e.am 1)) \/
 (e.cr=1/\gw e M=(iL M 3 0,{ e with cr:=2,aC:=(iL M 3 0).eY },M)) \/
 (e.cr=2/\gw e M=(EM M 6 e.am (q8.wrap (e.aC+2)),{ e with cr:=3 },u7 M 6 e.am (q8.wrap (e.aC+2)))):=by
 unfold gw;by_cases h0:e.cr=0;exact qq ⟨h0,ay h0⟩;by_cases h1:e.cr=1;exact qt (qq ⟨h1,by rw [aw h0,ay h1]⟩);have h2:e.cr=2:=Ya
 exact qt (qt ⟨h2,by rw [aw h0,aw h1,ay h2]⟩)
theorem Qu (hM:lK c nt k M) (h:jX c k s) (he:kG s) (e:gT) (yw:0<=e.aC/\e.aC<=k) (nV:0<=e.cr/\e.cr<=2) (ht:e.am=s.am) (hd:s.aH=.dA):sz c nt k (gK s M e):=by
 have hb:=h.mono (Zo k);unfold gK;rcases LD e M nV with ⟨h0,e0⟩|⟨h0,e0⟩|⟨h0,e0⟩;rw [e0];dsimp only;rw [aw Yf];refine⟨⟨hb.to,?_⟩,hM.op0 Ya _ _ _ Yf⟩;show DoI c (k+1) _ s.aH;rw [hd];refine⟨he.to rfl rfl rfl rfl rfl,_,rfl,⟨yw.1,?_⟩,by show (0:Int)<=1/\(1:Int)<=2;omega,ht⟩;show e.aC<=((k+1:Nat):Int);have:=yw.2;omega;rw [e0];dsimp only;rw [aw Yf];refine⟨⟨hb.to,?_⟩,hM.mono Ya⟩;show DoI c (k+1) _ s.aH;rw [hd];have hg:=RW hM 1 lG;refine⟨he.to rfl rfl rfl rfl rfl,_,rfl,⟨hg.1,?_⟩,by show (0:Int)<=2/\(2:Int)<=2;omega,ht⟩;show (eR M 1 3 0 lG).eY<=((k+1:Nat):Int);have:=hg.2;omega;rw [e0];dsimp only;rw [ay rfl];exact⟨JK (hb.to) (he.to rfl rfl rfl rfl rfl) rfl,hM.op0 Ya _ _ _ Yf⟩
theorem JF {l:List Int} {a:Int} (h:l.Nodup) (ha:¬a∈l):(l++[a]).Nodup:=by
 rw [List.nodup_append];refine⟨h,by simp,?_⟩;intro x hx y hy e;have:y=a:=by simpa using hy
 subst this;subst e;exact ha hx
theorem O9 {eV:Nat} {l:List Int} (x:Int) (h:l.length<=eV):(eO eV l x).2.length<=eV:=by
 unfold eO;split;exact h;split;exact h;simp;omega
theorem D9 (r:jj) (M:Mm):(dW r M).2.1.d8=r.d8/\(dW r M).2.1.iK=r.iK/\(dW r M).2.1.rv=r.rv/\(dW r M).2.2=M:=by
 unfold dW;dsimp only;by_cases h0:r.cr=0;rw [ay h0];dsimp only;split<;>exact⟨rfl,rfl,rfl,rfl⟩;rw [aw h0];by_cases h1:r.cr=1;rw [ay h1];exact⟨rfl,rfl,rfl,rfl⟩;rw [aw h1];by_cases h2:r.cr=2;rw [ay h2];exact⟨rfl,rfl,rfl,rfl⟩;rw [aw h2];exact⟨rfl,rfl,rfl,rfl⟩
theorem MY (r:jj) (M:Mm) (nV:0<=r.cr/\r.cr<=2) (rH:r.iS=qk) (mo:(dW r M).2.1.done=qk):(dW r M).2.1.iS=qk/\0<=(dW r M).2.1.cr/\(dW r M).2.1.cr<=2:=by
 revert mo;unfold dW;dsimp only;by_cases h0:r.cr=0;rw [ay h0];dsimp only;split;intro mo;simp [jj.done] at mo;intro _;exact⟨rH,by dsimp only;omega,by dsimp only;omega⟩;rw [aw h0];by_cases h1:r.cr=1;rw [ay h1];intro _;exact⟨rH,by dsimp only;omega,by dsimp only;omega⟩;have h2:r.cr=2:=Ya
 rw [aw h1,ay h2];intro mo;simp [jj.done] at mo
theorem SN (hc:da c) (hM:lK c nt k M) (h:jX c k s) (he:kG s) (r:jj) (u:Ac) (hd:s.aH=.bj r u) (nV:0<=r.cr/\r.cr<=2) (ho:r.iK=gV c r.d8) (rH:r.iS=qk) (hu:UseI c u) (ha:0<=r.d8/\r.d8<c.bg+c.nb) (hrv:r.rv=s.rv):sz c nt k (dq s M r u):=by
 have hb:=h.mono (Zo k);obtain⟨i1,i2,i3,i4⟩:=D9 r M;have Ws:=MY r M nV rH;unfold dq;dsimp only;split;rename_i mo;obtain⟨g1,g2,g3⟩:=Ws mo;refine⟨⟨hb.to,he.to rfl rfl rfl rfl rfl,⟨g2,g3⟩,?_,g1,hu,?_,?_⟩,by rw [i4];exact hM.mono Ya⟩;rw [i2,i1];exact ho;rw [i1];exact ha;rw [i3];exact hrv;split;exact⟨u4 hc hb 9,by rw [i4];exact hM.mono Ya⟩;have h2:∀s2:aI,s2=(if r.d8<s.cf.bg/\¬r.d8∈s.reads then { s with aH:=.bj (dW r M).2.1 u,reads:=s.reads++[r.d8] } else { s with aH:=.bj (dW r M).2.1 u })->jX c (k+1) s2/\kG s2/\s2.cf=s.cf/\s2.set=s.set:=by
  rintro _ rfl;split;rename_i hn;refine⟨{ hb.to (s':={ s with aH:=.bj (dW r M).2.1 u }) rfl rfl rfl rfl rfl rfl rfl rfl rfl rfl with rnd:=JF h.rnd hn.2,rrg:=?_ },he.to rfl rfl rfl rfl rfl,rfl,rfl⟩;intro a hx;have hx:a∈s.reads++[r.d8]:=hx;rw [ZH] at hx;rcases hx with hx|hx;exact h.rrg a hx;have:a=r.d8:=by simpa using hx
  rw [h.cf] at hn;omega;exact⟨hb.to,he.to rfl rfl rfl rfl rfl,rfl,rfl⟩
 generalize uI:(if r.d8<s.cf.bg/\¬r.d8∈s.reads then { s with aH:=bJ.bj (dW r M).2.1 u,reads:=s.reads++[r.d8] } else { s with aH:=bJ.bj (dW r M).2.1 u }:aI)=s2;obtain⟨b2,e2,c2,t2⟩:=h2 s2 uI.symm;split
 . rename_i jx;refine sz.of ?_ (by rw [i4];exact hM.mono Ya);refine useS_ok hc ?_ ?_ rfl _ _ hu
   case refine_2=>exact e2.to rfl rfl rfl rfl rfl
   refine { b2.to (s':={ s2 with aH:=.bL }) rfl rfl rfl rfl rfl rfl rfl rfl rfl rfl with set:=?_ };show (eO s.cf.reads.toNat s.set r.iK).2.length<=c.reads.toNat;rw [h.cf];exact O9 _ h.set
 exact⟨u4 hc b2 3,by rw [i4];exact hM.mono Ya⟩
theorem Ao (p:rM) (M:Mm) (nV:0<=p.cr/\p.cr<=2):(p.cr=0/\gH p M=(iL M 7 p.eZ,{ p with head:=(iL M 7 p.eZ).eY,cr:=if ka (iL M 7 p.eZ).eY<0 then 3 else 1 },M)) \/
 (p.cr=1/\gH p M=(iL M 8 (ka p.head),{ p with next:=(iL M 8 (ka p.head)).eY,cr:=2 },M)) \/
 (p.cr=2/\∃w,w=rr p.head (qY.wrap (qY.wrap p.next-1))/\gH p M=(If M 7 p.eZ p.head w,if (If M 7 p.eZ p.head w).done=qg then { p with cr:=3,block:=ka p.head } else { p with cr:=0 },swM M 7 p.eZ p.head w)):=by
 unfold gH;by_cases h0:p.cr=0;exact qq ⟨h0,ay h0⟩;by_cases h1:p.cr=1;exact qt (qq ⟨h1,by rw [aw h0,ay h1]⟩);have h2:p.cr=2:=Ya
 exact qt (qt ⟨h2,_,rfl,by rw [aw h0,aw h1,ay h2]⟩)
theorem Vi (hc:da c) (hM:lK c nt k M) (h:jX c k s) (he:kG s) (p:rM) (hl:(s.ar.length:Int)<c.ar) (lh:0<=p.eZ/\p.eZ<=3) (hh:kY c p.eZ p.head) (hn:pG c p.eZ p.next) (hb:p.block = -1) (nV:0<=p.cr/\p.cr<=2) (hat1:1<=p.cr->0<=ka p.head):sz c nt k (lD s M p):=by
 have zH:=h.mono (Zo k);have ES:=ta hc;have bX:∀(b:Int),-1<=b/\b<c.nb->(0<=b->dN c b=p.eZ)->nZ c (k+1) (fq { s with aH:=.bL } p.eZ b):=λb hb hcb=>by
  refine Ja (s:={ s with aH:=.bL }) hc ?_ ?_ rfl hl _ _ hb hcb;exact zH.to;exact he.to rfl rfl rfl rfl rfl
 unfold lD;rcases Ao p M nV with ⟨h0,e0⟩|⟨h0,e0⟩|⟨h0,w,hw,e0⟩;rw [e0];have hg:=G7 hc hM 1 lh.1 lG;dsimp only;refine sz.of ?_ (hM.mono Ya);by_cases NQ:ka (iL M 7 p.eZ).eY<0;rw [ay (by rw [ay NQ]),hb];exact bX _ Ya (λe=>by omega);rw [aw (by rw [aw NQ];decide)];refine⟨zH.to,he.to rfl rfl rfl rfl rfl,hl,lh,hg,hn,hb,?_,λ_=>?_⟩;dsimp only;rw [aw NQ];omega;show 0<=ka (iL M 7 p.eZ).eY;omega;rw [e0];have ht:=hat1 Ya;have hg:=WF hc hM 1 ht lG;rw [hh.2.2 ht] at hg;dsimp only;rw [aw Yf];exact⟨⟨zH.to,he.to rfl rfl rfl rfl rfl,hl,lh,hh,hg,hb,by dsimp only;omega,λ_=>ht⟩,hM.mono Ya⟩;rw [e0];dsimp only;have ht:=hat1 Ya;have C7:=hn.1;have yt:=hn.2.1;have h64:=hc.nb;have iZ:qY.wrap (qY.wrap p.next-1)=p.next-1:=by
  rw [af (x:=p.next) Ya Ya,af Ya Ya]
 rw [iZ] at hw;refine sz.of ?_ (hM.op Ya _ _ _ λ_=>⟨λ_=>?_,λe=>by omega,λe=>by omega,λe=>by omega⟩);by_cases mo:(If M 7 p.eZ p.head w).done=qg;rw [ay (by rw [ay mo]),ay mo];exact bX _ ⟨by dsimp only;omega,hh.2.1⟩ hh.2.2;rw [aw (by rw [aw mo];show ¬(0:Int)=3;decide),aw mo];exact⟨zH.to,he.to rfl rfl rfl rfl rfl,hl,lh,hh,hn,hb,by dsimp only;omega,λe=>by dsimp only at e;omega⟩;show kY c p.eZ w;rw [hw];exact Hy hc Ya λe=>hn.2.2 Ya
theorem yj (p:gs) (M:Mm) (nV:0<=p.cr/\p.cr<=2):(p.cr=0/\dR p M=(iL M 7 p.eZ,{ p with head:=(iL M 7 p.eZ).eY,cr:=1 },M)) \/
 (p.cr=1/\∃w,w=q8.wrap (qY.wrap (ka p.head+1))/\dR p M=(EM M 8 p.block w,{ p with cr:=2 },u7 M 8 p.block w)) \/
 (p.cr=2/\∃w,w=rr p.head p.block/\dR p M=(If M 7 p.eZ p.head w,{ p with cr:=if (If M 7 p.eZ p.head w).done=qg then 3 else 0 },swM M 7 p.eZ p.head w)):=by
 unfold dR;by_cases h0:p.cr=0;exact qq ⟨h0,ay h0⟩;by_cases h1:p.cr=1;exact qt (qq ⟨h1,_,rfl,by rw [aw h0,ay h1]⟩);have h2:p.cr=2:=Ya
 exact qt (qt ⟨h2,_,rfl,by rw [aw h0,aw h1,ay h2]⟩)
theorem SO (hc:da c) (hM:lK c nt k M) (h:jX c k s) (p:gs) (JO:s.aD≠1) (bY:s.ax<s.ar.length) (hbk:p.block=s.ar.getD s.ax 0) (lh:p.eZ=dN c p.block) (hh:kY c p.eZ p.head) (nV:0<=p.cr/\p.cr<=2):sz c nt k (iD s M p):=by
 have zH:=h.mono (Zo k);have hb:=h.Uw _ (yC bY);rw [<-hbk] at hb;have zF:=Cs hc p.block hb;rw [<-lh] at zF;unfold iD;rcases yj p M nV with ⟨h0,e0⟩|⟨h0,w,hw,e0⟩|⟨h0,w,hw,e0⟩;rw [e0];have hg:=G7 hc hM 1 zF.1.1 lG;dsimp only;rw [aw Yf];exact⟨⟨zH.to,JO,bY,hbk,lh,hg,by dsimp only;omega⟩,hM.mono Ya⟩;rw [e0];dsimp only;rw [aw Yf];refine⟨⟨zH.to,JO,bY,hbk,lh,hh,by dsimp only;omega⟩,hM.op Ya _ _ _ λ_=>⟨λe=>by omega,λ_=>?_,λe=>by omega,λe=>by omega⟩⟩;have htop:=MH hh.1;have h64:=hc.nb;have ht2:=hh.2.1;have iZ:q8.wrap (qY.wrap (ka p.head+1))=ka p.head+1:=by
  rw [af Ya Ya,an Ya Ya]
 show pG c (dN c p.block) w;rw [hw,iZ,<-lh];refine⟨by omega,by omega,λe=>?_⟩;rw [show ka p.head+1-1=ka p.head by omega];exact hh.2.2 Ya;rw [e0];dsimp only;refine sz.of ?_ (hM.op Ya _ _ _ λ_=>⟨λ_=>?_,λe=>by omega,λe=>by omega,λe=>by omega⟩);by_cases mo:(If M 7 p.eZ p.head w).done=qg;rw [ay (by rw [ay mo])];refine Bm hc ?_;refine { zH.to (s':={ s with aH:=.bL }) rfl rfl rfl rfl rfl rfl rfl rfl rfl rfl with push:=?_ };show s.ax+1<=s.ar.length;omega;rw [aw (by rw [aw mo];decide)];refine⟨zH.to,JO,bY,hbk,lh,hh,?_⟩;dsimp only;rw [aw mo];omega;show kY c p.eZ w;rw [hw];exact Hy hc hb.2 λ_=>lh.symm
theorem WE (hM:lK c nt k M) (fx cg:Int) (g:Int->Int×Bool):lx k (eR M fx 2 cg g).eY:=by
 rcases vB M fx 2 cg g with h|⟨_,h⟩;rw [h];exact .zero k;rw [h];exact hM.orc _
theorem Lp {k:Nat} {x:Int} (h:lx k x):oH x<0↔x % 64=0:=by
 have h1:=h.1;unfold oH;rw [ZI h1,af (x:=x % 64) Ya Ya,af Ya Ya];omega
theorem wU {k:Nat} (hk:k<2^41) {l:iI} (h:AH k l) (hl:l.fZ=qg) (ht:0<=l.am/\l.am<16):gx l=l.dM+l.am+1:=by
 have h1:=h.dM.1;have h2:=h.dM.2.1;have h3:=h.load hl;unfold gx;rw [an (x:=l.am) Ya Ya,an (x:=l.dM+l.am) Ya Ya,an Ya Ya]
theorem Nx (l:iI) (hM:lK c nt k M) (hk:k<2^40) (ht:0<=l.am/\l.am<16) (h3:l.ey.length<l.av.length) (hI:AH k l):(dI l M).2.1.av=l.av/\(dI l M).2.1.am=l.am/\(dI l M).2.1.ey.length<=l.av.length/\AH (k+1) (dI l M).2.1/\lK c nt (k+1) (dI l M).2.2:=by
 have hI1:=hI.mono (Zo k);unfold dI;dsimp only;split;exact⟨rfl,rfl,by dsimp only;omega,hI1,hM.mono Ya⟩;split;have hg:=WE hM 1 (dC l) lG;refine⟨rfl,rfl,by dsimp only;omega,⟨hg.mono Ya,λe=>?_,hI1.ey⟩,hM.mono Ya⟩;exact(Lp hg).1 (by simpa using e);rename_i IT;have GX:l.fZ=qg:=by simpa using IT
 have h1:=hI.dM.1;have h2:=hI.dM.2.1;have h4:=hI.load GX;refine⟨rfl,rfl,?_,⟨hI1.dM,λe=>Ym,?_⟩,hM.opO Ya _ _ ?_⟩;dsimp only;split;simp;omega;omega;dsimp only;split;intro w hw;rw [ZH] at hw;rcases hw with hw|hw;exact hI1.ey w hw;have:w=l.dM:=by simpa using hw
 subst this;exact⟨hI1.dM,h4⟩;exact hI1.ey;show lx (k+1) (gx l);rw [wU Ya hI GX ht];refine⟨by omega,by omega,by omega⟩
theorem S7 (hM:lK c nt k M) (hk:k<2^40) (h:jX c k s) (l:iI) (hs:s.aP=qc l) (hn:s.aN=none/\s.ax=0/\s.ao=qk) (JO:s.aD=1) (dw:s.iO=qg) (h1:l.av=s.av) (h2:l.am=s.am) (h3:l.ey.length<l.av.length) (hI:AH k l) (hd:s.aH=.eg):sz c nt k (iy s M l):=by
 have zH:=h.mono (Zo k);obtain⟨g1,g2,g3,g5,g4⟩:=Nx l hM hk (by rw [h2];exact h.Mn) h3 hI;unfold iy;dsimp only;refine sz.of ?_ (g4);split;rename_i mo;have hdn':(dI l M).2.1.ey.length=(dI l M).2.1.av.length:=by simpa [iI.done] using mo
 have tK:0<s.av.length:=by rw [<-h1];omega
 refine⟨zH.to,hn.2,⟨qt ⟨_,rfl,g1.trans h1,?_,tK,g5⟩,⟨λ_=>tK,λ_=>dw⟩⟩,_,rfl,rfl,?_⟩;show (dI l M).2.1.ey.length=s.av.length;rw [hdn',g1,h1];show (0:Int)<=0/\(0:Int)<=((k+1:Nat):Int);omega;rename_i mo;have hdn':¬(dI l M).2.1.ey.length=(dI l M).2.1.av.length:=by simpa [iI.done] using mo
 refine⟨zH.to,?_⟩;show DoI c (k+1) _ s.aH;rw [hd];refine⟨hn,⟨JO,dw⟩,_,rfl,g1.trans h1,g2.trans h2,?_,g5⟩;rw [g1] at hdn' ⊢;omega
theorem MG (hM:lK c nt k M) (hk:k<2^40) (t:jh) (h1:t.done=qk) (h2:0<=t.dQ/\t.dQ<=k):(0<=(fX t M).2.1.dQ/\(fX t M).2.1.dQ<=k)/\lK c nt (k+1) (fX t M).2.2:=by
 unfold fX;rw [aw Y2];split;refine⟨got_tik hM 4 (IX 1),hM.op Ya _ _ _ λ_=>⟨λe=>by omega,λe=>by omega,λ_=>?_,λe=>by omega⟩⟩;have hg:=hM.tik;show 0<=q8.wrap ((M 3).getD 0 0+1)/\q8.wrap ((M 3).getD 0 0+1)<=((k+1:Nat):Int);rw [an Ya Ya];omega;exact⟨h2,hM.mono Ya⟩
theorem Sq (hM:lK c nt k M) (hk:k<2^40) (h:jX c k s) (t:jh) (hs:s.aN=qc t) (hn:s.ax=0/\s.ao=qk) (hl:oT k s) (h1:t.done=qk) (h2:0<=t.dQ/\t.dQ<=k) (hd:s.aH=.cY):sz c nt k (ij s M t):=by
 have zH:=h.mono (Zo k);obtain⟨g1,g2⟩:=MG hM hk t h1 h2;unfold ij;dsimp only;refine sz.of ?_ (g2);split;by_cases hz:s.set.length=0;refine⟨zH.to,?_⟩;simp only [ay hz];exact⟨hn,hl.mono Ya,_,rfl⟩;refine⟨zH.to,?_⟩;simp only [aw hz];exact⟨hn,hl.mono Ya,⟨_,rfl⟩,rfl,⟨0,by show 0<s.set.length;omega,rfl⟩,rfl⟩;rename_i mo;refine⟨zH.to,?_⟩;show DoI c (k+1) _ s.aH;rw [hd];refine⟨hn,hl.mono Ya,_,rfl,by simpa using mo,g1.1,?_⟩;have:=g1.2;show (fX t M).2.1.dQ<=((k+1:Nat):Int);omega
theorem QB (hM:lK c nt k M) (h:jX c k s) (ck:iU) (hn:s.ax=0/\s.ao=qk) (hl:oT k s) (ht:∃t,s.aN=qc t) (h1:ck.kB=qk) (h2:∃k,k<s.set.length/\ck.av=s.set.drop k) (h3:ck.rv=s.rv):sz c nt k (gr s M ck):=by
 have zH:=h.mono (Zo k);obtain⟨q,hq,IQ⟩:=h2;have Qb:ck.done=qk:=by
  simp only [iU.done,h1,IQ,Bool.false_or,kas,decide_eq_false_iff_not];omega
 have e0:eD ck M=(iL M 2 (ck.av.getD 0 0),{ ck with av:=ck.av.tail,kB:=decide (mX (iL M 2 (ck.av.getD 0 0)).eY>ck.rv) },M):=by
  unfold eD;rw [aw (by rw [Qb];decide)]
 unfold gr;rw [e0];dsimp only;refine sz.of ?_ (hM.mono Ya);split;exact ye (zH.to) hn.1 (hl.1.mono Ya) (λe=>by rw [show s.ao=qk from hn.2] at e;cases e) ht;rename_i hf;split;exact⟨zH.to,hn,hl.mono Ya,ht⟩;rename_i mo;refine⟨zH.to,hn,hl.mono Ya,ht,by simpa using hf,⟨q+1,?_,?_⟩,h3⟩;simp only [iU.done,Bool.or_eq_true,decide_eq_true_eq,IQ,kb0,kas] at mo;show q+1<s.set.length;omega;show ck.av.tail=s.set.drop (q+1);rw [IQ,kbk]
theorem Ok (hM:lK c nt k M) (h:jX c k s) (hn:s.ax=0/\s.ao=qk) (hl:oT k s) (ht:∃t,s.aN=qc t):sz c nt k (fm s M):=by
 have zH:=h.mono (Zo k);have hg:=RW hM 1 lG;have lF:jX c (k+1) { s with aC:=(iL M 3 0).eY }:=by
  refine { zH.to (s':={ s with aH:=.bL }) rfl rfl rfl rfl rfl rfl rfl rfl rfl rfl with gL:=?_ };show 0<=(iL M 3 0).eY/\(iL M 3 0).eY<=((k+1:Nat):Int);refine⟨hg.1,?_⟩;have:=hg.2;show (eR M 1 3 0 lG).eY<=_;omega
 unfold fm;dsimp only;refine sz.of ?_ (hM.mono Ya);split;exact ye (lF.to) hn.1 (hl.1.mono Ya) (λe=>by rw [show s.ao=qk from hn.2] at e;cases e) ht;split;rename_i dw;refine⟨lF.to,hn.1,⟨rfl,dw⟩,hl.mono Ya,ht,0,?_,rfl⟩;have V2:s.iO=qg:=dw;unfold aI.iO at V2;simp only [Zd,decide_eq_true_eq] at V2;exact V2.2;rename_i dw;refine ye (lF.to) hn.1 (hl.1.mono Ya) (λ_=>?_) ht;have:¬0<s.av.length:=λe=>dw (hl.2.2 e);exact List.eq_nil_of_length_eq_zero (by show s.av.length=0;omega)
theorem OS (hM:lK c nt k M) (h:jX c k s) (w:jO) (hn:s.ax=0) (xB:s.ao=qg/\s.iO=qg) (hl:oT k s) (ht:∃t,s.aN=qc t) (h1:∃k,k<s.bG.bZ.length/\w=⟨s.bG.bZ.drop k,s.bG.fU.drop k⟩):sz c nt k (go s M w):=by
 have zH:=h.mono (Zo k);obtain⟨q,hq,rfl⟩:=h1;have tK:=hl.2.1 xB.2;unfold go kr;rw [aw Xu];dsimp only;refine sz.of ?_ (hM.op0 Ya _ _ _ Yf);split;refine⟨zH.to,hn,λ_=>xB.2,hl.1.mono Ya,ht,0,tK,?_⟩;show (⟨s.av,qX s.av.length (lH s.oX)⟩:jO)=⟨s.av,vy _⟩;unfold vy;rw [ay (by exact xB.1)];rfl;rename_i mo;simp only [jO.done,decide_eq_true_eq,kb0,kas] at mo;exact⟨zH.to,hn,xB,hl.mono Ya,ht,q+1,by show q+1<s.bG.bZ.length;omega,by rw [kbk,kbk]⟩
theorem sO (h:jX c k s) (hk:k<2^40) (xB:s.ao=qg/\s.iO=qg):s.oX=s.aC+1:=by
 have yw:=h.gL;unfold aI.oX;rw [ay xB,af (x:=s.aC) Ya Ya,af Ya Ya]
theorem Vc (hM:lK c nt k M) (hk:k<2^40) (h:jX c k s) (w:jO) (hn:s.ax=0) (xB:s.ao=qg->s.iO=qg) (hl:xq k s) (ht:∃t,s.aN=qc t) (h1:∃k,k<s.av.length/\w=⟨s.av.drop k,(vy s).drop k⟩):sz c nt k (nK s M w):=by
 have zH:=h.mono (Zo k);obtain⟨q,hq,rfl⟩:=h1;unfold nK fF;rw [aw Xu];dsimp only;have jE:lx (k+1) (((vy s).drop q).getD 0 0):=by
  have e:((vy s).drop q).getD 0 0=(vy s).getD q 0:=by simp [Za]
  rw [e];unfold vy;split;rename_i NV;have hv:=sO h hk ⟨NV,xB NV⟩;have yw:=h.gL;rw [Za,List.getElem?_replicate,ay hq];show lx (k+1) (lH s.oX);rw [hv];unfold lH;rw [ay Ya];exact⟨by omega,by omega,by omega⟩;rcases hl with ⟨hl,_⟩|⟨l,h1,h2,h3,h4,h5⟩;rw [hl] at hq;simp at hq;unfold aI.ey;rw [h1];rcases N5 l.ey q with e|e;show lx (k+1) (l.ey.getD q 0);rw [e];exact .zero _;exact(h5.ey _ e).1.mono Ya
 refine sz.of ?_ (hM.opO Ya _ _ jE);by_cases mo:jO.done ⟨(s.av.drop q).tail,((vy s).drop q).tail⟩=qg;by_cases hv:0<=s.oX;refine⟨zH.to,?_⟩;simp only [ay mo,ay hv];refine⟨hn,?_,ht⟩;show s.ao=qg/\s.iO=qg;have:s.ao=qg:=by
  cases e:s.ao with
  | true=>rfl
  | false=>unfold aI.oX at hv;rw [aw (by rw [e];simp)] at hv;omega
 exact⟨this,xB this⟩;refine⟨zH.to,?_⟩;simp only [ay mo,aw hv];exact⟨hn,ht⟩;refine⟨zH.to,?_⟩;simp only [aw mo];simp only [jO.done,decide_eq_true_eq,kb0,kas] at mo;exact⟨hn,xB,hl.mono Ya,ht,q+1,by show q+1<s.av.length;omega,by rw [kbk,kbk];rfl⟩
theorem zg (hc:da c) (hk:k<2^40) (h:nZ c k s) (hM:lK c nt k M):sz c nt k (ba s M):=by
 have hb:=h.b;have zH:=hb.mono (Zo k);have hd:=h.d;have hMs:=hM.mono (Zo k);unfold ba;cases e:s.aH with
 | bL=>exact⟨h.mono (Zo k),hMs⟩
 | je l=>
   rw [e] at hd;refine sz.of ?_ hMs;refine locS_ok hc ?_ ?_ rfl l hd.2;exact zH.to;exact hd.1.to rfl rfl rfl rfl rfl
 | dA=>
   rw [e] at hd;obtain⟨h0,en,h1,h2,h3,h4⟩:=hd;dsimp only;rw [h1];exact Qu hM hb h0 en h2 h3 h4 e
 | bj r u=>
   rw [e] at hd;obtain⟨h0,h1,h2,h3,h4,h5,h6⟩:=hd;exact SN hc hM hb h0 r u e h1 h2 h3 h4 h5 h6
 | eP p=>
   rw [e] at hd;obtain⟨h0,h1,h2,h3,h4,h5,h6,h7⟩:=hd;exact Vi hc hM hb h0 p h1 h2 h3 h4 h5 h6 h7
 | eg=>
   rw [e] at hd;obtain⟨h0,Mu,l,h1,h2,h3,h4,h5⟩:=hd;dsimp only;rw [h1];exact S7 hM hk hb l h1 h0 Mu.1 Mu.2 h2 h3 h4 h5 e
 | cY=>
   rw [e] at hd;obtain⟨h0,hl,t,h1,h2,h3⟩:=hd;dsimp only;rw [h1];exact Sq hM hk hb t h1 h0 hl h2 h3 e
 | cG ck=>
   rw [e] at hd;obtain⟨h0,hl,ht,h1,h2,h3⟩:=hd;exact QB hM hb ck h0 hl ht h1 h2 h3
 | bM=>
   rw [e] at hd;obtain⟨h0,hl,ht⟩:=hd;exact Ok hM hb h0 hl ht
 | dt w=>
   rw [e] at hd;obtain⟨h0,xB,hl,ht,h1⟩:=hd;exact OS hM hb w h0 xB hl ht h1
 | bE w=>
   rw [e] at hd;obtain⟨h0,xB,hl,ht,h1⟩:=hd;exact Vc hM hk hb w h0 xB hl ht h1
 | eA=>
   rw [e] at hd;refine⟨⟨zH.to,hd.1,hd.2.2⟩,hM.op Ya _ _ _ λ_=>⟨λe=>by omega,λe=>by omega,λ_=>?_,λe=>by omega⟩⟩;have yw:=hb.gL;show 0<=q8.wrap (s.aC+1)/\q8.wrap (s.aC+1)<=((k+1:Nat):Int);rw [an Ya Ya];omega
 | eb=>
   rw [e] at hd;exact⟨Bm hc zH,hM.op0 Ya _ _ _ Yf⟩
 | eC p=>
   rw [e] at hd;obtain⟨h0,h1,h2,h3,h4,h5⟩:=hd;exact SO hc hM hb p h0 h1 h2 h3 h4 h5
 | gq=>
   exact⟨⟨zH.to,λe=>absurd rfl e⟩,hM.op0 Ya _ _ _ Yf⟩
theorem vQ (h:nZ c k s) {st:Int} (dw:st≠2) (hf:s.ga st=qg):kG s/\s.aH=.bL/\s.aF=st:=by
 simp only [aI.ga,Zd,decide_eq_true_eq] at hf;have hd:s.aH=.bL:=by
  have h1:=hf.1;revert h1;cases s.aH<;>simp [bJ.gB]
 have NW:=h.d;rw [hd] at NW;exact⟨NW (by rw [hf.2];exact dw),hd,hf.2⟩
theorem DN (h:nZ c k s):nZ c k (gv s).2:=by
 unfold gv;split;rename_i hf;obtain⟨he,hd,hs⟩:=vQ h Yf hf;exact⟨h.b.to,he.to rfl rfl rfl rfl rfl,_,rfl,by show (0:Int)<=0/\(0:Int)<=k;omega,by show (0:Int)<=0/\(0:Int)<=2;omega,rfl⟩;exact h
theorem FU (h:nZ c k s) (he:kG s) (a:Int) (ha:0<=a/\a<c.bg+c.nb) (u:Ac) (hu:UseI c u):nZ c k (wi s a u):=by
 refine⟨h.b.to,he.to rfl rfl rfl rfl rfl,by show (0:Int)<=0/\(0:Int)<=2;omega,?_,rfl,hu,ha,rfl⟩;show gV s.cf a=gV c a;rw [h.b.cf]
theorem Vf (hc:da c) (h:nZ c k s) (a:Int) (ha:0<=a):nZ c k (Jz s a).2:=by
 have ES:=ta hc;unfold Jz;split;rename_i hf;obtain⟨he,hd,hs⟩:=vQ h Yf hf;split;exact⟨h.b.to,he.to rfl rfl rfl rfl rfl,trivial⟩;rename_i hn;rw [h.b.cf] at hn;split;exact⟨h.b.to,he.to rfl rfl rfl rfl rfl,trivial⟩;exact FU h he a Ya .take trivial;exact h
theorem UA (h:nZ c k s) (a v:Int) (ha:0<=a):nZ c k (H9 s a v).2:=by
 unfold H9;split;rename_i hf;obtain⟨he,hd,hs⟩:=vQ h Yf hf;exact⟨h.b.to,he.to rfl rfl rfl rfl rfl,ha⟩;exact h
theorem alS_ok (hc:da c) (h:nZ c k s) (eZ:Int):nZ c k (OC s eZ).2:=by
 have ES:=ta hc;unfold OC;split;rename_i hf;obtain⟨he,hd,hs⟩:=vQ h Yf hf;split;exact h;split;exact⟨h.b.to,he.to rfl rfl rfl rfl rfl,trivial⟩;rename_i h1 h2;rw [h.b.cf] at h2;exact⟨h.b.to,he.to rfl rfl rfl rfl rfl,by show (s.ar.length:Int)<c.ar;omega,by dsimp only;omega,.zero hc _,.zero hc _,rfl,by dsimp only;omega,λe=>by dsimp only at e;omega⟩;exact h
theorem TD (hc:da c) (a:Int):lY c a<0\/(0<=lY c a/\lY c a<c.nb):=by
 unfold lY;split;rename_i b hb;have hm:=List.mem_of_find?_eq_some hb;have:=List.mem_range.1 hm;have ES:=ta hc;right;omega;left;decide
theorem frS_ok (hc:da c) (h:nZ c k s) (a:Int):nZ c k (N8 s a).2:=by
 have hw:=hc.bg;have rH:=h.b.cf;subst rH;unfold N8;split;rename_i hf;obtain⟨he,hd,hs⟩:=vQ h Yf hf;split;exact⟨h.b.to,he.to rfl rfl rfl rfl rfl,trivial⟩;rename_i hn;have tE:=TD hc a;split;exact⟨h.b.to,he.to rfl rfl rfl rfl rfl,by show 0<=lY s.cf a/\lY s.cf a<s.cf.nb;omega⟩;exact FU h he _ Ya _ (by show 0<=lY s.cf a/\lY s.cf a<s.cf.nb;omega);exact h
theorem Qw (h:nZ c k s) (aD:Int):nZ c k (E2 s aD).2:=by
 unfold E2;split;rename_i hf;obtain⟨he,hd,hs⟩:=vQ h Yf hf;split;exact h;exact⟨h.b.to,he.to rfl rfl rfl rfl rfl,trivial⟩;exact h
theorem PB (w:Nat) (hw:w<=32):ry (jD w)/\(jD w).eV=w/\(jD w).index.length<=64:=by
 have:∀w:Fin 33,ry (jD (w:Nat))/\(jD (w:Nat)).eV=w/\(jD (w:Nat)).index.length<=64:=by
  intro w;have Lx:(jD (w:Nat)).eV=w:=by simp [jD]
  have hw:=w.2;have DG:(jD (w:Nat)).bZ=[]:=rfl;have hval:(jD (w:Nat)).fU=[]:=rfl;have hix:∃n,(jD (w:Nat)).index=qX n (-1)/\(w:Nat)<n/\n<=64:=by
   refine⟨_,rfl,?_⟩;constructor
   . repeat' split
     all_goals omega
   repeat' split
   all_goals omega
  obtain⟨n,hn,C7,yt⟩:=hix;have hixv:∀q,ix (jD (w:Nat)).index q = -1:=by
   intro q;unfold ix;rw [hn,Za];by_cases hq:q<n;rw [List.getElem?_replicate,ay hq];rfl;rw [Zx Yg];rfl
  refine⟨⟨by rw [DG,hval],by rw [DG];simp,by rw [Lx,hn];simpa using C7,by rw [DG];simp,λq _=>by rw [hixv,DG];simp,?_,λe he=>by rw [DG] at he;simp at he,λi j hi=>by rw [DG] at hi;simp at hi⟩,Lx,by rw [hn];simpa using yt⟩;rw [DG,hn];unfold yH;rw [List.countP_replicate];simp
 exact this ⟨w,by omega⟩
theorem Ba (hc:da c) (k:Nat) (t:Int) (ht:0<=t/\t<16):nZ c k (fh c t):=by
 have hw:=hc.bU;obtain⟨w,hwn⟩:∃w:Nat,c.bU=w:=⟨c.bU.toNat,by omega⟩;obtain⟨h1,h2,h3⟩:=PB w Ya;have ha:=hc.ar;have hf:=hc.aA;have e:(fh c t).bG=jD w:=by unfold fh;rw [hwn]
 refine⟨⟨rfl,ht,by rw [e];exact h1,by rw [e,h2,hwn];rfl,by rw [e];exact h3,by rw [e];exact λa ha=>(by cases ha),λx hx=>(by cases hx),by show ((0:Nat):Int)<=c.ar;omega,Nat.le_refl _,Nat.zero_le _,List.nodup_nil,λa ha=>(by cases ha),by show ((0:Nat):Int)<=c.aA;omega,by show (0:Int)<=0/\(0:Int)<=k;omega,Nat.zero_le _,λx hx=>(by cases hx)⟩,λ_=>⟨rfl,rfl,rfl,rfl,rfl⟩⟩
end
theorem SQ {c:aY} {M:Mm} (p:rM) (nV:0<=p.cr/\p.cr<=2) (hc:da c) (hh:kY c p.eZ p.head) (hb:p.block = -1):(gH p M).2.1.block<c.nb:=by
 have ES:=ta hc;rcases Ao p M nV with ⟨h0,e0⟩|⟨h0,e0⟩|⟨h0,w,hw,e0⟩;rw [e0];dsimp only;omega;rw [e0];dsimp only;omega;rw [e0];dsimp only;split;exact hh.2.1;dsimp only;omega
end
end Go.Stx
