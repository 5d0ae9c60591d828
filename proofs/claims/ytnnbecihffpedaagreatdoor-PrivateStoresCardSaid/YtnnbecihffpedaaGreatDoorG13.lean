import Derived.Test.YtnnbecihffpedaaGreatDoorG10
set_option linter.all false
set_option maxRecDepth 20000
set_option maxHeartbeats 4000000
open List renaming length->U
open Bool renaming and_eq_true->Zg
open Go.IntKind renaming i64->Zb,u64->Zc
open Int renaming tmod_eq_emod_of_nonneg->ZU
open List renaming getD_eq_getElem?_getD->Ze,getElem?_eq_getElem->Zf,getElem?_eq_none->ZL,getElem_mem->ZP,length_append->Zh,length_cons->ZI,length_drop->kaw,length_nil->kay,length_replicate->ka8,length_tail->kcj,mem_append->ZG,replicate->q9,tail_drop->kbF
open Nat renaming le_succ->Zx
open Bool renaming false->qn,true->qj
open Option renaming some->qf
open Or renaming inl->qw,inr->qB
namespace Go.Stx
open Go Go.Proofs
attribute [local irreducible] df aW aE aL cY dm
section
variable [Gl]
def QA (l:List Int)(i:Nat):l.getD i 0=0\/l.getD i 0∈l:=by rw[Ze];by_cases h:i<U l;rw[Zf h];exact qB (ZP h);rw[ZL Ya];exact qw rfl
def wL (M:Mm)(fB cell cZ:Int)(g:Int->Int×Bool):(fk M fB cell cZ g).eV=0\/(eU M cell cZ=qj/\(fk M fB cell cZ g).eV=(j4 M cell).getD cZ.toNat 0):=by unfold fk;split;rename_i h;exact qB ⟨h,rfl⟩;exact qw rfl
def R1 (M:Mm)(cell cZ v:Int)(k:Nat):U (setRow M cell cZ v k)=U (M k):=by unfold setRow;split<;>simp
def u3 (M:Mm)(cell cZ:Int)(g:Int->Int×Bool)(k:Nat):U (mw M cell cZ g k)=U (M k):=by unfold mw;split;exact R1 _ _ _ _ _;rfl
def Cn (M:Mm)(cell cZ:Int)(g:Int->Int×Bool)(k j:Nat):
 (mw M cell cZ g k).getD j 0=(M k).getD j 0\/(eU M cell cZ=qj/\k=(cell-1).toNat/\j=cZ.toNat/\(mw M cell cZ g k).getD j 0=(g ((j4 M cell).getD cZ.toNat 0)).1):=by unfold mw;split;rename_i hc;unfold setRow;split;rename_i e;by_cases hj:j=cZ.toNat;by_cases hl:j<U (M k);refine qB ⟨hc.1,e,hj,?_⟩;subst hj;rw[Ze,List.getElem?_set_self hl];rfl;left;simp only[Ze];rw[ZL Yg,ZL Ya];left;simp only[Ze];rw[List.getElem?_set_ne (Ne.symm hj)];exact qw rfl;exact qw rfl
def sf {M:Mm}{cell cZ:Int}(h:eU M cell cZ=qj):(1<=cell/\cell<=8)/\0<=cZ/\cZ<U (M (cell-1).toNat):=by
 unfold eU j4 at h;split at h;rename_i hh;refine⟨hh,?_⟩
 simpa using h
 simp at h;omega
def kK (k:Nat)(x:Int):Prop:=0<=x/\x / 64<=k/\x % 64<=16
def kK.mono {k k':Nat}{x:Int}(h:kK k x)(hk:k<=k'):kK k' x:=⟨h.1,by have:=h.2.1;omega,h.2.2⟩
def kK.zero (k:Nat):kK k 0:=⟨by omega,by omega,by omega⟩
def li (c:bu)(fa x:Int):Prop:=0<=x/\j7 x<c.nb/\(0<=j7 x->eE c (j7 x)=fa)
def rD (c:bu)(fa x:Int):Prop:=0<=x/\x<=c.nb/\(0<x->eE c (x-1)=fa)
def ul {c:bu}(hc:dl c):0<=c.nb:=by have h0:=hc.k0;have h1:=hc.k1;have h3:=hc.k2;have h4:=hc.k3;have e:c.nb=c.c0+c.c1+c.c2+c.c3:=rfl;omega
def EH:j7 0 = -1:=Yd
def li.zero {c:bu}(hc:dl c)(fa:Int):li c fa 0:=by have h:=ul hc;refine⟨by omega,by rw[EH];omega,λe=>?_⟩;rw[EH]at e;omega
def rD.zero {c:bu}(hc:dl c)(fa:Int):rD c fa 0:=⟨by omega,ul hc,λe=>by omega⟩
structure mr (c:bu) (nt k:Nat) (M:Mm):Prop where
 l0:((M 0).length:Int)=c.bm+c.nb
 l1:((M 1).length:Int)=c.au
 l2:(M 2).length=1
 l3:(M 3).length=1
 l4:(M 4).length=1
 l5:(M 5).length=nt
 l6:(M 6).length=4
 l7:((M 7).length:Int)=c.nb
 head:∀i:Nat,li c i ((M 6).getD i 0)
 next:∀b:Nat,rD c (eE c b) ((M 7).getD b 0)
 jC:0<=(M 2).getD 0 0/\(M 2).getD 0 0<=k
 tik:0<=(M 3).getD 0 0/\(M 3).getD 0 0<=k
 orc:∀i:Nat,kK k ((M 1).getD i 0)
def mr.mono {c:bu}{nt k k':Nat}{M:Mm}(h:mr c nt k M)(hk:k<=k'):mr c nt k' M:=
 ⟨h.l0,h.l1,h.l2,h.l3,h.l4,h.l5,h.l6,h.l7,h.head,h.next,by have:=h.jC;omega,by have:=h.tik;omega,λi=>(h.orc i).mono hk⟩
def mr.op {c:bu}{nt k k':Nat}{M:Mm}(h:mr c nt k M)(hk:k<=k')(cell cZ:Int)(g:Int->Int×Bool)(hv:eU M cell cZ=qj->(cell=7->li c cZ (g ((j4 M cell).getD cZ.toNat 0)).1)/\
  (cell=8->rD c (eE c cZ) (g ((j4 M cell).getD cZ.toNat 0)).1)/\
  (cell=3\/cell=4->0<=(g ((j4 M cell).getD cZ.toNat 0)).1/\(g ((j4 M cell).getD cZ.toNat 0)).1<=k')/\
  (cell=2->kK k' (g ((j4 M cell).getD cZ.toNat 0)).1)):mr c nt k' (mw M cell cZ g):=by
 have hcell:eU M cell cZ=qj->(1<=cell/\cell<=8)/\0<=cZ:=λh=>⟨(sf h).1,(sf h).2.1⟩;refine⟨by rw[u3];exact h.l0,by rw[u3];exact h.l1,by rw[u3];exact h.l2,by rw[u3];exact h.l3,by rw[u3];exact h.l4,by rw[u3];exact h.l5,by rw[u3];exact h.l6,by rw[u3];exact h.l7,?_,?_,?_,?_,?_⟩;intro i;rcases Cn M cell cZ g 6 i with h1|⟨h1,h2,h3,h4⟩;rw[h1];exact h.head i;have hr:=hcell h1;have:=(hv h1).1 Ya;rw[h4];have e:cZ=(i:Int):=Ya
 rw[e]at this ⊢;exact this;intro i;rcases Cn M cell cZ g 7 i with h1|⟨h1,h2,h3,h4⟩;rw[h1];exact h.next i;have hr:=hcell h1;have:=(hv h1).2.1 Ya;rw[h4];have e:cZ=(i:Int):=Ya
 rw[e]at this ⊢;exact this;rcases Cn M cell cZ g 2 0 with h1|⟨h1,h2,h3,h4⟩;rw[h1];have:=h.jC;omega;have hr:=hcell h1;rw[h4];exact(hv h1).2.2.1 Ya;rcases Cn M cell cZ g 3 0 with h1|⟨h1,h2,h3,h4⟩;rw[h1];have:=h.tik;omega;have hr:=hcell h1;rw[h4];exact(hv h1).2.2.1 Ya;intro i;rcases Cn M cell cZ g 1 i with h1|⟨h1,h2,h3,h4⟩;rw[h1];exact(h.orc i).mono hk;have hr:=hcell h1;rw[h4];exact(hv h1).2.2.2 Ya
def mr.op0 {c:bu}{nt k k':Nat}{M:Mm}(h:mr c nt k M)(hk:k<=k')(cell cZ:Int)(g:Int->Int×Bool)(h1:cell≠7/\cell≠8/\cell≠3/\cell≠4/\cell≠2):mr c nt k' (mw M cell cZ g):=
 h.op hk cell cZ g λ_=>⟨λe=>absurd e h1.1,λe=>absurd e h1.2.1,λe=>by rcases e with e|e;exact absurd e h1.2.2.1;exact absurd e h1.2.2.2.1,λe=>absurd e h1.2.2.2.2⟩
def mr.opO {c:bu}{nt k k':Nat}{M:Mm}(h:mr c nt k M)(hk:k<=k')(cZ:Int)(g:Int->Int×Bool)(h1:kK k' (g ((j4 M 2).getD cZ.toNat 0)).1):mr c nt k' (mw M 2 cZ g):=
 h.op hk 2 cZ g λ_=>⟨λe=>by omega,λe=>by omega,λe=>by omega,λ_=>h1⟩
def MA {h:Int}(h0:0<=h):j7 h=h % 65536-1:=by unfold j7;rw[ZU h0];rw[an (x:=h % 65536) Ya Ya,an Ya Ya]
def O1 {h:Int}(h0:0<=h):-1<=j7 h/\j7 h<=65534:=by rw[MA h0];omega
def Wz (t p:Int):0<=uu t p/\(j7 (uu t p)=p\/j7 (uu t p) = -1):=by unfold uu;split;rename_i h;refine⟨by omega,qw ?_⟩;rw[MA Ya];omega;exact⟨by omega,qB EH⟩
def Jt {c:bu}(hc:dl c){h p fa:Int}(hp:p<c.nb)(jv:0<=p->eE c p=fa):li c fa (sr h p):=by have IP:=ul hc;obtain⟨h1,h2⟩:=Wz ((Zb.wrap (tagF h+1)).tmod 281474976710656) p;refine⟨h1,?_,λh0=>?_⟩;show j7 (uu _ _)<c.nb;rcases h2 with h2|h2<;>rw[h2]<;>omega;have h0':0<=j7 (uu ((Zb.wrap (tagF h+1)).tmod 281474976710656) p):=h0;show eE c (j7 (uu _ _))=fa;rcases h2 with h2|h2;rw[h2]at h0' ⊢;exact jv h0';rw[h2]at h0';omega
def LocI (c:bu):Fx->Prop
 | .mA a _=>0<=a
 | .dz b _=>0<=b/\b<c.nb
 |_=>True
def UseI (c:bu):sT->Prop
 | .take=>True
 | .dz b=>0<=b/\b<c.nb
structure kO (s:aJ):Prop where
 au:s.au=[]
 aQ:s.aQ=none
 aN:s.aN=none
 av:s.av=0
 dec:s.am=false
structure B6 (k:Nat) (l:iR):Prop where
 dC:kK k l.dC
 load:l.fx=true->l.dC % 64=0
 eD:∀w∈l.eD,kK k w/\w % 64=0
def B6.mono {k k':Nat}{l:iR}(h:B6 k l)(hk:k<=k'):B6 k' l:=⟨h.dC.mono hk,h.load,λw hw=>⟨((h.eD w hw).1).mono hk,(h.eD w hw).2⟩⟩
def yu (k:Nat)(s:aJ):Prop:=(s.au=[]/\s.aQ=none)\/∃l,s.aQ=qf l/\l.au=s.au/\U l.eD=U s.au/\0<U s.au/\B6 k l
def pK (k:Nat)(s:aJ):Prop:=yu k s/\(s.iS=qj↔0<U s.au)
def yu.mono {k k':Nat}{s:aJ}(h:yu k s)(hk:k<=k'):yu k' s:=by rcases h with h|⟨l,h1,h2,h3,h4,h5⟩;exact qw h;exact qB ⟨l,h1,h2,h3,h4,h5.mono hk⟩
def pK.mono {k k':Nat}{s:aJ}(h:pK k s)(hk:k<=k'):pK k' s:=⟨h.1.mono hk,h.2⟩
def wI (s:aJ):List Int:=if s.am=qj then q9 (U s.au) (lR s.pX) else s.eD
structure jY (c:bu) (k:Nat) (s:aJ):Prop where
 cf:s.cf=c
 Rw:0<=s.af/\s.af<16
 bJ:sz s.bJ
 fg:s.bJ.fg=c.b8.toNat
 cZ:s.bJ.index.length<=64
 Mj:∀a∈s.bJ.bU,0<=a/\a<c.bm+c.nb
 alb:∀x∈s.ao,0<=x/\x<c.nb
 oQ:(s.ao.length:Int)<=c.ao
 push:s.av<=s.ao.length
 set:s.set.length<=c.reads.toNat
 rnd:s.reads.Nodup
 rrg:∀a∈s.reads,0<=a/\a<c.bm
 GQ:(s.aB.length:Int)<=c.aB
 jC:0<=s.aC/\s.aC<=k
 orl:s.au.length<=64
 orr:∀x∈s.au,0<=x/\x<c.au
def DoI (c:bu)(k:Nat)(s:aJ):bM->Prop
 | .bC=>s.aG≠2->kO s
 | .iY l=>kO s/\LocI c l
 | .dA=>kO s/\∃e,s.bQ=qf e/\(0<=e.aC/\e.aC<=k)/\(0<=e.bR/\e.bR<=2)/\e.af=s.af
 | .be r u=>kO s/\(0<=r.bR/\r.bR<=2)/\r.gz=fU c r.cr/\r.iO=qn/\UseI c u/\(0<=r.cr/\r.cr<c.bm+c.nb)/\r.rv=s.rv
 | .eO p=>kO s/\(U s.ao:Int)<c.ao/\(0<=p.fa/\p.fa<=3)/\li c p.fa p.head/\rD c p.fa p.next/\p.block = -1/\(0<=p.bR/\p.bR<=2)/\(1<=p.bR->0<=j7 p.head)
 | .ef=>(s.aN=none/\s.av=0/\s.am=qn)/\(s.aD=1/\s.iS=qj)/\∃l,s.aQ=qf l/\l.au=s.au/\l.af=s.af/\U l.eD<U l.au/\B6 k l
 | .c8=>(s.av=0/\s.am=qn)/\pK k s/\∃t,s.aN=qf t/\t.done=qn/\(0<=t.dR/\t.dR<=k)
 | .cK ck=>(s.av=0/\s.am=qn)/\pK k s/\(∃t,s.aN=qf t)/\ck.kI=qn/\(∃q,q<U s.set/\ck.au=s.set.drop q)/\ck.rv=s.rv
 | .bN=>(s.av=0/\s.am=qn)/\pK k s/\∃t,s.aN=qf t
 | .dy w=>s.av=0/\(s.am=qj/\s.iS=qj)/\pK k s/\(∃t,s.aN=qf t)/\∃q,q<U s.bJ.bU/\w=⟨s.bJ.bU.drop q,s.bJ.gi.drop q⟩
 | .bG w=>s.av=0/\(s.am=qj->s.iS=qj)/\yu k s/\(∃t,s.aN=qf t)/\∃q,q<U s.au/\w=⟨s.au.drop q,(wI s).drop q⟩
 | .eR=>s.av=0/\(s.am=qj/\s.iS=qj)/\∃t,s.aN=qf t
 | .ey=>s.av=0/\∃t,s.aN=qf t
 | .eG p=>s.aD≠1/\s.av<U s.ao/\p.block=s.ao.getD s.av 0/\p.fa=eE c p.block/\li c p.fa p.head/\(0<=p.bR/\p.bR<=2)
 | .gC=>True
structure oU (c:bu) (k:Nat) (s:aJ):Prop where
 b:jY c k s
 d:DoI c k s s.aH
def jY.mono {c:bu}{k k':Nat}{s:aJ}(h:jY c k s)(hk:k<=k'):jY c k' s:={ h with jC:=⟨h.jC.1,by have:=h.jC.2;omega⟩ }
def oU.mono {c:bu}{k k':Nat}{s:aJ}(h:oU c k s)(hk:k<=k'):oU c k' s:=by
 refine⟨h.b.mono hk,?_⟩;have hd:=h.d;revert hd;cases s.aH with
 |dA=>rintro ⟨h0,e,h1,h2,h3⟩;exact⟨h0,e,h1,⟨h2.1,by omega⟩,h3⟩
 |ef=>rintro ⟨h0,RC,l,h1,h2,h3,h4,h5⟩;exact⟨h0,RC,l,h1,h2,h3,h4,h5.mono hk⟩
 |c8=>rintro ⟨h0,hl,t,h1,h2,h3⟩;exact⟨h0,hl.mono hk,t,h1,h2,h3.1,by omega⟩
 |cK ck=>rintro ⟨h0,hl,h1⟩;exact⟨h0,hl.mono hk,h1⟩
 |bN=>rintro ⟨h0,hl,h1⟩;exact⟨h0,hl.mono hk,h1⟩
 |dy w=>rintro ⟨h0,hd,hl,h1⟩;exact⟨h0,hd,hl.mono hk,h1⟩
 |bG w=>rintro ⟨h0,hd,hl,h1⟩;exact⟨h0,hd,hl.mono hk,h1⟩
 |_=>exact id
def jY.to {c:bu}{k:Nat}{s s':aJ}(h:jY c k s)(h1:s'.cf=s.cf:=by rfl)(h2:s'.af=s.af:=by rfl)(h3:s'.bJ=s.bJ:=by rfl)(h4:s'.ao=s.ao:=by rfl)(h5:s'.av=s.av:=by rfl)(h6:s'.set=s.set:=by rfl)(h7:s'.reads=s.reads:=by rfl)(h8:s'.aB=s.aB:=by rfl)(h9:s'.aC=s.aC:=by rfl)(Qx:s'.au=s.au:=by rfl):jY c k s':=by (unhygienic cases s);obtain⟨cf',thread',state',sq,value',ent',decided',reads',allocs',frees',set',log',clock',orecs',lock',turn',pushed',doing'⟩:=s';dsimp only at h1 h2 h3 h4 h5 h6 h7 h8 h9 Qx;subst h1 h2 h3 h4 h5 h6 h7 h8 h9 Qx;exact⟨h.cf,h.Rw,h.bJ,h.fg,h.cZ,h.Mj,h.alb,h.oQ,h.push,h.set,h.rnd,h.rrg,h.GQ,h.jC,h.orl,h.orr⟩
section
variable {c:bu} {k:Nat} {s:aJ}
def zO {l:List Int}{i:Nat}(h:i<U l):l.getD i 0∈l:=by rw[Ze,Zf h];exact ZP h
def CI (hc:dl c)(h:jY c k s):oU c k (gn s):=by
 unfold gn;split;exact⟨h.to,trivial⟩;rename_i hn;have hp:=h.push;have b9:s.av<U s.ao:=Ya
 refine⟨h.to,λe=>hn (qw e),b9,rfl,?_,.zero hc _,by show (0:Int)<=0;omega,by show (0:Int)<=2;omega⟩;show eE s.cf (s.ao.getD s.av 0)=eE c (s.ao.getD s.av 0);rw[h.cf]
def wB (hc:dl c)(h:jY c k s)(aD:Int):oU c k (kM s aD):=CI hc (h.to)
def oY (l:List Int):(fC l).Pairwise (·< ·)/\∀z,z∈fC l↔z∈l:=by rw[RY];exact yB l
def MV (l:List Int):fC (fC l)=fC l:=by obtain⟨h1,h2⟩:=oY l;obtain⟨h3,h4⟩:=oY (fC l);exact Tp _ _ h3 h1 h4
def pair_len {l:List Int}(hl:l.Pairwise (·< ·))(a:Int):(∀x∈l,a<=x)->∀n:Nat,(∀x∈l,x<a+n)->U l<=n:=by
 induction l generalizing a with
 |nil=>intro _ n _;simp
 |cons y r ih=>intro h1 n h2;rw[List.pairwise_cons]at hl;have hy1:=h1 y Yb;have hy2:=h2 y Yb;have:U r<=n-1:=ih hl.2 (y+1) (λx hx=>by have:=hl.1 x hx;omega) (n-1) (λx hx=>by have:=h2 x Yu;omega);simp only[ZI];omega
def Ps {c:bu}(hc:dl c){a:Int}(h:0<=a/\a<c.bm+c.nb):0<=fU c a/\fU c a<c.au:=by have:=hc.au;unfold fU;rw[az h,ZU h.1];exact⟨Int.emod_nonneg a Ya,Int.emod_lt_of_pos a Ya⟩
def Eb (hc:dl c)(h:jY c k s)(he:kO s)(aD:Int):oU c k (nB s aD):=by
 unfold nB;split;rename_i hs;simp only[Zg,decide_eq_true_eq]at hs;obtain⟨ED,tu⟩:=hs;have zI:=oY (s.bJ.bU.map (fU s.cf));have hidem:=MV (s.bJ.bU.map (fU s.cf));have hr:∀x∈fC (s.bJ.bU.map (fU s.cf)),0<=x/\x<c.au:=λx hx=>by obtain⟨a,ha,rfl⟩:=List.mem_map.1 ((zI.2 x).1 hx);rw[h.cf];exact Ps hc (h.Mj a ha)
 refine⟨{ h.to (s':={ s with aD:=aD,aQ:=qf ⟨s.af,fC (fC (s.bJ.bU.map (fU s.cf))),[],0,qn⟩,aH:=.ef }) rfl rfl rfl rfl rfl rfl rfl rfl rfl rfl with orl:=?_,orr:=hr },⟨he.aN,he.av,he.dec⟩,⟨ED,?_⟩,_,rfl,hidem,rfl,?_,⟨.zero _,λe=>Ym,λw hw=>(by cases hw)⟩⟩;show U (fC (s.bJ.bU.map (fU s.cf)))<=64;have ho:=hc.au;have:=pair_len zI.1 0 (λx hx=>(hr x hx).1) c.au.toNat λx hx=>by have:=(hr x hx).2;omega
 omega;show (decide (aD=1) && decide (0<U s.bJ.bU))=qj;simp[ED,tu];show 0<U (fC (fC (s.bJ.bU.map (fU s.cf))));rw[hidem];have hm:fU s.cf s.bJ.bU[0]∈fC (s.bJ.bU.map (fU s.cf)):=(zI.2 _).2 (List.mem_map.2 ⟨_,ZP tu,rfl⟩);exact List.length_pos_of_mem hm;rename_i hs;refine⟨h.to,⟨he.av,he.dec⟩,⟨qw ⟨he.au,he.aQ⟩,⟨λe=>absurd e hs,λe=>?_⟩⟩,_,rfl,rfl,?_⟩;rw[show ({ s with aD:=aD,aN:=qf ⟨qn,0,qn⟩,aH:=bM.c8 }:aJ).au=s.au from rfl,he.au]at e;simp at e;show (0:Int)<=0/\(0:Int)<=k;omega
def zm (h:jY c k s)(hp:s.av=0)(hl:yu k s)(hd:s.am=qj->s.au=[])(ht:∃t,s.aN=qf t):oU c k (fE s):=by
 unfold fE;split;exact⟨h.to,hp,ht⟩;rename_i hn;have hdf:s.am=qn:=by
  cases e:s.am with
  |false=>rfl
  |true=>rw[hd e]at hn;simp at hn
 refine⟨h.to,hp,λe=>?_,hl,ht,0,by show 0<U s.au;omega,?_⟩;rw[show ({ s with aH:=bM.bG ⟨s.au,s.eD⟩ }:aJ).am=s.am from rfl,hdf]at e;cases e;rw[List.drop_zero,List.drop_zero];show (⟨s.au,s.eD⟩:jS)=⟨s.au,wI _⟩;unfold wI;rw[ar (by show ¬s.am=qj;rw[hdf];decide)];rfl
def kO.to {s s':aJ}(h:kO s)(h1:s'.au=s.au)(h2:s'.aQ=s.aQ)(h3:s'.aN=s.aN)(h4:s'.av=s.av)(h5:s'.am=s.am):kO s':=
 ⟨h1.trans h.au,h2.trans h.aQ,h3.trans h.aN,h4.trans h.av,h5.trans h.dec⟩
def jY.put (h:jY c k s){a:Int}(ha:0<=a/\a<c.bm+c.nb)(v:Int):jY c k { s with bJ:=(gD s.bJ a v).2 }:=by obtain⟨h1,h2,h3⟩:=DJ s.bJ a v;refine⟨h.cf,h.Rw,LV h.bJ ha.1 v,h1.trans h.fg,by have:=h.cZ;show (gD s.bJ a v).2.index.length<=64;omega,?_,h.alb,h.oQ,h.push,h.set,h.rnd,h.rrg,h.GQ,h.jC,h.orl,h.orr⟩;intro x hx;rcases h3 x hx with h4|h4;exact h.Mj x h4;subst h4;exact ha
structure Ro (s s':aJ):Prop where
 aH:s'.aH=s.aH
 au:s'.au=s.au
 aQ:s'.aQ=s.aQ
 aN:s'.aN=s.aN
 av:s'.av=s.av
 dec:s'.am=s.am
 cf:s'.cf=s.cf
 aB:s'.aB=s.aB
def Ro.early {s s':aJ}(h:Ro s s')(he:kO s):kO s':=he.to h.au h.aQ h.aN h.av h.dec
def Ro.trans {s s' s'':aJ}(h:Ro s s')(h':Ro s' s''):Ro s s'':=
 ⟨h'.aH.trans h.aH,h'.au.trans h.au,h'.aQ.trans h.aQ,h'.aN.trans h.aN,h'.av.trans h.av,h'.dec.trans h.dec,h'.cf.trans h.cf,h'.aB.trans h.aB⟩
def GY (hc:dl c)(h:jY c k s){a:Int}(ha:0<=a/\a<c.bm+c.nb)(v:Int):((jr s a v).1=qj/\jY c k (jr s a v).2/\Ro s (jr s a v).2)\/((jr s a v).1=qn/\oU c k (jr s a v).2):=by unfold jr;split;exact qw ⟨rfl,h.put ha v,rfl,rfl,rfl,rfl,rfl,rfl,rfl,rfl⟩;exact qB ⟨rfl,wB hc h 3⟩
def LY (h:jY c k s)(he:kO s)(hd:s.aH=.bC):oU c k s:=⟨h,by rw[hd];exact λ_=>he⟩
def L7 (hc:dl c)(h:jY c k s)(he:kO s)(hd:s.aH=.bC)(b st:Int)(hb:0<=b/\b<c.nb):oU c k (ji s b st):=by have sF:=h.cf;subst sF;unfold ji;split;exact Eb hc h he 8;split;exact wB hc h 3;rename_i hf;have hw:=hc.bm;rcases GY hc h (a:=s.cf.bm+b) Ya 0 with ⟨h1,h2,h3⟩|⟨h1,h2⟩;rw[az h1];refine LY ?_ ((h3.early he).to rfl rfl rfl rfl rfl) (h3.aH.trans hd);refine { h2.to (s':={ (jr s (s.cf.bm+b) 0).2 with aB:=s.aB }) rfl rfl rfl rfl rfl rfl rfl h3.aB.symm rfl rfl with GQ:=?_ };show (U (s.aB++[b]):Int)<=s.cf.aB;simp only[Zh,ZI,kay];omega;rw[ar Y1];exact h2
def Lu (hc:dl c):∀(n:Nat)(a:Int)(s:aJ),jY c k s->0<=a->a+n<=c.bm+c.nb->((fX n a s).1=qj/\jY c k (fX n a s).2/\Ro s (fX n a s).2)\/((fX n a s).1=qn/\oU c k (fX n a s).2)
 |0,a,s,h,_,_=>qw ⟨rfl,h,rfl,rfl,rfl,rfl,rfl,rfl,rfl,rfl⟩
 |n+1,a,s,h,h0,hn=>by unfold fX;rcases GY hc h (a:=a) Ya 0 with ⟨h1,h2,h3⟩|⟨h1,h2⟩;rw[az h1];rcases Lu hc n (a+1) _ h2 Ya Ya with ⟨g1,g2,g3⟩|⟨g1,g2⟩;exact qw ⟨g1,g2,h3.trans g3⟩;exact qB ⟨g1,g2⟩;rw[ar Y1];exact qB ⟨rfl,h2⟩
def Lo (hc:dl c)(h:jY c k s)(he:kO s)(hd:s.aH=.bC)(hl:(U s.ao:Int)<c.ao)(fa b:Int)(hb:-1<=b/\b<c.nb)(ya:0<=b->eE c b=fa):oU c k (fb s fa b):=by
 have sF:=h.cf;subst sF;unfold fb;split;exact wB hc h 4;rename_i WC;have hw:=hc.bm;have AU:=DL hc b Ya;have jv:=ya Ya;have IP:=ul hc;have h1:jY s.cf k { s with ao:=s.ao++[b] }:=by
  refine⟨rfl,h.Rw,h.bJ,h.fg,h.cZ,h.Mj,?_,?_,?_,h.set,h.rnd,h.rrg,h.GQ,h.jC,h.orl,h.orr⟩;intro x hx;rw[ZG]at hx;rcases hx with hx|hx;exact h.alb x hx;have:x=b:=by simpa using hx
  omega;show (U (s.ao++[b]):Int)<=s.cf.ao;simp only[Zh,ZI,kay];omega;show s.av<=U (s.ao++[b]);have:=h.push;simp only[Zh,ZI,kay];omega
 have e1:kO { s with ao:=s.ao++[b] }:=he.to rfl rfl rfl rfl rfl;dsimp only;rcases GY hc h1 (a:=s.cf.bm+b) Ya (fa+1) with ⟨g1,g2,g3⟩|⟨g1,g2⟩;rw[az g1];have h2p:((2 ^ fa.toNat:Nat):Int)=2 ^ (eE s.cf b).toNat:=by rw[jv];push_cast;rfl
 rcases Lu hc (2 ^ fa.toNat) (i5 s.cf b) _ g2 AU.2.1 (by rw[h2p];have:=AU.2.2;omega) with ⟨z1,z2,z3⟩|⟨z1,z2⟩;rw[az z1];have hwent:=g3.trans z3;exact LY (z2.to) ((hwent.early e1).to rfl rfl rfl rfl rfl) (hwent.aH.trans hd);rw[ar (by rw[z1];decide)];exact z2;rw[ar (by rw[g1];decide)];exact g2
def locS_ok (hc:dl c)(h:jY c k s)(he:kO s)(hd:s.aH=.bC)(l:Fx)(hl:LocI c l):oU c k (r9 s l):=by
 cases l with
 |sD=>exact Eb hc h he 7
 |RG=>exact Eb hc h he 8
 |bZ aD=>exact Eb hc h he aD
 |take v=>exact LY (h.to) (he.to rfl rfl rfl rfl rfl) hd
 |mA a v=>have hw:=hc.bm;show oU c k (if s.cf.bm<=a then nB s 7 else (jr s a v).2);split;exact Eb hc h he 7;rename_i hn;rw[h.cf]at hn;rcases GY hc h (a:=a) ⟨hl,by have:=ul hc;omega⟩ v with ⟨h1,h2,h3⟩|⟨h1,h2⟩;exact LY h2 (h3.early he) (h3.aH.trans hd);exact h2
 |lp=>exact wB hc h 3
 |dz b v=>exact L7 hc h he hd b v hl
def useS_ok (hc:dl c)(h:jY c k s)(he:kO s)(hd:s.aH=.bC)(v:Int)(u:sT)(hu:UseI c u):oU c k (Bi s v u):=by
 cases u with
 |take=>exact LY (h.to) (he.to rfl rfl rfl rfl rfl) hd
 |dz b=>exact L7 hc h he hd b v hu
end
def tH (c:bu)(nt k:Nat)(r:sx):Prop:=oU c (k+1) r.2.2.1/\mr c nt (k+1) r.2.2.2
def tH.of {c:bu}{nt k:Nat}{a:bj}{ph:Int}{s':aJ}{M':Mm}(h1:oU c (k+1) s')(h2:mr c nt (k+1) M'):tH c nt k (a,ph,s',M'):=⟨h1,h2⟩
section
variable {c:bu} {nt k:Nat} {s:aJ} {M:Mm}
def U8 (hM:mr c nt k M)(fB:Int)(g:Int->Int×Bool):0<=(fk M fB 3 0 g).eV/\(fk M fB 3 0 g).eV<=k:=by rcases wL M fB 3 0 g with h|⟨_,h⟩;rw[h];omega;rw[h];exact hM.jC
def got_tik (hM:mr c nt k M)(fB:Int)(g:Int->Int×Bool):0<=(fk M fB 4 0 g).eV/\(fk M fB 4 0 g).eV<=k:=by rcases wL M fB 4 0 g with h|⟨_,h⟩;rw[h];omega;rw[h];exact hM.tik
def I0 (hc:dl c)(hM:mr c nt k M)(fB:Int){cZ:Int}(hi:0<=cZ)(g:Int->Int×Bool):li c cZ (fk M fB 7 cZ g).eV:=by
 rcases wL M fB 7 cZ g with h|⟨_,h⟩;rw[h];exact .zero hc _;have e:cZ=(cZ.toNat:Int):=Ya
 have:=hM.head cZ.toNat;rw[h];rw[<-e]at this;exact this
def got_next (hc:dl c)(hM:mr c nt k M)(fB:Int){cZ:Int}(hi:0<=cZ)(g:Int->Int×Bool):rD c (eE c cZ) (fk M fB 8 cZ g).eV:=by
 rcases wL M fB 8 cZ g with h|⟨_,h⟩;rw[h];exact .zero hc _;have e:cZ=(cZ.toNat:Int):=Ya
 have:=hM.next cZ.toNat;rw[h];rw[<-e]at this;exact this
def NS (e:ig)(M:Mm)(y7:0<=e.bR/\e.bR<=2):(e.bR=0/\fN e M=(FG M 6 e.af 1,{ e with bR:=1 },BC M 6 e.af 1)) \/
 (e.bR=1/\fN e M=(iy M 3 0,{ e with bR:=2,aC:=(iy M 3 0).eV },M)) \/
 (e.bR=2/\fN e M=(FG M 6 e.af (Zc.wrap (e.aC+2)),{ e with bR:=3 },BC M 6 e.af (Zc.wrap (e.aC+2)))):=by
 unfold fN;by_cases h0:e.bR=0;exact qw ⟨h0,az h0⟩;by_cases h1:e.bR=1;exact qB (qw ⟨h1,by rw[ar h0,az h1]⟩);have h2:e.bR=2:=Ya
 exact qB (qB ⟨h2,by rw[ar h0,ar h1,az h2]⟩)
def Tv (hM:mr c nt k M)(h:jY c k s)(he:kO s)(e:ig)(CF:0<=e.aC/\e.aC<=k)(y7:0<=e.bR/\e.bR<=2)(ht:e.af=s.af)(hd:s.aH=.dA):tH c nt k (go s M e):=by have hb:=h.mono (Zx k);unfold go;rcases NS e M y7 with ⟨h0,e0⟩|⟨h0,e0⟩|⟨h0,e0⟩;rw[e0];dsimp only;rw[ar Yd];refine⟨⟨hb.to,?_⟩,hM.op0 Ya _ _ _ Yd⟩;show DoI c (k+1) _ s.aH;rw[hd];refine⟨he.to rfl rfl rfl rfl rfl,_,rfl,⟨CF.1,?_⟩,by show (0:Int)<=1/\(1:Int)<=2;omega,ht⟩;show e.aC<=((k+1:Nat):Int);have:=CF.2;omega;rw[e0];dsimp only;rw[ar Yd];refine⟨⟨hb.to,?_⟩,hM.mono Ya⟩;show DoI c (k+1) _ s.aH;rw[hd];have hg:=U8 hM 1 lQ;refine⟨he.to rfl rfl rfl rfl rfl,_,rfl,⟨hg.1,?_⟩,by show (0:Int)<=2/\(2:Int)<=2;omega,ht⟩;show (fk M 1 3 0 lQ).eV<=((k+1:Nat):Int);have:=hg.2;omega;rw[e0];dsimp only;rw[az rfl];exact⟨LY (hb.to) (he.to rfl rfl rfl rfl rfl) rfl,hM.op0 Ya _ _ _ Yd⟩
def LT {l:List Int}{a:Int}(h:l.Nodup)(ha:¬a∈l):(l++[a]).Nodup:=by
 rw[List.nodup_append];refine⟨h,by simp,?_⟩;intro x hx y hy e;have:y=a:=by simpa using hy
 subst this;subst e;exact ha hx
def R2 {fg:Nat}{l:List Int}(x:Int)(h:U l<=fg):(eT fg l x).2.length<=fg:=by unfold eT;split;exact h;split;exact h;simp;omega
def zB (r:hY)(M:Mm):(dh r M).2.1.cr=r.cr/\(dh r M).2.1.gz=r.gz/\(dh r M).2.1.rv=r.rv/\(dh r M).2.2=M:=by unfold dh;dsimp only;by_cases h0:r.bR=0;rw[az h0];dsimp only;split<;>exact⟨rfl,rfl,rfl,rfl⟩;rw[ar h0];by_cases h1:r.bR=1;rw[az h1];exact⟨rfl,rfl,rfl,rfl⟩;rw[ar h1];by_cases h2:r.bR=2;rw[az h2];exact⟨rfl,rfl,rfl,rfl⟩;rw[ar h2];exact⟨rfl,rfl,rfl,rfl⟩
def Pj (r:hY)(M:Mm)(y7:0<=r.bR/\r.bR<=2)(sF:r.iO=qn)(nG:(dh r M).2.1.done=qn):(dh r M).2.1.iO=qn/\0<=(dh r M).2.1.bR/\(dh r M).2.1.bR<=2:=by
 revert nG;unfold dh;dsimp only;by_cases h0:r.bR=0;rw[az h0];dsimp only;split;intro nG;simp[hY.done]at nG;intro _;exact⟨sF,by dsimp only;omega,by dsimp only;omega⟩;rw[ar h0];by_cases h1:r.bR=1;rw[az h1];intro _;exact⟨sF,by dsimp only;omega,by dsimp only;omega⟩;have h2:r.bR=2:=Ya
 rw[ar h1,az h2];intro nG;simp[hY.done]at nG
def VW (hc:dl c)(hM:mr c nt k M)(h:jY c k s)(he:kO s)(r:hY)(u:sT)(hd:s.aH=.be r u)(y7:0<=r.bR/\r.bR<=2)(ho:r.gz=fU c r.cr)(sF:r.iO=qn)(hu:UseI c u)(ha:0<=r.cr/\r.cr<c.bm+c.nb)(hrv:r.rv=s.rv):tH c nt k (da s M r u):=by
 have hb:=h.mono (Zx k);obtain⟨i1,i2,i3,i4⟩:=zB r M;have hcon:=Pj r M y7 sF;unfold da;dsimp only;split;rename_i nG;obtain⟨g1,g2,g3⟩:=hcon nG;refine⟨⟨hb.to,he.to rfl rfl rfl rfl rfl,⟨g2,g3⟩,?_,g1,hu,?_,?_⟩,by rw[i4];exact hM.mono Ya⟩;rw[i2,i1];exact ho;rw[i1];exact ha;rw[i3];exact hrv;split;exact⟨wB hc hb 9,by rw[i4];exact hM.mono Ya⟩;have h2:∀s2:aJ,s2=(if r.cr<s.cf.bm/\¬r.cr∈s.reads then { s with aH:=.be (dh r M).2.1 u,reads:=s.reads++[r.cr] } else { s with aH:=.be (dh r M).2.1 u })->jY c (k+1) s2/\kO s2/\s2.cf=s.cf/\s2.set=s.set:=by
  rintro _ rfl;split;rename_i hn;refine⟨{ hb.to (s':={ s with aH:=.be (dh r M).2.1 u }) rfl rfl rfl rfl rfl rfl rfl rfl rfl rfl with rnd:=LT h.rnd hn.2,rrg:=?_ },he.to rfl rfl rfl rfl rfl,rfl,rfl⟩;intro a hx;have hx:a∈s.reads++[r.cr]:=hx;rw[ZG]at hx;rcases hx with hx|hx;exact h.rrg a hx;have:a=r.cr:=by simpa using hx
  rw[h.cf]at hn;omega;exact⟨hb.to,he.to rfl rfl rfl rfl rfl,rfl,rfl⟩
 generalize tu:(if r.cr<s.cf.bm/\¬r.cr∈s.reads then { s with aH:=bM.be (dh r M).2.1 u,reads:=s.reads++[r.cr] } else { s with aH:=bM.be (dh r M).2.1 u }:aJ)=s2;obtain⟨b2,e2,c2,t2⟩:=h2 s2 tu.symm;split
 . rename_i jM;refine tH.of ?_ (by rw[i4];exact hM.mono Ya);refine useS_ok hc ?_ ?_ rfl _ _ hu
   case refine_2=>exact e2.to rfl rfl rfl rfl rfl
   refine { b2.to (s':={ s2 with aH:=.bC }) rfl rfl rfl rfl rfl rfl rfl rfl rfl rfl with set:=?_ };show (eT s.cf.reads.toNat s.set r.gz).2.length<=c.reads.toNat;rw[h.cf];exact R2 _ h.set
 exact⟨wB hc b2 3,by rw[i4];exact hM.mono Ya⟩
def BJ (p:sU)(M:Mm)(y7:0<=p.bR/\p.bR<=2):(p.bR=0/\gB p M=(iy M 7 p.fa,{ p with head:=(iy M 7 p.fa).eV,bR:=if j7 (iy M 7 p.fa).eV<0 then 3 else 1 },M)) \/
 (p.bR=1/\gB p M=(iy M 8 (j7 p.head),{ p with next:=(iy M 8 (j7 p.head)).eV,bR:=2 },M)) \/
 (p.bR=2/\∃w,w=sr p.head (Zb.wrap (Zb.wrap p.next-1))/\gB p M=(J0 M 7 p.fa p.head w,if (J0 M 7 p.fa p.head w).done=qj then { p with bR:=3,block:=j7 p.head } else { p with bR:=0 },swM M 7 p.fa p.head w)):=by
 unfold gB;by_cases h0:p.bR=0;exact qw ⟨h0,az h0⟩;by_cases h1:p.bR=1;exact qB (qw ⟨h1,by rw[ar h0,az h1]⟩);have h2:p.bR=2:=Ya
 exact qB (qB ⟨h2,_,rfl,by rw[ar h0,ar h1,az h2]⟩)
def pop_keep (hc:dl c)(hM:mr c nt k M)(h:jY c k s)(he:kO s)(p:sU)(hl:(U s.ao:Int)<c.ao)(jv:0<=p.fa/\p.fa<=3)(hh:li c p.fa p.head)(hn:rD c p.fa p.next)(hb:p.block = -1)(y7:0<=p.bR/\p.bR<=2)(hat1:1<=p.bR->0<=j7 p.head):tH c nt k (lx s M p):=by
 have AX:=h.mono (Zx k);have IP:=ul hc;have bZ:∀(b:Int),-1<=b/\b<c.nb->(0<=b->eE c b=p.fa)->oU c (k+1) (fb { s with aH:=.bC } p.fa b):=λb hb hcb=>by refine Lo (s:={ s with aH:=.bC }) hc ?_ ?_ rfl hl _ _ hb hcb;exact AX.to;exact he.to rfl rfl rfl rfl rfl
 unfold lx;rcases BJ p M y7 with ⟨h0,e0⟩|⟨h0,e0⟩|⟨h0,w,hw,e0⟩;rw[e0];have hg:=I0 hc hM 1 jv.1 lQ;dsimp only;refine tH.of ?_ (hM.mono Ya);by_cases Qe:j7 (iy M 7 p.fa).eV<0;rw[az (by rw[az Qe]),hb];exact bZ _ Ya (λe=>by omega);rw[ar (by rw[ar Qe];decide)];refine⟨AX.to,he.to rfl rfl rfl rfl rfl,hl,jv,hg,hn,hb,?_,λ_=>?_⟩;dsimp only;rw[ar Qe];omega;show 0<=j7 (iy M 7 p.fa).eV;omega;rw[e0];have ht:=hat1 Ya;have hg:=got_next hc hM 1 ht lQ;rw[hh.2.2 ht]at hg;dsimp only;rw[ar Yd];exact⟨⟨AX.to,he.to rfl rfl rfl rfl rfl,hl,jv,hh,hg,hb,by dsimp only;omega,λ_=>ht⟩,hM.mono Ya⟩;rw[e0];dsimp only;have ht:=hat1 Ya;have Hd:=hn.1;have BO:=hn.2.1;have h64:=hc.nb;have jt:Zb.wrap (Zb.wrap p.next-1)=p.next-1:=by rw[an (x:=p.next) Ya Ya,an Ya Ya]
 rw[jt]at hw;refine tH.of ?_ (hM.op Ya _ _ _ λ_=>⟨λ_=>?_,λe=>by omega,λe=>by omega,λe=>by omega⟩);by_cases nG:(J0 M 7 p.fa p.head w).done=qj;rw[az (by rw[az nG]),az nG];exact bZ _ ⟨by dsimp only;omega,hh.2.1⟩ hh.2.2;rw[ar (by rw[ar nG];show ¬(0:Int)=3;decide),ar nG];exact⟨AX.to,he.to rfl rfl rfl rfl rfl,hl,jv,hh,hn,hb,by dsimp only;omega,λe=>by dsimp only at e;omega⟩;show li c p.fa w;rw[hw];exact Jt hc Ya λe=>hn.2.2 Ya
def zD (p:gy)(M:Mm)(y7:0<=p.bR/\p.bR<=2):(p.bR=0/\dD p M=(iy M 7 p.fa,{ p with head:=(iy M 7 p.fa).eV,bR:=1 },M)) \/
 (p.bR=1/\∃w,w=Zc.wrap (Zb.wrap (j7 p.head+1))/\dD p M=(FG M 8 p.block w,{ p with bR:=2 },BC M 8 p.block w)) \/
 (p.bR=2/\∃w,w=sr p.head p.block/\dD p M=(J0 M 7 p.fa p.head w,{ p with bR:=if (J0 M 7 p.fa p.head w).done=qj then 3 else 0 },swM M 7 p.fa p.head w)):=by
 unfold dD;by_cases h0:p.bR=0;exact qw ⟨h0,az h0⟩;by_cases h1:p.bR=1;exact qB (qw ⟨h1,_,rfl,by rw[ar h0,az h1]⟩);have h2:p.bR=2:=Ya
 exact qB (qB ⟨h2,_,rfl,by rw[ar h0,ar h1,az h2]⟩)
def VX (hc:dl c)(hM:mr c nt k M)(h:jY c k s)(p:gy)(L2:s.aD≠1)(b9:s.av<U s.ao)(hbk:p.block=s.ao.getD s.av 0)(jv:p.fa=eE c p.block)(hh:li c p.fa p.head)(y7:0<=p.bR/\p.bR<=2):tH c nt k (iT s M p):=by
 have AX:=h.mono (Zx k);have hb:=h.alb _ (zO b9);rw[<-hbk]at hb;have AU:=DL hc p.block hb;rw[<-jv]at AU;unfold iT;rcases zD p M y7 with ⟨h0,e0⟩|⟨h0,w,hw,e0⟩|⟨h0,w,hw,e0⟩;rw[e0];have hg:=I0 hc hM 1 AU.1.1 lQ;dsimp only;rw[ar Yd];exact⟨⟨AX.to,L2,b9,hbk,jv,hg,by dsimp only;omega⟩,hM.mono Ya⟩;rw[e0];dsimp only;rw[ar Yd];refine⟨⟨AX.to,L2,b9,hbk,jv,hh,by dsimp only;omega⟩,hM.op Ya _ _ _ λ_=>⟨λe=>by omega,λ_=>?_,λe=>by omega,λe=>by omega⟩⟩;have htop:=O1 hh.1;have h64:=hc.nb;have ht2:=hh.2.1;have jt:Zc.wrap (Zb.wrap (j7 p.head+1))=j7 p.head+1:=by rw[an Ya Ya,ax Ya Ya]
 show rD c (eE c p.block) w;rw[hw,jt,<-jv];refine⟨by omega,by omega,λe=>?_⟩;rw[show j7 p.head+1-1=j7 p.head by omega];exact hh.2.2 Ya;rw[e0];dsimp only;refine tH.of ?_ (hM.op Ya _ _ _ λ_=>⟨λ_=>?_,λe=>by omega,λe=>by omega,λe=>by omega⟩);by_cases nG:(J0 M 7 p.fa p.head w).done=qj;rw[az (by rw[az nG])];refine CI hc ?_;refine { AX.to (s':={ s with aH:=.bC }) rfl rfl rfl rfl rfl rfl rfl rfl rfl rfl with push:=?_ };show s.av+1<=U s.ao;omega;rw[ar (by rw[ar nG];decide)];refine⟨AX.to,L2,b9,hbk,jv,hh,?_⟩;dsimp only;rw[ar nG];omega;show li c p.fa w;rw[hw];exact Jt hc hb.2 λ_=>jv.symm
def got_orec (hM:mr c nt k M)(fB cZ:Int)(g:Int->Int×Bool):kK k (fk M fB 2 cZ g).eV:=by rcases wL M fB 2 cZ g with h|⟨_,h⟩;rw[h];exact .zero k;rw[h];exact hM.orc _
def DU {k:Nat}{x:Int}(h:kK k x):mo x<0↔x % 64=0:=by have h1:=h.1;unfold mo;rw[ZU h1,an (x:=x % 64) Ya Ya,an Ya Ya];omega
def Cx {k:Nat}(hk:k<2^41){l:iR}(h:B6 k l)(hl:l.fx=qj)(ht:0<=l.af/\l.af<16):iN l=l.dC+l.af+1:=by have h1:=h.dC.1;have h2:=h.dC.2.1;have h3:=h.load hl;unfold iN;rw[ax (x:=l.af) Ya Ya,ax (x:=l.dC+l.af) Ya Ya,ax Ya Ya]
def PR (l:iR)(hM:mr c nt k M)(hk:k<2^40)(ht:0<=l.af/\l.af<16)(h3:U l.eD<U l.au)(hI:B6 k l):(ep l M).2.1.au=l.au/\(ep l M).2.1.af=l.af/\(ep l M).2.1.eD.length<=U l.au/\B6 (k+1) (ep l M).2.1/\mr c nt (k+1) (ep l M).2.2:=by
 have hI1:=hI.mono (Zx k);unfold ep;dsimp only;split;exact⟨rfl,rfl,by dsimp only;omega,hI1,hM.mono Ya⟩;split;have hg:=got_orec hM 1 (eg l) lQ;refine⟨rfl,rfl,by dsimp only;omega,⟨hg.mono Ya,λe=>?_,hI1.eD⟩,hM.mono Ya⟩;exact(DU hg).1 (by simpa using e);rename_i NC;have Qj:l.fx=qj:=by simpa using NC
 have h1:=hI.dC.1;have h2:=hI.dC.2.1;have h4:=hI.load Qj;refine⟨rfl,rfl,?_,⟨hI1.dC,λe=>Ym,?_⟩,hM.opO Ya _ _ ?_⟩;dsimp only;split;simp;omega;omega;dsimp only;split;intro w hw;rw[ZG]at hw;rcases hw with hw|hw;exact hI1.eD w hw;have:w=l.dC:=by simpa using hw
 subst this;exact⟨hI1.dC,h4⟩;exact hI1.eD;show kK (k+1) (iN l);rw[Cx Ya hI Qj ht];refine⟨by omega,by omega,by omega⟩
def Wb (hM:mr c nt k M)(hk:k<2^40)(h:jY c k s)(l:iR)(hs:s.aQ=qf l)(hn:s.aN=none/\s.av=0/\s.am=qn)(L2:s.aD=1)(cJ:s.iS=qj)(h1:l.au=s.au)(h2:l.af=s.af)(h3:U l.eD<U l.au)(hI:B6 k l)(hd:s.aH=.ef):tH c nt k (ip s M l):=by
 have AX:=h.mono (Zx k);obtain⟨g1,g2,g3,g5,g4⟩:=PR l hM hk (by rw[h2];exact h.Rw) h3 hI;unfold ip;dsimp only;refine tH.of ?_ (g4);split;rename_i nG;have hdn':(ep l M).2.1.eD.length=(ep l M).2.1.au.length:=by simpa[iR.done]using nG
 have vU:0<U s.au:=by rw[<-h1];omega
 refine⟨AX.to,hn.2,⟨qB ⟨_,rfl,g1.trans h1,?_,vU,g5⟩,⟨λ_=>vU,λ_=>cJ⟩⟩,_,rfl,rfl,?_⟩;show (ep l M).2.1.eD.length=U s.au;rw[hdn',g1,h1];show (0:Int)<=0/\(0:Int)<=((k+1:Nat):Int);omega;rename_i nG;have hdn':¬(ep l M).2.1.eD.length=(ep l M).2.1.au.length:=by simpa[iR.done]using nG
 refine⟨AX.to,?_⟩;show DoI c (k+1) _ s.aH;rw[hd];refine⟨hn,⟨L2,cJ⟩,_,rfl,g1.trans h1,g2.trans h2,?_,g5⟩;rw[g1]at hdn' ⊢;omega
def O0 (hM:mr c nt k M)(hk:k<2^40)(t:jk)(h1:t.done=qn)(h2:0<=t.dR/\t.dR<=k):(0<=(gX t M).2.1.dR/\(gX t M).2.1.dR<=k)/\mr c nt (k+1) (gX t M).2.2:=by unfold gX;rw[ar Y1];split;refine⟨got_tik hM 4 (Lc 1),hM.op Ya _ _ _ λ_=>⟨λe=>by omega,λe=>by omega,λ_=>?_,λe=>by omega⟩⟩;have hg:=hM.tik;show 0<=Zc.wrap ((M 3).getD 0 0+1)/\Zc.wrap ((M 3).getD 0 0+1)<=((k+1:Nat):Int);rw[ax Ya Ya];omega;exact⟨h2,hM.mono Ya⟩
def VD (hM:mr c nt k M)(hk:k<2^40)(h:jY c k s)(t:jk)(hs:s.aN=qf t)(hn:s.av=0/\s.am=qn)(hl:pK k s)(h1:t.done=qn)(h2:0<=t.dR/\t.dR<=k)(hd:s.aH=.c8):tH c nt k (ia s M t):=by have AX:=h.mono (Zx k);obtain⟨g1,g2⟩:=O0 hM hk t h1 h2;unfold ia;dsimp only;refine tH.of ?_ (g2);split;by_cases hz:U s.set=0;refine⟨AX.to,?_⟩;simp only[az hz];exact⟨hn,hl.mono Ya,_,rfl⟩;refine⟨AX.to,?_⟩;simp only[ar hz];exact⟨hn,hl.mono Ya,⟨_,rfl⟩,rfl,⟨0,by show 0<U s.set;omega,rfl⟩,rfl⟩;rename_i nG;refine⟨AX.to,?_⟩;show DoI c (k+1) _ s.aH;rw[hd];refine⟨hn,hl.mono Ya,_,rfl,by simpa using nG,g1.1,?_⟩;have:=g1.2;show (gX t M).2.1.dR<=((k+1:Nat):Int);omega
def TD (hM:mr c nt k M)(h:jY c k s)(ck:i8)(hn:s.av=0/\s.am=qn)(hl:pK k s)(ht:∃t,s.aN=qf t)(h1:ck.kI=qn)(h2:∃k,k<U s.set/\ck.au=s.set.drop k)(h3:ck.rv=s.rv):tH c nt k (gu s M ck):=by
 have AX:=h.mono (Zx k);obtain⟨q,hq,RA⟩:=h2;have hdn0:ck.done=qn:=by simp only[i8.done,h1,RA,Bool.false_or,kaw,decide_eq_false_iff_not];omega
 have e0:gx ck M=(iy M 2 (ck.au.getD 0 0),{ ck with au:=ck.au.tail,kI:=decide (jO (iy M 2 (ck.au.getD 0 0)).eV>ck.rv) },M):=by unfold gx;rw[ar (by rw[hdn0];decide)]
 unfold gu;rw[e0];dsimp only;refine tH.of ?_ (hM.mono Ya);split;exact zm (AX.to) hn.1 (hl.1.mono Ya) (λe=>by rw[show s.am=qn from hn.2]at e;cases e) ht;rename_i hf;split;exact⟨AX.to,hn,hl.mono Ya,ht⟩;rename_i nG;refine⟨AX.to,hn,hl.mono Ya,ht,by simpa using hf,⟨q+1,?_,?_⟩,h3⟩;simp only[i8.done,Bool.or_eq_true,decide_eq_true_eq,RA,kcj,kaw]at nG;show q+1<U s.set;omega;show ck.au.tail=s.set.drop (q+1);rw[RA,kbF]
def QV (hM:mr c nt k M)(h:jY c k s)(hn:s.av=0/\s.am=qn)(hl:pK k s)(ht:∃t,s.aN=qf t):tH c nt k (fo s M):=by
 have AX:=h.mono (Zx k);have hg:=U8 hM 1 lQ;have lW:jY c (k+1) { s with aC:=(iy M 3 0).eV }:=by refine { AX.to (s':={ s with aH:=.bC }) rfl rfl rfl rfl rfl rfl rfl rfl rfl rfl with jC:=?_ };show 0<=(iy M 3 0).eV/\(iy M 3 0).eV<=((k+1:Nat):Int);refine⟨hg.1,?_⟩;have:=hg.2;show (fk M 1 3 0 lQ).eV<=_;omega
 unfold fo;dsimp only;refine tH.of ?_ (hM.mono Ya);split;exact zm (lW.to) hn.1 (hl.1.mono Ya) (λe=>by rw[show s.am=qn from hn.2]at e;cases e) ht;split;rename_i cJ;refine⟨lW.to,hn.1,⟨rfl,cJ⟩,hl.mono Ya,ht,0,?_,rfl⟩;have hst':s.iS=qj:=cJ;unfold aJ.iS at hst';simp only[Zg,decide_eq_true_eq]at hst';exact hst'.2;rename_i cJ;refine zm (lW.to) hn.1 (hl.1.mono Ya) (λ_=>?_) ht;have:¬0<U s.au:=λe=>cJ (hl.2.2 e);exact List.eq_nil_of_length_eq_zero (by show U s.au=0;omega)
def RI (hM:mr c nt k M)(h:jY c k s)(w:jS)(hn:s.av=0)(yZ:s.am=qj/\s.iS=qj)(hl:pK k s)(ht:∃t,s.aN=qf t)(h1:∃k,k<U s.bJ.bU/\w=⟨s.bJ.bU.drop k,s.bJ.gi.drop k⟩):tH c nt k (gF s M w):=by have AX:=h.mono (Zx k);obtain⟨q,hq,rfl⟩:=h1;have vU:=hl.2.1 yZ.2;unfold gF kC;rw[ar Xw];dsimp only;refine tH.of ?_ (hM.op0 Ya _ _ _ Yd);split;refine⟨AX.to,hn,λ_=>yZ.2,hl.1.mono Ya,ht,0,vU,?_⟩;show (⟨s.au,q9 (U s.au) (lR s.pX)⟩:jS)=⟨s.au,wI _⟩;unfold wI;rw[az (by exact yZ.1)];rfl;rename_i nG;simp only[jS.done,decide_eq_true_eq,kcj,kaw]at nG;exact⟨AX.to,hn,yZ,hl.mono Ya,ht,q+1,by show q+1<U s.bJ.bU;omega,by rw[kbF,kbF]⟩
def xr (h:jY c k s)(hk:k<2^40)(yZ:s.am=qj/\s.iS=qj):s.pX=s.aC+1:=by have CF:=h.jC;unfold aJ.pX;rw[az yZ,an (x:=s.aC) Ya Ya,an Ya Ya]
def rel_keep (hM:mr c nt k M)(hk:k<2^40)(h:jY c k s)(w:jS)(hn:s.av=0)(yZ:s.am=qj->s.iS=qj)(hl:yu k s)(ht:∃t,s.aN=qf t)(h1:∃k,k<U s.au/\w=⟨s.au.drop k,(wI s).drop k⟩):tH c nt k (nM s M w):=by
 have AX:=h.mono (Zx k);obtain⟨q,hq,rfl⟩:=h1;unfold nM ii;rw[ar Xw];dsimp only;have jG:kK (k+1) (((wI s).drop q).getD 0 0):=by
  have e:((wI s).drop q).getD 0 0=(wI s).getD q 0:=by simp[Ze]
  rw[e];unfold wI;split;rename_i Qo;have hv:=xr h hk ⟨Qo,yZ Qo⟩;have CF:=h.jC;rw[Ze,List.getElem?_replicate,az hq];show kK (k+1) (lR s.pX);rw[hv];unfold lR;rw[az Ya];exact⟨by omega,by omega,by omega⟩;rcases hl with ⟨hl,_⟩|⟨l,h1,h2,h3,h4,h5⟩;rw[hl]at hq;simp at hq;unfold aJ.eD;rw[h1];rcases QA l.eD q with e|e;show kK (k+1) (l.eD.getD q 0);rw[e];exact .zero _;exact(h5.eD _ e).1.mono Ya
 refine tH.of ?_ (hM.opO Ya _ _ jG);by_cases nG:jS.done ⟨(s.au.drop q).tail,((wI s).drop q).tail⟩=qj;by_cases hv:0<=s.pX;refine⟨AX.to,?_⟩;simp only[az nG,az hv];refine⟨hn,?_,ht⟩;show s.am=qj/\s.iS=qj;have:s.am=qj:=by
  cases e:s.am with
  |true=>rfl
  |false=>unfold aJ.pX at hv;rw[ar (by rw[e];simp)]at hv;omega
 exact⟨this,yZ this⟩;refine⟨AX.to,?_⟩;simp only[az nG,ar hv];exact⟨hn,ht⟩;refine⟨AX.to,?_⟩;simp only[ar nG];simp only[jS.done,decide_eq_true_eq,kcj,kaw]at nG;exact⟨hn,yZ,hl.mono Ya,ht,q+1,by show q+1<U s.au;omega,by rw[kbF,kbF];rfl⟩
def AD (hc:dl c)(hk:k<2^40)(h:oU c k s)(hM:mr c nt k M):tH c nt k (aY s M):=by
 have hb:=h.b;have AX:=hb.mono (Zx k);have hd:=h.d;have hMs:=hM.mono (Zx k);unfold aY;cases e:s.aH with
 |bC=>exact⟨h.mono (Zx k),hMs⟩
 |iY l=>rw[e]at hd;refine tH.of ?_ hMs;refine locS_ok hc ?_ ?_ rfl l hd.2;exact AX.to;exact hd.1.to rfl rfl rfl rfl rfl
 |dA=>rw[e]at hd;obtain⟨h0,en,h1,h2,h3,h4⟩:=hd;dsimp only;rw[h1];exact Tv hM hb h0 en h2 h3 h4 e
 |be r u=>rw[e]at hd;obtain⟨h0,h1,h2,h3,h4,h5,h6⟩:=hd;exact VW hc hM hb h0 r u e h1 h2 h3 h4 h5 h6
 |eO p=>rw[e]at hd;obtain⟨h0,h1,h2,h3,h4,h5,h6,h7⟩:=hd;exact pop_keep hc hM hb h0 p h1 h2 h3 h4 h5 h6 h7
 |ef=>rw[e]at hd;obtain⟨h0,RC,l,h1,h2,h3,h4,h5⟩:=hd;dsimp only;rw[h1];exact Wb hM hk hb l h1 h0 RC.1 RC.2 h2 h3 h4 h5 e
 |c8=>rw[e]at hd;obtain⟨h0,hl,t,h1,h2,h3⟩:=hd;dsimp only;rw[h1];exact VD hM hk hb t h1 h0 hl h2 h3 e
 |cK ck=>rw[e]at hd;obtain⟨h0,hl,ht,h1,h2,h3⟩:=hd;exact TD hM hb ck h0 hl ht h1 h2 h3
 |bN=>rw[e]at hd;obtain⟨h0,hl,ht⟩:=hd;exact QV hM hb h0 hl ht
 |dy w=>rw[e]at hd;obtain⟨h0,yZ,hl,ht,h1⟩:=hd;exact RI hM hb w h0 yZ hl ht h1
 |bG w=>rw[e]at hd;obtain⟨h0,yZ,hl,ht,h1⟩:=hd;exact rel_keep hM hk hb w h0 yZ hl ht h1
 |eR=>rw[e]at hd;refine⟨⟨AX.to,hd.1,hd.2.2⟩,hM.op Ya _ _ _ λ_=>⟨λe=>by omega,λe=>by omega,λ_=>?_,λe=>by omega⟩⟩;have CF:=hb.jC;show 0<=Zc.wrap (s.aC+1)/\Zc.wrap (s.aC+1)<=((k+1:Nat):Int);rw[ax Ya Ya];omega
 |ey=>rw[e]at hd;exact⟨CI hc AX,hM.op0 Ya _ _ _ Yd⟩
 |eG p=>rw[e]at hd;obtain⟨h0,h1,h2,h3,h4,h5⟩:=hd;exact VX hc hM hb p h0 h1 h2 h3 h4 h5
 |gC=>exact⟨⟨AX.to,λe=>absurd rfl e⟩,hM.op0 Ya _ _ _ Yd⟩
def w8 (h:oU c k s){st:Int}(cJ:st≠2)(hf:s.nT st=qj):kO s/\s.aH=.bC/\s.aG=st:=by
 simp only[aJ.nT,Zg,decide_eq_true_eq]at hf;have hd:s.aH=.bC:=by have h1:=hf.1;revert h1;cases s.aH<;>simp[bM.dZ]
 have hdd:=h.d;rw[hd]at hdd;exact⟨hdd (by rw[hf.2];exact cJ),hd,hf.2⟩
def Fk (h:oU c k s):oU c k (gE s).2:=by unfold gE;split;rename_i hf;obtain⟨he,hd,hs⟩:=w8 h Yd hf;exact⟨h.b.to,he.to rfl rfl rfl rfl rfl,_,rfl,by show (0:Int)<=0/\(0:Int)<=k;omega,by show (0:Int)<=0/\(0:Int)<=2;omega,rfl⟩;exact h
def HT (h:oU c k s)(he:kO s)(a:Int)(ha:0<=a/\a<c.bm+c.nb)(u:sT)(hu:UseI c u):oU c k (xx s a u):=by refine⟨h.b.to,he.to rfl rfl rfl rfl rfl,by show (0:Int)<=0/\(0:Int)<=2;omega,?_,rfl,hu,ha,rfl⟩;show fU s.cf a=fU c a;rw[h.b.cf]
def rdS_ok (hc:dl c)(h:oU c k s)(a:Int)(ha:0<=a):oU c k (LM s a).2:=by have IP:=ul hc;unfold LM;split;rename_i hf;obtain⟨he,hd,hs⟩:=w8 h Yd hf;split;exact⟨h.b.to,he.to rfl rfl rfl rfl rfl,trivial⟩;rename_i hn;rw[h.b.cf]at hn;split;exact⟨h.b.to,he.to rfl rfl rfl rfl rfl,trivial⟩;exact HT h he a Ya .take trivial;exact h
def wtS_ok (h:oU c k s)(a v:Int)(ha:0<=a):oU c k (Kl s a v).2:=by unfold Kl;split;rename_i hf;obtain⟨he,hd,hs⟩:=w8 h Yd hf;exact⟨h.b.to,he.to rfl rfl rfl rfl rfl,ha⟩;exact h
def alS_ok (hc:dl c)(h:oU c k s)(fa:Int):oU c k (Rf s fa).2:=by have IP:=ul hc;unfold Rf;split;rename_i hf;obtain⟨he,hd,hs⟩:=w8 h Yd hf;split;exact h;split;exact⟨h.b.to,he.to rfl rfl rfl rfl rfl,trivial⟩;rename_i h1 h2;rw[h.b.cf]at h2;exact⟨h.b.to,he.to rfl rfl rfl rfl rfl,by show (U s.ao:Int)<c.ao;omega,by dsimp only;omega,.zero hc _,.zero hc _,rfl,by dsimp only;omega,λe=>by dsimp only at e;omega⟩;exact h
def WO (hc:dl c)(a:Int):mq c a<0\/(0<=mq c a/\mq c a<c.nb):=by unfold mq;split;rename_i b hb;have hm:=List.mem_of_find?_eq_some hb;have:=List.mem_range.1 hm;have IP:=ul hc;right;omega;left;decide
def frS_ok (hc:dl c)(h:oU c k s)(a:Int):oU c k (QE s a).2:=by have hw:=hc.bm;have sF:=h.b.cf;subst sF;unfold QE;split;rename_i hf;obtain⟨he,hd,hs⟩:=w8 h Yd hf;split;exact⟨h.b.to,he.to rfl rfl rfl rfl rfl,trivial⟩;rename_i hn;have rx:=WO hc a;split;exact⟨h.b.to,he.to rfl rfl rfl rfl rfl,by show 0<=mq s.cf a/\mq s.cf a<s.cf.nb;omega⟩;exact HT h he _ Ya _ (by show 0<=mq s.cf a/\mq s.cf a<s.cf.nb;omega);exact h
def Tx (h:oU c k s)(aD:Int):oU c k (GR s aD).2:=by unfold GR;split;rename_i hf;obtain⟨he,hd,hs⟩:=w8 h Yd hf;split;exact h;exact⟨h.b.to,he.to rfl rfl rfl rfl rfl,trivial⟩;exact h
def Sr (w:Nat)(hw:w<=32):sz (jF w)/\(jF w).fg=w/\(jF w).index.length<=64:=by
 have:∀w:Fin 33,sz (jF (w:Nat))/\(jF (w:Nat)).fg=w/\(jF (w:Nat)).index.length<=64:=by
  intro w;have NH:(jF (w:Nat)).fg=w:=by simp[jF]
  have hw:=w.2;have yR:(jF (w:Nat)).bU=[]:=rfl;have hval:(jF (w:Nat)).gi=[]:=rfl;have hix:∃n,(jF (w:Nat)).index=q9 n (-1)/\(w:Nat)<n/\n<=64:=by
   refine⟨_,rfl,?_⟩;constructor
   . repeat' split
     all_goals omega
   repeat' split
   all_goals omega
  obtain⟨n,hn,Hd,BO⟩:=hix;have hixv:∀q,ix (jF (w:Nat)).index q = -1:=by intro q;unfold ix;rw[hn,Ze];by_cases hq:q<n;rw[List.getElem?_replicate,az hq];rfl;rw[ZL Yg];rfl
  refine⟨⟨by rw[yR,hval],by rw[yR];simp,by rw[NH,hn];simpa using Hd,by rw[yR];simp,λq _=>by rw[hixv,yR];simp,?_,λe he=>by rw[yR]at he;simp at he,λi j hi=>by rw[yR]at hi;simp at hi⟩,NH,by rw[hn];simpa using BO⟩;rw[yR,hn];unfold zZ;rw[List.countP_replicate];simp
 exact this ⟨w,by omega⟩
def Cs (hc:dl c)(k:Nat)(t:Int)(ht:0<=t/\t<16):oU c k (fq c t):=by
 have hw:=hc.b8;obtain⟨w,hwn⟩:∃w:Nat,c.b8=w:=⟨c.b8.toNat,by omega⟩;obtain⟨h1,h2,h3⟩:=Sr w Ya;have ha:=hc.ao;have hf:=hc.aB;have e:(fq c t).bJ=jF w:=by unfold fq;rw[hwn]
 refine⟨⟨rfl,ht,by rw[e];exact h1,by rw[e,h2,hwn];rfl,by rw[e];exact h3,by rw[e];exact λa ha=>(by cases ha),λx hx=>(by cases hx),by show ((0:Nat):Int)<=c.ao;omega,Nat.le_refl _,Nat.zero_le _,List.nodup_nil,λa ha=>(by cases ha),by show ((0:Nat):Int)<=c.aB;omega,by show (0:Int)<=0/\(0:Int)<=k;omega,Nat.zero_le _,λx hx=>(by cases hx)⟩,λ_=>⟨rfl,rfl,rfl,rfl,rfl⟩⟩
end
def V1 {c:bu}{M:Mm}(p:sU)(y7:0<=p.bR/\p.bR<=2)(hc:dl c)(hh:li c p.fa p.head)(hb:p.block = -1):(gB p M).2.1.block<c.nb:=by have IP:=ul hc;rcases BJ p M y7 with ⟨h0,e0⟩|⟨h0,e0⟩|⟨h0,w,hw,e0⟩;rw[e0];dsimp only;omega;rw[e0];dsimp only;omega;rw[e0];dsimp only;split;exact hh.2.1;dsimp only;omega
end
section
variable [Gl]
def Ii:∀(n:Nat)(l:List Int),l.Nodup->(∀a∈l,0<=a/\a<(n:Int))->U l<=n
 |0,l,_,h=>by
   cases l with
   |nil=>simp
   |cons a t=>have:=h a Yb;omega
 |n+1,l,hn,h=>by
   have h1:=Ii n (l.erase (n:Int)) (hn.erase _) λa ha=>by have h2:=(List.Nodup.mem_erase_iff hn).1 ha;have h3:=h a h2.2;have h4:=h2.1;omega
   rw[List.length_erase]at h1;split at h1<;>omega
variable {c:bu} {nt k:Nat} {M:Mm} {s:aJ}
def jY.attC (hc:dl c)(h:jY c k s):iF s:=by
 have sF:=h.cf;have IP:=hc.nb;have hw:=hc.bm;refine⟨sF▸hc,?_,h.bJ,?_,h.cZ,?_,?_,?_,h.push,sF▸h.set,?_,?_⟩;have:=h.Rw;omega;have:=h.fg;have:=hc.b8;omega;intro a ha;have:=h.Mj a ha;omega;intro a ha;have:=h.alb a ha;omega;have:=h.oQ;have:=hc.ao;omega;have:=Ii c.bm.toNat s.reads h.rnd λa ha=>by have:=h.rrg a ha;omega
 omega;have:=h.GQ;have:=hc.aB;omega
def jY.kS (hc:dl c)(h:jY c k s):U s.reads<=64:=by
 have hw:=hc.bm;have:=Ii c.bm.toNat s.reads h.rnd λa ha=>by have:=h.rrg a ha;omega
 omega
def yu.orOk (h:yu k s)(ho:U s.au<=64):OrOk s:=by refine⟨by omega,?_⟩;rcases h with h|⟨l,h1,h2,h3,h4,h5⟩;left;rw[h.1];rfl;right;exact⟨l,h1,h3.symm⟩
def oU.stepOk (hc:dl c)(h:oU c k s)(hM:mr c nt k M):Ow s M:=by
 have hb:=h.b;have hC:=hb.attC hc;have sF:=hb.cf;have hd:=h.d;refine⟨hC,?_⟩;have ho:=hb.orl;cases e:s.aH with
 |bC=>trivial
 |iY l=>
   rw[e]at hd;cases l with
   |mA a v=>exact hd.2
   |dz b v=>show 0<=b/\b<s.cf.nb;rw[sF];exact hd.2
   |_=>trivial
 |dA=>rw[e]at hd;obtain⟨h0,en,h1,h2⟩:=hd;exact⟨en,h1⟩
 |be r u=>
   rw[e]at hd;obtain⟨h0,h1,h2,h3,h4,h5,h6⟩:=hd;refine⟨by have:=hb.kS hc;omega,h1,sF▸h2,?_⟩;cases u with
   |take=>trivial
   |dz b=>show 0<=b/\b<s.cf.nb;rw[sF];exact h4
 |eO p=>rw[e]at hd;obtain⟨h0,h1,h2,h3,h4,h5,h6,h7⟩:=hd;refine⟨?_,h2,?_⟩;have:=hc.ao;omega;rw[sF];exact V1 p h6 hc h3 h5
 |ef=>rw[e]at hd;obtain⟨h0,RC,l,h1,h2,h3,h4,h5⟩:=hd;exact⟨l,h1,by omega,by rw[h2];omega⟩
 |c8=>rw[e]at hd;obtain⟨h0,hl,t,h1,h2,h3⟩:=hd;exact⟨t,h1⟩
 |cK ck=>rw[e]at hd;exact hd.2.1.1.orOk ho
 |bN=>rw[e]at hd;exact hd.2.1.1.orOk ho
 |dy w=>rw[e]at hd;obtain⟨_,_,_,_,q,h1,h2⟩:=hd;have:=hb.bJ.SE;refine⟨by rw[h2];simp only[kaw];omega,by omega⟩
 |bG w=>
   rw[e]at hd;obtain⟨_,_,hl,_,q,h1,h2⟩:=hd;show U w.os=U w.ws;rw[h2];have:U (wI s)=U s.au:=by unfold wI;split;simp;rcases hl with hl|⟨l,h3,h4,h5,h6,h7⟩;rw[hl.1]at h1;simp at h1;unfold aJ.eD;rw[h3];exact h5
   simp only[kaw];omega
 |eR=>trivial
 |ey=>rw[e]at hd;exact hd.2
 |eG p=>rw[e]at hd;exact hd.2.1
 |gC=>trivial
end
section
variable [Gl]
def LB {n:Int}(h:0<=n/\n<65535):j7 (n+1)=n:=by rw[MA Ya];omega
def VQ {c:bu}(hF:re c)(nt:Nat){zs:List Int}(hz:(U zs:Int)=c.bm):mr c nt 0 (EL c nt zs):=by
 have IP:=ul hF.ok;have ho:=hF.ok.au;have h0:=hF.c0;have h1:=hF.c1;have h2:=hF.c2;have h3:=hF.c3;have hnbe:c.nb=c.c0+c.c1+c.c2+c.c3:=rfl;refine⟨?_,?_,rfl,rfl,rfl,?_,rfl,E4 hF,?_,?_,?_,?_,?_⟩;show (U (zs++q9 c.nb.toNat 0):Int)=_;simp only[Zh,ka8];omega;show (U (q9 c.au.toNat (0:Int)):Int)=_;simp only[ka8];omega;show U (q9 nt (0:Int))=nt;simp;intro i;show li c i ((vY c.c0 c.c1).getD i 0);by_cases hi:i<4;rw[Ze,Wy hF i hi];show li c i (if 0<QX c i then O7 c i+1 else 0);split;rename_i hp;have hr:=cntF_rng hF i;refine⟨by omega,?_,λ_=>?_⟩;rw[LB Ya];have:i=0\/i=1\/i=2\/i=3:=Ya
 rcases this with rfl|rfl|rfl|rfl<;>simp only[QX,O7]at hp ⊢<;>omega;rw[LB Ya];have:i=0\/i=1\/i=2\/i=3:=Ya
 rcases this with rfl|rfl|rfl|rfl<;>simp only[QX,O7]at hp ⊢<;>unfold eE GJ;rw[ar Ya,az Ya];rfl;rw[ar Ya,ar Ya,az Ya];rfl;omega;omega;exact li.zero hF.ok _;rw[Ze,ZL (by simp[vY];omega)];exact li.zero hF.ok _;intro b;show rD c (eE c b) ((wP c.c0 c.c1).getD b 0);by_cases hb:(b:Int)<c.nb;rw[Ze,nextF_at hF b hb];show rD c (eE c b) (if (b:Int)+1<c.nb/\eE c (b+1)=eE c b then (b:Int)+2 else 0);split;rename_i h;refine⟨by omega,by omega,λ_=>?_⟩;rw[show (b:Int)+2-1=b+1 by omega];exact h.2;exact rD.zero hF.ok _;have:=E4 hF;rw[Ze,ZL Ya];exact rD.zero hF.ok _;show (0:Int)<=0/\(0:Int)<=((0:Nat):Int);omega;show (0:Int)<=0/\(0:Int)<=((0:Nat):Int);omega;intro i;show kK 0 ((q9 c.au.toNat (0:Int)).getD i 0);rw[Ze]
 by_cases hi:i<c.au.toNat;rw[List.getElem?_replicate_of_lt hi];exact kK.zero 0;rw[ZL Yg];exact kK.zero 0
def wa (s:aJ):(gn s).aG=s.aG:=by unfold gn;split<;>rfl
def oE (s:aJ)(aD:Int):(kM s aD).aG=s.aG:=wa _
def uA (s:aJ)(aD:Int):(nB s aD).aG=s.aG:=by unfold nB;split<;>rfl
def tX (s:aJ):(fE s).aG=s.aG:=by unfold fE;split<;>rfl
def mE (s:aJ)(a v:Int):(jr s a v).2.aG=s.aG:=by unfold jr;split;rfl;exact oE s 3
def D2 (s:aJ)(b st:Int):(ji s b st).aG=s.aG:=by unfold ji;split;exact uA s 8;split;exact oE s 3;split;exact mE s _ 0;exact mE s _ 0
def xn:∀(n:Nat)(a:Int)(s:aJ),(fX n a s).2.aG=s.aG
 |0,_,_=>rfl
 |n+1,a,s=>by unfold fX;split;rw[xn n];exact mE s a 0;exact mE s a 0
def Fp (s:aJ)(fa jj:Int):(fb s fa jj).aG=s.aG:=by unfold fb;split;exact oE s 4;dsimp only;split;split;show (fX _ _ _).2.aG=_;rw[xn];exact mE { s with ao:=s.ao++[jj] } _ _;rw[xn];exact mE { s with ao:=s.ao++[jj] } _ _;exact mE { s with ao:=s.ao++[jj] } _ _
def Sx (s:aJ)(l:Fx):(r9 s l).aG=s.aG:=by
 cases l with
 |mA a v=>unfold r9;dsimp only;split;exact uA s 7;exact mE s a v
 |sD=>exact uA s 7
 |RG=>exact uA s 8
 |bZ aD=>exact uA s aD
 |take v=>rfl
 |lp=>exact oE s 3
 |dz b v=>exact D2 s b v
def RL (s:aJ)(v:Int)(u:sT):(Bi s v u).aG=s.aG:=by
 cases u with
 |take=>rfl
 |dz b=>exact D2 s b v
def BZ (s:aJ)(M:Mm):(aY s M).2.2.1.aG=(match s.aH with | .gC=>2|_=>s.aG):=by
 unfold aY;cases hd:s.aH with
 |gC=>rfl
 |bC=>rfl
 |iY k=>exact Sx _ k
 |dA=>
   dsimp only;cases s.bQ with
   |none=>rfl
   |some e=>dsimp only[go];split<;>rfl
 |be r u=>show (da s M r u).2.2.1.aG=s.aG;unfold da;dsimp only;split;rfl;split;exact oE _ 9;split;dsimp only;rw[RL];split<;>rfl;dsimp only;rw[oE];split<;>rfl
 |eO p=>show (lx s M p).2.2.1.aG=s.aG;unfold lx;dsimp only;split;rw[Fp];rfl
 |ef=>
   dsimp only;cases s.aQ with
   |none=>rfl
   |some l=>dsimp only[ip];split<;>rfl
 |c8=>
   dsimp only;cases s.aN with
   |none=>rfl
   |some t=>dsimp only[ia];split<;>rfl
 |cK ck=>show (gu s M ck).2.2.1.aG=s.aG;unfold gu;dsimp only;split;rw[tX];split<;>rfl
 |bN=>show (fo s M).2.2.1.aG=s.aG;unfold fo;dsimp only;split;rw[tX];split;rfl;rw[tX]
 |dy w=>show (gF s M w).2.2.1.aG=s.aG;unfold gF;dsimp only;split<;>rfl
 |bG w=>rfl
 |eR=>rfl
 |ey=>exact wa s
 |eG p=>show (iT s M p).2.2.1.aG=s.aG;unfold iT;dsimp only;split;rw[wa];rfl
def QD {s:aJ}(h:s.nT 1=qj):s.aG=1:=by unfold aJ.nT at h;simp at h;exact h.2
def NW (s:aJ)(aD:Int):(GR s aD).2=s\/(GR s aD).2.aG=1:=by unfold GR;split;rename_i hf;have:=QD hf;split<;>simp[this];exact qw rfl
def Ue (s:aJ)(a v:Int):(Kl s a v).2=s\/(Kl s a v).2.aG=1:=by unfold Kl;split;rename_i hf;have:=QD hf;simp[this];exact qw rfl
def Up (s:aJ)(a:Int):(LM s a).2=s\/(LM s a).2.aG=1:=by unfold LM;split;rename_i hf;have:=QD hf;split;simp[this];split<;>simp[this,xx];exact qw rfl
def alS_req (s:aJ)(a:Int):(Rf s a).2=s\/(Rf s a).2.aG=1:=by unfold Rf;split;rename_i hf;have:=QD hf;split;simp;split<;>simp[this];exact qw rfl
def frS_req (s:aJ)(a:Int):(QE s a).2=s\/(QE s a).2.aG=1:=by unfold QE;split;rename_i hf;have:=QD hf;split;simp[this];split<;>simp[this,xx];exact qw rfl
end
end Go.Stx
