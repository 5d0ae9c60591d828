/-
 One attempt, without the program: what always holds of the cells and of its state.
-/
import Derived.Test.YtnnbecihffpedaaGreatDoorG10
set_option linter.unusedVariables false
set_option linter.unusedSimpArgs false
set_option linter.unusedSectionVars false
set_option maxRecDepth 20000
set_option maxHeartbeats 4000000
namespace Go.Stx
open Go Go.Proofs
attribute [local irreducible] cB aW az aG bZ cz
section
variable [Gl]
theorem Ia (l:List Int) (i:Nat):l.getD i 0=0\/l.getD i 0∈l:=by
 rw [List.getD_eq_getElem?_getD];by_cases h:i<l.length;rw [List.getElem?_eq_getElem h];exact .inr (List.getElem_mem h);rw [List.getElem?_eq_none (by omega)];exact .inl rfl
theorem nV (M:Mm) (gd cell dm:Int) (g:Int->Int×Bool):(fv M gd cell dm g).eV=0\/(f5 M cell dm=true/\(fv M gd cell dm g).eV=(jP M cell).getD dm.toNat 0):=by
 unfold fv;split;rename_i h;exact .inr ⟨h,rfl⟩;exact .inl rfl
theorem Jj (M:Mm) (cell dm v:Int) (k:Nat):(setRow M cell dm v k).length=(M k).length:=by
 unfold setRow;split<;>simp
theorem pn (M:Mm) (cell dm:Int) (g:Int->Int×Bool) (k:Nat):(pR M cell dm g k).length=(M k).length:=by
 unfold pR;split;exact Jj _ _ _ _ _;rfl
theorem BH (M:Mm) (cell dm:Int) (g:Int->Int×Bool) (k j:Nat) :
 (pR M cell dm g k).getD j 0=(M k).getD j 0\/(f5 M cell dm=true/\k=(cell-1).toNat/\j=dm.toNat/\(pR M cell dm g k).getD j 0=(g ((jP M cell).getD dm.toNat 0)).1):=by
 unfold pR;split;rename_i hc;unfold setRow;split;rename_i e;by_cases hj:j=dm.toNat;by_cases hl:j<(M k).length;refine .inr ⟨hc.1,e,hj,?_⟩;subst hj;rw [List.getD_eq_getElem?_getD,List.getElem?_set_self hl];rfl;left;simp only [List.getD_eq_getElem?_getD];rw [List.getElem?_eq_none (by simp;omega),List.getElem?_eq_none (by omega)];left;simp only [List.getD_eq_getElem?_getD];rw [List.getElem?_set_ne (Ne.symm hj)];exact .inl rfl;exact .inl rfl
theorem zJ {M:Mm} {cell dm:Int} (h:f5 M cell dm=true):(1<=cell/\cell<=8)/\0<=dm/\dm<(M (cell-1).toNat).length:=by
 unfold f5 jP at h;split at h;rename_i hh;refine⟨hh,?_⟩
 simpa using h
 simp at h;omega
def jq (k:Nat) (x:Int):Prop:=0<=x/\x / 64<=k/\x % 64<=16
theorem jq.mono {k k':Nat} {x:Int} (h:jq k x) (hk:k<=k'):jq k' x:=⟨h.1,by have:=h.2.1;omega,h.2.2⟩
theorem jq.zero (k:Nat):jq k 0:=⟨by omega,by omega,by omega⟩
def ja (c:bH) (dC x:Int):Prop:=0<=x/\gT x<c.nb/\(0<=gT x->c8 c (gT x)=dC)
def mw (c:bH) (dC x:Int):Prop:=0<=x/\x<=c.nb/\(0<x->c8 c (x-1)=dC)
theorem oF {c:bH} (hc:cx c):0<=c.nb:=by
 have h0:=hc.k0;have h1:=hc.k1;have h3:=hc.k2;have h4:=hc.k3;have e:c.nb=c.c0+c.c1+c.c2+c.c3:=rfl;omega
theorem yt:gT 0 = -1:=by decide
theorem ja.zero {c:bH} (hc:cx c) (dC:Int):ja c dC 0:=by
 have h:=oF hc;refine⟨by omega,by rw [yt];omega,λe=>?_⟩;rw [yt] at e;omega
theorem mw.zero {c:bH} (hc:cx c) (dC:Int):mw c dC 0:=⟨by omega,oF hc,λe=>by omega⟩
structure js (c:bH) (nt k:Nat) (M:Mm):Prop where
 l0:((M 0).length:Int)=c.aR+c.nb
 l1:((M 1).length:Int)=c.am
 l2:(M 2).length=1
 l3:(M 3).length=1
 l4:(M 4).length=1
 l5:(M 5).length=nt
 l6:(M 6).length=4
 l7:((M 7).length:Int)=c.nb
 head:∀i:Nat,ja c i ((M 6).getD i 0)
 next:∀b:Nat,mw c (c8 c b) ((M 7).getD b 0)
 wH:0<=(M 2).getD 0 0/\(M 2).getD 0 0<=k
 tik:0<=(M 3).getD 0 0/\(M 3).getD 0 0<=k
 orc:∀i:Nat,jq k ((M 1).getD i 0)
theorem js.mono {c:bH} {nt k k':Nat} {M:Mm} (h:js c nt k M) (hk:k<=k'):js c nt k' M:=
 ⟨h.l0,h.l1,h.l2,h.l3,h.l4,h.l5,h.l6,h.l7,h.head,h.next,by have:=h.wH;omega,by have:=h.tik;omega,λi=>(h.orc i).mono hk⟩
theorem js.op {c:bH} {nt k k':Nat} {M:Mm} (h:js c nt k M) (hk:k<=k') (cell dm:Int) (g:Int->Int×Bool)
 (hv:f5 M cell dm=true->(cell=7->ja c dm (g ((jP M cell).getD dm.toNat 0)).1)/\
  (cell=8->mw c (c8 c dm) (g ((jP M cell).getD dm.toNat 0)).1)/\
  (cell=3\/cell=4->0<=(g ((jP M cell).getD dm.toNat 0)).1/\(g ((jP M cell).getD dm.toNat 0)).1<=k')/\
  (cell=2->jq k' (g ((jP M cell).getD dm.toNat 0)).1)):js c nt k' (pR M cell dm g):=by
 have hcell:f5 M cell dm=true->(1<=cell/\cell<=8)/\0<=dm:=λh=>⟨(zJ h).1,(zJ h).2.1⟩;refine⟨by rw [pn];exact h.l0,by rw [pn];exact h.l1,by rw [pn];exact h.l2,by rw [pn];exact h.l3,by rw [pn];exact h.l4,by rw [pn];exact h.l5,by rw [pn];exact h.l6,by rw [pn];exact h.l7,?_,?_,?_,?_,?_⟩;intro i;rcases BH M cell dm g 6 i with h1|⟨h1,h2,h3,h4⟩;rw [h1];exact h.head i;have hr:=hcell h1;have:=(hv h1).1 (by omega);rw [h4];have e:dm=(i:Int):=by omega
 rw [e] at this ⊢;exact this;intro i;rcases BH M cell dm g 7 i with h1|⟨h1,h2,h3,h4⟩;rw [h1];exact h.next i;have hr:=hcell h1;have:=(hv h1).2.1 (by omega);rw [h4];have e:dm=(i:Int):=by omega
 rw [e] at this ⊢;exact this;rcases BH M cell dm g 2 0 with h1|⟨h1,h2,h3,h4⟩;rw [h1];have:=h.wH;omega;have hr:=hcell h1;rw [h4];exact(hv h1).2.2.1 (by omega);rcases BH M cell dm g 3 0 with h1|⟨h1,h2,h3,h4⟩;rw [h1];have:=h.tik;omega;have hr:=hcell h1;rw [h4];exact(hv h1).2.2.1 (by omega);intro i;rcases BH M cell dm g 1 i with h1|⟨h1,h2,h3,h4⟩;rw [h1];exact(h.orc i).mono hk;have hr:=hcell h1;rw [h4];exact(hv h1).2.2.2 (by omega)
theorem js.VK {c:bH} {nt k k':Nat} {M:Mm} (h:js c nt k M) (hk:k<=k') (cell dm:Int) (g:Int->Int×Bool) (h1:cell≠7/\cell≠8/\cell≠3/\cell≠4/\cell≠2):js c nt k' (pR M cell dm g):=
 h.op hk cell dm g λ_=>⟨λe=>absurd e h1.1,λe=>absurd e h1.2.1,λe=>by rcases e with e|e;exact absurd e h1.2.2.1;exact absurd e h1.2.2.2.1,λe=>absurd e h1.2.2.2.2⟩
theorem js.opO {c:bH} {nt k k':Nat} {M:Mm} (h:js c nt k M) (hk:k<=k') (dm:Int) (g:Int->Int×Bool) (h1:jq k' (g ((jP M 2).getD dm.toNat 0)).1):js c nt k' (pR M 2 dm g):=
 h.op hk 2 dm g λ_=>⟨λe=>by omega,λe=>by omega,λe=>by omega,λ_=>h1⟩
theorem E7 {h:Int} (h0:0<=h):gT h=h % 65536-1:=by
 unfold gT;rw [Int.tmod_eq_emod_of_nonneg h0];rw [an (x:=h % 65536) (by omega) (by omega),an (by omega) (by omega)]
theorem G8 {h:Int} (h0:0<=h):-1<=gT h/\gT h<=65534:=by rw [E7 h0];omega
theorem Na (t p:Int):0<=oI t p/\(gT (oI t p)=p\/gT (oI t p) = -1):=by
 unfold oI;split;rename_i h;refine⟨by omega,.inl ?_⟩;rw [E7 (by omega)];omega;exact⟨by omega,.inr yt⟩
theorem CF {c:bH} (hc:cx c) {h p dC:Int} (hp:p<c.nb) (iR:0<=p->c8 c p=dC):ja c dC (mW h p):=by
 have Aj:=oF hc;obtain⟨h1,h2⟩:=Na ((IntKind.i64.wrap (Ou h+1)).tmod 281474976710656) p;refine⟨h1,?_,λh0=>?_⟩;show gT (oI _ _)<c.nb;rcases h2 with h2|h2<;>rw [h2]<;>omega;have QO:0<=gT (oI ((IntKind.i64.wrap (Ou h+1)).tmod 281474976710656) p):=h0;show c8 c (gT (oI _ _))=dC;rcases h2 with h2|h2;rw [h2] at QO ⊢;exact iR QO;rw [h2] at QO;omega
def LocI (c:bH):D4->Prop
 | .kX a _=>0<=a
 | .cU b _=>0<=b/\b<c.nb
 | _=>True
def Sp (c:bH):yf->Prop
 | .take=>True
 | .cU b=>0<=b/\b<c.nb
structure jb (s:aF):Prop where
 am:s.am=[]
 aJ:s.aJ=none
 aI:s.aI=none
 aj:s.aj=0
 KG:s.ai=false
structure yi (k:Nat) (l:hW):Prop where
 d7:jq k l.d7
 load:l.fH=true->l.d7 % 64=0
 eL:∀w∈l.eL,jq k w/\w % 64=0
theorem yi.mono {k k':Nat} {l:hW} (h:yi k l) (hk:k<=k'):yi k' l:=⟨h.d7.mono hk,h.load,λw hw=>⟨((h.eL w hw).1).mono hk,(h.eL w hw).2⟩⟩
def sN (k:Nat) (s:aF):Prop:=(s.am=[]/\s.aJ=none)\/∃l,s.aJ=some l/\l.am=s.am/\l.eL.length=s.am.length/\0<s.am.length/\yi k l
def lV (k:Nat) (s:aF):Prop:=sN k s/\(s.fU=true↔0<s.am.length)
theorem sN.mono {k k':Nat} {s:aF} (h:sN k s) (hk:k<=k'):sN k' s:=by
 rcases h with h|⟨l,h1,h2,h3,h4,h5⟩;exact .inl h;exact .inr ⟨l,h1,h2,h3,h4,h5.mono hk⟩
theorem lV.mono {k k':Nat} {s:aF} (h:lV k s) (hk:k<=k'):lV k' s:=⟨h.1.mono hk,h.2⟩
def yF (s:aF):List Int:=if s.ai=true then List.replicate s.am.length (lO s.sX) else s.eL
structure iS (c:bH) (k:Nat) (s:aF):Prop where
 cf:s.cf=c
 Om:0<=s.ak/\s.ak<16
 bp:mZ s.bp
 ee:s.bp.ee=c.cM.toNat
 dm:s.bp.index.length<=64
 Gx:∀a∈s.bp.bK,0<=a/\a<c.aR+c.nb
 NH:∀x∈s.ag,0<=x/\x<c.nb
 ln:(s.ag.length:Int)<=c.ag
 push:s.aj<=s.ag.length
 set:s.set.length<=c.reads.toNat
 TQ:s.reads.Nodup
 TO:∀a∈s.reads,0<=a/\a<c.aR
 An:(s.ar.length:Int)<=c.ar
 wH:0<=s.aw/\s.aw<=k
 WD:s.am.length<=64
 orr:∀x∈s.am,0<=x/\x<c.am
def DoI (c:bH) (k:Nat) (s:aF):bm->Prop
 | .bq=>s.aA≠2->jb s
 | .gE l=>jb s/\LocI c l
 | .cW=>jb s/\∃e,s.bS=some e/\(0<=e.aw/\e.aw<=k)/\(0<=e.br/\e.br<=2)/\e.ak=s.ak
 | .aP r u=>jb s/\(0<=r.br/\r.br<=2)/\r.fw=fF c r.cg/\r.dh=false/\Sp c u/\(0<=r.cg/\r.cg<c.aR+c.nb)/\r.rv=s.rv
 | .eh p=>jb s/\(s.ag.length:Int)<c.ag/\(0<=p.dC/\p.dC<=3)/\ja c p.dC p.head/\mw c p.dC p.next/\p.block = -1/\(0<=p.br/\p.br<=2)/\(1<=p.br->0<=gT p.head)
 | .ei=>(s.aI=none/\s.aj=0/\s.ai=false)/\(s.av=1/\s.fU=true)/\∃l,s.aJ=some l/\l.am=s.am/\l.ak=s.ak/\l.eL.length<l.am.length/\yi k l
 | .cq=>(s.aj=0/\s.ai=false)/\lV k s/\∃t,s.aI=some t/\t.done=false/\(0<=t.iu/\t.iu<=k)
 | .cG ck=>(s.aj=0/\s.ai=false)/\lV k s/\(∃t,s.aI=some t)/\ck.iw=false/\(∃q,q<s.set.length/\ck.am=s.set.drop q)/\ck.rv=s.rv
 | .bJ=>(s.aj=0/\s.ai=false)/\lV k s/\∃t,s.aI=some t
 | .dI w=>s.aj=0/\(s.ai=true/\s.fU=true)/\lV k s/\(∃t,s.aI=some t)/\∃q,q<s.bp.bK.length/\w=⟨s.bp.bK.drop q,s.bp.eM.drop q⟩
 | .bX w=>s.aj=0/\(s.ai=true->s.fU=true)/\sN k s/\(∃t,s.aI=some t)/\∃q,q<s.am.length/\w=⟨s.am.drop q,(yF s).drop q⟩
 | .gr=>s.aj=0/\(s.ai=true/\s.fU=true)/\∃t,s.aI=some t
 | .eT=>s.aj=0/\∃t,s.aI=some t
 | .dX p=>s.av≠1/\s.aj<s.ag.length/\p.block=s.ag.getD s.aj 0/\p.dC=c8 c p.block/\ja c p.dC p.head/\(0<=p.br/\p.br<=2)
 | .go=>True
structure nj (c:bH) (k:Nat) (s:aF):Prop where
 b:iS c k s
 d:DoI c k s s.aC
theorem iS.mono {c:bH} {k k':Nat} {s:aF} (h:iS c k s) (hk:k<=k'):iS c k' s:={ h with wH:=⟨h.wH.1,by have:=h.wH.2;omega⟩ }
theorem nj.mono {c:bH} {k k':Nat} {s:aF} (h:nj c k s) (hk:k<=k'):nj c k' s:=by
 refine⟨h.b.mono hk,?_⟩;have hd:=h.d;revert hd;cases s.aC with
 | cW=>
   rintro ⟨h0,e,h1,h2,h3⟩;exact⟨h0,e,h1,⟨h2.1,by omega⟩,h3⟩
 | ei=>
   rintro ⟨h0,s8,l,h1,h2,h3,h4,h5⟩;exact⟨h0,s8,l,h1,h2,h3,h4,h5.mono hk⟩
 | cq=>
   rintro ⟨h0,hl,t,h1,h2,h3⟩;exact⟨h0,hl.mono hk,t,h1,h2,h3.1,by omega⟩
 | cG ck=>
   rintro ⟨h0,hl,h1⟩;exact⟨h0,hl.mono hk,h1⟩
 | bJ=>
   rintro ⟨h0,hl,h1⟩;exact⟨h0,hl.mono hk,h1⟩
 | dI w=>
   rintro ⟨h0,hd,hl,h1⟩;exact⟨h0,hd,hl.mono hk,h1⟩
 | bX w=>
   rintro ⟨h0,hd,hl,h1⟩;exact⟨h0,hd,hl.mono hk,h1⟩
 | _=>exact id
theorem iS.to {c:bH} {k:Nat} {s s':aF} (h:iS c k s) (h1:s'.cf=s.cf:=by rfl) (h2:s'.ak=s.ak:=by rfl) (h3:s'.bp=s.bp:=by rfl) (h4:s'.ag=s.ag:=by rfl) (h5:s'.aj=s.aj:=by rfl) (h6:s'.set=s.set:=by rfl) (h7:s'.reads=s.reads:=by rfl) (h8:s'.ar=s.ar:=by rfl) (h9:s'.aw=s.aw:=by rfl) (QN:s'.am=s.am:=by rfl):iS c k s':=by
 (unhygienic cases s);obtain⟨cf',Q1,TI,mU,TD,ent',P7,TT,Sl,U3,set',log',Vj,T3,WL,Wo,Q9,Vf⟩:=s';dsimp only at h1 h2 h3 h4 h5 h6 h7 h8 h9 QN;subst h1 h2 h3 h4 h5 h6 h7 h8 h9 QN;exact⟨h.cf,h.Om,h.bp,h.ee,h.dm,h.Gx,h.NH,h.ln,h.push,h.set,h.TQ,h.TO,h.An,h.wH,h.WD,h.orr⟩
section
variable {c:bH} {k:Nat} {s:aF}
theorem Ib {l:List Int} {i:Nat} (h:i<l.length):l.getD i 0∈l:=by
 rw [List.getD_eq_getElem?_getD,List.getElem?_eq_getElem h];exact List.getElem_mem h
theorem wC (hc:cx c) (h:iS c k s):nj c k (fC s):=by
 unfold fC;split;exact⟨h.to,trivial⟩;rename_i hn;have hp:=h.push;have cF:s.aj<s.ag.length:=by omega
 refine⟨h.to,λe=>hn (.inl e),cF,rfl,?_,.zero hc _,by show (0:Int)<=0;omega,by show (0:Int)<=2;omega⟩;show c8 s.cf (s.ag.getD s.aj 0)=c8 c (s.ag.getD s.aj 0);rw [h.cf]
theorem rm (hc:cx c) (h:iS c k s) (av:Int):nj c k (iL s av):=wC hc (h.to)
theorem rV (l:List Int):(eb l).Pairwise (·< ·)/\∀z,z∈eb l↔z∈l:=by rw [Ji];exact sP l
theorem Fs (l:List Int):eb (eb l)=eb l:=by
 obtain⟨h1,h2⟩:=rV l;obtain⟨h3,h4⟩:=rV (eb l);exact KA _ _ h3 h1 h4
theorem OL {l:List Int} (hl:l.Pairwise (·< ·)) (a:Int):(∀x∈l,a<=x)->∀n:Nat,(∀x∈l,x<a+n)->l.length<=n:=by
 induction l generalizing a with
 | nil=>intro _ n _;simp
 | cons y r ih=>
   intro h1 n h2;rw [List.pairwise_cons] at hl;have hy1:=h1 y (by simp);have hy2:=h2 y (by simp);have:r.length<=n-1:=ih hl.2 (y+1) (λx hx=>by have:=hl.1 x hx;omega) (n-1) (λx hx=>by have:=h2 x (by simp [hx]);omega);simp only [List.length_cons];omega
theorem OM {c:bH} (hc:cx c) {a:Int} (h:0<=a/\a<c.aR+c.nb):0<=fF c a/\fF c a<c.am:=by
 have:=hc.am;unfold fF;rw [ay h,Int.tmod_eq_emod_of_nonneg h.1];exact⟨Int.emod_nonneg a (by omega),Int.emod_lt_of_pos a (by omega)⟩
theorem xQ (hc:cx c) (h:iS c k s) (he:jb s) (av:Int):nj c k (lZ s av):=by
 unfold lZ;split;rename_i hs;simp only [Bool.and_eq_true,decide_eq_true_eq] at hs;obtain⟨EE,zD⟩:=hs;have yM:=rV (s.bp.bK.map (fF s.cf));have S3:=Fs (s.bp.bK.map (fF s.cf));have hr:∀x∈eb (s.bp.bK.map (fF s.cf)),0<=x/\x<c.am:=λx hx=>by
  obtain⟨a,ha,rfl⟩:=List.mem_map.1 ((yM.2 x).1 hx);rw [h.cf];exact OM hc (h.Gx a ha)
 refine⟨{ h.to (s':={ s with av:=av,aJ:=some ⟨s.ak,eb (eb (s.bp.bK.map (fF s.cf))),[],0,false⟩,aC:=.ei }) rfl rfl rfl rfl rfl rfl rfl rfl rfl rfl with WD:=?_,orr:=hr },⟨he.aI,he.aj,he.KG⟩,⟨EE,?_⟩,_,rfl,S3,rfl,?_,⟨.zero _,λe=>(by cases e),λw hw=>(by cases hw)⟩⟩;show (eb (s.bp.bK.map (fF s.cf))).length<=64;have ho:=hc.am;have:=OL yM.1 0 (λx hx=>(hr x hx).1) c.am.toNat λx hx=>by have:=(hr x hx).2;omega
 omega;show (decide (av=1) && decide (0<s.bp.bK.length))=true;simp [EE,zD];show 0<(eb (eb (s.bp.bK.map (fF s.cf)))).length;rw [S3];have hm:fF s.cf s.bp.bK[0]∈eb (s.bp.bK.map (fF s.cf)):=(yM.2 _).2 (List.mem_map.2 ⟨_,List.getElem_mem zD,rfl⟩);exact List.length_pos_of_mem hm;rename_i hs;refine⟨h.to,⟨he.aj,he.KG⟩,⟨.inl ⟨he.am,he.aJ⟩,⟨λe=>absurd e hs,λe=>?_⟩⟩,_,rfl,rfl,?_⟩;rw [show ({ s with av:=av,aI:=some ⟨false,0,false⟩,aC:=bm.cq }:aF).am=s.am from rfl,he.am] at e;simp at e;show (0:Int)<=0/\(0:Int)<=k;omega
theorem tu (h:iS c k s) (hp:s.aj=0) (hl:sN k s) (hd:s.ai=true->s.am=[]) (ht:∃t,s.aI=some t):nj c k (fK s):=by
 unfold fK;split;exact⟨h.to,hp,ht⟩;rename_i hn;have hdf:s.ai=false:=by
  cases e:s.ai with
  | false=>rfl
  | true=>rw [hd e] at hn;simp at hn
 refine⟨h.to,hp,λe=>?_,hl,ht,0,by show 0<s.am.length;omega,?_⟩;rw [show ({ s with aC:=bm.bX ⟨s.am,s.eL⟩ }:aF).ai=s.ai from rfl,hdf] at e;cases e;rw [List.drop_zero,List.drop_zero];show (⟨s.am,s.eL⟩:jx)=⟨s.am,yF _⟩;unfold yF;rw [ap (by show ¬s.ai=true;rw [hdf];decide)];rfl
theorem jb.to {s s':aF} (h:jb s) (h1:s'.am=s.am) (h2:s'.aJ=s.aJ) (h3:s'.aI=s.aI) (h4:s'.aj=s.aj) (h5:s'.ai=s.ai):jb s':=
 ⟨h1.trans h.am,h2.trans h.aJ,h3.trans h.aI,h4.trans h.aj,h5.trans h.KG⟩
theorem iS.put (h:iS c k s) {a:Int} (ha:0<=a/\a<c.aR+c.nb) (v:Int):iS c k { s with bp:=(fj s.bp a v).2 }:=by
 obtain⟨h1,h2,h3⟩:=xA s.bp a v;refine⟨h.cf,h.Om,Ey h.bp ha.1 v,h1.trans h.ee,by have:=h.dm;show (fj s.bp a v).2.index.length<=64;omega,?_,h.NH,h.ln,h.push,h.set,h.TQ,h.TO,h.An,h.wH,h.WD,h.orr⟩;intro x hx;rcases h3 x hx with h4|h4;exact h.Gx x h4;subst h4;exact ha
structure IN (s s':aF):Prop where
 aC:s'.aC=s.aC
 am:s'.am=s.am
 aJ:s'.aJ=s.aJ
 aI:s'.aI=s.aI
 aj:s'.aj=s.aj
 KG:s'.ai=s.ai
 cf:s'.cf=s.cf
 ar:s'.ar=s.ar
theorem IN.P5 {s s':aF} (h:IN s s') (he:jb s):jb s':=he.to h.am h.aJ h.aI h.aj h.KG
theorem IN.trans {s s' s'':aF} (h:IN s s') (h':IN s' s''):IN s s'':=
 ⟨h'.aC.trans h.aC,h'.am.trans h.am,h'.aJ.trans h.aJ,h'.aI.trans h.aI,h'.aj.trans h.aj,h'.KG.trans h.KG,h'.cf.trans h.cf,h'.ar.trans h.ar⟩
theorem At (hc:cx c) (h:iS c k s) {a:Int} (ha:0<=a/\a<c.aR+c.nb) (v:Int):((ia s a v).1=true/\iS c k (ia s a v).2/\IN s (ia s a v).2)\/((ia s a v).1=false/\nj c k (ia s a v).2):=by
 unfold ia;split;exact .inl ⟨rfl,h.put ha v,rfl,rfl,rfl,rfl,rfl,rfl,rfl,rfl⟩;exact .inr ⟨rfl,rm hc h 3⟩
theorem EC (h:iS c k s) (he:jb s) (hd:s.aC=.bq):nj c k s:=⟨h,by rw [hd];exact λ_=>he⟩
theorem EO (hc:cx c) (h:iS c k s) (he:jb s) (hd:s.aC=.bq) (b st:Int) (hb:0<=b/\b<c.nb):nj c k (jG s b st):=by
 have tG:=h.cf;subst tG;unfold jG;split;exact xQ hc h he 8;split;exact rm hc h 3;rename_i hf;have hw:=hc.aR;rcases At hc h (a:=s.cf.aR+b) (by omega) 0 with ⟨h1,h2,h3⟩|⟨h1,h2⟩;rw [ay h1];refine EC ?_ ((h3.P5 he).to rfl rfl rfl rfl rfl) (h3.aC.trans hd);refine { h2.to (s':={ (ia s (s.cf.aR+b) 0).2 with ar:=s.ar }) rfl rfl rfl rfl rfl rfl rfl h3.ar.symm rfl rfl with An:=?_ };show ((s.ar++[b]).length:Int)<=s.cf.ar;simp only [List.length_append,List.length_cons,List.length_nil];omega;rw [ap (by rw [h1];decide)];exact h2
theorem D8 (hc:cx c):∀(n:Nat) (a:Int) (s:aF),iS c k s->0<=a->a+n<=c.aR+c.nb->((gh n a s).1=true/\iS c k (gh n a s).2/\IN s (gh n a s).2)\/((gh n a s).1=false/\nj c k (gh n a s).2)
 | 0,a,s,h,_,_=>.inl ⟨rfl,h,rfl,rfl,rfl,rfl,rfl,rfl,rfl,rfl⟩
 | n+1,a,s,h,h0,hn=>by
   unfold gh;rcases At hc h (a:=a) (by omega) 0 with ⟨h1,h2,h3⟩|⟨h1,h2⟩;rw [ay h1];rcases D8 hc n (a+1) _ h2 (by omega) (by omega) with ⟨g1,g2,g3⟩|⟨g1,g2⟩;exact .inl ⟨g1,g2,h3.trans g3⟩;exact .inr ⟨g1,g2⟩;rw [ap (by rw [h1];decide)];exact .inr ⟨rfl,h2⟩
theorem D1 (hc:cx c) (h:iS c k s) (he:jb s) (hd:s.aC=.bq) (hl:(s.ag.length:Int)<c.ag) (dC b:Int) (hb:-1<=b/\b<c.nb) (yP:0<=b->c8 c b=dC):nj c k (fu s dC b):=by
 have tG:=h.cf;subst tG;unfold fu;split;exact rm hc h 4;rename_i UZ;have hw:=hc.aR;have uz:=uy hc b (by omega);have iR:=yP (by omega);have Aj:=oF hc;have h1:iS s.cf k { s with ag:=s.ag++[b] }:=by
  refine⟨rfl,h.Om,h.bp,h.ee,h.dm,h.Gx,?_,?_,?_,h.set,h.TQ,h.TO,h.An,h.wH,h.WD,h.orr⟩;intro x hx;rw [List.mem_append] at hx;rcases hx with hx|hx;exact h.NH x hx;have:x=b:=by simpa using hx
  omega;show ((s.ag++[b]).length:Int)<=s.cf.ag;simp only [List.length_append,List.length_cons,List.length_nil];omega;show s.aj<=(s.ag++[b]).length;have:=h.push;simp only [List.length_append,List.length_cons,List.length_nil];omega
 have e1:jb { s with ag:=s.ag++[b] }:=he.to rfl rfl rfl rfl rfl;dsimp only;rcases At hc h1 (a:=s.cf.aR+b) (by omega) (dC+1) with ⟨g1,g2,g3⟩|⟨g1,g2⟩;rw [ay g1];have h2p:((2 ^ dC.toNat:Nat):Int)=2 ^ (c8 s.cf b).toNat:=by rw [iR];push_cast;rfl
 rcases D8 hc (2 ^ dC.toNat) (gv s.cf b) _ g2 uz.2.1 (by rw [h2p];have:=uz.2.2;omega) with ⟨z1,z2,z3⟩|⟨z1,z2⟩;rw [ay z1];have SP:=g3.trans z3;exact EC (z2.to) ((SP.P5 e1).to rfl rfl rfl rfl rfl) (SP.aC.trans hd);rw [ap (by rw [z1];decide)];exact z2;rw [ap (by rw [g1];decide)];exact g2
theorem Rm (hc:cx c) (h:iS c k s) (he:jb s) (hd:s.aC=.bq) (l:D4) (hl:LocI c l):nj c k (sY s l):=by
 cases l with
 | rO=>exact xQ hc h he 7
 | NB=>exact xQ hc h he 8
 | bI av=>exact xQ hc h he av
 | take v=>exact EC (h.to) (he.to rfl rfl rfl rfl rfl) hd
 | kX a v=>
   have hw:=hc.aR;show nj c k (if s.cf.aR<=a then lZ s 7 else (ia s a v).2);split;exact xQ hc h he 7;rename_i hn;rw [h.cf] at hn;rcases At hc h (a:=a) ⟨hl,by have:=oF hc;omega⟩ v with ⟨h1,h2,h3⟩|⟨h1,h2⟩;exact EC h2 (h3.P5 he) (h3.aC.trans hd);exact h2
 | yV=>exact rm hc h 3
 | cU b v=>exact EO hc h he hd b v hl
theorem QX (hc:cx c) (h:iS c k s) (he:jb s) (hd:s.aC=.bq) (v:Int) (u:yf) (hu:Sp c u):nj c k (Ab s v u):=by
 cases u with
 | take=>exact EC (h.to) (he.to rfl rfl rfl rfl rfl) hd
 | cU b=>exact EO hc h he hd b v hu
end
def nS (c:bH) (nt k:Nat) (r:rK):Prop:=nj c (k+1) r.2.2.1/\js c nt (k+1) r.2.2.2
theorem nS.of {c:bH} {nt k:Nat} {a:aU} {ph:Int} {s':aF} {M':Mm} (h1:nj c (k+1) s') (h2:js c nt (k+1) M'):nS c nt k (a,ph,s',M'):=⟨h1,h2⟩
section
variable {c:bH} {nt k:Nat} {s:aF} {M:Mm}
theorem LX (hM:js c nt k M) (gd:Int) (g:Int->Int×Bool):0<=(fv M gd 3 0 g).eV/\(fv M gd 3 0 g).eV<=k:=by
 rcases nV M gd 3 0 g with h|⟨_,h⟩;rw [h];omega;rw [h];exact hM.wH
theorem RW (hM:js c nt k M) (gd:Int) (g:Int->Int×Bool):0<=(fv M gd 4 0 g).eV/\(fv M gd 4 0 g).eV<=k:=by
 rcases nV M gd 4 0 g with h|⟨_,h⟩;rw [h];omega;rw [h];exact hM.tik
theorem Cg (hc:cx c) (hM:js c nt k M) (gd:Int) {dm:Int} (hi:0<=dm) (g:Int->Int×Bool):ja c dm (fv M gd 7 dm g).eV:=by
 rcases nV M gd 7 dm g with h|⟨_,h⟩;rw [h];exact .zero hc _;have e:dm=(dm.toNat:Int):=by omega
 have:=hM.head dm.toNat;rw [h];rw [<-e] at this;exact this
theorem PR (hc:cx c) (hM:js c nt k M) (gd:Int) {dm:Int} (hi:0<=dm) (g:Int->Int×Bool):mw c (c8 c dm) (fv M gd 8 dm g).eV:=by
 rcases nV M gd 8 dm g with h|⟨_,h⟩;rw [h];exact .zero hc _;have e:dm=(dm.toNat:Int):=by omega
 have:=hM.next dm.toNat;rw [h];rw [<-e] at this;exact this
theorem F7 (e:gn) (M:Mm) (nc:0<=e.br/\e.br<=2):(e.br=0/\eG e M=(Bm M 6 e.ak 1,{ e with br:=1 },Dq M 6 e.ak 1)) \/
 (e.br=1/\eG e M=(gy M 3 0,{ e with br:=2,aw:=(gy M 3 0).eV },M)) \/
 (e.br=2/\eG e M=(Bm M 6 e.ak (IntKind.u64.wrap (e.aw+2)),{ e with br:=3 },Dq M 6 e.ak (IntKind.u64.wrap (e.aw+2)))):=by
 unfold eG;by_cases h0:e.br=0;exact .inl ⟨h0,ay h0⟩;by_cases h1:e.br=1;exact .inr (.inl ⟨h1,by rw [ap h0,ay h1]⟩);have h2:e.br=2:=by omega
 exact .inr (.inr ⟨h2,by rw [ap h0,ap h1,ay h2]⟩)
theorem KD (hM:js c nt k M) (h:iS c k s) (he:jb s) (e:gn) (AE:0<=e.aw/\e.aw<=k) (nc:0<=e.br/\e.br<=2) (ht:e.ak=s.ak) (hd:s.aC=.cW):nS c nt k (gC s M e):=by
 have hb:=h.mono (Nat.le_succ k);unfold gC;rcases F7 e M nc with ⟨h0,e0⟩|⟨h0,e0⟩|⟨h0,e0⟩;rw [e0];dsimp only;rw [ap (by decide)];refine⟨⟨hb.to,?_⟩,hM.VK (by omega) _ _ _ (by decide)⟩;show DoI c (k+1) _ s.aC;rw [hd];refine⟨he.to rfl rfl rfl rfl rfl,_,rfl,⟨AE.1,?_⟩,by show (0:Int)<=1/\(1:Int)<=2;omega,ht⟩;show e.aw<=((k+1:Nat):Int);have:=AE.2;omega;rw [e0];dsimp only;rw [ap (by decide)];refine⟨⟨hb.to,?_⟩,hM.mono (by omega)⟩;show DoI c (k+1) _ s.aC;rw [hd];have hg:=LX hM 1 lf;refine⟨he.to rfl rfl rfl rfl rfl,_,rfl,⟨hg.1,?_⟩,by show (0:Int)<=2/\(2:Int)<=2;omega,ht⟩;show (fv M 1 3 0 lf).eV<=((k+1:Nat):Int);have:=hg.2;omega;rw [e0];dsimp only;rw [ay rfl];exact⟨EC (hb.to) (he.to rfl rfl rfl rfl rfl) rfl,hM.VK (by omega) _ _ _ (by decide)⟩
theorem MJ {l:List Int} {a:Int} (h:l.Nodup) (ha:¬a∈l):(l++[a]).Nodup:=by
 rw [List.nodup_append];refine⟨h,by simp,?_⟩;intro x hx y hy e;have:y=a:=by simpa using hy
 subst this;subst e;exact ha hx
theorem Bq {ee:Nat} {l:List Int} (x:Int) (h:l.length<=ee):(dy ee l x).2.length<=ee:=by
 unfold dy;split;exact h;split;exact h;simp;omega
theorem Hi (r:fV) (M:Mm):(dg r M).2.1.cg=r.cg/\(dg r M).2.1.fw=r.fw/\(dg r M).2.1.rv=r.rv/\(dg r M).2.2=M:=by
 unfold dg;dsimp only;by_cases h0:r.br=0;rw [ay h0];dsimp only;split<;>exact⟨rfl,rfl,rfl,rfl⟩;rw [ap h0];by_cases h1:r.br=1;rw [ay h1];exact⟨rfl,rfl,rfl,rfl⟩;rw [ap h1];by_cases h2:r.br=2;rw [ay h2];exact⟨rfl,rfl,rfl,rfl⟩;rw [ap h2];exact⟨rfl,rfl,rfl,rfl⟩
theorem Hj (r:fV) (M:Mm) (nc:0<=r.br/\r.br<=2) (tG:r.dh=false) (mr:(dg r M).2.1.done=false):(dg r M).2.1.dh=false/\0<=(dg r M).2.1.br/\(dg r M).2.1.br<=2:=by
 revert mr;unfold dg;dsimp only;by_cases h0:r.br=0;rw [ay h0];dsimp only;split;intro mr;simp [fV.done] at mr;intro _;exact⟨tG,by dsimp only;omega,by dsimp only;omega⟩;rw [ap h0];by_cases h1:r.br=1;rw [ay h1];intro _;exact⟨tG,by dsimp only;omega,by dsimp only;omega⟩;have h2:r.br=2:=by omega
 rw [ap h1,ay h2];intro mr;simp [fV.done] at mr
theorem MD (hc:cx c) (hM:js c nt k M) (h:iS c k s) (he:jb s) (r:fV) (u:yf) (hd:s.aC=.aP r u) (nc:0<=r.br/\r.br<=2) (ho:r.fw=fF c r.cg) (tG:r.dh=false) (hu:Sp c u) (ha:0<=r.cg/\r.cg<c.aR+c.nb) (Rv:r.rv=s.rv):nS c nt k (dq s M r u):=by
 have hb:=h.mono (Nat.le_succ k);obtain⟨i1,i2,i3,i4⟩:=Hi r M;have PI:=Hj r M nc tG;unfold dq;dsimp only;split;rename_i mr;obtain⟨g1,g2,g3⟩:=PI mr;refine⟨⟨hb.to,he.to rfl rfl rfl rfl rfl,⟨g2,g3⟩,?_,g1,hu,?_,?_⟩,by rw [i4];exact hM.mono (by omega)⟩;rw [i2,i1];exact ho;rw [i1];exact ha;rw [i3];exact Rv;split;exact⟨rm hc hb 9,by rw [i4];exact hM.mono (by omega)⟩;have h2:∀s2:aF,s2=(if r.cg<s.cf.aR/\¬r.cg∈s.reads then { s with aC:=.aP (dg r M).2.1 u,reads:=s.reads++[r.cg] } else { s with aC:=.aP (dg r M).2.1 u })->iS c (k+1) s2/\jb s2/\s2.cf=s.cf/\s2.set=s.set:=by
  rintro _ rfl;split;rename_i hn;refine⟨{ hb.to (s':={ s with aC:=.aP (dg r M).2.1 u }) rfl rfl rfl rfl rfl rfl rfl rfl rfl rfl with TQ:=MJ h.TQ hn.2,TO:=?_ },he.to rfl rfl rfl rfl rfl,rfl,rfl⟩;intro a hx;have hx:a∈s.reads++[r.cg]:=hx;rw [List.mem_append] at hx;rcases hx with hx|hx;exact h.TO a hx;have:a=r.cg:=by simpa using hx
  rw [h.cf] at hn;omega;exact⟨hb.to,he.to rfl rfl rfl rfl rfl,rfl,rfl⟩
 generalize zD:(if r.cg<s.cf.aR/\¬r.cg∈s.reads then { s with aC:=bm.aP (dg r M).2.1 u,reads:=s.reads++[r.cg] } else { s with aC:=bm.aP (dg r M).2.1 u }:aF)=s2;obtain⟨b2,e2,c2,t2⟩:=h2 s2 zD.symm;split
 . rename_i kc;refine nS.of ?_ (by rw [i4];exact hM.mono (by omega));refine QX hc ?_ ?_ rfl _ _ hu
   case refine_2=>exact e2.to rfl rfl rfl rfl rfl
   refine { b2.to (s':={ s2 with aC:=.bq }) rfl rfl rfl rfl rfl rfl rfl rfl rfl rfl with set:=?_ };show (dy s.cf.reads.toNat s.set r.fw).2.length<=c.reads.toNat;rw [h.cf];exact Bq _ h.set
 exact⟨rm hc b2 3,by rw [i4];exact hM.mono (by omega)⟩
theorem u3 (p:nQ) (M:Mm) (nc:0<=p.br/\p.br<=2):(p.br=0/\dY p M=(gy M 7 p.dC,{ p with head:=(gy M 7 p.dC).eV,br:=if gT (gy M 7 p.dC).eV<0 then 3 else 1 },M)) \/
 (p.br=1/\dY p M=(gy M 8 (gT p.head),{ p with next:=(gy M 8 (gT p.head)).eV,br:=2 },M)) \/
 (p.br=2/\∃w,w=mW p.head (IntKind.i64.wrap (IntKind.i64.wrap p.next-1))/\dY p M=(Bb M 7 p.dC p.head w,if (Bb M 7 p.dC p.head w).done=true then { p with br:=3,block:=gT p.head } else { p with br:=0 },Q2 M 7 p.dC p.head w)):=by
 unfold dY;by_cases h0:p.br=0;exact .inl ⟨h0,ay h0⟩;by_cases h1:p.br=1;exact .inr (.inl ⟨h1,by rw [ap h0,ay h1]⟩);have h2:p.br=2:=by omega
 exact .inr (.inr ⟨h2,_,rfl,by rw [ap h0,ap h1,ay h2]⟩)
theorem OI (hc:cx c) (hM:js c nt k M) (h:iS c k s) (he:jb s) (p:nQ) (hl:(s.ag.length:Int)<c.ag) (iR:0<=p.dC/\p.dC<=3) (hh:ja c p.dC p.head) (hn:mw c p.dC p.next) (hb:p.block = -1) (nc:0<=p.br/\p.br<=2) (hat1:1<=p.br->0<=gT p.head):nS c nt k (ki s M p):=by
 have uC:=h.mono (Nat.le_succ k);have Aj:=oF hc;have bI:∀(b:Int),-1<=b/\b<c.nb->(0<=b->c8 c b=p.dC)->nj c (k+1) (fu { s with aC:=.bq } p.dC b):=λb hb UT=>by
  refine D1 (s:={ s with aC:=.bq }) hc ?_ ?_ rfl hl _ _ hb UT;exact uC.to;exact he.to rfl rfl rfl rfl rfl
 unfold ki;rcases u3 p M nc with ⟨h0,e0⟩|⟨h0,e0⟩|⟨h0,w,hw,e0⟩;rw [e0];have hg:=Cg hc hM 1 iR.1 lf;dsimp only;refine nS.of ?_ (hM.mono (by omega));by_cases HY:gT (gy M 7 p.dC).eV<0;rw [ay (by rw [ay HY]),hb];exact bI _ (by omega) (λe=>by omega);rw [ap (by rw [ap HY];decide)];refine⟨uC.to,he.to rfl rfl rfl rfl rfl,hl,iR,hg,hn,hb,?_,λ_=>?_⟩;dsimp only;rw [ap HY];omega;show 0<=gT (gy M 7 p.dC).eV;omega;rw [e0];have ht:=hat1 (by omega);have hg:=PR hc hM 1 ht lf;rw [hh.2.2 ht] at hg;dsimp only;rw [ap (by decide)];exact⟨⟨uC.to,he.to rfl rfl rfl rfl rfl,hl,iR,hh,hg,hb,by dsimp only;omega,λ_=>ht⟩,hM.mono (by omega)⟩;rw [e0];dsimp only;have ht:=hat1 (by omega);have DO:=hn.1;have GR:=hn.2.1;have h64:=hc.nb;have i5:IntKind.i64.wrap (IntKind.i64.wrap p.next-1)=p.next-1:=by
  rw [an (x:=p.next) (by omega) (by omega),an (by omega) (by omega)]
 rw [i5] at hw;refine nS.of ?_ (hM.op (by omega) _ _ _ λ_=>⟨λ_=>?_,λe=>by omega,λe=>by omega,λe=>by omega⟩);by_cases mr:(Bb M 7 p.dC p.head w).done=true;rw [ay (by rw [ay mr]),ay mr];exact bI _ ⟨by dsimp only;omega,hh.2.1⟩ hh.2.2;rw [ap (by rw [ap mr];show ¬(0:Int)=3;decide),ap mr];exact⟨uC.to,he.to rfl rfl rfl rfl rfl,hl,iR,hh,hn,hb,by dsimp only;omega,λe=>by dsimp only at e;omega⟩;show ja c p.dC w;rw [hw];exact CF hc (by omega) λe=>hn.2.2 (by omega)
theorem tB (p:eZ) (M:Mm) (nc:0<=p.br/\p.br<=2):(p.br=0/\ct p M=(gy M 7 p.dC,{ p with head:=(gy M 7 p.dC).eV,br:=1 },M)) \/
 (p.br=1/\∃w,w=IntKind.u64.wrap (IntKind.i64.wrap (gT p.head+1))/\ct p M=(Bm M 8 p.block w,{ p with br:=2 },Dq M 8 p.block w)) \/
 (p.br=2/\∃w,w=mW p.head p.block/\ct p M=(Bb M 7 p.dC p.head w,{ p with br:=if (Bb M 7 p.dC p.head w).done=true then 3 else 0 },Q2 M 7 p.dC p.head w)):=by
 unfold ct;by_cases h0:p.br=0;exact .inl ⟨h0,ay h0⟩;by_cases h1:p.br=1;exact .inr (.inl ⟨h1,_,rfl,by rw [ap h0,ay h1]⟩);have h2:p.br=2:=by omega
 exact .inr (.inr ⟨h2,_,rfl,by rw [ap h0,ap h1,ay h2]⟩)
theorem MF (hc:cx c) (hM:js c nt k M) (h:iS c k s) (p:eZ) (EI:s.av≠1) (cF:s.aj<s.ag.length) (hbk:p.block=s.ag.getD s.aj 0) (iR:p.dC=c8 c p.block) (hh:ja c p.dC p.head) (nc:0<=p.br/\p.br<=2):nS c nt k (gU s M p):=by
 have uC:=h.mono (Nat.le_succ k);have hb:=h.NH _ (Ib cF);rw [<-hbk] at hb;have uz:=uy hc p.block hb;rw [<-iR] at uz;unfold gU;rcases tB p M nc with ⟨h0,e0⟩|⟨h0,w,hw,e0⟩|⟨h0,w,hw,e0⟩;rw [e0];have hg:=Cg hc hM 1 uz.1.1 lf;dsimp only;rw [ap (by decide)];exact⟨⟨uC.to,EI,cF,hbk,iR,hg,by dsimp only;omega⟩,hM.mono (by omega)⟩;rw [e0];dsimp only;rw [ap (by decide)];refine⟨⟨uC.to,EI,cF,hbk,iR,hh,by dsimp only;omega⟩,hM.op (by omega) _ _ _ λ_=>⟨λe=>by omega,λ_=>?_,λe=>by omega,λe=>by omega⟩⟩;have htop:=G8 hh.1;have h64:=hc.nb;have ht2:=hh.2.1;have i5:IntKind.u64.wrap (IntKind.i64.wrap (gT p.head+1))=gT p.head+1:=by
  rw [an (by omega) (by omega),ax (by omega) (by omega)]
 show mw c (c8 c p.block) w;rw [hw,i5,<-iR];refine⟨by omega,by omega,λe=>?_⟩;rw [show gT p.head+1-1=gT p.head by omega];exact hh.2.2 (by omega);rw [e0];dsimp only;refine nS.of ?_ (hM.op (by omega) _ _ _ λ_=>⟨λ_=>?_,λe=>by omega,λe=>by omega,λe=>by omega⟩);by_cases mr:(Bb M 7 p.dC p.head w).done=true;rw [ay (by rw [ay mr])];refine wC hc ?_;refine { uC.to (s':={ s with aC:=.bq }) rfl rfl rfl rfl rfl rfl rfl rfl rfl rfl with push:=?_ };show s.aj+1<=s.ag.length;omega;rw [ap (by rw [ap mr];decide)];refine⟨uC.to,EI,cF,hbk,iR,hh,?_⟩;dsimp only;rw [ap mr];omega;show ja c p.dC w;rw [hw];exact CF hc hb.2 λ_=>iR.symm
theorem PQ (hM:js c nt k M) (gd dm:Int) (g:Int->Int×Bool):jq k (fv M gd 2 dm g).eV:=by
 rcases nV M gd 2 dm g with h|⟨_,h⟩;rw [h];exact .zero k;rw [h];exact hM.orc _
theorem FZ {k:Nat} {x:Int} (h:jq k x):lK x<0↔x % 64=0:=by
 have h1:=h.1;unfold lK;rw [Int.tmod_eq_emod_of_nonneg h1,an (x:=x % 64) (by omega) (by omega),an (by omega) (by omega)];omega
theorem JJ {k:Nat} (hk:k<2^41) {l:hW} (h:yi k l) (hl:l.fH=true) (ht:0<=l.ak/\l.ak<16):lJ l=l.d7+l.ak+1:=by
 have h1:=h.d7.1;have h2:=h.d7.2.1;have h3:=h.load hl;unfold lJ;rw [ax (x:=l.ak) (by omega) (by omega),ax (x:=l.d7+l.ak) (by omega) (by omega),ax (by omega) (by omega)]
theorem HN (l:hW) (hM:js c nt k M) (hk:k<2^40) (ht:0<=l.ak/\l.ak<16) (h3:l.eL.length<l.am.length) (hI:yi k l):(eN l M).2.1.am=l.am/\(eN l M).2.1.ak=l.ak/\(eN l M).2.1.eL.length<=l.am.length/\yi (k+1) (eN l M).2.1/\js c nt (k+1) (eN l M).2.2:=by
 have V9:=hI.mono (Nat.le_succ k);unfold eN;dsimp only;split;exact⟨rfl,rfl,by dsimp only;omega,V9,hM.mono (by omega)⟩;split;have hg:=PQ hM 1 (iC l) lf;refine⟨rfl,rfl,by dsimp only;omega,⟨hg.mono (by omega),λe=>?_,V9.eL⟩,hM.mono (by omega)⟩;exact(FZ hg).1 (by simpa using e);rename_i Kf;have W9:l.fH=true:=by simpa using Kf
 have h1:=hI.d7.1;have h2:=hI.d7.2.1;have h4:=hI.load W9;refine⟨rfl,rfl,?_,⟨V9.d7,λe=>(by cases e),?_⟩,hM.opO (by omega) _ _ ?_⟩;dsimp only;split;simp;omega;omega;dsimp only;split;intro w hw;rw [List.mem_append] at hw;rcases hw with hw|hw;exact V9.eL w hw;have:w=l.d7:=by simpa using hw
 subst this;exact⟨V9.d7,h4⟩;exact V9.eL;show jq (k+1) (lJ l);rw [JJ (by omega) hI W9 ht];refine⟨by omega,by omega,by omega⟩
theorem ML (hM:js c nt k M) (hk:k<2^40) (h:iS c k s) (l:hW) (hs:s.aJ=some l) (hn:s.aI=none/\s.aj=0/\s.ai=false) (EI:s.av=1) (cL:s.fU=true) (h1:l.am=s.am) (h2:l.ak=s.ak) (h3:l.eL.length<l.am.length) (hI:yi k l) (hd:s.aC=.ei):nS c nt k (iZ s M l):=by
 have uC:=h.mono (Nat.le_succ k);obtain⟨g1,g2,g3,g5,g4⟩:=HN l hM hk (by rw [h2];exact h.Om) h3 hI;unfold iZ;dsimp only;refine nS.of ?_ (g4);split;rename_i mr;have PH:(eN l M).2.1.eL.length=(eN l M).2.1.am.length:=by simpa [hW.done] using mr
 have Kc:0<s.am.length:=by rw [<-h1];omega
 refine⟨uC.to,hn.2,⟨.inr ⟨_,rfl,g1.trans h1,?_,Kc,g5⟩,⟨λ_=>Kc,λ_=>cL⟩⟩,_,rfl,rfl,?_⟩;show (eN l M).2.1.eL.length=s.am.length;rw [PH,g1,h1];show (0:Int)<=0/\(0:Int)<=((k+1:Nat):Int);omega;rename_i mr;have PH:¬(eN l M).2.1.eL.length=(eN l M).2.1.am.length:=by simpa [hW.done] using mr
 refine⟨uC.to,?_⟩;show DoI c (k+1) _ s.aC;rw [hd];refine⟨hn,⟨EI,cL⟩,_,rfl,g1.trans h1,g2.trans h2,?_,g5⟩;rw [g1] at PH ⊢;omega
theorem G7 (hM:js c nt k M) (hk:k<2^40) (t:jw) (h1:t.done=false) (h2:0<=t.iu/\t.iu<=k):(0<=(fJ t M).2.1.iu/\(fJ t M).2.1.iu<=k)/\js c nt (k+1) (fJ t M).2.2:=by
 unfold fJ;rw [ap (by rw [h1];decide)];split;refine⟨RW hM 4 (DR 1),hM.op (by omega) _ _ _ λ_=>⟨λe=>by omega,λe=>by omega,λ_=>?_,λe=>by omega⟩⟩;have hg:=hM.tik;show 0<=IntKind.u64.wrap ((M 3).getD 0 0+1)/\IntKind.u64.wrap ((M 3).getD 0 0+1)<=((k+1:Nat):Int);rw [ax (by omega) (by omega)];omega;exact⟨h2,hM.mono (by omega)⟩
theorem Mi (hM:js c nt k M) (hk:k<2^40) (h:iS c k s) (t:jw) (hs:s.aI=some t) (hn:s.aj=0/\s.ai=false) (hl:lV k s) (h1:t.done=false) (h2:0<=t.iu/\t.iu<=k) (hd:s.aC=.cq):nS c nt k (gi s M t):=by
 have uC:=h.mono (Nat.le_succ k);obtain⟨g1,g2⟩:=G7 hM hk t h1 h2;unfold gi;dsimp only;refine nS.of ?_ (g2);split;by_cases hz:s.set.length=0;refine⟨uC.to,?_⟩;simp only [ay hz];exact⟨hn,hl.mono (by omega),_,rfl⟩;refine⟨uC.to,?_⟩;simp only [ap hz];exact⟨hn,hl.mono (by omega),⟨_,rfl⟩,rfl,⟨0,by show 0<s.set.length;omega,rfl⟩,rfl⟩;rename_i mr;refine⟨uC.to,?_⟩;show DoI c (k+1) _ s.aC;rw [hd];refine⟨hn,hl.mono (by omega),_,rfl,by simpa using mr,g1.1,?_⟩;have:=g1.2;show (fJ t M).2.1.iu<=((k+1:Nat):Int);omega
theorem KK (hM:js c nt k M) (h:iS c k s) (ck:gw) (hn:s.aj=0/\s.ai=false) (hl:lV k s) (ht:∃t,s.aI=some t) (h1:ck.iw=false) (h2:∃k,k<s.set.length/\ck.am=s.set.drop k) (h3:ck.rv=s.rv):nS c nt k (fO s M ck):=by
 have uC:=h.mono (Nat.le_succ k);obtain⟨q,hq,zF⟩:=h2;have hdn0:ck.done=false:=by
  simp only [gw.done,h1,zF,Bool.false_or,List.length_drop,decide_eq_false_iff_not];omega
 have e0:iA ck M=(gy M 2 (ck.am.getD 0 0),{ ck with am:=ck.am.tail,iw:=decide (jL (gy M 2 (ck.am.getD 0 0)).eV>ck.rv) },M):=by
  unfold iA;rw [ap (by rw [hdn0];decide)]
 unfold fO;rw [e0];dsimp only;refine nS.of ?_ (hM.mono (by omega));split;exact tu (uC.to) hn.1 (hl.1.mono (by omega)) (λe=>by rw [show s.ai=false from hn.2] at e;cases e) ht;rename_i hf;split;exact⟨uC.to,hn,hl.mono (by omega),ht⟩;rename_i mr;refine⟨uC.to,hn,hl.mono (by omega),ht,by simpa using hf,⟨q+1,?_,?_⟩,h3⟩;simp only [gw.done,Bool.or_eq_true,decide_eq_true_eq,zF,List.length_tail,List.length_drop] at mr;show q+1<s.set.length;omega;show ck.am.tail=s.set.drop (q+1);rw [zF,List.tail_drop]
theorem Ir (hM:js c nt k M) (h:iS c k s) (hn:s.aj=0/\s.ai=false) (hl:lV k s) (ht:∃t,s.aI=some t):nS c nt k (fb s M):=by
 have uC:=h.mono (Nat.le_succ k);have hg:=LX hM 1 lf;have ks:iS c (k+1) { s with aw:=(gy M 3 0).eV }:=by
  refine { uC.to (s':={ s with aC:=.bq }) rfl rfl rfl rfl rfl rfl rfl rfl rfl rfl with wH:=?_ };show 0<=(gy M 3 0).eV/\(gy M 3 0).eV<=((k+1:Nat):Int);refine⟨hg.1,?_⟩;have:=hg.2;show (fv M 1 3 0 lf).eV<=_;omega
 unfold fb;dsimp only;refine nS.of ?_ (hM.mono (by omega));split;exact tu (ks.to) hn.1 (hl.1.mono (by omega)) (λe=>by rw [show s.ai=false from hn.2] at e;cases e) ht;split;rename_i cL;refine⟨ks.to,hn.1,⟨rfl,cL⟩,hl.mono (by omega),ht,0,?_,rfl⟩;have Ut:s.fU=true:=cL;unfold aF.fU at Ut;simp only [Bool.and_eq_true,decide_eq_true_eq] at Ut;exact Ut.2;rename_i cL;refine tu (ks.to) hn.1 (hl.1.mono (by omega)) (λ_=>?_) ht;have:¬0<s.am.length:=λe=>cL (hl.2.2 e);exact List.eq_nil_of_length_eq_zero (by show s.am.length=0;omega)
theorem I0 (hM:js c nt k M) (h:iS c k s) (w:jx) (hn:s.aj=0) (Cc:s.ai=true/\s.fU=true) (hl:lV k s) (ht:∃t,s.aI=some t) (h1:∃k,k<s.bp.bK.length/\w=⟨s.bp.bK.drop k,s.bp.eM.drop k⟩):nS c nt k (gS s M w):=by
 have uC:=h.mono (Nat.le_succ k);obtain⟨q,hq,rfl⟩:=h1;have Kc:=hl.2.1 Cc.2;unfold gS mi;rw [ap (by simp only [jx.done,decide_eq_true_eq,List.length_drop];omega)];dsimp only;refine nS.of ?_ (hM.VK (by omega) _ _ _ (by decide));split;refine⟨uC.to,hn,λ_=>Cc.2,hl.1.mono (by omega),ht,0,Kc,?_⟩;show (⟨s.am,List.replicate s.am.length (lO s.sX)⟩:jx)=⟨s.am,yF _⟩;unfold yF;rw [ay (by exact Cc.1)];rfl;rename_i mr;simp only [jx.done,decide_eq_true_eq,List.length_tail,List.length_drop] at mr;exact⟨uC.to,hn,Cc,hl.mono (by omega),ht,q+1,by show q+1<s.bp.bK.length;omega,by rw [List.tail_drop,List.tail_drop]⟩
theorem I3 (h:iS c k s) (hk:k<2^40) (Cc:s.ai=true/\s.fU=true):s.sX=s.aw+1:=by
 have AE:=h.wH;unfold aF.sX;rw [ay Cc,an (x:=s.aw) (by omega) (by omega),an (by omega) (by omega)]
theorem OD (hM:js c nt k M) (hk:k<2^40) (h:iS c k s) (w:jx) (hn:s.aj=0) (Cc:s.ai=true->s.fU=true) (hl:sN k s) (ht:∃t,s.aI=some t) (h1:∃k,k<s.am.length/\w=⟨s.am.drop k,(yF s).drop k⟩):nS c nt k (mP s M w):=by
 have uC:=h.mono (Nat.le_succ k);obtain⟨q,hq,rfl⟩:=h1;unfold mP j7;rw [ap (by simp only [jx.done,decide_eq_true_eq,List.length_drop];omega)];dsimp only;have kS:jq (k+1) (((yF s).drop q).getD 0 0):=by
  have e:((yF s).drop q).getD 0 0=(yF s).getD q 0:=by simp [List.getD_eq_getElem?_getD]
  rw [e];unfold yF;split;rename_i hdec;have hv:=I3 h hk ⟨hdec,Cc hdec⟩;have AE:=h.wH;rw [List.getD_eq_getElem?_getD,List.getElem?_replicate,ay hq];show jq (k+1) (lO s.sX);rw [hv];unfold lO;rw [ay (by omega)];exact⟨by omega,by omega,by omega⟩;rcases hl with ⟨hl,_⟩|⟨l,h1,h2,h3,h4,h5⟩;rw [hl] at hq;simp at hq;unfold aF.eL;rw [h1];rcases Ia l.eL q with e|e;show jq (k+1) (l.eL.getD q 0);rw [e];exact .zero _;exact(h5.eL _ e).1.mono (by omega)
 refine nS.of ?_ (hM.opO (by omega) _ _ kS);by_cases mr:jx.done ⟨(s.am.drop q).tail,((yF s).drop q).tail⟩=true;by_cases hv:0<=s.sX;refine⟨uC.to,?_⟩;simp only [ay mr,ay hv];refine⟨hn,?_,ht⟩;show s.ai=true/\s.fU=true;have:s.ai=true:=by
  cases e:s.ai with
  | true=>rfl
  | false=>unfold aF.sX at hv;rw [ap (by rw [e];simp)] at hv;omega
 exact⟨this,Cc this⟩;refine⟨uC.to,?_⟩;simp only [ay mr,ap hv];exact⟨hn,ht⟩;refine⟨uC.to,?_⟩;simp only [ap mr];simp only [jx.done,decide_eq_true_eq,List.length_tail,List.length_drop] at mr;exact⟨hn,Cc,hl.mono (by omega),ht,q+1,by show q+1<s.am.length;omega,by rw [List.tail_drop,List.tail_drop];rfl⟩
theorem Ee (hc:cx c) (hk:k<2^40) (h:nj c k s) (hM:js c nt k M):nS c nt k (bE s M):=by
 have hb:=h.b;have uC:=hb.mono (Nat.le_succ k);have hd:=h.d;have hMs:=hM.mono (Nat.le_succ k);unfold bE;cases e:s.aC with
 | bq=>exact⟨h.mono (Nat.le_succ k),hMs⟩
 | gE l=>
   rw [e] at hd;refine nS.of ?_ hMs;refine Rm hc ?_ ?_ rfl l hd.2;exact uC.to;exact hd.1.to rfl rfl rfl rfl rfl
 | cW=>
   rw [e] at hd;obtain⟨h0,en,h1,h2,h3,h4⟩:=hd;dsimp only;rw [h1];exact KD hM hb h0 en h2 h3 h4 e
 | aP r u=>
   rw [e] at hd;obtain⟨h0,h1,h2,h3,h4,h5,h6⟩:=hd;exact MD hc hM hb h0 r u e h1 h2 h3 h4 h5 h6
 | eh p=>
   rw [e] at hd;obtain⟨h0,h1,h2,h3,h4,h5,h6,h7⟩:=hd;exact OI hc hM hb h0 p h1 h2 h3 h4 h5 h6 h7
 | ei=>
   rw [e] at hd;obtain⟨h0,s8,l,h1,h2,h3,h4,h5⟩:=hd;dsimp only;rw [h1];exact ML hM hk hb l h1 h0 s8.1 s8.2 h2 h3 h4 h5 e
 | cq=>
   rw [e] at hd;obtain⟨h0,hl,t,h1,h2,h3⟩:=hd;dsimp only;rw [h1];exact Mi hM hk hb t h1 h0 hl h2 h3 e
 | cG ck=>
   rw [e] at hd;obtain⟨h0,hl,ht,h1,h2,h3⟩:=hd;exact KK hM hb ck h0 hl ht h1 h2 h3
 | bJ=>
   rw [e] at hd;obtain⟨h0,hl,ht⟩:=hd;exact Ir hM hb h0 hl ht
 | dI w=>
   rw [e] at hd;obtain⟨h0,Cc,hl,ht,h1⟩:=hd;exact I0 hM hb w h0 Cc hl ht h1
 | bX w=>
   rw [e] at hd;obtain⟨h0,Cc,hl,ht,h1⟩:=hd;exact OD hM hk hb w h0 Cc hl ht h1
 | gr=>
   rw [e] at hd;refine⟨⟨uC.to,hd.1,hd.2.2⟩,hM.op (by omega) _ _ _ λ_=>⟨λe=>by omega,λe=>by omega,λ_=>?_,λe=>by omega⟩⟩;have AE:=hb.wH;show 0<=IntKind.u64.wrap (s.aw+1)/\IntKind.u64.wrap (s.aw+1)<=((k+1:Nat):Int);rw [ax (by omega) (by omega)];omega
 | eT=>
   rw [e] at hd;exact⟨wC hc uC,hM.VK (by omega) _ _ _ (by decide)⟩
 | dX p=>
   rw [e] at hd;obtain⟨h0,h1,h2,h3,h4,h5⟩:=hd;exact MF hc hM hb p h0 h1 h2 h3 h4 h5
 | go=>
   exact⟨⟨uC.to,λe=>absurd rfl e⟩,hM.VK (by omega) _ _ _ (by decide)⟩
theorem rF (h:nj c k s) {st:Int} (cL:st≠2) (hf:s.kF st=true):jb s/\s.aC=.bq/\s.aA=st:=by
 simp only [aF.kF,Bool.and_eq_true,decide_eq_true_eq] at hf;have hd:s.aC=.bq:=by
  have h1:=hf.1;revert h1;cases s.aC<;>simp [bm.fA]
 have N3:=h.d;rw [hd] at N3;exact⟨N3 (by rw [hf.2];exact cL),hd,hf.2⟩
theorem yZ (h:nj c k s):nj c k (fy s).2:=by
 unfold fy;split;rename_i hf;obtain⟨he,hd,hs⟩:=rF h (by decide) hf;exact⟨h.b.to,he.to rfl rfl rfl rfl rfl,_,rfl,by show (0:Int)<=0/\(0:Int)<=k;omega,by show (0:Int)<=0/\(0:Int)<=2;omega,rfl⟩;exact h
theorem Bp (h:nj c k s) (he:jb s) (a:Int) (ha:0<=a/\a<c.aR+c.nb) (u:yf) (hu:Sp c u):nj c k (mA s a u):=by
 refine⟨h.b.to,he.to rfl rfl rfl rfl rfl,by show (0:Int)<=0/\(0:Int)<=2;omega,?_,rfl,hu,ha,rfl⟩;show fF s.cf a=fF c a;rw [h.b.cf]
theorem OF (hc:cx c) (h:nj c k s) (a:Int) (ha:0<=a):nj c k (GP s a).2:=by
 have Aj:=oF hc;unfold GP;split;rename_i hf;obtain⟨he,hd,hs⟩:=rF h (by decide) hf;split;exact⟨h.b.to,he.to rfl rfl rfl rfl rfl,trivial⟩;rename_i hn;rw [h.b.cf] at hn;split;exact⟨h.b.to,he.to rfl rfl rfl rfl rfl,trivial⟩;exact Bp h he a (by omega) .take trivial;exact h
theorem Oc (h:nj c k s) (a v:Int) (ha:0<=a):nj c k (E4 s a v).2:=by
 unfold E4;split;rename_i hf;obtain⟨he,hd,hs⟩:=rF h (by decide) hf;exact⟨h.b.to,he.to rfl rfl rfl rfl rfl,ha⟩;exact h
theorem Vr (hc:cx c) (h:nj c k s) (dC:Int):nj c k (K4 s dC).2:=by
 have Aj:=oF hc;unfold K4;split;rename_i hf;obtain⟨he,hd,hs⟩:=rF h (by decide) hf;split;exact h;split;exact⟨h.b.to,he.to rfl rfl rfl rfl rfl,trivial⟩;rename_i h1 h2;rw [h.b.cf] at h2;exact⟨h.b.to,he.to rfl rfl rfl rfl rfl,by show (s.ag.length:Int)<c.ag;omega,by dsimp only;omega,.zero hc _,.zero hc _,rfl,by dsimp only;omega,λe=>by dsimp only at e;omega⟩;exact h
theorem Nl (hc:cx c) (a:Int):ju c a<0\/(0<=ju c a/\ju c a<c.nb):=by
 unfold ju;split;rename_i b hb;have hm:=List.mem_of_find?_eq_some hb;have:=List.mem_range.1 hm;have Aj:=oF hc;right;omega;left;decide
theorem U4 (hc:cx c) (h:nj c k s) (a:Int):nj c k (Kv s a).2:=by
 have hw:=hc.aR;have tG:=h.b.cf;subst tG;unfold Kv;split;rename_i hf;obtain⟨he,hd,hs⟩:=rF h (by decide) hf;split;exact⟨h.b.to,he.to rfl rfl rfl rfl rfl,trivial⟩;rename_i hn;have s7:=Nl hc a;split;exact⟨h.b.to,he.to rfl rfl rfl rfl rfl,by show 0<=ju s.cf a/\ju s.cf a<s.cf.nb;omega⟩;exact Bp h he _ (by omega) _ (by show 0<=ju s.cf a/\ju s.cf a<s.cf.nb;omega);exact h
theorem KE (h:nj c k s) (av:Int):nj c k (Cq s av).2:=by
 unfold Cq;split;rename_i hf;obtain⟨he,hd,hs⟩:=rF h (by decide) hf;split;exact h;exact⟨h.b.to,he.to rfl rfl rfl rfl rfl,trivial⟩;exact h
theorem JD (w:Nat) (hw:w<=32):mZ (gV w)/\(gV w).ee=w/\(gV w).index.length<=64:=by
 have:∀w:Fin 33,mZ (gV (w:Nat))/\(gV (w:Nat)).ee=w/\(gV (w:Nat)).index.length<=64:=by
  intro w;have F3:(gV (w:Nat)).ee=w:=by simp [gV]
  have hw:=w.2;have yT:(gV (w:Nat)).bK=[]:=rfl;have hval:(gV (w:Nat)).eM=[]:=rfl;have QI:∃n,(gV (w:Nat)).index=List.replicate n (-1)/\(w:Nat)<n/\n<=64:=by
   refine⟨_,rfl,?_⟩;constructor
   . repeat' split
     all_goals omega
   repeat' split
   all_goals omega
  obtain⟨n,hn,DO,GR⟩:=QI;have hixv:∀q,ix (gV (w:Nat)).index q = -1:=by
   intro q;unfold ix;rw [hn,List.getD_eq_getElem?_getD];by_cases hq:q<n;rw [List.getElem?_replicate,ay hq];rfl;rw [List.getElem?_eq_none (by simp;omega)];rfl
  refine⟨⟨by rw [yT,hval],by rw [yT];simp,by rw [F3,hn];simpa using DO,by rw [yT];simp,λq _=>by rw [hixv,yT];simp,?_,λe he=>by rw [yT] at he;simp at he,λi j hi=>by rw [yT] at hi;simp at hi⟩,F3,by rw [hn];simpa using GR⟩;rw [yT,hn];unfold tN;rw [List.countP_replicate];simp
 exact this ⟨w,by omega⟩
theorem wg (hc:cx c) (k:Nat) (t:Int) (ht:0<=t/\t<16):nj c k (ey c t):=by
 have hw:=hc.cM;obtain⟨w,VO⟩:∃w:Nat,c.cM=w:=⟨c.cM.toNat,by omega⟩;obtain⟨h1,h2,h3⟩:=JD w (by omega);have ha:=hc.ag;have hf:=hc.ar;have e:(ey c t).bp=gV w:=by unfold ey;rw [VO]
 refine⟨⟨rfl,ht,by rw [e];exact h1,by rw [e,h2,VO];rfl,by rw [e];exact h3,by rw [e];exact λa ha=>(by cases ha),λx hx=>(by cases hx),by show ((0:Nat):Int)<=c.ag;omega,Nat.le_refl _,Nat.zero_le _,List.nodup_nil,λa ha=>(by cases ha),by show ((0:Nat):Int)<=c.ar;omega,by show (0:Int)<=0/\(0:Int)<=k;omega,Nat.zero_le _,λx hx=>(by cases hx)⟩,λ_=>⟨rfl,rfl,rfl,rfl,rfl⟩⟩
end
theorem MH {c:bH} {M:Mm} (p:nQ) (nc:0<=p.br/\p.br<=2) (hc:cx c) (hh:ja c p.dC p.head) (hb:p.block = -1):(dY p M).2.1.block<c.nb:=by
 have Aj:=oF hc;rcases u3 p M nc with ⟨h0,e0⟩|⟨h0,e0⟩|⟨h0,w,hw,e0⟩;rw [e0];dsimp only;omega;rw [e0];dsimp only;omega;rw [e0];dsimp only;split;exact hh.2.1;dsimp only;omega
end
section
variable [Gl]
theorem BN:∀(n:Nat) (l:List Int),l.Nodup->(∀a∈l,0<=a/\a<(n:Int))->l.length<=n
 | 0,l,_,h=>by
   cases l with
   | nil=>simp
   | cons a t=>have:=h a (by simp);omega
 | n+1,l,hn,h=>by
   have h1:=BN n (l.erase (n:Int)) (hn.erase _) λa ha=>by
    have h2:=(List.Nodup.mem_erase_iff hn).1 ha;have h3:=h a h2.2;have h4:=h2.1;omega
   rw [List.length_erase] at h1;split at h1<;>omega
variable {c:bH} {nt k:Nat} {M:Mm} {s:aF}
theorem iS.Sd (hc:cx c) (h:iS c k s):fN s:=by
 have tG:=h.cf;have Aj:=hc.nb;have hw:=hc.aR;refine⟨tG▸hc,?_,h.bp,?_,h.dm,?_,?_,?_,h.push,tG▸h.set,?_,?_⟩;have:=h.Om;omega;have:=h.ee;have:=hc.cM;omega;intro a ha;have:=h.Gx a ha;omega;intro a ha;have:=h.NH a ha;omega;have:=h.ln;have:=hc.ag;omega;have:=BN c.aR.toNat s.reads h.TQ λa ha=>by have:=h.TO a ha;omega
 omega;have:=h.An;have:=hc.ar;omega
theorem iS.BA (hc:cx c) (h:iS c k s):s.reads.length<=64:=by
 have hw:=hc.aR;have:=BN c.aR.toNat s.reads h.TQ λa ha=>by have:=h.TO a ha;omega
 omega
theorem sN.WE (h:sN k s) (ho:s.am.length<=64):Qw s:=by
 refine⟨by omega,?_⟩;rcases h with h|⟨l,h1,h2,h3,h4,h5⟩;left;rw [h.1];rfl;right;exact⟨l,h1,h3.symm⟩
theorem nj.TH (hc:cx c) (h:nj c k s) (hM:js c nt k M):GI s M:=by
 have hb:=h.b;have hC:=hb.Sd hc;have tG:=hb.cf;have hd:=h.d;refine⟨hC,?_⟩;have ho:=hb.WD;cases e:s.aC with
 | bq=>trivial
 | gE l=>
   rw [e] at hd;cases l with
   | kX a v=>exact hd.2
   | cU b v=>show 0<=b/\b<s.cf.nb;rw [tG];exact hd.2
   | _=>trivial
 | cW=>
   rw [e] at hd;obtain⟨h0,en,h1,h2⟩:=hd;exact⟨en,h1⟩
 | aP r u=>
   rw [e] at hd;obtain⟨h0,h1,h2,h3,h4,h5,h6⟩:=hd;refine⟨by have:=hb.BA hc;omega,h1,tG▸h2,?_⟩;cases u with
   | take=>trivial
   | cU b=>show 0<=b/\b<s.cf.nb;rw [tG];exact h4
 | eh p=>
   rw [e] at hd;obtain⟨h0,h1,h2,h3,h4,h5,h6,h7⟩:=hd;refine⟨?_,h2,?_⟩;have:=hc.ag;omega;rw [tG];exact MH p h6 hc h3 h5
 | ei=>
   rw [e] at hd;obtain⟨h0,s8,l,h1,h2,h3,h4,h5⟩:=hd;exact⟨l,h1,by omega,by rw [h2];omega⟩
 | cq=>
   rw [e] at hd;obtain⟨h0,hl,t,h1,h2,h3⟩:=hd;exact⟨t,h1⟩
 | cG ck=>
   rw [e] at hd;exact hd.2.1.1.WE ho
 | bJ=>
   rw [e] at hd;exact hd.2.1.1.WE ho
 | dI w=>
   rw [e] at hd;obtain⟨_,_,_,_,q,h1,h2⟩:=hd;have:=hb.bp.JO;refine⟨by rw [h2];simp only [List.length_drop];omega,by omega⟩
 | bX w=>
   rw [e] at hd;obtain⟨_,_,hl,_,q,h1,h2⟩:=hd;show w.os.length=w.ws.length;rw [h2];have:(yF s).length=s.am.length:=by
    unfold yF;split;simp;rcases hl with hl|⟨l,h3,h4,h5,h6,h7⟩;rw [hl.1] at h1;simp at h1;unfold aF.eL;rw [h3];exact h5
   simp only [List.length_drop];omega
 | gr=>trivial
 | eT=>
   rw [e] at hd;exact hd.2
 | dX p=>
   rw [e] at hd;exact hd.2.1
 | go=>trivial
end
section
variable [Gl]
theorem Ec {n:Int} (h:0<=n/\n<65535):gT (n+1)=n:=by
 rw [E7 (by omega)];omega
theorem Eh {c:bH} (hF:rM c) (nt:Nat) {zs:List Int} (hz:(zs.length:Int)=c.aR):js c nt 0 (jE c nt zs):=by
 have Aj:=oF hF.ok;have ho:=hF.ok.am;have h0:=hF.c0;have h1:=hF.c1;have h2:=hF.c2;have h3:=hF.c3;have hnbe:c.nb=c.c0+c.c1+c.c2+c.c3:=rfl;refine⟨?_,?_,rfl,rfl,rfl,?_,rfl,uw hF,?_,?_,?_,?_,?_⟩;show ((zs++List.replicate c.nb.toNat 0).length:Int)=_;simp only [List.length_append,List.length_replicate];omega;show ((List.replicate c.am.toNat (0:Int)).length:Int)=_;simp only [List.length_replicate];omega;show (List.replicate nt (0:Int)).length=nt;simp;intro i;show ja c i ((jn c.c0 c.c1).getD i 0);by_cases hi:i<4;rw [List.getD_eq_getElem?_getD,EH hF i hi];show ja c i (if 0<wG c i then oX c i+1 else 0);split;rename_i hp;have hr:=Ix hF i;refine⟨by omega,?_,λ_=>?_⟩;rw [Ec (by omega)];have:i=0\/i=1\/i=2\/i=3:=by omega
 rcases this with rfl|rfl|rfl|rfl<;>simp only [wG,oX] at hp ⊢<;>omega;rw [Ec (by omega)];have:i=0\/i=1\/i=2\/i=3:=by omega
 rcases this with rfl|rfl|rfl|rfl<;>simp only [wG,oX] at hp ⊢<;>unfold c8 wv;rw [ap (by omega),ay (by omega)];rfl;rw [ap (by omega),ap (by omega),ay (by omega)];rfl;omega;omega;exact ja.zero hF.ok _;rw [List.getD_eq_getElem?_getD,List.getElem?_eq_none (by simp [jn];omega)];exact ja.zero hF.ok _;intro b;show mw c (c8 c b) ((iq c.c0 c.c1).getD b 0);by_cases hb:(b:Int)<c.nb;rw [List.getD_eq_getElem?_getD,HA hF b hb];show mw c (c8 c b) (if (b:Int)+1<c.nb/\c8 c (b+1)=c8 c b then (b:Int)+2 else 0);split;rename_i h;refine⟨by omega,by omega,λ_=>?_⟩;rw [show (b:Int)+2-1=b+1 by omega];exact h.2;exact mw.zero hF.ok _;have:=uw hF;rw [List.getD_eq_getElem?_getD,List.getElem?_eq_none (by omega)];exact mw.zero hF.ok _;show (0:Int)<=0/\(0:Int)<=((0:Nat):Int);omega;show (0:Int)<=0/\(0:Int)<=((0:Nat):Int);omega;intro i;show jq 0 ((List.replicate c.am.toNat (0:Int)).getD i 0);rw [List.getD_eq_getElem?_getD];by_cases hi:i<c.am.toNat
 rw [List.getElem?_replicate_of_lt hi];exact jq.zero 0;rw [List.getElem?_eq_none (by simp;omega)];exact jq.zero 0
theorem pY (s:aF):(fC s).aA=s.aA:=by unfold fC;split<;>rfl
theorem kY (s:aF) (av:Int):(iL s av).aA=s.aA:=pY _
theorem oK (s:aF) (av:Int):(lZ s av).aA=s.aA:=by unfold lZ;split<;>rfl
theorem ox (s:aF):(fK s).aA=s.aA:=by unfold fK;split<;>rfl
theorem jQ (s:aF) (a v:Int):(ia s a v).2.aA=s.aA:=by
 unfold ia;split;rfl;exact kY s 3
theorem xM (s:aF) (b st:Int):(jG s b st).aA=s.aA:=by
 unfold jG;split;exact oK s 8;split;exact kY s 3;split;exact jQ s _ 0;exact jQ s _ 0
theorem rS:∀(n:Nat) (a:Int) (s:aF),(gh n a s).2.aA=s.aA
 | 0,_,_=>rfl
 | n+1,a,s=>by
   unfold gh;split;rw [rS n];exact jQ s a 0;exact jQ s a 0
theorem y9 (s:aF) (dC iy:Int):(fu s dC iy).aA=s.aA:=by
 unfold fu;split;exact kY s 4;dsimp only;split;split;show (gh _ _ _).2.aA=_;rw [rS];exact jQ { s with ag:=s.ag++[iy] } _ _;rw [rS];exact jQ { s with ag:=s.ag++[iy] } _ _;exact jQ { s with ag:=s.ag++[iy] } _ _
theorem JK (s:aF) (l:D4):(sY s l).aA=s.aA:=by
 cases l with
 | kX a v=>
   unfold sY;dsimp only;split;exact oK s 7;exact jQ s a v
 | rO=>exact oK s 7
 | NB=>exact oK s 8
 | bI av=>exact oK s av
 | take v=>rfl
 | yV=>exact kY s 3
 | cU b v=>exact xM s b v
theorem I6 (s:aF) (v:Int) (u:yf):(Ab s v u).aA=s.aA:=by
 cases u with
 | take=>rfl
 | cU b=>exact xM s b v
theorem vu (s:aF) (M:Mm):(bE s M).2.2.1.aA=(match s.aC with | .go=>2|_=>s.aA):=by
 unfold bE;cases hd:s.aC with
 | go=>rfl
 | bq=>rfl
 | gE k=>exact JK _ k
 | cW=>
   dsimp only;cases s.bS with
   | none=>rfl
   | some e=>
     dsimp only [gC];split<;>rfl
 | aP r u=>
   show (dq s M r u).2.2.1.aA=s.aA;unfold dq;dsimp only;split;rfl;split;exact kY _ 9;split;dsimp only;rw [I6];split<;>rfl;dsimp only;rw [kY];split<;>rfl
 | eh p=>
   show (ki s M p).2.2.1.aA=s.aA;unfold ki;dsimp only;split;rw [y9];rfl
 | ei=>
   dsimp only;cases s.aJ with
   | none=>rfl
   | some l=>
     dsimp only [iZ];split<;>rfl
 | cq=>
   dsimp only;cases s.aI with
   | none=>rfl
   | some t=>
     dsimp only [gi];split<;>rfl
 | cG ck=>
   show (fO s M ck).2.2.1.aA=s.aA;unfold fO;dsimp only;split;rw [ox];split<;>rfl
 | bJ=>
   show (fb s M).2.2.1.aA=s.aA;unfold fb;dsimp only;split;rw [ox];split;rfl;rw [ox]
 | dI w=>
   show (gS s M w).2.2.1.aA=s.aA;unfold gS;dsimp only;split<;>rfl
 | bX w=>rfl
 | gr=>rfl
 | eT=>exact pY s
 | dX p=>
   show (gU s M p).2.2.1.aA=s.aA;unfold gU;dsimp only;split;rw [pY];rfl
theorem Ie {s:aF} (h:s.kF 1=true):s.aA=1:=by
 unfold aF.kF at h;simp at h;exact h.2
theorem Ga (s:aF) (av:Int):(Cq s av).2=s\/(Cq s av).2.aA=1:=by
 unfold Cq;split;rename_i hf;have:=Ie hf;split<;>simp [this];exact .inl rfl
theorem Lc (s:aF) (a v:Int):(E4 s a v).2=s\/(E4 s a v).2.aA=1:=by
 unfold E4;split;rename_i hf;have:=Ie hf;simp [this];exact .inl rfl
theorem Lp (s:aF) (a:Int):(GP s a).2=s\/(GP s a).2.aA=1:=by
 unfold GP;split;rename_i hf;have:=Ie hf;split;simp [this];split<;>simp [this,mA];exact .inl rfl
theorem Sm (s:aF) (a:Int):(K4 s a).2=s\/(K4 s a).2.aA=1:=by
 unfold K4;split;rename_i hf;have:=Ie hf;split;simp;split<;>simp [this];exact .inl rfl
theorem RX (s:aF) (a:Int):(Kv s a).2=s\/(Kv s a).2.aA=1:=by
 unfold Kv;split;rename_i hf;have:=Ie hf;split;simp [this];split<;>simp [this,mA];exact .inl rfl
end
section
variable [Gl]
def Sy (M:Mm):Int:=(M 3).getD 0 0
def SA (M:Mm):Int:=(M 4).getD 0 0
theorem ml {M:Mm} {cell dm:Int} {g:Int->Int×Bool} {k:Nat} (h:k≠(cell-1).toNat):pR M cell dm g k=M k:=by
 unfold pR;split;unfold setRow;rw [ap h];rfl
theorem Cf {M:Mm} {cell dm:Int} (h:1<=cell/\cell<=8) (h0:0<=dm) (h1:dm<(M (cell-1).toNat).length):f5 M cell dm=true:=by
 unfold f5 jP;rw [ay h];exact decide_eq_true ⟨h0,h1⟩
theorem um {M:Mm} {gd cell dm:Int} {g:Int->Int×Bool} (h:f5 M cell dm=true):(fv M gd cell dm g).eV=(jP M cell).getD dm.toNat 0/\(fv M gd cell dm g).done=(g ((jP M cell).getD dm.toNat 0)).2:=by
 unfold fv;rw [ay h];exact⟨rfl,rfl⟩
def GJ (M M':Mm):Prop:=M' 0=M 0/\M' 1=M 1/\M' 2=M 2/\M' 3=M 3/\M' 4=M 4
theorem GJ.refl (M:Mm):GJ M M:=⟨rfl,rfl,rfl,rfl,rfl⟩
theorem GJ.op (M:Mm) {cell dm:Int} {g:Int->Int×Bool} (hc:6<=cell):GJ M (pR M cell dm g):=by
 refine⟨ml ?_,ml ?_,ml ?_,ml ?_,ml ?_⟩<;>omega
def SL (s:aF):List Int:=match s.aC with
 | .ei=>match s.aJ with
   | some l=>l.am.take l.eL.length
   | none=>[]
 | .cq | .cG _ | .bJ | .dI _=>s.am
 | .bX w=>w.os
 | _=>[]
def lkW (s:aF):List Int:=match s.aC with
 | .ei | .cq | .cG _ | .bJ | .dI _=>s.eL
 | .bX w=>w.ws
 | _=>[]
def Vi (s:aF):Bool:=match s.aC with
 | .dI _ | .gr=>true
 | .bX _=>s.ai
 | _=>false
def VE (s:aF):Option Int:=match s.aC with
 | .cq=>match s.aI with
   | some t=>if t.om=true then some t.iu else none
   | none=>none
 | .cG _ | .bJ | .dI _ | .bX _ | .gr | .eT=>match s.aI with
   | some t=>some t.iu
   | none=>none
 | _=>none
def dnS (s:aF):Bool:=match s.aC with
 | .cG _ | .bJ | .dI _ | .bX _ | .gr | .eT=>true
 | _=>false
def lgS (c:bH) (s:aF):Prop:=match s.aC with
 | .ei | .cq | .cG _ | .bJ | .dI _=>s.fU=true->∀a∈s.bp.bK,fF c a∈s.am
 | _=>True
def orW (M:Mm) (x:Int):Int:=(M 1).getD x.toNat 0
def Th (M:Mm):Int:=(M 2).getD 0 0
structure TInv (c:bH) (s:aF) (M:Mm):Prop where
 nod:(SL s).Nodup
 lk:∀i,i<(SL s).length->orW M ((SL s).getD i 0) % 64=s.ak+1/\(Vi s=false->orW M ((SL s).getD i 0)=(lkW s).getD i 0+s.ak+1/\(lkW s).getD i 0 % 64=0)
 cm:Vi s=true->s.aw=Th M
 lg:lgS c s
 tk:∀n,VE s=some n->n<Sy M/\(dnS s=true->n=SA M)
structure Eff (c:bH) (s:aF) (M:Mm) (s':aF) (M':Mm):Prop where
 ti:TInv c s' M'
 wH:Th M'=Th M\/(Vi s=true/\Th M<=Th M')
 sv:SA M'=SA M\/dnS s=true
 tkn:Sy M<=Sy M'
 tks:VE s'=none\/VE s'=VE s\/VE s'=some (Sy M)
 m1:∀j:Nat,(M' 1).getD j 0=(M 1).getD j 0\/(M 1).getD j 0 % 64=0\/(M 1).getD j 0 % 64=s.ak+1
 sX:∀o rv:Int,rv<=Th M->(rv<orW M o / 64\/(Vi s=true/\o∈SL s))->(rv<orW M' o / 64\/(Vi s'=true/\o∈SL s'))
 m0:∀j:Nat,(M' 0).getD j 0=(M 0).getD j 0\/(Vi s'=true/\fF c j∈SL s')
structure Tq (s:aF):Prop where
 l:SL s=[]
 c:Vi s=false
 t:VE s=none
 d:dnS s=false
def Cal2 (s:aF):Prop:=match s.aC with
 | .ei=>∀a∈s.bp.bK,fF s.cf a∈s.am
 | .cq=>s.fU=false
 | .cG _ | .bJ | .dI _=>False
 | _=>True
section
variable {c:bH} {nt k:Nat} {s:aF} {M:Mm}
theorem KC (e:gn) (M:Mm):GJ M (eG e M).2.2:=by
 unfold eG;split;exact .op M (by omega);split;exact .refl M;split;exact .op M (by omega);exact .refl M
theorem OH (p:nQ) (M:Mm):GJ M (dY p M).2.2:=by
 unfold dY;split;exact .refl M;split;exact .refl M;split;exact .op M (by omega);exact .refl M
theorem ME (p:eZ) (M:Mm):GJ M (ct p M).2.2:=by
 unfold ct;split;exact .refl M;split;exact .op M (by omega);split;exact .op M (by omega);exact .refl M
end
end
end Go.Stx
