/-
 One attempt, without the program: what always holds of the cells and of its state.
-/
import Derived.Test.YtipomeafemoelaaGreatDoorG07
set_option linter.unusedVariables false
set_option linter.unusedSimpArgs false
set_option linter.unusedSectionVars false
set_option maxRecDepth 20000
set_option maxHeartbeats 4000000
open Bool renaming and_eq_true->qq
open Go.IntKind renaming i64->qg,u64->qd
open Int renaming tmod_eq_emod_of_nonneg->qU
open List renaming drop_zero->Za,getD_eq_getElem?_getD->ql,getElem?_eq_getElem->qk,getElem?_eq_none->qN,getElem?_replicate->kaC,getElem_mem->Zh,length_append->qm,length_cons->qI,length_drop->ZG,length_nil->ZP,length_tail->kbo,mem_append->qQ,replicate->qc,tail_drop->kaL
open Nat renaming le_refl->qf,le_succ->qz
namespace Go.Stx
open Go Go.Proofs
attribute [local irreducible] c8 aY aD aO cK da TW bG
section
variable [Gl]
theorem Lw (l:List Int) (i:Nat):l.getD i 0=0\/l.getD i 0∈l:=by
 rw [ql];by_cases h:i<l.length;rw [qk h];exact .inr (Zh h);rw [qN (by omega)];exact .inl rfl
theorem tT (M:Mm) (fI cell cL:Int) (g:Int->Int×Bool):(eU M fI cell cL g).fi=0\/(eR M cell cL=true/\(eU M fI cell cL g).fi=(ju M cell).getD cL.toNat 0):=by
 unfold eU;split;rename_i h;exact .inr ⟨h,rfl⟩;exact .inl rfl
theorem MD (M:Mm) (cell cL v:Int) (k:Nat):(setRow M cell cL v k).length=(M k).length:=by
 unfold setRow;split<;>simp
theorem sD (M:Mm) (cell cL:Int) (g:Int->Int×Bool) (k:Nat):(kX M cell cL g k).length=(M k).length:=by
 unfold kX;split;exact MD _ _ _ _ _;rfl
theorem yT (M:Mm) (cell cL:Int) (g:Int->Int×Bool) (k j:Nat) :
 (kX M cell cL g k).getD j 0=(M k).getD j 0\/(eR M cell cL=true/\k=(cell-1).toNat/\j=cL.toNat/\(kX M cell cL g k).getD j 0=(g ((ju M cell).getD cL.toNat 0)).1):=by
 unfold kX;split;rename_i hc;unfold setRow;split;rename_i e;by_cases hj:j=cL.toNat;by_cases hl:j<(M k).length;refine .inr ⟨hc.1,e,hj,?_⟩;subst hj;rw [ql,List.getElem?_set_self hl];rfl;left;simp only [ql];rw [qN (by simp;omega),qN (by omega)];left;simp only [ql];rw [List.getElem?_set_ne (Ne.symm hj)];exact .inl rfl;exact .inl rfl
theorem mL {M:Mm} {cell cL:Int} (h:eR M cell cL=true):(1<=cell/\cell<=8)/\0<=cL/\cL<(M (cell-1).toNat).length:=by
 unfold eR ju at h;split at h;rename_i hh;refine⟨hh,?_⟩
 simpa using h
 simp at h;omega
def kB (k:Nat) (x:Int):Prop:=0<=x/\x / 64<=k/\x % 64<=16
theorem kB.mono {k k':Nat} {x:Int} (h:kB k x) (hk:k<=k'):kB k' x:=⟨h.1,by have:=h.2.1;omega,h.2.2⟩
theorem kB.zero (k:Nat):kB k 0:=⟨by omega,by omega,by omega⟩
def j0 (c:br) (eE x:Int):Prop:=0<=x/\jn x<c.nb/\(0<=jn x->dU c (jn x)=eE)
def og (c:br) (eE x:Int):Prop:=0<=x/\x<=c.nb/\(0<x->dU c (x-1)=eE)
theorem rL {c:br} (hc:cX c):0<=c.nb:=by
 have h0:=hc.k0;have h1:=hc.k1;have h3:=hc.k2;have h4:=hc.k3;have e:c.nb=c.c0+c.c1+c.c2+c.c3:=rfl;omega
theorem Bz:jn 0 = -1:=by decide
theorem j0.zero {c:br} (hc:cX c) (eE:Int):j0 c eE 0:=by
 have h:=rL hc;refine⟨by omega,by rw [Bz];omega,λe=>?_⟩;rw [Bz] at e;omega
theorem og.zero {c:br} (hc:cX c) (eE:Int):og c eE 0:=⟨by omega,rL hc,λe=>by omega⟩
structure k9 (c:br) (nt k:Nat) (M:Mm):Prop where
 l0:((M 0).length:Int)=c.be+c.nb
 l1:((M 1).length:Int)=c.ao
 l2:(M 2).length=1
 l3:(M 3).length=1
 l4:(M 4).length=1
 l5:(M 5).length=nt
 l6:(M 6).length=4
 l7:((M 7).length:Int)=c.nb
 head:∀i:Nat,j0 c i ((M 6).getD i 0)
 next:∀b:Nat,og c (dU c b) ((M 7).getD b 0)
 iZ:0<=(M 2).getD 0 0/\(M 2).getD 0 0<=k
 XT:0<=(M 3).getD 0 0/\(M 3).getD 0 0<=k
 orc:∀i:Nat,kB k ((M 1).getD i 0)
theorem k9.mono {c:br} {nt k k':Nat} {M:Mm} (h:k9 c nt k M) (hk:k<=k'):k9 c nt k' M:=
 ⟨h.l0,h.l1,h.l2,h.l3,h.l4,h.l5,h.l6,h.l7,h.head,h.next,by have:=h.iZ;omega,by have:=h.XT;omega,λi=>(h.orc i).mono hk⟩
theorem k9.op {c:br} {nt k k':Nat} {M:Mm} (h:k9 c nt k M) (hk:k<=k') (cell cL:Int) (g:Int->Int×Bool)
 (hv:eR M cell cL=true->(cell=7->j0 c cL (g ((ju M cell).getD cL.toNat 0)).1)/\
  (cell=8->og c (dU c cL) (g ((ju M cell).getD cL.toNat 0)).1)/\
  (cell=3\/cell=4->0<=(g ((ju M cell).getD cL.toNat 0)).1/\(g ((ju M cell).getD cL.toNat 0)).1<=k')/\
  (cell=2->kB k' (g ((ju M cell).getD cL.toNat 0)).1)):k9 c nt k' (kX M cell cL g):=by
 have hcell:eR M cell cL=true->(1<=cell/\cell<=8)/\0<=cL:=λh=>⟨(mL h).1,(mL h).2.1⟩;refine⟨by rw [sD];exact h.l0,by rw [sD];exact h.l1,by rw [sD];exact h.l2,by rw [sD];exact h.l3,by rw [sD];exact h.l4,by rw [sD];exact h.l5,by rw [sD];exact h.l6,by rw [sD];exact h.l7,?_,?_,?_,?_,?_⟩;intro i;rcases yT M cell cL g 6 i with h1|⟨h1,h2,h3,h4⟩;rw [h1];exact h.head i;have hr:=hcell h1;have:=(hv h1).1 (by omega);rw [h4];have e:cL=(i:Int):=by omega
 rw [e] at this ⊢;exact this;intro i;rcases yT M cell cL g 7 i with h1|⟨h1,h2,h3,h4⟩;rw [h1];exact h.next i;have hr:=hcell h1;have:=(hv h1).2.1 (by omega);rw [h4];have e:cL=(i:Int):=by omega
 rw [e] at this ⊢;exact this;rcases yT M cell cL g 2 0 with h1|⟨h1,h2,h3,h4⟩;rw [h1];have:=h.iZ;omega;have hr:=hcell h1;rw [h4];exact(hv h1).2.2.1 (by omega);rcases yT M cell cL g 3 0 with h1|⟨h1,h2,h3,h4⟩;rw [h1];have:=h.XT;omega;have hr:=hcell h1;rw [h4];exact(hv h1).2.2.1 (by omega);intro i;rcases yT M cell cL g 1 i with h1|⟨h1,h2,h3,h4⟩;rw [h1];exact(h.orc i).mono hk;have hr:=hcell h1;rw [h4];exact(hv h1).2.2.2 (by omega)
theorem k9.op0 {c:br} {nt k k':Nat} {M:Mm} (h:k9 c nt k M) (hk:k<=k') (cell cL:Int) (g:Int->Int×Bool) (h1:cell≠7/\cell≠8/\cell≠3/\cell≠4/\cell≠2):k9 c nt k' (kX M cell cL g):=
 h.op hk cell cL g λ_=>⟨λe=>absurd e h1.1,λe=>absurd e h1.2.1,λe=>by rcases e with e|e;exact absurd e h1.2.2.1;exact absurd e h1.2.2.2.1,λe=>absurd e h1.2.2.2.2⟩
theorem k9.opO {c:br} {nt k k':Nat} {M:Mm} (h:k9 c nt k M) (hk:k<=k') (cL:Int) (g:Int->Int×Bool) (h1:kB k' (g ((ju M 2).getD cL.toNat 0)).1):k9 c nt k' (kX M 2 cL g):=
 h.op hk 2 cL g λ_=>⟨λe=>by omega,λe=>by omega,λe=>by omega,λ_=>h1⟩
theorem HX {h:Int} (h0:0<=h):jn h=h % 65536-1:=by
 unfold jn;rw [qU h0];rw [ar (x:=h % 65536) (by omega) (by omega),ar (by omega) (by omega)]
theorem J0 {h:Int} (h0:0<=h):-1<=jn h/\jn h<=65534:=by rw [HX h0];omega
theorem QC (t p:Int):0<=rP t p/\(jn (rP t p)=p\/jn (rP t p) = -1):=by
 unfold rP;split;rename_i h;refine⟨by omega,.inl ?_⟩;rw [HX (by omega)];omega;exact⟨by omega,.inr Bz⟩
theorem Fu {c:br} (hc:cX c) {h p eE:Int} (hp:p<c.nb) (kJ:0<=p->dU c p=eE):j0 c eE (oU h p):=by
 have GK:=rL hc;obtain⟨h1,h2⟩:=QC ((qg.wrap (RS h+1)).tmod 281474976710656) p;refine⟨h1,?_,λh0=>?_⟩;show jn (rP _ _)<c.nb;rcases h2 with h2|h2<;>rw [h2]<;>omega;have UG:0<=jn (rP ((qg.wrap (RS h+1)).tmod 281474976710656) p):=h0;show dU c (jn (rP _ _))=eE;rcases h2 with h2|h2;rw [h2] at UG ⊢;exact kJ UG;rw [h2] at UG;omega
def LocI (c:br):FN->Prop
 | .lU a _=>0<=a
 | .dg b _=>0<=b/\b<c.nb
 | _=>True
def WA (c:br):zH->Prop
 | .take=>True
 | .dg b=>0<=b/\b<c.nb
structure jL (s:aJ):Prop where
 ao:s.ao=[]
 aP:s.aP=none
 aL:s.aL=none
 au:s.au=0
 dec:s.am=false
structure yE (k:Nat) (l:ik):Prop where
 dF:kB k l.dF
 load:l.fH=true->l.dF % 64=0
 dT:∀w∈l.dT,kB k w/\w % 64=0
theorem yE.mono {k k':Nat} {l:ik} (h:yE k l) (hk:k<=k'):yE k' l:=⟨h.dF.mono hk,h.load,λw hw=>⟨((h.dT w hw).1).mono hk,(h.dT w hw).2⟩⟩
def vz (k:Nat) (s:aJ):Prop:=(s.ao=[]/\s.aP=none)\/∃l,s.aP=some l/\l.ao=s.ao/\l.dT.length=s.ao.length/\0<s.ao.length/\yE k l
def nG (k:Nat) (s:aJ):Prop:=vz k s/\(s.il=true↔0<s.ao.length)
theorem vz.mono {k k':Nat} {s:aJ} (h:vz k s) (hk:k<=k'):vz k' s:=by
 rcases h with h|⟨l,h1,h2,h3,h4,h5⟩;exact .inl h;exact .inr ⟨l,h1,h2,h3,h4,h5.mono hk⟩
theorem nG.mono {k k':Nat} {s:aJ} (h:nG k s) (hk:k<=k'):nG k' s:=⟨h.1.mono hk,h.2⟩
def tO (s:aJ):List Int:=if s.am=true then qc s.ao.length (kF s.nJ) else s.dT
structure ji (c:br) (k:Nat) (s:aJ):Prop where
 cf:s.cf=c
 Mb:0<=s.aj/\s.aj<16
 bz:oX s.bz
 eA:s.bz.eA=c.bP.toNat
 cL:s.bz.index.length<=64
 HN:∀a∈s.bz.bL,0<=a/\a<c.be+c.nb
 Rt:∀x∈s.an,0<=x/\x<c.nb
 nC:(s.an.length:Int)<=c.an
 push:s.au<=s.an.length
 set:s.set.length<=c.reads.toNat
 X4:s.reads.Nodup
 X1:∀a∈s.reads,0<=a/\a<c.be
 Dj:(s.ay.length:Int)<=c.ay
 iZ:0<=s.aB/\s.aB<=k
 orl:s.ao.length<=64
 Ye:∀x∈s.ao,0<=x/\x<c.ao
def DoI (c:br) (k:Nat) (s:aJ):bD->Prop
 | .bF=>s.aF≠2->jL s
 | .iP l=>jL s/\LocI c l
 | .ei=>jL s/\∃e,s.b7=some e/\(0<=e.aB/\e.aB<=k)/\(0<=e.bW/\e.bW<=2)/\e.aj=s.aj
 | .bh r u=>jL s/\(0<=r.bW/\r.bW<=2)/\r.ig=gw c r.dJ/\r.iu=false/\WA c u/\(0<=r.dJ/\r.dJ<c.be+c.nb)/\r.rv=s.rv
 | .eO p=>jL s/\(s.an.length:Int)<c.an/\(0<=p.eE/\p.eE<=3)/\j0 c p.eE p.head/\og c p.eE p.next/\p.block = -1/\(0<=p.bW/\p.bW<=2)/\(1<=p.bW->0<=jn p.head)
 | .eh=>(s.aL=none/\s.au=0/\s.am=false)/\(s.aC=1/\s.il=true)/\∃l,s.aP=some l/\l.ao=s.ao/\l.aj=s.aj/\l.dT.length<l.ao.length/\yE k l
 | .cU=>(s.au=0/\s.am=false)/\nG k s/\∃t,s.aL=some t/\t.done=false/\(0<=t.dx/\t.dx<=k)
 | .cM ck=>(s.au=0/\s.am=false)/\nG k s/\(∃t,s.aL=some t)/\ck.jG=false/\(∃q,q<s.set.length/\ck.ao=s.set.drop q)/\ck.rv=s.rv
 | .bK=>(s.au=0/\s.am=false)/\nG k s/\∃t,s.aL=some t
 | .di w=>s.au=0/\(s.am=true/\s.il=true)/\nG k s/\(∃t,s.aL=some t)/\∃q,q<s.bz.bL.length/\w=⟨s.bz.bL.drop q,s.bz.fq.drop q⟩
 | .bH w=>s.au=0/\(s.am=true->s.il=true)/\vz k s/\(∃t,s.aL=some t)/\∃q,q<s.ao.length/\w=⟨s.ao.drop q,(tO s).drop q⟩
 | .fb=>s.au=0/\(s.am=true/\s.il=true)/\∃t,s.aL=some t
 | .ey=>s.au=0/\∃t,s.aL=some t
 | .eL p=>s.aC≠1/\s.au<s.an.length/\p.block=s.an.getD s.au 0/\p.eE=dU c p.block/\j0 c p.eE p.head/\(0<=p.bW/\p.bW<=2)
 | .ic=>True
structure nP (c:br) (k:Nat) (s:aJ):Prop where
 b:ji c k s
 d:DoI c k s s.aH
theorem ji.mono {c:br} {k k':Nat} {s:aJ} (h:ji c k s) (hk:k<=k'):ji c k' s:={ h with iZ:=⟨h.iZ.1,by have:=h.iZ.2;omega⟩ }
theorem nP.mono {c:br} {k k':Nat} {s:aJ} (h:nP c k s) (hk:k<=k'):nP c k' s:=by
 refine⟨h.b.mono hk,?_⟩;have hd:=h.d;revert hd;cases s.aH with
 | ei=>
   rintro ⟨h0,e,h1,h2,h3⟩;exact⟨h0,e,h1,⟨h2.1,by omega⟩,h3⟩
 | eh=>
   rintro ⟨h0,Mf,l,h1,h2,h3,h4,h5⟩;exact⟨h0,Mf,l,h1,h2,h3,h4,h5.mono hk⟩
 | cU=>
   rintro ⟨h0,hl,t,h1,h2,h3⟩;exact⟨h0,hl.mono hk,t,h1,h2,h3.1,by omega⟩
 | cM ck=>
   rintro ⟨h0,hl,h1⟩;exact⟨h0,hl.mono hk,h1⟩
 | bK=>
   rintro ⟨h0,hl,h1⟩;exact⟨h0,hl.mono hk,h1⟩
 | di w=>
   rintro ⟨h0,hd,hl,h1⟩;exact⟨h0,hd,hl.mono hk,h1⟩
 | bH w=>
   rintro ⟨h0,hd,hl,h1⟩;exact⟨h0,hd,hl.mono hk,h1⟩
 | _=>exact id
theorem ji.to {c:br} {k:Nat} {s s':aJ} (h:ji c k s) (h1:s'.cf=s.cf:=by rfl) (h2:s'.aj=s.aj:=by rfl) (h3:s'.bz=s.bz:=by rfl) (h4:s'.an=s.an:=by rfl) (h5:s'.au=s.au:=by rfl) (h6:s'.set=s.set:=by rfl) (h7:s'.reads=s.reads:=by rfl) (h8:s'.ay=s.ay:=by rfl) (h9:s'.aB=s.aB:=by rfl) (NK:s'.ao=s.ao:=by rfl):ji c k s':=by
 (unhygienic cases s);obtain⟨cf',UW,XV,oT,XP,ent',TT,X7,Wv,frees',set',log',clock',Yf,lock',turn',U9,doing'⟩:=s';dsimp only at h1 h2 h3 h4 h5 h6 h7 h8 h9 NK;subst h1 h2 h3 h4 h5 h6 h7 h8 h9 NK;exact⟨h.cf,h.Mb,h.bz,h.eA,h.cL,h.HN,h.Rt,h.nC,h.push,h.set,h.X4,h.X1,h.Dj,h.iZ,h.orl,h.Ye⟩
section
variable {c:br} {k:Nat} {s:aJ}
theorem wJ {l:List Int} {i:Nat} (h:i<l.length):l.getD i 0∈l:=by
 rw [ql,qk h];exact Zh h
theorem zm (hc:cX c) (h:ji c k s):nP c k (gi s):=by
 unfold gi;split;exact⟨h.to,trivial⟩;rename_i hn;have hp:=h.push;have cD:s.au<s.an.length:=by omega
 refine⟨h.to,λe=>hn (.inl e),cD,rfl,?_,.zero hc _,by show (0:Int)<=0;omega,by show (0:Int)<=2;omega⟩;show dU s.cf (s.an.getD s.au 0)=dU c (s.an.getD s.au 0);rw [h.cf]
theorem tI (hc:cX c) (h:ji c k s) (aC:Int):nP c k (jQ s aC):=zm hc (h.to)
theorem mX (l:List Int):(eT l).Pairwise (·< ·)/\∀z,z∈eT l↔z∈l:=by rw [MC];exact vC l
theorem Ih (l:List Int):eT (eT l)=eT l:=by
 obtain⟨h1,h2⟩:=mX l;obtain⟨h3,h4⟩:=mX (eT l);exact NS _ _ h3 h1 h4
theorem Sg {l:List Int} (hl:l.Pairwise (·< ·)) (a:Int):(∀x∈l,a<=x)->∀n:Nat,(∀x∈l,x<a+n)->l.length<=n:=by
 induction l generalizing a with
 | nil=>intro _ n _;simp
 | cons y r ih=>
   intro h1 n h2;rw [List.pairwise_cons] at hl;have hy1:=h1 y (by simp);have hy2:=h2 y (by simp);have:r.length<=n-1:=ih hl.2 (y+1) (λx hx=>by have:=hl.1 x hx;omega) (n-1) (λx hx=>by have:=h2 x (by simp [hx]);omega);simp only [qI];omega
theorem Sh {c:br} (hc:cX c) {a:Int} (h:0<=a/\a<c.be+c.nb):0<=gw c a/\gw c a<c.ao:=by
 have:=hc.ao;unfold gw;rw [aA h,qU h.1];exact⟨Int.emod_nonneg a (by omega),Int.emod_lt_of_pos a (by omega)⟩
theorem AY (hc:cX c) (h:ji c k s) (he:jL s) (aC:Int):nP c k (nz s aC):=by
 unfold nz;split;rename_i hs;simp only [qq,decide_eq_true_eq] at hs;obtain⟨O4,yk⟩:=hs;have zN:=mX (s.bz.bL.map (gw s.cf));have Xh:=Ih (s.bz.bL.map (gw s.cf));have hr:∀x∈eT (s.bz.bL.map (gw s.cf)),0<=x/\x<c.ao:=λx hx=>by
  obtain⟨a,ha,rfl⟩:=List.mem_map.1 ((zN.2 x).1 hx);rw [h.cf];exact Sh hc (h.HN a ha)
 refine⟨{ h.to (s':={ s with aC:=aC,aP:=some ⟨s.aj,eT (eT (s.bz.bL.map (gw s.cf))),[],0,false⟩,aH:=.eh }) rfl rfl rfl rfl rfl rfl rfl rfl rfl rfl with orl:=?_,Ye:=hr },⟨he.aL,he.au,he.dec⟩,⟨O4,?_⟩,_,rfl,Xh,rfl,?_,⟨.zero _,λe=>(by cases e),λw hw=>(by cases hw)⟩⟩;show (eT (s.bz.bL.map (gw s.cf))).length<=64;have ho:=hc.ao;have:=Sg zN.1 0 (λx hx=>(hr x hx).1) c.ao.toNat λx hx=>by have:=(hr x hx).2;omega
 omega;show (decide (aC=1) && decide (0<s.bz.bL.length))=true;simp [O4,yk];show 0<(eT (eT (s.bz.bL.map (gw s.cf)))).length;rw [Xh];have hm:gw s.cf s.bz.bL[0]∈eT (s.bz.bL.map (gw s.cf)):=(zN.2 _).2 (List.mem_map.2 ⟨_,Zh yk,rfl⟩);exact List.length_pos_of_mem hm;rename_i hs;refine⟨h.to,⟨he.au,he.dec⟩,⟨.inl ⟨he.ao,he.aP⟩,⟨λe=>absurd e hs,λe=>?_⟩⟩,_,rfl,rfl,?_⟩;rw [show ({ s with aC:=aC,aL:=some ⟨false,0,false⟩,aH:=bD.cU }:aJ).ao=s.ao from rfl,he.ao] at e;simp at e;show (0:Int)<=0/\(0:Int)<=k;omega
theorem wm (h:ji c k s) (hp:s.au=0) (hl:vz k s) (hd:s.am=true->s.ao=[]) (ht:∃t,s.aL=some t):nP c k (fJ s):=by
 unfold fJ;split;exact⟨h.to,hp,ht⟩;rename_i hn;have hdf:s.am=false:=by
  cases e:s.am with
  | false=>rfl
  | true=>rw [hd e] at hn;simp at hn
 refine⟨h.to,hp,λe=>?_,hl,ht,0,by show 0<s.ao.length;omega,?_⟩;rw [show ({ s with aH:=bD.bH ⟨s.ao,s.dT⟩ }:aJ).am=s.am from rfl,hdf] at e;cases e;rw [Za,Za];show (⟨s.ao,s.dT⟩:je)=⟨s.ao,tO _⟩;unfold tO;rw [aw (by show ¬s.am=true;rw [hdf];decide)];rfl
theorem jL.to {s s':aJ} (h:jL s) (h1:s'.ao=s.ao) (h2:s'.aP=s.aP) (h3:s'.aL=s.aL) (h4:s'.au=s.au) (h5:s'.am=s.am):jL s':=
 ⟨h1.trans h.ao,h2.trans h.aP,h3.trans h.aL,h4.trans h.au,h5.trans h.dec⟩
theorem ji.put (h:ji c k s) {a:Int} (ha:0<=a/\a<c.be+c.nb) (v:Int):ji c k { s with bz:=(fM s.bz a v).2 }:=by
 obtain⟨h1,h2,h3⟩:=AB s.bz a v;refine⟨h.cf,h.Mb,Hx h.bz ha.1 v,h1.trans h.eA,by have:=h.cL;show (fM s.bz a v).2.index.length<=64;omega,?_,h.Rt,h.nC,h.push,h.set,h.X4,h.X1,h.Dj,h.iZ,h.orl,h.Ye⟩;intro x hx;rcases h3 x hx with h4|h4;exact h.HN x h4;subst h4;exact ha
structure L3 (s s':aJ):Prop where
 aH:s'.aH=s.aH
 ao:s'.ao=s.ao
 aP:s'.aP=s.aP
 aL:s'.aL=s.aL
 au:s'.au=s.au
 dec:s'.am=s.am
 cf:s'.cf=s.cf
 ay:s'.ay=s.ay
theorem L3.TQ {s s':aJ} (h:L3 s s') (he:jL s):jL s':=he.to h.ao h.aP h.aL h.au h.dec
theorem L3.trans {s s' s'':aJ} (h:L3 s s') (h':L3 s' s''):L3 s s'':=
 ⟨h'.aH.trans h.aH,h'.ao.trans h.ao,h'.aP.trans h.aP,h'.aL.trans h.aL,h'.au.trans h.au,h'.dec.trans h.dec,h'.cf.trans h.cf,h'.ay.trans h.ay⟩
theorem Dq (hc:cX c) (h:ji c k s) {a:Int} (ha:0<=a/\a<c.be+c.nb) (v:Int):((jp s a v).1=true/\ji c k (jp s a v).2/\L3 s (jp s a v).2)\/((jp s a v).1=false/\nP c k (jp s a v).2):=by
 unfold jp;split;exact .inl ⟨rfl,h.put ha v,rfl,rfl,rfl,rfl,rfl,rfl,rfl,rfl⟩;exact .inr ⟨rfl,tI hc h 3⟩
theorem Hz (h:ji c k s) (he:jL s) (hd:s.aH=.bF):nP c k s:=⟨h,by rw [hd];exact λ_=>he⟩
theorem HG (hc:cX c) (h:ji c k s) (he:jL s) (hd:s.aH=.bF) (b st:Int) (hb:0<=b/\b<c.nb):nP c k (jr s b st):=by
 have pn:=h.cf;subst pn;unfold jr;split;exact AY hc h he 8;split;exact tI hc h 3;rename_i hf;have hw:=hc.be;rcases Dq hc h (a:=s.cf.be+b) (by omega) 0 with ⟨h1,h2,h3⟩|⟨h1,h2⟩;rw [aA h1];refine Hz ?_ ((h3.TQ he).to rfl rfl rfl rfl rfl) (h3.aH.trans hd);refine { h2.to (s':={ (jp s (s.cf.be+b) 0).2 with ay:=s.ay }) rfl rfl rfl rfl rfl rfl rfl h3.ay.symm rfl rfl with Dj:=?_ };show ((s.ay++[b]).length:Int)<=s.cf.ay;simp only [qm,qI,ZP];omega;rw [aw (by rw [h1];decide)];exact h2
theorem G5 (hc:cX c):∀(n:Nat) (a:Int) (s:aJ),ji c k s->0<=a->a+n<=c.be+c.nb->((gs n a s).1=true/\ji c k (gs n a s).2/\L3 s (gs n a s).2)\/((gs n a s).1=false/\nP c k (gs n a s).2)
 | 0,a,s,h,_,_=>.inl ⟨rfl,h,rfl,rfl,rfl,rfl,rfl,rfl,rfl,rfl⟩
 | n+1,a,s,h,h0,hn=>by
   unfold gs;rcases Dq hc h (a:=a) (by omega) 0 with ⟨h1,h2,h3⟩|⟨h1,h2⟩;rw [aA h1];rcases G5 hc n (a+1) _ h2 (by omega) (by omega) with ⟨g1,g2,g3⟩|⟨g1,g2⟩;exact .inl ⟨g1,g2,h3.trans g3⟩;exact .inr ⟨g1,g2⟩;rw [aw (by rw [h1];decide)];exact .inr ⟨rfl,h2⟩
theorem GZ (hc:cX c) (h:ji c k s) (he:jL s) (hd:s.aH=.bF) (hl:(s.an.length:Int)<c.an) (eE b:Int) (hb:-1<=b/\b<c.nb) (BX:0<=b->dU c b=eE):nP c k (fx s eE b):=by
 have pn:=h.cf;subst pn;unfold fx;split;exact tI hc h 4;rename_i Tw;have hw:=hc.be;have xC:=AD hc b (by omega);have kJ:=BX (by omega);have GK:=rL hc;have h1:ji s.cf k { s with an:=s.an++[b] }:=by
  refine⟨rfl,h.Mb,h.bz,h.eA,h.cL,h.HN,?_,?_,?_,h.set,h.X4,h.X1,h.Dj,h.iZ,h.orl,h.Ye⟩;intro x hx;rw [qQ] at hx;rcases hx with hx|hx;exact h.Rt x hx;have:x=b:=by simpa using hx
  omega;show ((s.an++[b]).length:Int)<=s.cf.an;simp only [qm,qI,ZP];omega;show s.au<=(s.an++[b]).length;have:=h.push;simp only [qm,qI,ZP];omega
 have e1:jL { s with an:=s.an++[b] }:=he.to rfl rfl rfl rfl rfl;dsimp only;rcases Dq hc h1 (a:=s.cf.be+b) (by omega) (eE+1) with ⟨g1,g2,g3⟩|⟨g1,g2⟩;rw [aA g1];have h2p:((2 ^ eE.toNat:Nat):Int)=2 ^ (dU s.cf b).toNat:=by rw [kJ];push_cast;rfl
 rcases G5 hc (2 ^ eE.toNat) (iE s.cf b) _ g2 xC.2.1 (by rw [h2p];have:=xC.2.2;omega) with ⟨z1,z2,z3⟩|⟨z1,z2⟩;rw [aA z1];have W7:=g3.trans z3;exact Hz (z2.to) ((W7.TQ e1).to rfl rfl rfl rfl rfl) (W7.aH.trans hd);rw [aw (by rw [z1];decide)];exact z2;rw [aw (by rw [g1];decide)];exact g2
theorem Vo (hc:cX c) (h:ji c k s) (he:jL s) (hd:s.aH=.bF) (l:FN) (hl:LocI c l):nP c k (sj s l):=by
 cases l with
 | tR=>exact AY hc h he 7
 | Pr=>exact AY hc h he 8
 | bS aC=>exact AY hc h he aC
 | take v=>exact Hz (h.to) (he.to rfl rfl rfl rfl rfl) hd
 | lU a v=>
   have hw:=hc.be;show nP c k (if s.cf.be<=a then nz s 7 else (jp s a v).2);split;exact AY hc h he 7;rename_i hn;rw [h.cf] at hn;rcases Dq hc h (a:=a) ⟨hl,by have:=rL hc;omega⟩ v with ⟨h1,h2,h3⟩|⟨h1,h2⟩;exact Hz h2 (h3.TQ he) (h3.aH.trans hd);exact h2
 | AS=>exact tI hc h 3
 | dg b v=>exact HG hc h he hd b v hl
theorem UR (hc:cX c) (h:ji c k s) (he:jL s) (hd:s.aH=.bF) (v:Int) (u:zH) (hu:WA c u):nP c k (zW s v u):=by
 cases u with
 | take=>exact Hz (h.to) (he.to rfl rfl rfl rfl rfl) hd
 | dg b=>exact HG hc h he hd b v hu
end
def rg (c:br) (nt k:Nat) (r:oW):Prop:=nP c (k+1) r.2.2.1/\k9 c nt (k+1) r.2.2.2
theorem rg.of {c:br} {nt k:Nat} {a:aZ} {ph:Int} {s':aJ} {M':Mm} (h1:nP c (k+1) s') (h2:k9 c nt (k+1) M'):rg c nt k (a,ph,s',M'):=⟨h1,h2⟩
section
variable {c:br} {nt k:Nat} {s:aJ} {M:Mm}
theorem Pi (hM:k9 c nt k M) (fI:Int) (g:Int->Int×Bool):0<=(eU M fI 3 0 g).fi/\(eU M fI 3 0 g).fi<=k:=by
 rcases tT M fI 3 0 g with h|⟨_,h⟩;rw [h];omega;rw [h];exact hM.iZ
theorem VY (hM:k9 c nt k M) (fI:Int) (g:Int->Int×Bool):0<=(eU M fI 4 0 g).fi/\(eU M fI 4 0 g).fi<=k:=by
 rcases tT M fI 4 0 g with h|⟨_,h⟩;rw [h];omega;rw [h];exact hM.XT
theorem E3 (hc:cX c) (hM:k9 c nt k M) (fI:Int) {cL:Int} (hi:0<=cL) (g:Int->Int×Bool):j0 c cL (eU M fI 7 cL g).fi:=by
 rcases tT M fI 7 cL g with h|⟨_,h⟩;rw [h];exact .zero hc _;have e:cL=(cL.toNat:Int):=by omega
 have:=hM.head cL.toNat;rw [h];rw [<-e] at this;exact this
theorem TC (hc:cX c) (hM:k9 c nt k M) (fI:Int) {cL:Int} (hi:0<=cL) (g:Int->Int×Bool):og c (dU c cL) (eU M fI 8 cL g).fi:=by
 rcases tT M fI 8 cL g with h|⟨_,h⟩;rw [h];exact .zero hc _;have e:cL=(cL.toNat:Int):=by omega
 have:=hM.next cL.toNat;rw [h];rw [<-e] at this;exact this
theorem I2 (e:iv) (M:Mm) (xT:0<=e.bW/\e.bW<=2):(e.bW=0/\gl e M=(Do M 6 e.aj 1,{ e with bW:=1 },yb M 6 e.aj 1)) \/
 (e.bW=1/\gl e M=(iA M 3 0,{ e with bW:=2,aB:=(iA M 3 0).fi },M)) \/
 (e.bW=2/\gl e M=(Do M 6 e.aj (qd.wrap (e.aB+2)),{ e with bW:=3 },yb M 6 e.aj (qd.wrap (e.aB+2)))):=by
 unfold gl;by_cases h0:e.bW=0;exact .inl ⟨h0,aA h0⟩;by_cases h1:e.bW=1;exact .inr (.inl ⟨h1,by rw [aw h0,aA h1]⟩);have h2:e.bW=2:=by omega
 exact .inr (.inr ⟨h2,by rw [aw h0,aw h1,aA h2]⟩)
theorem NW (hM:k9 c nt k M) (h:ji c k s) (he:jL s) (e:iv) (CL:0<=e.aB/\e.aB<=k) (xT:0<=e.bW/\e.bW<=2) (ht:e.aj=s.aj) (hd:s.aH=.ei):rg c nt k (gN s M e):=by
 have hb:=h.mono (qz k);unfold gN;rcases I2 e M xT with ⟨h0,e0⟩|⟨h0,e0⟩|⟨h0,e0⟩;rw [e0];dsimp only;rw [aw (by decide)];refine⟨⟨hb.to,?_⟩,hM.op0 (by omega) _ _ _ (by decide)⟩;show DoI c (k+1) _ s.aH;rw [hd];refine⟨he.to rfl rfl rfl rfl rfl,_,rfl,⟨CL.1,?_⟩,by show (0:Int)<=1/\(1:Int)<=2;omega,ht⟩;show e.aB<=((k+1:Nat):Int);have:=CL.2;omega;rw [e0];dsimp only;rw [aw (by decide)];refine⟨⟨hb.to,?_⟩,hM.mono (by omega)⟩;show DoI c (k+1) _ s.aH;rw [hd];have hg:=Pi hM 1 kE;refine⟨he.to rfl rfl rfl rfl rfl,_,rfl,⟨hg.1,?_⟩,by show (0:Int)<=2/\(2:Int)<=2;omega,ht⟩;show (eU M 1 3 0 kE).fi<=((k+1:Nat):Int);have:=hg.2;omega;rw [e0];dsimp only;rw [aA rfl];exact⟨Hz (hb.to) (he.to rfl rfl rfl rfl rfl) rfl,hM.op0 (by omega) _ _ _ (by decide)⟩
theorem Hv {l:List Int} {a:Int} (h:l.Nodup) (ha:¬a∈l):(l++[a]).Nodup:=by
 rw [List.nodup_append];refine⟨h,by simp,?_⟩;intro x hx y hy e;have:y=a:=by simpa using hy
 subst this;subst e;exact ha hx
theorem ME {eA:Nat} {l:List Int} (x:Int) (h:l.length<=eA):(eg eA l x).2.length<=eA:=by
 unfold eg;split;exact h;split;exact h;simp;omega
theorem Cv (r:iI) (M:Mm):(dC r M).2.1.dJ=r.dJ/\(dC r M).2.1.ig=r.ig/\(dC r M).2.1.rv=r.rv/\(dC r M).2.2=M:=by
 unfold dC;dsimp only;by_cases h0:r.bW=0;rw [aA h0];dsimp only;split<;>exact⟨rfl,rfl,rfl,rfl⟩;rw [aw h0];by_cases h1:r.bW=1;rw [aA h1];exact⟨rfl,rfl,rfl,rfl⟩;rw [aw h1];by_cases h2:r.bW=2;rw [aA h2];exact⟨rfl,rfl,rfl,rfl⟩;rw [aw h2];exact⟨rfl,rfl,rfl,rfl⟩
theorem Ko (r:iI) (M:Mm) (xT:0<=r.bW/\r.bW<=2) (pn:r.iu=false) (lQ:(dC r M).2.1.done=false):(dC r M).2.1.iu=false/\0<=(dC r M).2.1.bW/\(dC r M).2.1.bW<=2:=by
 revert lQ;unfold dC;dsimp only;by_cases h0:r.bW=0;rw [aA h0];dsimp only;split;intro lQ;simp [iI.done] at lQ;intro _;exact⟨pn,by dsimp only;omega,by dsimp only;omega⟩;rw [aw h0];by_cases h1:r.bW=1;rw [aA h1];intro _;exact⟨pn,by dsimp only;omega,by dsimp only;omega⟩;have h2:r.bW=2:=by omega
 rw [aw h1,aA h2];intro lQ;simp [iI.done] at lQ
theorem P7 (hc:cX c) (hM:k9 c nt k M) (h:ji c k s) (he:jL s) (r:iI) (u:zH) (hd:s.aH=.bh r u) (xT:0<=r.bW/\r.bW<=2) (ho:r.ig=gw c r.dJ) (pn:r.iu=false) (hu:WA c u) (ha:0<=r.dJ/\r.dJ<c.be+c.nb) (hrv:r.rv=s.rv):rg c nt k (du s M r u):=by
 have hb:=h.mono (qz k);obtain⟨i1,i2,i3,i4⟩:=Cv r M;have To:=Ko r M xT pn;unfold du;dsimp only;split;rename_i lQ;obtain⟨g1,g2,g3⟩:=To lQ;refine⟨⟨hb.to,he.to rfl rfl rfl rfl rfl,⟨g2,g3⟩,?_,g1,hu,?_,?_⟩,by rw [i4];exact hM.mono (by omega)⟩;rw [i2,i1];exact ho;rw [i1];exact ha;rw [i3];exact hrv;split;exact⟨tI hc hb 9,by rw [i4];exact hM.mono (by omega)⟩;have h2:∀s2:aJ,s2=(if r.dJ<s.cf.be/\¬r.dJ∈s.reads then { s with aH:=.bh (dC r M).2.1 u,reads:=s.reads++[r.dJ] } else { s with aH:=.bh (dC r M).2.1 u })->ji c (k+1) s2/\jL s2/\s2.cf=s.cf/\s2.set=s.set:=by
  rintro _ rfl;split;rename_i hn;refine⟨{ hb.to (s':={ s with aH:=.bh (dC r M).2.1 u }) rfl rfl rfl rfl rfl rfl rfl rfl rfl rfl with X4:=Hv h.X4 hn.2,X1:=?_ },he.to rfl rfl rfl rfl rfl,rfl,rfl⟩;intro a hx;have hx:a∈s.reads++[r.dJ]:=hx;rw [qQ] at hx;rcases hx with hx|hx;exact h.X1 a hx;have:a=r.dJ:=by simpa using hx
  rw [h.cf] at hn;omega;exact⟨hb.to,he.to rfl rfl rfl rfl rfl,rfl,rfl⟩
 generalize yk:(if r.dJ<s.cf.be/\¬r.dJ∈s.reads then { s with aH:=bD.bh (dC r M).2.1 u,reads:=s.reads++[r.dJ] } else { s with aH:=bD.bh (dC r M).2.1 u }:aJ)=s2;obtain⟨b2,e2,c2,t2⟩:=h2 s2 yk.symm;split
 . rename_i j5;refine rg.of ?_ (by rw [i4];exact hM.mono (by omega));refine UR hc ?_ ?_ rfl _ _ hu
   case refine_2=>exact e2.to rfl rfl rfl rfl rfl
   refine { b2.to (s':={ s2 with aH:=.bF }) rfl rfl rfl rfl rfl rfl rfl rfl rfl rfl with set:=?_ };show (eg s.cf.reads.toNat s.set r.ig).2.length<=c.reads.toNat;rw [h.cf];exact ME _ h.set
 exact⟨tI hc b2 3,by rw [i4];exact hM.mono (by omega)⟩
theorem yh (p:pw) (M:Mm) (xT:0<=p.bW/\p.bW<=2):(p.bW=0/\gg p M=(iA M 7 p.eE,{ p with head:=(iA M 7 p.eE).fi,bW:=if jn (iA M 7 p.eE).fi<0 then 3 else 1 },M)) \/
 (p.bW=1/\gg p M=(iA M 8 (jn p.head),{ p with next:=(iA M 8 (jn p.head)).fi,bW:=2 },M)) \/
 (p.bW=2/\∃w,w=oU p.head (qg.wrap (qg.wrap p.next-1))/\gg p M=(F6 M 7 p.eE p.head w,if (F6 M 7 p.eE p.head w).done=true then { p with bW:=3,block:=jn p.head } else { p with bW:=0 },UY M 7 p.eE p.head w)):=by
 unfold gg;by_cases h0:p.bW=0;exact .inl ⟨h0,aA h0⟩;by_cases h1:p.bW=1;exact .inr (.inl ⟨h1,by rw [aw h0,aA h1]⟩);have h2:p.bW=2:=by omega
 exact .inr (.inr ⟨h2,_,rfl,by rw [aw h0,aw h1,aA h2]⟩)
theorem Sc (hc:cX c) (hM:k9 c nt k M) (h:ji c k s) (he:jL s) (p:pw) (hl:(s.an.length:Int)<c.an) (kJ:0<=p.eE/\p.eE<=3) (hh:j0 c p.eE p.head) (hn:og c p.eE p.next) (hb:p.block = -1) (xT:0<=p.bW/\p.bW<=2) (hat1:1<=p.bW->0<=jn p.head):rg c nt k (lh s M p):=by
 have xD:=h.mono (qz k);have GK:=rL hc;have bS:∀(b:Int),-1<=b/\b<c.nb->(0<=b->dU c b=p.eE)->nP c (k+1) (fx { s with aH:=.bF } p.eE b):=λb hb Y9=>by
  refine GZ (s:={ s with aH:=.bF }) hc ?_ ?_ rfl hl _ _ hb Y9;exact xD.to;exact he.to rfl rfl rfl rfl rfl
 unfold lh;rcases yh p M xT with ⟨h0,e0⟩|⟨h0,e0⟩|⟨h0,w,hw,e0⟩;rw [e0];have hg:=E3 hc hM 1 kJ.1 kE;dsimp only;refine rg.of ?_ (hM.mono (by omega));by_cases Lj:jn (iA M 7 p.eE).fi<0;rw [aA (by rw [aA Lj]),hb];exact bS _ (by omega) (λe=>by omega);rw [aw (by rw [aw Lj];decide)];refine⟨xD.to,he.to rfl rfl rfl rfl rfl,hl,kJ,hg,hn,hb,?_,λ_=>?_⟩;dsimp only;rw [aw Lj];omega;show 0<=jn (iA M 7 p.eE).fi;omega;rw [e0];have ht:=hat1 (by omega);have hg:=TC hc hM 1 ht kE;rw [hh.2.2 ht] at hg;dsimp only;rw [aw (by decide)];exact⟨⟨xD.to,he.to rfl rfl rfl rfl rfl,hl,kJ,hh,hg,hb,by dsimp only;omega,λ_=>ht⟩,hM.mono (by omega)⟩;rw [e0];dsimp only;have ht:=hat1 (by omega);have ER:=hn.1;have AK:=hn.2.1;have h64:=hc.nb;have jx:qg.wrap (qg.wrap p.next-1)=p.next-1:=by
  rw [ar (x:=p.next) (by omega) (by omega),ar (by omega) (by omega)]
 rw [jx] at hw;refine rg.of ?_ (hM.op (by omega) _ _ _ λ_=>⟨λ_=>?_,λe=>by omega,λe=>by omega,λe=>by omega⟩);by_cases lQ:(F6 M 7 p.eE p.head w).done=true;rw [aA (by rw [aA lQ]),aA lQ];exact bS _ ⟨by dsimp only;omega,hh.2.1⟩ hh.2.2;rw [aw (by rw [aw lQ];show ¬(0:Int)=3;decide),aw lQ];exact⟨xD.to,he.to rfl rfl rfl rfl rfl,hl,kJ,hh,hn,hb,by dsimp only;omega,λe=>by dsimp only at e;omega⟩;show j0 c p.eE w;rw [hw];exact Fu hc (by omega) λe=>hn.2.2 (by omega)
theorem wx (p:fK) (M:Mm) (xT:0<=p.bW/\p.bW<=2):(p.bW=0/\dD p M=(iA M 7 p.eE,{ p with head:=(iA M 7 p.eE).fi,bW:=1 },M)) \/
 (p.bW=1/\∃w,w=qd.wrap (qg.wrap (jn p.head+1))/\dD p M=(Do M 8 p.block w,{ p with bW:=2 },yb M 8 p.block w)) \/
 (p.bW=2/\∃w,w=oU p.head p.block/\dD p M=(F6 M 7 p.eE p.head w,{ p with bW:=if (F6 M 7 p.eE p.head w).done=true then 3 else 0 },UY M 7 p.eE p.head w)):=by
 unfold dD;by_cases h0:p.bW=0;exact .inl ⟨h0,aA h0⟩;by_cases h1:p.bW=1;exact .inr (.inl ⟨h1,_,rfl,by rw [aw h0,aA h1]⟩);have h2:p.bW=2:=by omega
 exact .inr (.inr ⟨h2,_,rfl,by rw [aw h0,aw h1,aA h2]⟩)
theorem P8 (hc:cX c) (hM:k9 c nt k M) (h:ji c k s) (p:fK) (HC:s.aC≠1) (cD:s.au<s.an.length) (hbk:p.block=s.an.getD s.au 0) (kJ:p.eE=dU c p.block) (hh:j0 c p.eE p.head) (xT:0<=p.bW/\p.bW<=2):rg c nt k (iL s M p):=by
 have xD:=h.mono (qz k);have hb:=h.Rt _ (wJ cD);rw [<-hbk] at hb;have xC:=AD hc p.block hb;rw [<-kJ] at xC;unfold iL;rcases wx p M xT with ⟨h0,e0⟩|⟨h0,w,hw,e0⟩|⟨h0,w,hw,e0⟩;rw [e0];have hg:=E3 hc hM 1 xC.1.1 kE;dsimp only;rw [aw (by decide)];exact⟨⟨xD.to,HC,cD,hbk,kJ,hg,by dsimp only;omega⟩,hM.mono (by omega)⟩;rw [e0];dsimp only;rw [aw (by decide)];refine⟨⟨xD.to,HC,cD,hbk,kJ,hh,by dsimp only;omega⟩,hM.op (by omega) _ _ _ λ_=>⟨λe=>by omega,λ_=>?_,λe=>by omega,λe=>by omega⟩⟩;have htop:=J0 hh.1;have h64:=hc.nb;have ht2:=hh.2.1;have jx:qd.wrap (qg.wrap (jn p.head+1))=jn p.head+1:=by
  rw [ar (by omega) (by omega),ax (by omega) (by omega)]
 show og c (dU c p.block) w;rw [hw,jx,<-kJ];refine⟨by omega,by omega,λe=>?_⟩;rw [show jn p.head+1-1=jn p.head by omega];exact hh.2.2 (by omega);rw [e0];dsimp only;refine rg.of ?_ (hM.op (by omega) _ _ _ λ_=>⟨λ_=>?_,λe=>by omega,λe=>by omega,λe=>by omega⟩);by_cases lQ:(F6 M 7 p.eE p.head w).done=true;rw [aA (by rw [aA lQ])];refine zm hc ?_;refine { xD.to (s':={ s with aH:=.bF }) rfl rfl rfl rfl rfl rfl rfl rfl rfl rfl with push:=?_ };show s.au+1<=s.an.length;omega;rw [aw (by rw [aw lQ];decide)];refine⟨xD.to,HC,cD,hbk,kJ,hh,?_⟩;dsimp only;rw [aw lQ];omega;show j0 c p.eE w;rw [hw];exact Fu hc hb.2 λ_=>kJ.symm
theorem TB (hM:k9 c nt k M) (fI cL:Int) (g:Int->Int×Bool):kB k (eU M fI 2 cL g).fi:=by
 rcases tT M fI 2 cL g with h|⟨_,h⟩;rw [h];exact .zero k;rw [h];exact hM.orc _
theorem IS {k:Nat} {x:Int} (h:kB k x):ng x<0↔x % 64=0:=by
 have h1:=h.1;unfold ng;rw [qU h1,ar (x:=x % 64) (by omega) (by omega),ar (by omega) (by omega)];omega
theorem za {k:Nat} (hk:k<2^41) {l:ik} (h:yE k l) (hl:l.fH=true) (ht:0<=l.aj/\l.aj<16):ia l=l.dF+l.aj+1:=by
 have h1:=h.dF.1;have h2:=h.dF.2.1;have h3:=h.load hl;unfold ia;rw [ax (x:=l.aj) (by omega) (by omega),ax (x:=l.dF+l.aj) (by omega) (by omega),ax (by omega) (by omega)]
theorem KS (l:ik) (hM:k9 c nt k M) (hk:k<2^40) (ht:0<=l.aj/\l.aj<16) (h3:l.dT.length<l.ao.length) (hI:yE k l):(dW l M).2.1.ao=l.ao/\(dW l M).2.1.aj=l.aj/\(dW l M).2.1.dT.length<=l.ao.length/\yE (k+1) (dW l M).2.1/\k9 c nt (k+1) (dW l M).2.2:=by
 have hI1:=hI.mono (qz k);unfold dW;dsimp only;split;exact⟨rfl,rfl,by dsimp only;omega,hI1,hM.mono (by omega)⟩;split;have hg:=TB hM 1 (dK l) kE;refine⟨rfl,rfl,by dsimp only;omega,⟨hg.mono (by omega),λe=>?_,hI1.dT⟩,hM.mono (by omega)⟩;exact(IS hg).1 (by simpa using e);rename_i IU;have Ll:l.fH=true:=by simpa using IU
 have h1:=hI.dF.1;have h2:=hI.dF.2.1;have h4:=hI.load Ll;refine⟨rfl,rfl,?_,⟨hI1.dF,λe=>(by cases e),?_⟩,hM.opO (by omega) _ _ ?_⟩;dsimp only;split;simp;omega;omega;dsimp only;split;intro w hw;rw [qQ] at hw;rcases hw with hw|hw;exact hI1.dT w hw;have:w=l.dF:=by simpa using hw
 subst this;exact⟨hI1.dF,h4⟩;exact hI1.dT;show kB (k+1) (ia l);rw [za (by omega) hI Ll ht];refine⟨by omega,by omega,by omega⟩
theorem Qh (hM:k9 c nt k M) (hk:k<2^40) (h:ji c k s) (l:ik) (hs:s.aP=some l) (hn:s.aL=none/\s.au=0/\s.am=false) (HC:s.aC=1) (dy:s.il=true) (h1:l.ao=s.ao) (h2:l.aj=s.aj) (h3:l.dT.length<l.ao.length) (hI:yE k l) (hd:s.aH=.eh):rg c nt k (ip s M l):=by
 have xD:=h.mono (qz k);obtain⟨g1,g2,g3,g5,g4⟩:=KS l hM hk (by rw [h2];exact h.Mb) h3 hI;unfold ip;dsimp only;refine rg.of ?_ (g4);split;rename_i lQ;have Y7:(dW l M).2.1.dT.length=(dW l M).2.1.ao.length:=by simpa [ik.done] using lQ
 have ud:0<s.ao.length:=by rw [<-h1];omega
 refine⟨xD.to,hn.2,⟨.inr ⟨_,rfl,g1.trans h1,?_,ud,g5⟩,⟨λ_=>ud,λ_=>dy⟩⟩,_,rfl,rfl,?_⟩;show (dW l M).2.1.dT.length=s.ao.length;rw [Y7,g1,h1];show (0:Int)<=0/\(0:Int)<=((k+1:Nat):Int);omega;rename_i lQ;have Y7:¬(dW l M).2.1.dT.length=(dW l M).2.1.ao.length:=by simpa [ik.done] using lQ
 refine⟨xD.to,?_⟩;show DoI c (k+1) _ s.aH;rw [hd];refine⟨hn,⟨HC,dy⟩,_,rfl,g1.trans h1,g2.trans h2,?_,g5⟩;rw [g1] at Y7 ⊢;omega
theorem JZ (hM:k9 c nt k M) (hk:k<2^40) (t:iG) (h1:t.done=false) (h2:0<=t.dx/\t.dx<=k):(0<=(gI t M).2.1.dx/\(gI t M).2.1.dx<=k)/\k9 c nt (k+1) (gI t M).2.2:=by
 unfold gI;rw [aw (by rw [h1];decide)];split;refine⟨VY hM 4 (GM 1),hM.op (by omega) _ _ _ λ_=>⟨λe=>by omega,λe=>by omega,λ_=>?_,λe=>by omega⟩⟩;have hg:=hM.XT;show 0<=qd.wrap ((M 3).getD 0 0+1)/\qd.wrap ((M 3).getD 0 0+1)<=((k+1:Nat):Int);rw [ax (by omega) (by omega)];omega;exact⟨h2,hM.mono (by omega)⟩
theorem PL (hM:k9 c nt k M) (hk:k<2^40) (h:ji c k s) (t:iG) (hs:s.aL=some t) (hn:s.au=0/\s.am=false) (hl:nG k s) (h1:t.done=false) (h2:0<=t.dx/\t.dx<=k) (hd:s.aH=.cU):rg c nt k (gU s M t):=by
 have xD:=h.mono (qz k);obtain⟨g1,g2⟩:=JZ hM hk t h1 h2;unfold gU;dsimp only;refine rg.of ?_ (g2);split;by_cases hz:s.set.length=0;refine⟨xD.to,?_⟩;simp only [aA hz];exact⟨hn,hl.mono (by omega),_,rfl⟩;refine⟨xD.to,?_⟩;simp only [aw hz];exact⟨hn,hl.mono (by omega),⟨_,rfl⟩,rfl,⟨0,by show 0<s.set.length;omega,rfl⟩,rfl⟩;rename_i lQ;refine⟨xD.to,?_⟩;show DoI c (k+1) _ s.aH;rw [hd];refine⟨hn,hl.mono (by omega),_,rfl,by simpa using lQ,g1.1,?_⟩;have:=g1.2;show (gI t M).2.1.dx<=((k+1:Nat):Int);omega
theorem N3 (hM:k9 c nt k M) (h:ji c k s) (ck:iw) (hn:s.au=0/\s.am=false) (hl:nG k s) (ht:∃t,s.aL=some t) (h1:ck.jG=false) (h2:∃k,k<s.set.length/\ck.ao=s.set.drop k) (h3:ck.rv=s.rv):rg c nt k (gn s M ck):=by
 have xD:=h.mono (qz k);obtain⟨q,hq,Me⟩:=h2;have Tm:ck.done=false:=by
  simp only [iw.done,h1,Me,Bool.false_or,ZG,decide_eq_false_iff_not];omega
 have e0:gm ck M=(iA M 2 (ck.ao.getD 0 0),{ ck with ao:=ck.ao.tail,jG:=decide (gr (iA M 2 (ck.ao.getD 0 0)).fi>ck.rv) },M):=by
  unfold gm;rw [aw (by rw [Tm];decide)]
 unfold gn;rw [e0];dsimp only;refine rg.of ?_ (hM.mono (by omega));split;exact wm (xD.to) hn.1 (hl.1.mono (by omega)) (λe=>by rw [show s.am=false from hn.2] at e;cases e) ht;rename_i hf;split;exact⟨xD.to,hn,hl.mono (by omega),ht⟩;rename_i lQ;refine⟨xD.to,hn,hl.mono (by omega),ht,by simpa using hf,⟨q+1,?_,?_⟩,h3⟩;simp only [iw.done,Bool.or_eq_true,decide_eq_true_eq,Me,kbo,ZG] at lQ;show q+1<s.set.length;omega;show ck.ao.tail=s.set.drop (q+1);rw [Me,kaL]
theorem LL (hM:k9 c nt k M) (h:ji c k s) (hn:s.au=0/\s.am=false) (hl:nG k s) (ht:∃t,s.aL=some t):rg c nt k (ff s M):=by
 have xD:=h.mono (qz k);have hg:=Pi hM 1 kE;have kS:ji c (k+1) { s with aB:=(iA M 3 0).fi }:=by
  refine { xD.to (s':={ s with aH:=.bF }) rfl rfl rfl rfl rfl rfl rfl rfl rfl rfl with iZ:=?_ };show 0<=(iA M 3 0).fi/\(iA M 3 0).fi<=((k+1:Nat):Int);refine⟨hg.1,?_⟩;have:=hg.2;show (eU M 1 3 0 kE).fi<=_;omega
 unfold ff;dsimp only;refine rg.of ?_ (hM.mono (by omega));split;exact wm (kS.to) hn.1 (hl.1.mono (by omega)) (λe=>by rw [show s.am=false from hn.2] at e;cases e) ht;split;rename_i dy;refine⟨kS.to,hn.1,⟨rfl,dy⟩,hl.mono (by omega),ht,0,?_,rfl⟩;have YI:s.il=true:=dy;unfold aJ.il at YI;simp only [qq,decide_eq_true_eq] at YI;exact YI.2;rename_i dy;refine wm (kS.to) hn.1 (hl.1.mono (by omega)) (λ_=>?_) ht;have:¬0<s.ao.length:=λe=>dy (hl.2.2 e);exact List.eq_nil_of_length_eq_zero (by show s.ao.length=0;omega)
theorem Mj (hM:k9 c nt k M) (h:ji c k s) (w:je) (hn:s.au=0) (vU:s.am=true/\s.il=true) (hl:nG k s) (ht:∃t,s.aL=some t) (h1:∃k,k<s.bz.bL.length/\w=⟨s.bz.bL.drop k,s.bz.fq.drop k⟩):rg c nt k (gA s M w):=by
 have xD:=h.mono (qz k);obtain⟨q,hq,rfl⟩:=h1;have ud:=hl.2.1 vU.2;unfold gA kh;rw [aw (by simp only [je.done,decide_eq_true_eq,ZG];omega)];dsimp only;refine rg.of ?_ (hM.op0 (by omega) _ _ _ (by decide));split;refine⟨xD.to,hn,λ_=>vU.2,hl.1.mono (by omega),ht,0,ud,?_⟩;show (⟨s.ao,qc s.ao.length (kF s.nJ)⟩:je)=⟨s.ao,tO _⟩;unfold tO;rw [aA (by exact vU.1)];rfl;rename_i lQ;simp only [je.done,decide_eq_true_eq,kbo,ZG] at lQ;exact⟨xD.to,hn,vU,hl.mono (by omega),ht,q+1,by show q+1<s.bz.bL.length;omega,by rw [kaL,kaL]⟩
theorem uu (h:ji c k s) (hk:k<2^40) (vU:s.am=true/\s.il=true):s.nJ=s.aB+1:=by
 have CL:=h.iZ;unfold aJ.nJ;rw [aA vU,ar (x:=s.aB) (by omega) (by omega),ar (by omega) (by omega)]
theorem R6 (hM:k9 c nt k M) (hk:k<2^40) (h:ji c k s) (w:je) (hn:s.au=0) (vU:s.am=true->s.il=true) (hl:vz k s) (ht:∃t,s.aL=some t) (h1:∃k,k<s.ao.length/\w=⟨s.ao.drop k,(tO s).drop k⟩):rg c nt k (mF s M w):=by
 have xD:=h.mono (qz k);obtain⟨q,hq,rfl⟩:=h1;unfold mF gM;rw [aw (by simp only [je.done,decide_eq_true_eq,ZG];omega)];dsimp only;have kc:kB (k+1) (((tO s).drop q).getD 0 0):=by
  have e:((tO s).drop q).getD 0 0=(tO s).getD q 0:=by simp [ql]
  rw [e];unfold tO;split;rename_i Ln;have hv:=uu h hk ⟨Ln,vU Ln⟩;have CL:=h.iZ;rw [ql,kaC,aA hq];show kB (k+1) (kF s.nJ);rw [hv];unfold kF;rw [aA (by omega)];exact⟨by omega,by omega,by omega⟩;rcases hl with ⟨hl,_⟩|⟨l,h1,h2,h3,h4,h5⟩;rw [hl] at hq;simp at hq;unfold aJ.dT;rw [h1];rcases Lw l.dT q with e|e;show kB (k+1) (l.dT.getD q 0);rw [e];exact .zero _;exact(h5.dT _ e).1.mono (by omega)
 refine rg.of ?_ (hM.opO (by omega) _ _ kc);by_cases lQ:je.done ⟨(s.ao.drop q).tail,((tO s).drop q).tail⟩=true;by_cases hv:0<=s.nJ;refine⟨xD.to,?_⟩;simp only [aA lQ,aA hv];refine⟨hn,?_,ht⟩;show s.am=true/\s.il=true;have:s.am=true:=by
  cases e:s.am with
  | true=>rfl
  | false=>unfold aJ.nJ at hv;rw [aw (by rw [e];simp)] at hv;omega
 exact⟨this,vU this⟩;refine⟨xD.to,?_⟩;simp only [aA lQ,aw hv];exact⟨hn,ht⟩;refine⟨xD.to,?_⟩;simp only [aw lQ];simp only [je.done,decide_eq_true_eq,kbo,ZG] at lQ;exact⟨hn,vU,hl.mono (by omega),ht,q+1,by show q+1<s.ao.length;omega,by rw [kaL,kaL];rfl⟩
theorem xj (hc:cX c) (hk:k<2^40) (h:nP c k s) (hM:k9 c nt k M):rg c nt k (bC s M):=by
 have hb:=h.b;have xD:=hb.mono (qz k);have hd:=h.d;have hMs:=hM.mono (qz k);unfold bC;cases e:s.aH with
 | bF=>exact⟨h.mono (qz k),hMs⟩
 | iP l=>
   rw [e] at hd;refine rg.of ?_ hMs;refine Vo hc ?_ ?_ rfl l hd.2;exact xD.to;exact hd.1.to rfl rfl rfl rfl rfl
 | ei=>
   rw [e] at hd;obtain⟨h0,en,h1,h2,h3,h4⟩:=hd;dsimp only;rw [h1];exact NW hM hb h0 en h2 h3 h4 e
 | bh r u=>
   rw [e] at hd;obtain⟨h0,h1,h2,h3,h4,h5,h6⟩:=hd;exact P7 hc hM hb h0 r u e h1 h2 h3 h4 h5 h6
 | eO p=>
   rw [e] at hd;obtain⟨h0,h1,h2,h3,h4,h5,h6,h7⟩:=hd;exact Sc hc hM hb h0 p h1 h2 h3 h4 h5 h6 h7
 | eh=>
   rw [e] at hd;obtain⟨h0,Mf,l,h1,h2,h3,h4,h5⟩:=hd;dsimp only;rw [h1];exact Qh hM hk hb l h1 h0 Mf.1 Mf.2 h2 h3 h4 h5 e
 | cU=>
   rw [e] at hd;obtain⟨h0,hl,t,h1,h2,h3⟩:=hd;dsimp only;rw [h1];exact PL hM hk hb t h1 h0 hl h2 h3 e
 | cM ck=>
   rw [e] at hd;obtain⟨h0,hl,ht,h1,h2,h3⟩:=hd;exact N3 hM hb ck h0 hl ht h1 h2 h3
 | bK=>
   rw [e] at hd;obtain⟨h0,hl,ht⟩:=hd;exact LL hM hb h0 hl ht
 | di w=>
   rw [e] at hd;obtain⟨h0,vU,hl,ht,h1⟩:=hd;exact Mj hM hb w h0 vU hl ht h1
 | bH w=>
   rw [e] at hd;obtain⟨h0,vU,hl,ht,h1⟩:=hd;exact R6 hM hk hb w h0 vU hl ht h1
 | fb=>
   rw [e] at hd;refine⟨⟨xD.to,hd.1,hd.2.2⟩,hM.op (by omega) _ _ _ λ_=>⟨λe=>by omega,λe=>by omega,λ_=>?_,λe=>by omega⟩⟩;have CL:=hb.iZ;show 0<=qd.wrap (s.aB+1)/\qd.wrap (s.aB+1)<=((k+1:Nat):Int);rw [ax (by omega) (by omega)];omega
 | ey=>
   rw [e] at hd;exact⟨zm hc xD,hM.op0 (by omega) _ _ _ (by decide)⟩
 | eL p=>
   rw [e] at hd;obtain⟨h0,h1,h2,h3,h4,h5⟩:=hd;exact P8 hc hM hb p h0 h1 h2 h3 h4 h5
 | ic=>
   exact⟨⟨xD.to,λe=>absurd rfl e⟩,hM.op0 (by omega) _ _ _ (by decide)⟩
theorem uh (h:nP c k s) {st:Int} (dy:st≠2) (hf:s.mi st=true):jL s/\s.aH=.bF/\s.aF=st:=by
 simp only [aJ.mi,qq,decide_eq_true_eq] at hf;have hd:s.aH=.bF:=by
  have h1:=hf.1;revert h1;cases s.aH<;>simp [bD.fY]
 have Rl:=h.d;rw [hd] at Rl;exact⟨Rl (by rw [hf.2];exact dy),hd,hf.2⟩
theorem B9 (h:nP c k s):nP c k (fU s).2:=by
 unfold fU;split;rename_i hf;obtain⟨he,hd,hs⟩:=uh h (by decide) hf;exact⟨h.b.to,he.to rfl rfl rfl rfl rfl,_,rfl,by show (0:Int)<=0/\(0:Int)<=k;omega,by show (0:Int)<=0/\(0:Int)<=2;omega,rfl⟩;exact h
theorem D8 (h:nP c k s) (he:jL s) (a:Int) (ha:0<=a/\a<c.be+c.nb) (u:zH) (hu:WA c u):nP c k (ux s a u):=by
 refine⟨h.b.to,he.to rfl rfl rfl rfl rfl,by show (0:Int)<=0/\(0:Int)<=2;omega,?_,rfl,hu,ha,rfl⟩;show gw s.cf a=gw c a;rw [h.b.cf]
theorem R9 (hc:cX c) (h:nP c k s) (a:Int) (ha:0<=a):nP c k (Hm s a).2:=by
 have GK:=rL hc;unfold Hm;split;rename_i hf;obtain⟨he,hd,hs⟩:=uh h (by decide) hf;split;exact⟨h.b.to,he.to rfl rfl rfl rfl rfl,trivial⟩;rename_i hn;rw [h.b.cf] at hn;split;exact⟨h.b.to,he.to rfl rfl rfl rfl rfl,trivial⟩;exact D8 h he a (by omega) .take trivial;exact h
theorem Ry (h:nP c k s) (a v:Int) (ha:0<=a):nP c k (F1 s a v).2:=by
 unfold F1;split;rename_i hf;obtain⟨he,hd,hs⟩:=uh h (by decide) hf;exact⟨h.b.to,he.to rfl rfl rfl rfl rfl,ha⟩;exact h
theorem alS_ok (hc:cX c) (h:nP c k s) (eE:Int):nP c k (L0 s eE).2:=by
 have GK:=rL hc;unfold L0;split;rename_i hf;obtain⟨he,hd,hs⟩:=uh h (by decide) hf;split;exact h;split;exact⟨h.b.to,he.to rfl rfl rfl rfl rfl,trivial⟩;rename_i h1 h2;rw [h.b.cf] at h2;exact⟨h.b.to,he.to rfl rfl rfl rfl rfl,by show (s.an.length:Int)<c.an;omega,by dsimp only;omega,.zero hc _,.zero hc _,rfl,by dsimp only;omega,λe=>by dsimp only at e;omega⟩;exact h
theorem QK (hc:cX c) (a:Int):kU c a<0\/(0<=kU c a/\kU c a<c.nb):=by
 unfold kU;split;rename_i b hb;have hm:=List.mem_of_find?_eq_some hb;have:=List.mem_range.1 hm;have GK:=rL hc;right;omega;left;decide
theorem frS_ok (hc:cX c) (h:nP c k s) (a:Int):nP c k (LA s a).2:=by
 have hw:=hc.be;have pn:=h.b.cf;subst pn;unfold LA;split;rename_i hf;obtain⟨he,hd,hs⟩:=uh h (by decide) hf;split;exact⟨h.b.to,he.to rfl rfl rfl rfl rfl,trivial⟩;rename_i hn;have up:=QK hc a;split;exact⟨h.b.to,he.to rfl rfl rfl rfl rfl,by show 0<=kU s.cf a/\kU s.cf a<s.cf.nb;omega⟩;exact D8 h he _ (by omega) _ (by show 0<=kU s.cf a/\kU s.cf a<s.cf.nb;omega);exact h
theorem NY (h:nP c k s) (aC:Int):nP c k (Dk s aC).2:=by
 unfold Dk;split;rename_i hf;obtain⟨he,hd,hs⟩:=uh h (by decide) hf;split;exact h;exact⟨h.b.to,he.to rfl rfl rfl rfl rfl,trivial⟩;exact h
theorem M3 (w:Nat) (hw:w<=32):oX (iX w)/\(iX w).eA=w/\(iX w).index.length<=64:=by
 have:∀w:Fin 33,oX (iX (w:Nat))/\(iX (w:Nat)).eA=w/\(iX (w:Nat)).index.length<=64:=by
  intro w;have IY:(iX (w:Nat)).eA=w:=by simp [iX]
  have hw:=w.2;have BY:(iX (w:Nat)).bL=[]:=rfl;have hval:(iX (w:Nat)).fq=[]:=rfl;have YY:∃n,(iX (w:Nat)).index=qc n (-1)/\(w:Nat)<n/\n<=64:=by
   refine⟨_,rfl,?_⟩;constructor
   . repeat' split
     all_goals omega
   repeat' split
   all_goals omega
  obtain⟨n,hn,ER,AK⟩:=YY;have hixv:∀q,ix (iX (w:Nat)).index q = -1:=by
   intro q;unfold ix;rw [hn,ql];by_cases hq:q<n;rw [kaC,aA hq];rfl;rw [qN (by simp;omega)];rfl
  refine⟨⟨by rw [BY,hval],by rw [BY];simp,by rw [IY,hn];simpa using ER,by rw [BY];simp,λq _=>by rw [hixv,BY];simp,?_,λe he=>by rw [BY] at he;simp at he,λi j hi=>by rw [BY] at hi;simp at hi⟩,IY,by rw [hn];simpa using AK⟩;rw [BY,hn];unfold wN;rw [List.countP_replicate];simp
 exact this ⟨w,by omega⟩
theorem yY (hc:cX c) (k:Nat) (t:Int) (ht:0<=t/\t<16):nP c k (eP c t):=by
 have hw:=hc.bP;obtain⟨w,hwn⟩:∃w:Nat,c.bP=w:=⟨c.bP.toNat,by omega⟩;obtain⟨h1,h2,h3⟩:=M3 w (by omega);have ha:=hc.an;have hf:=hc.ay;have e:(eP c t).bz=iX w:=by unfold eP;rw [hwn]
 refine⟨⟨rfl,ht,by rw [e];exact h1,by rw [e,h2,hwn];rfl,by rw [e];exact h3,by rw [e];exact λa ha=>(by cases ha),λx hx=>(by cases hx),by show ((0:Nat):Int)<=c.an;omega,qf _,Nat.zero_le _,List.nodup_nil,λa ha=>(by cases ha),by show ((0:Nat):Int)<=c.ay;omega,by show (0:Int)<=0/\(0:Int)<=k;omega,Nat.zero_le _,λx hx=>(by cases hx)⟩,λ_=>⟨rfl,rfl,rfl,rfl,rfl⟩⟩
end
theorem Qa {c:br} {M:Mm} (p:pw) (xT:0<=p.bW/\p.bW<=2) (hc:cX c) (hh:j0 c p.eE p.head) (hb:p.block = -1):(gg p M).2.1.block<c.nb:=by
 have GK:=rL hc;rcases yh p M xT with ⟨h0,e0⟩|⟨h0,e0⟩|⟨h0,w,hw,e0⟩;rw [e0];dsimp only;omega;rw [e0];dsimp only;omega;rw [e0];dsimp only;split;exact hh.2.1;dsimp only;omega
end
section
variable [Gl]
theorem Et:∀(n:Nat) (l:List Int),l.Nodup->(∀a∈l,0<=a/\a<(n:Int))->l.length<=n
 | 0,l,_,h=>by
   cases l with
   | nil=>simp
   | cons a t=>have:=h a (by simp);omega
 | n+1,l,hn,h=>by
   have h1:=Et n (l.erase (n:Int)) (hn.erase _) λa ha=>by
    have h2:=(List.Nodup.mem_erase_iff hn).1 ha;have h3:=h a h2.2;have h4:=h2.1;omega
   rw [List.length_erase] at h1;split at h1<;>omega
variable {c:br} {nt k:Nat} {M:Mm} {s:aJ}
theorem ji.Wj (hc:cX c) (h:ji c k s):gL s:=by
 have pn:=h.cf;have GK:=hc.nb;have hw:=hc.be;refine⟨pn▸hc,?_,h.bz,?_,h.cL,?_,?_,?_,h.push,pn▸h.set,?_,?_⟩;have:=h.Mb;omega;have:=h.eA;have:=hc.bP;omega;intro a ha;have:=h.HN a ha;omega;intro a ha;have:=h.Rt a ha;omega;have:=h.nC;have:=hc.an;omega;have:=Et c.be.toNat s.reads h.X4 λa ha=>by have:=h.X1 a ha;omega
 omega;have:=h.Dj;have:=hc.ay;omega
theorem ji.kL (hc:cX c) (h:ji c k s):s.reads.length<=64:=by
 have hw:=hc.be;have:=Et c.be.toNat s.reads h.X4 λa ha=>by have:=h.X1 a ha;omega
 omega
theorem vz.orOk (h:vz k s) (ho:s.ao.length<=64):Ur s:=by
 refine⟨by omega,?_⟩;rcases h with h|⟨l,h1,h2,h3,h4,h5⟩;left;rw [h.1];rfl;right;exact⟨l,h1,h3.symm⟩
theorem nP.XU (hc:cX c) (h:nP c k s) (hM:k9 c nt k M):JC s M:=by
 have hb:=h.b;have hC:=hb.Wj hc;have pn:=hb.cf;have hd:=h.d;refine⟨hC,?_⟩;have ho:=hb.orl;cases e:s.aH with
 | bF=>trivial
 | iP l=>
   rw [e] at hd;cases l with
   | lU a v=>exact hd.2
   | dg b v=>show 0<=b/\b<s.cf.nb;rw [pn];exact hd.2
   | _=>trivial
 | ei=>
   rw [e] at hd;obtain⟨h0,en,h1,h2⟩:=hd;exact⟨en,h1⟩
 | bh r u=>
   rw [e] at hd;obtain⟨h0,h1,h2,h3,h4,h5,h6⟩:=hd;refine⟨by have:=hb.kL hc;omega,h1,pn▸h2,?_⟩;cases u with
   | take=>trivial
   | dg b=>show 0<=b/\b<s.cf.nb;rw [pn];exact h4
 | eO p=>
   rw [e] at hd;obtain⟨h0,h1,h2,h3,h4,h5,h6,h7⟩:=hd;refine⟨?_,h2,?_⟩;have:=hc.an;omega;rw [pn];exact Qa p h6 hc h3 h5
 | eh=>
   rw [e] at hd;obtain⟨h0,Mf,l,h1,h2,h3,h4,h5⟩:=hd;exact⟨l,h1,by omega,by rw [h2];omega⟩
 | cU=>
   rw [e] at hd;obtain⟨h0,hl,t,h1,h2,h3⟩:=hd;exact⟨t,h1⟩
 | cM ck=>
   rw [e] at hd;exact hd.2.1.1.orOk ho
 | bK=>
   rw [e] at hd;exact hd.2.1.1.orOk ho
 | di w=>
   rw [e] at hd;obtain⟨_,_,_,_,q,h1,h2⟩:=hd;have:=hb.bz.Nf;refine⟨by rw [h2];simp only [ZG];omega,by omega⟩
 | bH w=>
   rw [e] at hd;obtain⟨_,_,hl,_,q,h1,h2⟩:=hd;show w.os.length=w.ws.length;rw [h2];have:(tO s).length=s.ao.length:=by
    unfold tO;split;simp;rcases hl with hl|⟨l,h3,h4,h5,h6,h7⟩;rw [hl.1] at h1;simp at h1;unfold aJ.dT;rw [h3];exact h5
   simp only [ZG];omega
 | fb=>trivial
 | ey=>
   rw [e] at hd;exact hd.2
 | eL p=>
   rw [e] at hd;exact hd.2.1
 | ic=>trivial
end
section
open T7
variable [Gl]
structure pK (c:br):Prop where
 ok:cX c
 c0:c.c0=0\/c.c0=1\/c.c0=2
 c1:c.c1=0\/c.c1=1\/c.c1=2
 c2:c.c2=0
 c3:c.c3=0
theorem Oo.few {c:br} (h:Oo c):pK c:=by
 have h1:=h.ok.k0;have h2:=h.ok.k1;have h3:=h.c0;have h4:=h.c1;exact⟨h.ok,by omega,by omega,h.c2,h.c3⟩
def tm (n0 n1:Int):List Int:=[rP 0 (if 0<n0 then 0 else -1),rP 0 (if 0<n1 then n0 else -1),rP 0 (-1),rP 0 (-1)]
def tW (n0 n1:Int):List Int:=(if n0=2 then [2,0] else if n0=1 then [0] else [])++(if n1=2 then [n0+2,0] else if n1=1 then [0] else [])
theorem ah.WS {A:AW} {L K:List It} {b:Nat} {k:IntKind} (l:List Int) (n:Nat) (h:ah A L) (hp:aE L (.at b (.cells (l.map (.int k)) true 1)) K) (hn:n=l.length):ah A (.h (av k (.slice (some ⟨b,0,none⟩) n n) l)::K):=by
 subst hn;unfold ah at h;rw [hp.aM] at h;exact av.mk rfl (qf _) (by simp) (by rw [Za,List.take_of_length_le (by simp)]) h
theorem Nb (c:br) (hc:pK c) (A:AW) (F:HP) (hw:A.Wf) (hS:ah A [.h F]) :
 aD Tryz.prog 58 [c.v] A (λv A'=>∃vh vn,v=.tuple #[vh,vn]/\ah A' [.h (av .u64 vh (tm c.c0 c.c1)),.h (av .u64 vn (tW c.c0 c.c1)),.h F]):=by
 obtain⟨be,ao,base,n0,n1,n2,n3,reads,bP,an,ay,aB,aW⟩:=c;obtain⟨ok,h0,h1,h2,h3⟩:=hc;dsimp only at h0 h1 h2 h3 ⊢;subst h2 h3;obtain⟨q,hqn⟩:∃q:Nat,(q:Int)=n0+n1:=⟨(n0+n1).toNat,by omega⟩;have h4:q=0\/q=1\/q=2\/q=3\/q=4:=by omega
 rcases h0 with rfl|rfl|rfl<;>rcases h1 with rfl|rfl|rfl<;>rcases h4 with YL|YL|YL|YL|YL<;>(try (exfalso;omega))
 all_goals(
  have hb:=wY _ ok;refine aN Tryz.func58 λ_=>?_;dsimp only [br.nb,br.v] at hb ⊢;simp only [Int.add_zero,Int.zero_add,Int.reduceAdd] at hb
  all_goals(revert hS hw;refine W (J1 @hb) (J1 bE) ?_<;>unhygienic intros)
  refine iO 5 ?_
  all_goals(revert hS hw;(repeat first|clear hS|clear hw|revert hc|revert R|revert K);refine W (J1 @nV) (J1 bE) ?_<;>unhygienic intros)
  refine iO 3 ?_
  all_goals(revert hS hw;(repeat first|clear hS|clear hw|revert hc|revert R|revert K);refine W (J1 @nV) (J1 bE) ?_<;>unhygienic intros)
  refine iO 3 ?_
  all_goals(revert hS hw;(repeat first|clear hS|clear hw|revert hc|revert R|revert K);refine W (J1 @nV) (J1 bE) ?_<;>unhygienic intros)
  refine iO 3 ?_
  all_goals(revert hS hw;(repeat first|clear hS|clear hw|revert hc|revert R|revert K);refine W (J1 @nV) (J1 bE) ?_<;>unhygienic intros)
  refine iO 3 ?_
  all_goals(revert hS hw;(repeat first|clear hS|clear hw|revert hc|revert R|revert K);refine W (J1 @nV) (J1 bE) ?_<;>unhygienic intros)
  refine⟨_,by first|(simp [YL];done)|(simp [YL];rfl),.slice (some ⟨A.next+1,0,none⟩) 4 4,.slice (some ⟨A.next+1+1,0,none⟩) q q,rfl,?_⟩;refine ah.bS (L:=[.h (av .u64 _ _),.h (av .u64 _ _),.h F]) ?_ (.s .z (.s .z (.s .z .z)));refine ah.WS (k:=.u64) (b:=A.next+1) _ 4 (ah.WS (k:=.u64) (b:=A.next+1+1) _ q (L:=[.at (A.next+1+1) _,.at (A.next+1) _,.h F]) ?_ .z (by rw [YL];rfl)) (.s .z) rfl;apply ah.bS
  . repeat' (first|exact hS|exact qf _|with_reducible apply ah.gy|with_reducible apply ah.Uk|with_reducible apply AW.KC|with_reducible apply AW.Su|with_reducible apply aE.z|with_reducible apply aE.s|assumption|apply AW.Wf.alloc|apply AW.Wf.set|(simp only [AW.bd,AW.rA];omega)|exact rfl)
  first|exact pA|exact kA)
end
end Go.Stx
