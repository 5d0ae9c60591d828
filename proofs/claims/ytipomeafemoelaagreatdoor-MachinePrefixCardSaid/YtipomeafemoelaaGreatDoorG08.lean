/-
 One attempt, without the program: what always holds of the cells and of its state.
-/
import Derived.Test.YtipomeafemoelaaGreatDoorG07
set_option linter.unusedVariables false
set_option linter.unusedSimpArgs false
set_option linter.unusedSectionVars false
set_option maxRecDepth 20000
set_option maxHeartbeats 4000000
namespace Go.Stx
open Go Go.Proofs
attribute [local irreducible] cM aS ax aH cJ de TW bA
section
variable [Gl]
theorem Jh (l:List Int) (i:Nat):l.getD i 0=0\/l.getD i 0∈l:=by
 rw [List.getD_eq_getElem?_getD];by_cases h:i<l.length;rw [List.getElem?_eq_getElem h];exact .inr (List.getElem_mem h);rw [List.getElem?_eq_none (by omega)];exact .inl rfl
theorem rM (M:Mm) (gu cell dJ:Int) (g:Int->Int×Bool):(gn M gu cell dJ g).fA=0\/(jh M cell dJ=true/\(gn M gu cell dJ g).fA=(ny M cell).getD dJ.toNat 0):=by
 unfold gn;split;rename_i h;exact .inr ⟨h,rfl⟩;exact .inl rfl
theorem Kj (M:Mm) (cell dJ v:Int) (k:Nat):(setRow M cell dJ v k).length=(M k).length:=by
 unfold setRow;split<;>simp
theorem qH (M:Mm) (cell dJ:Int) (g:Int->Int×Bool) (k:Nat):(sc M cell dJ g k).length=(M k).length:=by
 unfold sc;split;exact Kj _ _ _ _ _;rfl
theorem Cu (M:Mm) (cell dJ:Int) (g:Int->Int×Bool) (k j:Nat) :
 (sc M cell dJ g k).getD j 0=(M k).getD j 0\/(jh M cell dJ=true/\k=(cell-1).toNat/\j=dJ.toNat/\(sc M cell dJ g k).getD j 0=(g ((ny M cell).getD dJ.toNat 0)).1):=by
 unfold sc;split;rename_i hc;unfold setRow;split;rename_i e;by_cases hj:j=dJ.toNat;by_cases hl:j<(M k).length;refine .inr ⟨hc.1,e,hj,?_⟩;subst hj;rw [List.getD_eq_getElem?_getD,List.getElem?_set_self hl];rfl;left;simp only [List.getD_eq_getElem?_getD];rw [List.getElem?_eq_none (by simp;omega),List.getElem?_eq_none (by omega)];left;simp only [List.getD_eq_getElem?_getD];rw [List.getElem?_set_ne (Ne.symm hj)];exact .inl rfl;exact .inl rfl
theorem AK {M:Mm} {cell dJ:Int} (h:jh M cell dJ=true):(1<=cell/\cell<=8)/\0<=dJ/\dJ<(M (cell-1).toNat).length:=by
 unfold jh ny at h;split at h;rename_i hh;refine⟨hh,?_⟩
 simpa using h
 simp at h;omega
def j8 (k:Nat) (x:Int):Prop:=0<=x/\x / 64<=k/\x % 64<=16
theorem j8.mono {k k':Nat} {x:Int} (h:j8 k x) (hk:k<=k'):j8 k' x:=⟨h.1,by have:=h.2.1;omega,h.2.2⟩
theorem j8.zero (k:Nat):j8 k 0:=⟨by omega,by omega,by omega⟩
def jH (c:bq) (eH x:Int):Prop:=0<=x/\iV x<c.nb/\(0<=iV x->dL c (iV x)=eH)
def nJ (c:bq) (eH x:Int):Prop:=0<=x/\x<=c.nb/\(0<x->dL c (x-1)=eH)
theorem qb {c:bq} (hc:db c):0<=c.nb:=by
 have h0:=hc.k0;have h1:=hc.k1;have h3:=hc.k2;have h4:=hc.k3;have e:c.nb=c.c0+c.c1+c.c2+c.c3:=rfl;omega
theorem zg:iV 0 = -1:=by decide
theorem jH.zero {c:bq} (hc:db c) (eH:Int):jH c eH 0:=by
 have h:=qb hc;refine⟨by omega,by rw [zg];omega,λe=>?_⟩;rw [zg] at e;omega
theorem nJ.zero {c:bq} (hc:db c) (eH:Int):nJ c eH 0:=⟨by omega,qb hc,λe=>by omega⟩
structure lR (c:bq) (nt k:Nat) (M:Mm):Prop where
 l0:((M 0).length:Int)=c.ba+c.nb
 l1:((M 1).length:Int)=c.ao
 l2:(M 2).length=1
 l3:(M 3).length=1
 l4:(M 4).length=1
 l5:(M 5).length=nt
 l6:(M 6).length=4
 l7:((M 7).length:Int)=c.nb
 head:∀i:Nat,jH c i ((M 6).getD i 0)
 next:∀b:Nat,nJ c (dL c b) ((M 7).getD b 0)
 jk:0<=(M 2).getD 0 0/\(M 2).getD 0 0<=k
 ZQ:0<=(M 3).getD 0 0/\(M 3).getD 0 0<=k
 orc:∀i:Nat,j8 k ((M 1).getD i 0)
theorem lR.mono {c:bq} {nt k k':Nat} {M:Mm} (h:lR c nt k M) (hk:k<=k'):lR c nt k' M:=
 ⟨h.l0,h.l1,h.l2,h.l3,h.l4,h.l5,h.l6,h.l7,h.head,h.next,by have:=h.jk;omega,by have:=h.ZQ;omega,λi=>(h.orc i).mono hk⟩
theorem lR.op {c:bq} {nt k k':Nat} {M:Mm} (h:lR c nt k M) (hk:k<=k') (cell dJ:Int) (g:Int->Int×Bool)
 (hv:jh M cell dJ=true->(cell=7->jH c dJ (g ((ny M cell).getD dJ.toNat 0)).1)/\
  (cell=8->nJ c (dL c dJ) (g ((ny M cell).getD dJ.toNat 0)).1)/\
  (cell=3\/cell=4->0<=(g ((ny M cell).getD dJ.toNat 0)).1/\(g ((ny M cell).getD dJ.toNat 0)).1<=k')/\
  (cell=2->j8 k' (g ((ny M cell).getD dJ.toNat 0)).1)):lR c nt k' (sc M cell dJ g):=by
 have hcell:jh M cell dJ=true->(1<=cell/\cell<=8)/\0<=dJ:=λh=>⟨(AK h).1,(AK h).2.1⟩;refine⟨by rw [qH];exact h.l0,by rw [qH];exact h.l1,by rw [qH];exact h.l2,by rw [qH];exact h.l3,by rw [qH];exact h.l4,by rw [qH];exact h.l5,by rw [qH];exact h.l6,by rw [qH];exact h.l7,?_,?_,?_,?_,?_⟩;intro i;rcases Cu M cell dJ g 6 i with h1|⟨h1,h2,h3,h4⟩;rw [h1];exact h.head i;have hr:=hcell h1;have:=(hv h1).1 (by omega);rw [h4];have e:dJ=(i:Int):=by omega
 rw [e] at this ⊢;exact this;intro i;rcases Cu M cell dJ g 7 i with h1|⟨h1,h2,h3,h4⟩;rw [h1];exact h.next i;have hr:=hcell h1;have:=(hv h1).2.1 (by omega);rw [h4];have e:dJ=(i:Int):=by omega
 rw [e] at this ⊢;exact this;rcases Cu M cell dJ g 2 0 with h1|⟨h1,h2,h3,h4⟩;rw [h1];have:=h.jk;omega;have hr:=hcell h1;rw [h4];exact(hv h1).2.2.1 (by omega);rcases Cu M cell dJ g 3 0 with h1|⟨h1,h2,h3,h4⟩;rw [h1];have:=h.ZQ;omega;have hr:=hcell h1;rw [h4];exact(hv h1).2.2.1 (by omega);intro i;rcases Cu M cell dJ g 1 i with h1|⟨h1,h2,h3,h4⟩;rw [h1];exact(h.orc i).mono hk;have hr:=hcell h1;rw [h4];exact(hv h1).2.2.2 (by omega)
theorem lR.W8 {c:bq} {nt k k':Nat} {M:Mm} (h:lR c nt k M) (hk:k<=k') (cell dJ:Int) (g:Int->Int×Bool) (h1:cell≠7/\cell≠8/\cell≠3/\cell≠4/\cell≠2):lR c nt k' (sc M cell dJ g):=
 h.op hk cell dJ g λ_=>⟨λe=>absurd e h1.1,λe=>absurd e h1.2.1,λe=>by rcases e with e|e;exact absurd e h1.2.2.1;exact absurd e h1.2.2.2.1,λe=>absurd e h1.2.2.2.2⟩
theorem lR.opO {c:bq} {nt k k':Nat} {M:Mm} (h:lR c nt k M) (hk:k<=k') (dJ:Int) (g:Int->Int×Bool) (h1:j8 k' (g ((ny M 2).getD dJ.toNat 0)).1):lR c nt k' (sc M 2 dJ g):=
 h.op hk 2 dJ g λ_=>⟨λe=>by omega,λe=>by omega,λe=>by omega,λ_=>h1⟩
theorem F0 {h:Int} (h0:0<=h):iV h=h % 65536-1:=by
 unfold iV;rw [Int.tmod_eq_emod_of_nonneg h0];rw [ai (x:=h % 65536) (by omega) (by omega),ai (by omega) (by omega)]
theorem H2 {h:Int} (h0:0<=h):-1<=iV h/\iV h<=65534:=by rw [F0 h0];omega
theorem Oe (t p:Int):0<=qg t p/\(iV (qg t p)=p\/iV (qg t p) = -1):=by
 unfold qg;split;rename_i h;refine⟨by omega,.inl ?_⟩;rw [F0 (by omega)];omega;exact⟨by omega,.inr zg⟩
theorem Dz {c:bq} (hc:db c) {h p eH:Int} (hp:p<c.nb) (kv:0<=p->dL c p=eH):jH c eH (oD h p):=by
 have EM:=qb hc;obtain⟨h1,h2⟩:=Oe ((IntKind.i64.wrap (Po h+1)).tmod 281474976710656) p;refine⟨h1,?_,λh0=>?_⟩;show iV (qg _ _)<c.nb;rcases h2 with h2|h2<;>rw [h2]<;>omega;have R5:0<=iV (qg ((IntKind.i64.wrap (Po h+1)).tmod 281474976710656) p):=h0;show dL c (iV (qg _ _))=eH;rcases h2 with h2|h2;rw [h2] at R5 ⊢;exact kv R5;rw [h2] at R5;omega
def ZL (c:bq):JM->Prop
 | .nq a _=>0<=a
 | .dq b _=>0<=b/\b<c.nb
 | _=>True
def TQ (c:bq):DR->Prop
 | .take=>True
 | .dq b=>0<=b/\b<c.nb
structure ld (s:aM):Prop where
 ao:s.ao=[]
 aJ:s.aJ=none
 aI:s.aI=none
 an:s.an=0
 WJ:s.aj=false
structure yW (k:Nat) (l:iH):Prop where
 eF:j8 k l.eF
 load:l.gi=true->l.eF % 64=0
 fe:∀w∈l.fe,j8 k w/\w % 64=0
theorem yW.mono {k k':Nat} {l:iH} (h:yW k l) (hk:k<=k'):yW k' l:=⟨h.eF.mono hk,h.load,λw hw=>⟨((h.fe w hw).1).mono hk,(h.fe w hw).2⟩⟩
def tc (k:Nat) (s:aM):Prop:=(s.ao=[]/\s.aJ=none)\/∃l,s.aJ=some l/\l.ao=s.ao/\l.fe.length=s.ao.length/\0<s.ao.length/\yW k l
def na (k:Nat) (s:aM):Prop:=tc k s/\(s.iW=true↔0<s.ao.length)
theorem tc.mono {k k':Nat} {s:aM} (h:tc k s) (hk:k<=k'):tc k' s:=by
 rcases h with h|⟨l,h1,h2,h3,h4,h5⟩;exact .inl h;exact .inr ⟨l,h1,h2,h3,h4,h5.mono hk⟩
theorem na.mono {k k':Nat} {s:aM} (h:na k s) (hk:k<=k'):na k' s:=⟨h.1.mono hk,h.2⟩
def zD (s:aM):List Int:=if s.aj=true then List.replicate s.ao.length (mQ s.tG) else s.fe
structure jI (c:bq) (k:Nat) (s:aM):Prop where
 cf:s.cf=c
 Pi:0<=s.am/\s.am<16
 bu:oF s.bu
 ef:s.bu.ef=c.bK.toNat
 dJ:s.bu.index.length<=64
 Hs:∀a∈s.bu.bT,0<=a/\a<c.ba+c.nb
 O2:∀x∈s.ak,0<=x/\x<c.nb
 mW:(s.ak.length:Int)<=c.ak
 push:s.an<=s.ak.length
 set:s.set.length<=c.reads.toNat
 Vh:s.reads.Nodup
 Vf:∀a∈s.reads,0<=a/\a<c.ba
 Bq:(s.av.length:Int)<=c.av
 jk:0<=s.aw/\s.aw<=k
 X3:s.ao.length<=64
 orr:∀x∈s.ao,0<=x/\x<c.ao
def ZO (c:bq) (k:Nat) (s:aM):br->Prop
 | .bF=>s.aA≠2->ld s
 | .je l=>ld s/\ZL c l
 | .fx=>ld s/\∃e,s.bY=some e/\(0<=e.aw/\e.aw<=k)/\(0<=e.bR/\e.bR<=2)/\e.am=s.am
 | .bh r u=>ld s/\(0<=r.bR/\r.bR<=2)/\r.gE=gz c r.dD/\r.gM=false/\TQ c u/\(0<=r.dD/\r.dD<c.ba+c.nb)/\r.rv=s.rv
 | .fw p=>ld s/\(s.ak.length:Int)<c.ak/\(0<=p.eH/\p.eH<=3)/\jH c p.eH p.head/\nJ c p.eH p.next/\p.block = -1/\(0<=p.bR/\p.bR<=2)/\(1<=p.bR->0<=iV p.head)
 | .fy=>(s.aI=none/\s.an=0/\s.aj=false)/\(s.az=1/\s.iW=true)/\∃l,s.aJ=some l/\l.ao=s.ao/\l.am=s.am/\l.fe.length<l.ao.length/\yW k l
 | .dE=>(s.an=0/\s.aj=false)/\na k s/\∃t,s.aI=some t/\t.done=false/\(0<=t.kR/\t.kR<=k)
 | .d9 ck=>(s.an=0/\s.aj=false)/\na k s/\(∃t,s.aI=some t)/\ck.jp=false/\(∃q,q<s.set.length/\ck.ao=s.set.drop q)/\ck.rv=s.rv
 | .cH=>(s.an=0/\s.aj=false)/\na k s/\∃t,s.aI=some t
 | .eS w=>s.an=0/\(s.aj=true/\s.iW=true)/\na k s/\(∃t,s.aI=some t)/\∃q,q<s.bu.bT.length/\w=⟨s.bu.bT.drop q,s.bu.fg.drop q⟩
 | .da w=>s.an=0/\(s.aj=true->s.iW=true)/\tc k s/\(∃t,s.aI=some t)/\∃q,q<s.ao.length/\w=⟨s.ao.drop q,(zD s).drop q⟩
 | .jb=>s.an=0/\(s.aj=true/\s.iW=true)/\∃t,s.aI=some t
 | .gH=>s.an=0/\∃t,s.aI=some t
 | .fv p=>s.az≠1/\s.an<s.ak.length/\p.block=s.ak.getD s.an 0/\p.eH=dL c p.block/\jH c p.eH p.head/\(0<=p.bR/\p.bR<=2)
 | .jf=>True
structure qw (c:bq) (k:Nat) (s:aM):Prop where
 b:jI c k s
 d:ZO c k s s.aG
theorem jI.mono {c:bq} {k k':Nat} {s:aM} (h:jI c k s) (hk:k<=k'):jI c k' s:={ h with jk:=⟨h.jk.1,by have:=h.jk.2;omega⟩ }
theorem qw.mono {c:bq} {k k':Nat} {s:aM} (h:qw c k s) (hk:k<=k'):qw c k' s:=by
 refine⟨h.b.mono hk,?_⟩;have hd:=h.d;revert hd;cases s.aG with
 | fx=>
   rintro ⟨h0,e,h1,h2,h3⟩;exact⟨h0,e,h1,⟨h2.1,by omega⟩,h3⟩
 | fy=>
   rintro ⟨h0,MO,l,h1,h2,h3,h4,h5⟩;exact⟨h0,MO,l,h1,h2,h3,h4,h5.mono hk⟩
 | dE=>
   rintro ⟨h0,hl,t,h1,h2,h3⟩;exact⟨h0,hl.mono hk,t,h1,h2,h3.1,by omega⟩
 | d9 ck=>
   rintro ⟨h0,hl,h1⟩;exact⟨h0,hl.mono hk,h1⟩
 | cH=>
   rintro ⟨h0,hl,h1⟩;exact⟨h0,hl.mono hk,h1⟩
 | eS w=>
   rintro ⟨h0,hd,hl,h1⟩;exact⟨h0,hd,hl.mono hk,h1⟩
 | da w=>
   rintro ⟨h0,hd,hl,h1⟩;exact⟨h0,hd,hl.mono hk,h1⟩
 | _=>exact id
theorem jI.to {c:bq} {k:Nat} {s s':aM} (h:jI c k s) (h1:s'.cf=s.cf:=by rfl) (h2:s'.am=s.am:=by rfl) (h3:s'.bu=s.bu:=by rfl) (h4:s'.ak=s.ak:=by rfl) (h5:s'.an=s.an:=by rfl) (h6:s'.set=s.set:=by rfl) (h7:s'.reads=s.reads:=by rfl) (h8:s'.av=s.av:=by rfl) (h9:s'.aw=s.aw:=by rfl) (MS:s'.ao=s.ao:=by rfl):jI c k s':=by
 (unhygienic cases s);obtain⟨cf',Sj,Va,oC,U6,ent',Ri,Vj,TN,Wv,set',log',WL,Vo,Yg,XP,St,WH⟩:=s';dsimp only at h1 h2 h3 h4 h5 h6 h7 h8 h9 MS;subst h1 h2 h3 h4 h5 h6 h7 h8 h9 MS;exact⟨h.cf,h.Pi,h.bu,h.ef,h.dJ,h.Hs,h.O2,h.mW,h.push,h.set,h.Vh,h.Vf,h.Bq,h.jk,h.X3,h.orr⟩
section
variable {c:bq} {k:Nat} {s:aM}
theorem Q3 {l:List Int} {i:Nat} (h:i<l.length):l.getD i 0∈l:=by
 rw [List.getD_eq_getElem?_getD,List.getElem?_eq_getElem h];exact List.getElem_mem h
theorem xl (hc:db c) (h:jI c k s):qw c k (iQ s):=by
 unfold iQ;split;exact⟨h.to,trivial⟩;rename_i hn;have hp:=h.push;have bL:s.an<s.ak.length:=by omega
 refine⟨h.to,λe=>hn (.inl e),bL,rfl,?_,.zero hc _,by show (0:Int)<=0;omega,by show (0:Int)<=2;omega⟩;show dL s.cf (s.ak.getD s.an 0)=dL c (s.ak.getD s.an 0);rw [h.cf]
theorem rG (hc:db c) (h:jI c k s) (az:Int):qw c k (kz s az):=xl hc (h.to)
theorem sj (l:List Int):(eI l).Pairwise (·< ·)/\∀z,z∈eI l↔z∈l:=by rw [Ki];exact tj l
theorem Gk (l:List Int):eI (eI l)=eI l:=by
 obtain⟨h1,h2⟩:=sj l;obtain⟨h3,h4⟩:=sj (eI l);exact LI _ _ h3 h1 h4
theorem PL {l:List Int} (hl:l.Pairwise (·< ·)) (a:Int):(∀x∈l,a<=x)->∀n:Nat,(∀x∈l,x<a+n)->l.length<=n:=by
 induction l generalizing a with
 | nil=>intro _ n _;simp
 | cons y r ih=>
   intro h1 n h2;rw [List.pairwise_cons] at hl;have hy1:=h1 y (by simp);have hy2:=h2 y (by simp);have:r.length<=n-1:=ih hl.2 (y+1) (λx hx=>by have:=hl.1 x hx;omega) (n-1) (λx hx=>by have:=h2 x (by simp [hx]);omega);simp only [List.length_cons];omega
theorem PM {c:bq} (hc:db c) {a:Int} (h:0<=a/\a<c.ba+c.nb):0<=gz c a/\gz c a<c.ao:=by
 have:=hc.ao;unfold gz;rw [if_pos h,Int.tmod_eq_emod_of_nonneg h.1];exact⟨Int.emod_nonneg a (by omega),Int.emod_lt_of_pos a (by omega)⟩
theorem yC (hc:db c) (h:jI c k s) (he:ld s) (az:Int):qw c k (qk s az):=by
 unfold qk;split;rename_i hs;simp only [Bool.and_eq_true,decide_eq_true_eq] at hs;obtain⟨NZ,ym⟩:=hs;have xB:=sj (s.bu.bT.map (gz s.cf));have UC:=Gk (s.bu.bT.map (gz s.cf));have hr:∀x∈eI (s.bu.bT.map (gz s.cf)),0<=x/\x<c.ao:=λx hx=>by
  obtain⟨a,ha,rfl⟩:=List.mem_map.1 ((xB.2 x).1 hx);rw [h.cf];exact PM hc (h.Hs a ha)
 refine⟨{ h.to (s':={ s with az:=az,aJ:=some ⟨s.am,eI (eI (s.bu.bT.map (gz s.cf))),[],0,false⟩,aG:=.fy }) rfl rfl rfl rfl rfl rfl rfl rfl rfl rfl with X3:=?_,orr:=hr },⟨he.aI,he.an,he.WJ⟩,⟨NZ,?_⟩,_,rfl,UC,rfl,?_,⟨.zero _,λe=>(by cases e),λw hw=>(by cases hw)⟩⟩;show (eI (s.bu.bT.map (gz s.cf))).length<=64;have ho:=hc.ao;have:=PL xB.1 0 (λx hx=>(hr x hx).1) c.ao.toNat λx hx=>by have:=(hr x hx).2;omega
 omega;show (decide (az=1) && decide (0<s.bu.bT.length))=true;simp [NZ,ym];show 0<(eI (eI (s.bu.bT.map (gz s.cf)))).length;rw [UC];have hm:gz s.cf s.bu.bT[0]∈eI (s.bu.bT.map (gz s.cf)):=(xB.2 _).2 (List.mem_map.2 ⟨_,List.getElem_mem ym,rfl⟩);exact List.length_pos_of_mem hm;rename_i hs;refine⟨h.to,⟨he.an,he.WJ⟩,⟨.inl ⟨he.ao,he.aJ⟩,⟨λe=>absurd e hs,λe=>?_⟩⟩,_,rfl,rfl,?_⟩;rw [show ({ s with az:=az,aI:=some ⟨false,0,false⟩,aG:=br.dE }:aM).ao=s.ao from rfl,he.ao] at e;simp at e;show (0:Int)<=0/\(0:Int)<=k;omega
theorem tY (h:jI c k s) (hp:s.an=0) (hl:tc k s) (hd:s.aj=true->s.ao=[]) (ht:∃t,s.aI=some t):qw c k (gU s):=by
 unfold gU;split;exact⟨h.to,hp,ht⟩;rename_i hn;have hdf:s.aj=false:=by
  cases e:s.aj with
  | false=>rfl
  | true=>rw [hd e] at hn;simp at hn
 refine⟨h.to,hp,λe=>?_,hl,ht,0,by show 0<s.ao.length;omega,?_⟩;rw [show ({ s with aG:=br.da ⟨s.ao,s.fe⟩ }:aM).aj=s.aj from rfl,hdf] at e;cases e;rw [List.drop_zero,List.drop_zero];show (⟨s.ao,s.fe⟩:kg)=⟨s.ao,zD _⟩;unfold zD;rw [if_neg (by show ¬s.aj=true;rw [hdf];decide)];rfl
theorem ld.to {s s':aM} (h:ld s) (h1:s'.ao=s.ao) (h2:s'.aJ=s.aJ) (h3:s'.aI=s.aI) (h4:s'.an=s.an) (h5:s'.aj=s.aj):ld s':=
 ⟨h1.trans h.ao,h2.trans h.aJ,h3.trans h.aI,h4.trans h.an,h5.trans h.WJ⟩
theorem jI.put (h:jI c k s) {a:Int} (ha:0<=a/\a<c.ba+c.nb) (v:Int):jI c k { s with bu:=(fH s.bu a v).2 }:=by
 obtain⟨h1,h2,h3⟩:=yg s.bu a v;refine⟨h.cf,h.Pi,Fy h.bu ha.1 v,h1.trans h.ef,by have:=h.dJ;show (fH s.bu a v).2.index.length<=64;omega,?_,h.O2,h.mW,h.push,h.set,h.Vh,h.Vf,h.Bq,h.jk,h.X3,h.orr⟩;intro x hx;rcases h3 x hx with h4|h4;exact h.Hs x h4;subst h4;exact ha
structure JK (s s':aM):Prop where
 aG:s'.aG=s.aG
 ao:s'.ao=s.ao
 aJ:s'.aJ=s.aJ
 aI:s'.aI=s.aI
 an:s'.an=s.an
 WJ:s'.aj=s.aj
 cf:s'.cf=s.cf
 av:s'.av=s.av
theorem JK.Rg {s s':aM} (h:JK s s') (he:ld s):ld s':=he.to h.ao h.aJ h.aI h.an h.WJ
theorem JK.trans {s s' s'':aM} (h:JK s s') (h':JK s' s''):JK s s'':=
 ⟨h'.aG.trans h.aG,h'.ao.trans h.ao,h'.aJ.trans h.aJ,h'.aI.trans h.aI,h'.an.trans h.an,h'.WJ.trans h.WJ,h'.cf.trans h.cf,h'.av.trans h.av⟩
theorem Bu (hc:db c) (h:jI c k s) {a:Int} (ha:0<=a/\a<c.ba+c.nb) (v:Int):((kW s a v).1=true/\jI c k (kW s a v).2/\JK s (kW s a v).2)\/((kW s a v).1=false/\qw c k (kW s a v).2):=by
 unfold kW;split;exact .inl ⟨rfl,h.put ha v,rfl,rfl,rfl,rfl,rfl,rfl,rfl,rfl⟩;exact .inr ⟨rfl,rG hc h 3⟩
theorem FB (h:jI c k s) (he:ld s) (hd:s.aG=.bF):qw c k s:=⟨h,by rw [hd];exact λ_=>he⟩
theorem FK (hc:db c) (h:jI c k s) (he:ld s) (hd:s.aG=.bF) (b st:Int) (hb:0<=b/\b<c.nb):qw c k (lz s b st):=by
 have wo:=h.cf;subst wo;unfold lz;split;exact yC hc h he 8;split;exact rG hc h 3;rename_i hf;have hw:=hc.ba;rcases Bu hc h (a:=s.cf.ba+b) (by omega) 0 with ⟨h1,h2,h3⟩|⟨h1,h2⟩;rw [if_pos h1];refine FB ?_ ((h3.Rg he).to rfl rfl rfl rfl rfl) (h3.aG.trans hd);refine { h2.to (s':={ (kW s (s.cf.ba+b) 0).2 with av:=s.av }) rfl rfl rfl rfl rfl rfl rfl h3.av.symm rfl rfl with Bq:=?_ };show ((s.av++[b]).length:Int)<=s.cf.av;simp only [List.length_append,List.length_cons,List.length_nil];omega;rw [if_neg (by rw [h1];decide)];exact h2
theorem E6 (hc:db c):∀(n:Nat) (a:Int) (s:aM),jI c k s->0<=a->a+n<=c.ba+c.nb->((iU n a s).1=true/\jI c k (iU n a s).2/\JK s (iU n a s).2)\/((iU n a s).1=false/\qw c k (iU n a s).2)
 | 0,a,s,h,_,_=>.inl ⟨rfl,h,rfl,rfl,rfl,rfl,rfl,rfl,rfl,rfl⟩
 | n+1,a,s,h,h0,hn=>by
   unfold iU;rcases Bu hc h (a:=a) (by omega) 0 with ⟨h1,h2,h3⟩|⟨h1,h2⟩;rw [if_pos h1];rcases E6 hc n (a+1) _ h2 (by omega) (by omega) with ⟨g1,g2,g3⟩|⟨g1,g2⟩;exact .inl ⟨g1,g2,h3.trans g3⟩;exact .inr ⟨g1,g2⟩;rw [if_neg (by rw [h1];decide)];exact .inr ⟨rfl,h2⟩
theorem E1 (hc:db c) (h:jI c k s) (he:ld s) (hd:s.aG=.bF) (hl:(s.ak.length:Int)<c.ak) (eH b:Int) (hb:-1<=b/\b<c.nb) (zU:0<=b->dL c b=eH):qw c k (gP s eH b):=by
 have wo:=h.cf;subst wo;unfold gP;split;exact rG hc h 4;rename_i QW;have hw:=hc.ba;have u7:=yi hc b (by omega);have kv:=zU (by omega);have EM:=qb hc;have h1:jI s.cf k { s with ak:=s.ak++[b] }:=by
  refine⟨rfl,h.Pi,h.bu,h.ef,h.dJ,h.Hs,?_,?_,?_,h.set,h.Vh,h.Vf,h.Bq,h.jk,h.X3,h.orr⟩;intro x hx;rw [List.mem_append] at hx;rcases hx with hx|hx;exact h.O2 x hx;have:x=b:=by simpa using hx
  omega;show ((s.ak++[b]).length:Int)<=s.cf.ak;simp only [List.length_append,List.length_cons,List.length_nil];omega;show s.an<=(s.ak++[b]).length;have:=h.push;simp only [List.length_append,List.length_cons,List.length_nil];omega
 have e1:ld { s with ak:=s.ak++[b] }:=he.to rfl rfl rfl rfl rfl;dsimp only;rcases Bu hc h1 (a:=s.cf.ba+b) (by omega) (eH+1) with ⟨g1,g2,g3⟩|⟨g1,g2⟩;rw [if_pos g1];have h2p:((2 ^ eH.toNat:Nat):Int)=2 ^ (dL s.cf b).toNat:=by rw [kv];push_cast;rfl
 rcases E6 hc (2 ^ eH.toNat) (iB s.cf b) _ g2 u7.2.1 (by rw [h2p];have:=u7.2.2;omega) with ⟨z1,z2,z3⟩|⟨z1,z2⟩;rw [if_pos z1];have Uq:=g3.trans z3;exact FB (z2.to) ((Uq.Rg e1).to rfl rfl rfl rfl rfl) (Uq.aG.trans hd);rw [if_neg (by rw [z1];decide)];exact z2;rw [if_neg (by rw [g1];decide)];exact g2
theorem SF (hc:db c) (h:jI c k s) (he:ld s) (hd:s.aG=.bF) (l:JM) (hl:ZL c l):qw c k (vB s l):=by
 cases l with
 | tk=>exact yC hc h he 7
 | Rt=>exact yC hc h he 8
 | bO az=>exact yC hc h he az
 | take v=>exact FB (h.to) (he.to rfl rfl rfl rfl rfl) hd
 | nq a v=>
   have hw:=hc.ba;show qw c k (if s.cf.ba<=a then qk s 7 else (kW s a v).2);split;exact yC hc h he 7;rename_i hn;rw [h.cf] at hn;rcases Bu hc h (a:=a) ⟨hl,by have:=qb hc;omega⟩ v with ⟨h1,h2,h3⟩|⟨h1,h2⟩;exact FB h2 (h3.Rg he) (h3.aG.trans hd);exact h2
 | Dc=>exact rG hc h 3
 | dq b v=>exact FK hc h he hd b v hl
theorem Sg (hc:db c) (h:jI c k s) (he:ld s) (hd:s.aG=.bF) (v:Int) (u:DR) (hu:TQ c u):qw c k (BS s v u):=by
 cases u with
 | take=>exact FB (h.to) (he.to rfl rfl rfl rfl rfl) hd
 | dq b=>exact FK hc h he hd b v hu
end
def py (c:bq) (nt k:Nat) (r:tx):Prop:=qw c (k+1) r.2.2.1/\lR c nt (k+1) r.2.2.2
theorem py.of {c:bq} {nt k:Nat} {a:aW} {ph:Int} {s':aM} {M':Mm} (h1:qw c (k+1) s') (h2:lR c nt (k+1) M'):py c nt k (a,ph,s',M'):=⟨h1,h2⟩
section
variable {c:bq} {nt k:Nat} {s:aM} {M:Mm}
theorem MT (hM:lR c nt k M) (gu:Int) (g:Int->Int×Bool):0<=(gn M gu 3 0 g).fA/\(gn M gu 3 0 g).fA<=k:=by
 rcases rM M gu 3 0 g with h|⟨_,h⟩;rw [h];omega;rw [h];exact hM.jk
theorem Tl (hM:lR c nt k M) (gu:Int) (g:Int->Int×Bool):0<=(gn M gu 4 0 g).fA/\(gn M gu 4 0 g).fA<=k:=by
 rcases rM M gu 4 0 g with h|⟨_,h⟩;rw [h];omega;rw [h];exact hM.ZQ
theorem Db (hc:db c) (hM:lR c nt k M) (gu:Int) {dJ:Int} (hi:0<=dJ) (g:Int->Int×Bool):jH c dJ (gn M gu 7 dJ g).fA:=by
 rcases rM M gu 7 dJ g with h|⟨_,h⟩;rw [h];exact .zero hc _;have e:dJ=(dJ.toNat:Int):=by omega
 have:=hM.head dJ.toNat;rw [h];rw [<-e] at this;exact this
theorem Q2 (hc:db c) (hM:lR c nt k M) (gu:Int) {dJ:Int} (hi:0<=dJ) (g:Int->Int×Bool):nJ c (dL c dJ) (gn M gu 8 dJ g).fA:=by
 rcases rM M gu 8 dJ g with h|⟨_,h⟩;rw [h];exact .zero hc _;have e:dJ=(dJ.toNat:Int):=by omega
 have:=hM.next dJ.toNat;rw [h];rw [<-e] at this;exact this
theorem GZ (e:iE) (M:Mm) (GV:0<=e.bR/\e.bR<=2):(e.bR=0/\ic e M=(DU M 6 e.am 1,{ e with bR:=1 },Gj M 6 e.am 1)) \/
 (e.bR=1/\ic e M=(iP M 3 0,{ e with bR:=2,aw:=(iP M 3 0).fA },M)) \/
 (e.bR=2/\ic e M=(DU M 6 e.am (IntKind.u64.wrap (e.aw+2)),{ e with bR:=3 },Gj M 6 e.am (IntKind.u64.wrap (e.aw+2)))):=by
 unfold ic;by_cases h0:e.bR=0;exact .inl ⟨h0,if_pos h0⟩;by_cases h1:e.bR=1;exact .inr (.inl ⟨h1,by rw [if_neg h0,if_pos h1]⟩);have h2:e.bR=2:=by omega
 exact .inr (.inr ⟨h2,by rw [if_neg h0,if_neg h1,if_pos h2]⟩)
theorem LL (hM:lR c nt k M) (h:jI c k s) (he:ld s) (e:iE) (I8:0<=e.aw/\e.aw<=k) (GV:0<=e.bR/\e.bR<=2) (ht:e.am=s.am) (hd:s.aG=.fx):py c nt k (ji s M e):=by
 have hb:=h.mono (Nat.le_succ k);unfold ji;rcases GZ e M GV with ⟨h0,e0⟩|⟨h0,e0⟩|⟨h0,e0⟩;rw [e0];dsimp only;rw [if_neg (by decide)];refine⟨⟨hb.to,?_⟩,hM.W8 (by omega) _ _ _ (by decide)⟩;show ZO c (k+1) _ s.aG;rw [hd];refine⟨he.to rfl rfl rfl rfl rfl,_,rfl,⟨I8.1,?_⟩,by show (0:Int)<=1/\(1:Int)<=2;omega,ht⟩;show e.aw<=((k+1:Nat):Int);have:=I8.2;omega;rw [e0];dsimp only;rw [if_neg (by decide)];refine⟨⟨hb.to,?_⟩,hM.mono (by omega)⟩;show ZO c (k+1) _ s.aG;rw [hd];have hg:=MT hM 1 mP;refine⟨he.to rfl rfl rfl rfl rfl,_,rfl,⟨hg.1,?_⟩,by show (0:Int)<=2/\(2:Int)<=2;omega,ht⟩;show (gn M 1 3 0 mP).fA<=((k+1:Nat):Int);have:=hg.2;omega;rw [e0];dsimp only;rw [if_pos rfl];exact⟨FB (hb.to) (he.to rfl rfl rfl rfl rfl) rfl,hM.W8 (by omega) _ _ _ (by decide)⟩
theorem NM {l:List Int} {a:Int} (h:l.Nodup) (ha:¬a∈l):(l++[a]).Nodup:=by
 rw [List.nodup_append];refine⟨h,by simp,?_⟩;intro x hx y hy e;have:y=a:=by simpa using hy
 subst this;subst e;exact ha hx
theorem Kk {ef:Nat} {l:List Int} (x:Int) (h:l.length<=ef):(dZ ef l x).2.length<=ef:=by
 unfold dZ;split;exact h;split;exact h;simp;omega
theorem Ii (r:ip) (M:Mm):(dY r M).2.1.dD=r.dD/\(dY r M).2.1.gE=r.gE/\(dY r M).2.1.rv=r.rv/\(dY r M).2.2=M:=by
 unfold dY;dsimp only;by_cases h0:r.bR=0;rw [if_pos h0];dsimp only;split<;>exact⟨rfl,rfl,rfl,rfl⟩;rw [if_neg h0];by_cases h1:r.bR=1;rw [if_pos h1];exact⟨rfl,rfl,rfl,rfl⟩;rw [if_neg h1];by_cases h2:r.bR=2;rw [if_pos h2];exact⟨rfl,rfl,rfl,rfl⟩;rw [if_neg h2];exact⟨rfl,rfl,rfl,rfl⟩
theorem Ij (r:ip) (M:Mm) (GV:0<=r.bR/\r.bR<=2) (wo:r.gM=false) (oA:(dY r M).2.1.done=false):(dY r M).2.1.gM=false/\0<=(dY r M).2.1.bR/\(dY r M).2.1.bR<=2:=by
 revert oA;unfold dY;dsimp only;by_cases h0:r.bR=0;rw [if_pos h0];dsimp only;split;intro oA;simp [ip.done] at oA;intro _;exact⟨wo,by dsimp only;omega,by dsimp only;omega⟩;rw [if_neg h0];by_cases h1:r.bR=1;rw [if_pos h1];intro _;exact⟨wo,by dsimp only;omega,by dsimp only;omega⟩;have h2:r.bR=2:=by omega
 rw [if_neg h1,if_pos h2];intro oA;simp [ip.done] at oA
theorem NC (hc:db c) (hM:lR c nt k M) (h:jI c k s) (he:ld s) (r:ip) (u:DR) (hd:s.aG=.bh r u) (GV:0<=r.bR/\r.bR<=2) (ho:r.gE=gz c r.dD) (wo:r.gM=false) (hu:TQ c u) (ha:0<=r.dD/\r.dD<c.ba+c.nb) (hrv:r.rv=s.rv):py c nt k (dR s M r u):=by
 have hb:=h.mono (Nat.le_succ k);obtain⟨i1,i2,i3,i4⟩:=Ii r M;have QO:=Ij r M GV wo;unfold dR;dsimp only;split;rename_i oA;obtain⟨g1,g2,g3⟩:=QO oA;refine⟨⟨hb.to,he.to rfl rfl rfl rfl rfl,⟨g2,g3⟩,?_,g1,hu,?_,?_⟩,by rw [i4];exact hM.mono (by omega)⟩;rw [i2,i1];exact ho;rw [i1];exact ha;rw [i3];exact hrv;split;exact⟨rG hc hb 9,by rw [i4];exact hM.mono (by omega)⟩;have h2:∀s2:aM,s2=(if r.dD<s.cf.ba/\¬r.dD∈s.reads then { s with aG:=.bh (dY r M).2.1 u,reads:=s.reads++[r.dD] } else { s with aG:=.bh (dY r M).2.1 u })->jI c (k+1) s2/\ld s2/\s2.cf=s.cf/\s2.set=s.set:=by
  rintro _ rfl;split;rename_i hn;refine⟨{ hb.to (s':={ s with aG:=.bh (dY r M).2.1 u }) rfl rfl rfl rfl rfl rfl rfl rfl rfl rfl with Vh:=NM h.Vh hn.2,Vf:=?_ },he.to rfl rfl rfl rfl rfl,rfl,rfl⟩;intro a hx;have hx:a∈s.reads++[r.dD]:=hx;rw [List.mem_append] at hx;rcases hx with hx|hx;exact h.Vf a hx;have:a=r.dD:=by simpa using hx
  rw [h.cf] at hn;omega;exact⟨hb.to,he.to rfl rfl rfl rfl rfl,rfl,rfl⟩
 generalize ym:(if r.dD<s.cf.ba/\¬r.dD∈s.reads then { s with aG:=br.bh (dY r M).2.1 u,reads:=s.reads++[r.dD] } else { s with aG:=br.bh (dY r M).2.1 u }:aM)=s2;obtain⟨b2,e2,c2,t2⟩:=h2 s2 ym.symm;split
 . rename_i ke;refine py.of ?_ (by rw [i4];exact hM.mono (by omega));refine Sg hc ?_ ?_ rfl _ _ hu
   case refine_2=>exact e2.to rfl rfl rfl rfl rfl
   refine { b2.to (s':={ s2 with aG:=.bF }) rfl rfl rfl rfl rfl rfl rfl rfl rfl rfl with set:=?_ };show (dZ s.cf.reads.toNat s.set r.gE).2.length<=c.reads.toNat;rw [h.cf];exact Kk _ h.set
 exact⟨rG hc b2 3,by rw [i4];exact hM.mono (by omega)⟩
theorem vX (p:qB) (M:Mm) (GV:0<=p.bR/\p.bR<=2):(p.bR=0/\gG p M=(iP M 7 p.eH,{ p with head:=(iP M 7 p.eH).fA,bR:=if iV (iP M 7 p.eH).fA<0 then 3 else 1 },M)) \/
 (p.bR=1/\gG p M=(iP M 8 (iV p.head),{ p with next:=(iP M 8 (iV p.head)).fA,bR:=2 },M)) \/
 (p.bR=2/\∃w,w=oD p.head (IntKind.i64.wrap (IntKind.i64.wrap p.next-1))/\gG p M=(Ea M 7 p.eH p.head w,if (Ea M 7 p.eH p.head w).done=true then { p with bR:=3,block:=iV p.head } else { p with bR:=0 },Sl M 7 p.eH p.head w)):=by
 unfold gG;by_cases h0:p.bR=0;exact .inl ⟨h0,if_pos h0⟩;by_cases h1:p.bR=1;exact .inr (.inl ⟨h1,by rw [if_neg h0,if_pos h1]⟩);have h2:p.bR=2:=by omega
 exact .inr (.inr ⟨h2,_,rfl,by rw [if_neg h0,if_neg h1,if_pos h2]⟩)
theorem PH (hc:db c) (hM:lR c nt k M) (h:jI c k s) (he:ld s) (p:qB) (hl:(s.ak.length:Int)<c.ak) (kv:0<=p.eH/\p.eH<=3) (hh:jH c p.eH p.head) (hn:nJ c p.eH p.next) (hb:p.block = -1) (GV:0<=p.bR/\p.bR<=2) (Y9:1<=p.bR->0<=iV p.head):py c nt k (ox s M p):=by
 have u9:=h.mono (Nat.le_succ k);have EM:=qb hc;have bO:∀(b:Int),-1<=b/\b<c.nb->(0<=b->dL c b=p.eH)->qw c (k+1) (gP { s with aG:=.bF } p.eH b):=λb hb Wn=>by
  refine E1 (s:={ s with aG:=.bF }) hc ?_ ?_ rfl hl _ _ hb Wn;exact u9.to;exact he.to rfl rfl rfl rfl rfl
 unfold ox;rcases vX p M GV with ⟨h0,e0⟩|⟨h0,e0⟩|⟨h0,w,hw,e0⟩;rw [e0];have hg:=Db hc hM 1 kv.1 mP;dsimp only;refine py.of ?_ (hM.mono (by omega));by_cases I6:iV (iP M 7 p.eH).fA<0;rw [if_pos (by rw [if_pos I6]),hb];exact bO _ (by omega) (λe=>by omega);rw [if_neg (by rw [if_neg I6];decide)];refine⟨u9.to,he.to rfl rfl rfl rfl rfl,hl,kv,hg,hn,hb,?_,λ_=>?_⟩;dsimp only;rw [if_neg I6];omega;show 0<=iV (iP M 7 p.eH).fA;omega;rw [e0];have ht:=Y9 (by omega);have hg:=Q2 hc hM 1 ht mP;rw [hh.2.2 ht] at hg;dsimp only;rw [if_neg (by decide)];exact⟨⟨u9.to,he.to rfl rfl rfl rfl rfl,hl,kv,hh,hg,hb,by dsimp only;omega,λ_=>ht⟩,hM.mono (by omega)⟩;rw [e0];dsimp only;have ht:=Y9 (by omega);have C0:=hn.1;have zP:=hn.2.1;have h64:=hc.nb;have jg:IntKind.i64.wrap (IntKind.i64.wrap p.next-1)=p.next-1:=by
  rw [ai (x:=p.next) (by omega) (by omega),ai (by omega) (by omega)]
 rw [jg] at hw;refine py.of ?_ (hM.op (by omega) _ _ _ λ_=>⟨λ_=>?_,λe=>by omega,λe=>by omega,λe=>by omega⟩);by_cases oA:(Ea M 7 p.eH p.head w).done=true;rw [if_pos (by rw [if_pos oA]),if_pos oA];exact bO _ ⟨by dsimp only;omega,hh.2.1⟩ hh.2.2;rw [if_neg (by rw [if_neg oA];show ¬(0:Int)=3;decide),if_neg oA];exact⟨u9.to,he.to rfl rfl rfl rfl rfl,hl,kv,hh,hn,hb,by dsimp only;omega,λe=>by dsimp only at e;omega⟩;show jH c p.eH w;rw [hw];exact Dz hc (by omega) λe=>hn.2.2 (by omega)
theorem ug (p:fM) (M:Mm) (GV:0<=p.bR/\p.bR<=2):(p.bR=0/\ej p M=(iP M 7 p.eH,{ p with head:=(iP M 7 p.eH).fA,bR:=1 },M)) \/
 (p.bR=1/\∃w,w=IntKind.u64.wrap (IntKind.i64.wrap (iV p.head+1))/\ej p M=(DU M 8 p.block w,{ p with bR:=2 },Gj M 8 p.block w)) \/
 (p.bR=2/\∃w,w=oD p.head p.block/\ej p M=(Ea M 7 p.eH p.head w,{ p with bR:=if (Ea M 7 p.eH p.head w).done=true then 3 else 0 },Sl M 7 p.eH p.head w)):=by
 unfold ej;by_cases h0:p.bR=0;exact .inl ⟨h0,if_pos h0⟩;by_cases h1:p.bR=1;exact .inr (.inl ⟨h1,_,rfl,by rw [if_neg h0,if_pos h1]⟩);have h2:p.bR=2:=by omega
 exact .inr (.inr ⟨h2,_,rfl,by rw [if_neg h0,if_neg h1,if_pos h2]⟩)
theorem ND (hc:db c) (hM:lR c nt k M) (h:jI c k s) (p:fM) (FG:s.az≠1) (bL:s.an<s.ak.length) (hbk:p.block=s.ak.getD s.an 0) (kv:p.eH=dL c p.block) (hh:jH c p.eH p.head) (GV:0<=p.bR/\p.bR<=2):py c nt k (jW s M p):=by
 have u9:=h.mono (Nat.le_succ k);have hb:=h.O2 _ (Q3 bL);rw [<-hbk] at hb;have u7:=yi hc p.block hb;rw [<-kv] at u7;unfold jW;rcases ug p M GV with ⟨h0,e0⟩|⟨h0,w,hw,e0⟩|⟨h0,w,hw,e0⟩;rw [e0];have hg:=Db hc hM 1 u7.1.1 mP;dsimp only;rw [if_neg (by decide)];exact⟨⟨u9.to,FG,bL,hbk,kv,hg,by dsimp only;omega⟩,hM.mono (by omega)⟩;rw [e0];dsimp only;rw [if_neg (by decide)];refine⟨⟨u9.to,FG,bL,hbk,kv,hh,by dsimp only;omega⟩,hM.op (by omega) _ _ _ λ_=>⟨λe=>by omega,λ_=>?_,λe=>by omega,λe=>by omega⟩⟩;have htop:=H2 hh.1;have h64:=hc.nb;have ht2:=hh.2.1;have jg:IntKind.u64.wrap (IntKind.i64.wrap (iV p.head+1))=iV p.head+1:=by
  rw [ai (by omega) (by omega),ar (by omega) (by omega)]
 show nJ c (dL c p.block) w;rw [hw,jg,<-kv];refine⟨by omega,by omega,λe=>?_⟩;rw [show iV p.head+1-1=iV p.head by omega];exact hh.2.2 (by omega);rw [e0];dsimp only;refine py.of ?_ (hM.op (by omega) _ _ _ λ_=>⟨λ_=>?_,λe=>by omega,λe=>by omega,λe=>by omega⟩);by_cases oA:(Ea M 7 p.eH p.head w).done=true;rw [if_pos (by rw [if_pos oA])];refine xl hc ?_;refine { u9.to (s':={ s with aG:=.bF }) rfl rfl rfl rfl rfl rfl rfl rfl rfl rfl with push:=?_ };show s.an+1<=s.ak.length;omega;rw [if_neg (by rw [if_neg oA];decide)];refine⟨u9.to,FG,bL,hbk,kv,hh,?_⟩;dsimp only;rw [if_neg oA];omega;show jH c p.eH w;rw [hw];exact Dz hc hb.2 λ_=>kv.symm
theorem Q1 (hM:lR c nt k M) (gu dJ:Int) (g:Int->Int×Bool):j8 k (gn M gu 2 dJ g).fA:=by
 rcases rM M gu 2 dJ g with h|⟨_,h⟩;rw [h];exact .zero k;rw [h];exact hM.orc _
theorem GO {k:Nat} {x:Int} (h:j8 k x):mK x<0↔x % 64=0:=by
 have h1:=h.1;unfold mK;rw [Int.tmod_eq_emod_of_nonneg h1,ai (x:=x % 64) (by omega) (by omega),ai (by omega) (by omega)];omega
theorem KP {k:Nat} (hk:k<2^41) {l:iH} (h:yW k l) (hl:l.gi=true) (ht:0<=l.am/\l.am<16):mJ l=l.eF+l.am+1:=by
 have h1:=h.eF.1;have h2:=h.eF.2.1;have h3:=h.load hl;unfold mJ;rw [ar (x:=l.am) (by omega) (by omega),ar (x:=l.eF+l.am) (by omega) (by omega),ar (by omega) (by omega)]
theorem IS (l:iH) (hM:lR c nt k M) (hk:k<2^40) (ht:0<=l.am/\l.am<16) (h3:l.fe.length<l.ao.length) (hI:yW k l):(fj l M).2.1.ao=l.ao/\(fj l M).2.1.am=l.am/\(fj l M).2.1.fe.length<=l.ao.length/\yW (k+1) (fj l M).2.1/\lR c nt (k+1) (fj l M).2.2:=by
 have Xu:=hI.mono (Nat.le_succ k);unfold fj;dsimp only;split;exact⟨rfl,rfl,by dsimp only;omega,Xu,hM.mono (by omega)⟩;split;have hg:=Q1 hM 1 (jd l) mP;refine⟨rfl,rfl,by dsimp only;omega,⟨hg.mono (by omega),λe=>?_,Xu.fe⟩,hM.mono (by omega)⟩;exact(GO hg).1 (by simpa using e);rename_i Lq;have YP:l.gi=true:=by simpa using Lq
 have h1:=hI.eF.1;have h2:=hI.eF.2.1;have h4:=hI.load YP;refine⟨rfl,rfl,?_,⟨Xu.eF,λe=>(by cases e),?_⟩,hM.opO (by omega) _ _ ?_⟩;dsimp only;split;simp;omega;omega;dsimp only;split;intro w hw;rw [List.mem_append] at hw;rcases hw with hw|hw;exact Xu.fe w hw;have:w=l.eF:=by simpa using hw
 subst this;exact⟨Xu.eF,h4⟩;exact Xu.fe;show j8 (k+1) (mJ l);rw [KP (by omega) hI YP ht];refine⟨by omega,by omega,by omega⟩
theorem NQ (hM:lR c nt k M) (hk:k<2^40) (h:jI c k s) (l:iH) (hs:s.aJ=some l) (hn:s.aI=none/\s.an=0/\s.aj=false) (FG:s.az=1) (dv:s.iW=true) (h1:l.ao=s.ao) (h2:l.am=s.am) (h3:l.fe.length<l.ao.length) (hI:yW k l) (hd:s.aG=.fy):py c nt k (jD s M l):=by
 have u9:=h.mono (Nat.le_succ k);obtain⟨g1,g2,g3,g5,g4⟩:=IS l hM hk (by rw [h2];exact h.Pi) h3 hI;unfold jD;dsimp only;refine py.of ?_ (g4);split;rename_i oA;have Wl:(fj l M).2.1.fe.length=(fj l M).2.1.ao.length:=by simpa [iH.done] using oA
 have Lj:0<s.ao.length:=by rw [<-h1];omega
 refine⟨u9.to,hn.2,⟨.inr ⟨_,rfl,g1.trans h1,?_,Lj,g5⟩,⟨λ_=>Lj,λ_=>dv⟩⟩,_,rfl,rfl,?_⟩;show (fj l M).2.1.fe.length=s.ao.length;rw [Wl,g1,h1];show (0:Int)<=0/\(0:Int)<=((k+1:Nat):Int);omega;rename_i oA;have Wl:¬(fj l M).2.1.fe.length=(fj l M).2.1.ao.length:=by simpa [iH.done] using oA
 refine⟨u9.to,?_⟩;show ZO c (k+1) _ s.aG;rw [hd];refine⟨hn,⟨FG,dv⟩,_,rfl,g1.trans h1,g2.trans h2,?_,g5⟩;rw [g1] at Wl ⊢;omega
theorem H1 (hM:lR c nt k M) (hk:k<2^40) (t:kK) (h1:t.done=false) (h2:0<=t.kR/\t.kR<=k):(0<=(ja t M).2.1.kR/\(ja t M).2.1.kR<=k)/\lR c nt (k+1) (ja t M).2.2:=by
 unfold ja;rw [if_neg (by rw [h1];decide)];split;refine⟨Tl hM 4 (EO 1),hM.op (by omega) _ _ _ λ_=>⟨λe=>by omega,λe=>by omega,λ_=>?_,λe=>by omega⟩⟩;have hg:=hM.ZQ;show 0<=IntKind.u64.wrap ((M 3).getD 0 0+1)/\IntKind.u64.wrap ((M 3).getD 0 0+1)<=((k+1:Nat):Int);rw [ar (by omega) (by omega)];omega;exact⟨h2,hM.mono (by omega)⟩
theorem Nm (hM:lR c nt k M) (hk:k<2^40) (h:jI c k s) (t:kK) (hs:s.aI=some t) (hn:s.an=0/\s.aj=false) (hl:na k s) (h1:t.done=false) (h2:0<=t.kR/\t.kR<=k) (hd:s.aG=.dE):py c nt k (iw s M t):=by
 have u9:=h.mono (Nat.le_succ k);obtain⟨g1,g2⟩:=H1 hM hk t h1 h2;unfold iw;dsimp only;refine py.of ?_ (g2);split;by_cases hz:s.set.length=0;refine⟨u9.to,?_⟩;simp only [if_pos hz];exact⟨hn,hl.mono (by omega),_,rfl⟩;refine⟨u9.to,?_⟩;simp only [if_neg hz];exact⟨hn,hl.mono (by omega),⟨_,rfl⟩,rfl,⟨0,by show 0<s.set.length;omega,rfl⟩,rfl⟩;rename_i oA;refine⟨u9.to,?_⟩;show ZO c (k+1) _ s.aG;rw [hd];refine⟨hn,hl.mono (by omega),_,rfl,by simpa using oA,g1.1,?_⟩;have:=g1.2;show (ja t M).2.1.kR<=((k+1:Nat):Int);omega
theorem LQ (hM:lR c nt k M) (h:jI c k s) (ck:ij) (hn:s.an=0/\s.aj=false) (hl:na k s) (ht:∃t,s.aI=some t) (h1:ck.jp=false) (h2:∃k,k<s.set.length/\ck.ao=s.set.drop k) (h3:ck.rv=s.rv):py c nt k (gT s M ck):=by
 have u9:=h.mono (Nat.le_succ k);obtain⟨q,hq,HO⟩:=h2;have hdn0:ck.done=false:=by
  simp only [ij.done,h1,HO,Bool.false_or,List.length_drop,decide_eq_false_iff_not];omega
 have e0:lq ck M=(iP M 2 (ck.ao.getD 0 0),{ ck with ao:=ck.ao.tail,jp:=decide (lD (iP M 2 (ck.ao.getD 0 0)).fA>ck.rv) },M):=by
  unfold lq;rw [if_neg (by rw [hdn0];decide)]
 unfold gT;rw [e0];dsimp only;refine py.of ?_ (hM.mono (by omega));split;exact tY (u9.to) hn.1 (hl.1.mono (by omega)) (λe=>by rw [show s.aj=false from hn.2] at e;cases e) ht;rename_i hf;split;exact⟨u9.to,hn,hl.mono (by omega),ht⟩;rename_i oA;refine⟨u9.to,hn,hl.mono (by omega),ht,by simpa using hf,⟨q+1,?_,?_⟩,h3⟩;simp only [ij.done,Bool.or_eq_true,decide_eq_true_eq,HO,List.length_tail,List.length_drop] at oA;show q+1<s.set.length;omega;show ck.ao.tail=s.set.drop (q+1);rw [HO,List.tail_drop]
theorem Jv (hM:lR c nt k M) (h:jI c k s) (hn:s.an=0/\s.aj=false) (hl:na k s) (ht:∃t,s.aI=some t):py c nt k (fY s M):=by
 have u9:=h.mono (Nat.le_succ k);have hg:=MT hM 1 mP;have k7:jI c (k+1) { s with aw:=(iP M 3 0).fA }:=by
  refine { u9.to (s':={ s with aG:=.bF }) rfl rfl rfl rfl rfl rfl rfl rfl rfl rfl with jk:=?_ };show 0<=(iP M 3 0).fA/\(iP M 3 0).fA<=((k+1:Nat):Int);refine⟨hg.1,?_⟩;have:=hg.2;show (gn M 1 3 0 mP).fA<=_;omega
 unfold fY;dsimp only;refine py.of ?_ (hM.mono (by omega));split;exact tY (k7.to) hn.1 (hl.1.mono (by omega)) (λe=>by rw [show s.aj=false from hn.2] at e;cases e) ht;split;rename_i dv;refine⟨k7.to,hn.1,⟨rfl,dv⟩,hl.mono (by omega),ht,0,?_,rfl⟩;have VP:s.iW=true:=dv;unfold aM.iW at VP;simp only [Bool.and_eq_true,decide_eq_true_eq] at VP;exact VP.2;rename_i dv;refine tY (k7.to) hn.1 (hl.1.mono (by omega)) (λ_=>?_) ht;have:¬0<s.ao.length:=λe=>dv (hl.2.2 e);exact List.eq_nil_of_length_eq_zero (by show s.ao.length=0;omega)
theorem JU (hM:lR c nt k M) (h:jI c k s) (w:kg) (hn:s.an=0) (C7:s.aj=true/\s.iW=true) (hl:na k s) (ht:∃t,s.aI=some t) (h1:∃k,k<s.bu.bT.length/\w=⟨s.bu.bT.drop k,s.bu.fg.drop k⟩):py c nt k (iv s M w):=by
 have u9:=h.mono (Nat.le_succ k);obtain⟨q,hq,rfl⟩:=h1;have Lj:=hl.2.1 C7.2;unfold iv nC;rw [if_neg (by simp only [kg.done,decide_eq_true_eq,List.length_drop];omega)];dsimp only;refine py.of ?_ (hM.W8 (by omega) _ _ _ (by decide));split;refine⟨u9.to,hn,λ_=>C7.2,hl.1.mono (by omega),ht,0,Lj,?_⟩;show (⟨s.ao,List.replicate s.ao.length (mQ s.tG)⟩:kg)=⟨s.ao,zD _⟩;unfold zD;rw [if_pos (by exact C7.1)];rfl;rename_i oA;simp only [kg.done,decide_eq_true_eq,List.length_tail,List.length_drop] at oA;exact⟨u9.to,hn,C7,hl.mono (by omega),ht,q+1,by show q+1<s.bu.bT.length;omega,by rw [List.tail_drop,List.tail_drop]⟩
theorem JW (h:jI c k s) (hk:k<2^40) (C7:s.aj=true/\s.iW=true):s.tG=s.aw+1:=by
 have I8:=h.jk;unfold aM.tG;rw [if_pos C7,ai (x:=s.aw) (by omega) (by omega),ai (by omega) (by omega)]
theorem PD (hM:lR c nt k M) (hk:k<2^40) (h:jI c k s) (w:kg) (hn:s.an=0) (C7:s.aj=true->s.iW=true) (hl:tc k s) (ht:∃t,s.aI=some t) (h1:∃k,k<s.ao.length/\w=⟨s.ao.drop k,(zD s).drop k⟩):py c nt k (oh s M w):=by
 have u9:=h.mono (Nat.le_succ k);obtain⟨q,hq,rfl⟩:=h1;unfold oh lj;rw [if_neg (by simp only [kg.done,decide_eq_true_eq,List.length_drop];omega)];dsimp only;have jR:j8 (k+1) (((zD s).drop q).getD 0 0):=by
  have e:((zD s).drop q).getD 0 0=(zD s).getD q 0:=by simp [List.getD_eq_getElem?_getD]
  rw [e];unfold zD;split;rename_i YZ;have hv:=JW h hk ⟨YZ,C7 YZ⟩;have I8:=h.jk;rw [List.getD_eq_getElem?_getD,List.getElem?_replicate,if_pos hq];show j8 (k+1) (mQ s.tG);rw [hv];unfold mQ;rw [if_pos (by omega)];exact⟨by omega,by omega,by omega⟩;rcases hl with ⟨hl,_⟩|⟨l,h1,h2,h3,h4,h5⟩;rw [hl] at hq;simp at hq;unfold aM.fe;rw [h1];rcases Jh l.fe q with e|e;show j8 (k+1) (l.fe.getD q 0);rw [e];exact .zero _;exact(h5.fe _ e).1.mono (by omega)
 refine py.of ?_ (hM.opO (by omega) _ _ jR);by_cases oA:kg.done ⟨(s.ao.drop q).tail,((zD s).drop q).tail⟩=true;by_cases hv:0<=s.tG;refine⟨u9.to,?_⟩;simp only [if_pos oA,if_pos hv];refine⟨hn,?_,ht⟩;show s.aj=true/\s.iW=true;have:s.aj=true:=by
  cases e:s.aj with
  | true=>rfl
  | false=>unfold aM.tG at hv;rw [if_neg (by rw [e];simp)] at hv;omega
 exact⟨this,C7 this⟩;refine⟨u9.to,?_⟩;simp only [if_pos oA,if_neg hv];exact⟨hn,ht⟩;refine⟨u9.to,?_⟩;simp only [if_neg oA];simp only [kg.done,decide_eq_true_eq,List.length_tail,List.length_drop] at oA;exact⟨hn,C7,hl.mono (by omega),ht,q+1,by show q+1<s.ao.length;omega,by rw [List.tail_drop,List.tail_drop];rfl⟩
theorem Fc (hc:db c) (hk:k<2^40) (h:qw c k s) (hM:lR c nt k M):py c nt k (cK s M):=by
 have hb:=h.b;have u9:=hb.mono (Nat.le_succ k);have hd:=h.d;have hMs:=hM.mono (Nat.le_succ k);unfold cK;cases e:s.aG with
 | bF=>exact⟨h.mono (Nat.le_succ k),hMs⟩
 | je l=>
   rw [e] at hd;refine py.of ?_ hMs;refine SF hc ?_ ?_ rfl l hd.2;exact u9.to;exact hd.1.to rfl rfl rfl rfl rfl
 | fx=>
   rw [e] at hd;obtain⟨h0,en,h1,h2,h3,h4⟩:=hd;dsimp only;rw [h1];exact LL hM hb h0 en h2 h3 h4 e
 | bh r u=>
   rw [e] at hd;obtain⟨h0,h1,h2,h3,h4,h5,h6⟩:=hd;exact NC hc hM hb h0 r u e h1 h2 h3 h4 h5 h6
 | fw p=>
   rw [e] at hd;obtain⟨h0,h1,h2,h3,h4,h5,h6,h7⟩:=hd;exact PH hc hM hb h0 p h1 h2 h3 h4 h5 h6 h7
 | fy=>
   rw [e] at hd;obtain⟨h0,MO,l,h1,h2,h3,h4,h5⟩:=hd;dsimp only;rw [h1];exact NQ hM hk hb l h1 h0 MO.1 MO.2 h2 h3 h4 h5 e
 | dE=>
   rw [e] at hd;obtain⟨h0,hl,t,h1,h2,h3⟩:=hd;dsimp only;rw [h1];exact Nm hM hk hb t h1 h0 hl h2 h3 e
 | d9 ck=>
   rw [e] at hd;obtain⟨h0,hl,ht,h1,h2,h3⟩:=hd;exact LQ hM hb ck h0 hl ht h1 h2 h3
 | cH=>
   rw [e] at hd;obtain⟨h0,hl,ht⟩:=hd;exact Jv hM hb h0 hl ht
 | eS w=>
   rw [e] at hd;obtain⟨h0,C7,hl,ht,h1⟩:=hd;exact JU hM hb w h0 C7 hl ht h1
 | da w=>
   rw [e] at hd;obtain⟨h0,C7,hl,ht,h1⟩:=hd;exact PD hM hk hb w h0 C7 hl ht h1
 | jb=>
   rw [e] at hd;refine⟨⟨u9.to,hd.1,hd.2.2⟩,hM.op (by omega) _ _ _ λ_=>⟨λe=>by omega,λe=>by omega,λ_=>?_,λe=>by omega⟩⟩;have I8:=hb.jk;show 0<=IntKind.u64.wrap (s.aw+1)/\IntKind.u64.wrap (s.aw+1)<=((k+1:Nat):Int);rw [ar (by omega) (by omega)];omega
 | gH=>
   rw [e] at hd;exact⟨xl hc u9,hM.W8 (by omega) _ _ _ (by decide)⟩
 | fv p=>
   rw [e] at hd;obtain⟨h0,h1,h2,h3,h4,h5⟩:=hd;exact ND hc hM hb p h0 h1 h2 h3 h4 h5
 | jf=>
   exact⟨⟨u9.to,λe=>absurd rfl e⟩,hM.W8 (by omega) _ _ _ (by decide)⟩
theorem rW (h:qw c k s) {st:Int} (dv:st≠2) (hf:s.mR st=true):ld s/\s.aG=.bF/\s.aA=st:=by
 simp only [aM.mR,Bool.and_eq_true,decide_eq_true_eq] at hf;have hd:s.aG=.bF:=by
  have h1:=hf.1;revert h1;cases s.aG<;>simp [br.gf]
 have OV:=h.d;rw [hd] at OV;exact⟨OV (by rw [hf.2];exact dv),hd,hf.2⟩
theorem FO (h:qw c k s):qw c k (gO s).2:=by
 unfold gO;split;rename_i hf;obtain⟨he,hd,hs⟩:=rW h (by decide) hf;exact⟨h.b.to,he.to rfl rfl rfl rfl rfl,_,rfl,by show (0:Int)<=0/\(0:Int)<=k;omega,by show (0:Int)<=0/\(0:Int)<=2;omega,rfl⟩;exact h
theorem Cf (h:qw c k s) (he:ld s) (a:Int) (ha:0<=a/\a<c.ba+c.nb) (u:DR) (hu:TQ c u):qw c k (xF s a u):=by
 refine⟨h.b.to,he.to rfl rfl rfl rfl rfl,by show (0:Int)<=0/\(0:Int)<=2;omega,?_,rfl,hu,ha,rfl⟩;show gz s.cf a=gz c a;rw [h.b.cf]
theorem PF (hc:db c) (h:qw c k s) (a:Int) (ha:0<=a):qw c k (Ik s a).2:=by
 have EM:=qb hc;unfold Ik;split;rename_i hf;obtain⟨he,hd,hs⟩:=rW h (by decide) hf;split;exact⟨h.b.to,he.to rfl rfl rfl rfl rfl,trivial⟩;rename_i hn;rw [h.b.cf] at hn;split;exact⟨h.b.to,he.to rfl rfl rfl rfl rfl,trivial⟩;exact Cf h he a (by omega) .take trivial;exact h
theorem O7 (h:qw c k s) (a v:Int) (ha:0<=a):qw c k (HJ s a v).2:=by
 unfold HJ;split;rename_i hf;obtain⟨he,hd,hs⟩:=rW h (by decide) hf;exact⟨h.b.to,he.to rfl rfl rfl rfl rfl,ha⟩;exact h
theorem WR (hc:db c) (h:qw c k s) (eH:Int):qw c k (M8 s eH).2:=by
 have EM:=qb hc;unfold M8;split;rename_i hf;obtain⟨he,hd,hs⟩:=rW h (by decide) hf;split;exact h;split;exact⟨h.b.to,he.to rfl rfl rfl rfl rfl,trivial⟩;rename_i h1 h2;rw [h.b.cf] at h2;exact⟨h.b.to,he.to rfl rfl rfl rfl rfl,by show (s.ak.length:Int)<c.ak;omega,by dsimp only;omega,.zero hc _,.zero hc _,rfl,by dsimp only;omega,λe=>by dsimp only at e;omega⟩;exact h
theorem On (hc:db c) (a:Int):kE c a<0\/(0<=kE c a/\kE c a<c.nb):=by
 unfold kE;split;rename_i b hb;have hm:=List.mem_of_find?_eq_some hb;have:=List.mem_range.1 hm;have EM:=qb hc;right;omega;left;decide
theorem Ww (hc:db c) (h:qw c k s) (a:Int):qw c k (MU s a).2:=by
 have hw:=hc.ba;have wo:=h.b.cf;subst wo;unfold MU;split;rename_i hf;obtain⟨he,hd,hs⟩:=rW h (by decide) hf;split;exact⟨h.b.to,he.to rfl rfl rfl rfl rfl,trivial⟩;rename_i hn;have sd:=On hc a;split;exact⟨h.b.to,he.to rfl rfl rfl rfl rfl,by show 0<=kE s.cf a/\kE s.cf a<s.cf.nb;omega⟩;exact Cf h he _ (by omega) _ (by show 0<=kE s.cf a/\kE s.cf a<s.cf.nb;omega);exact h
theorem LM (h:qw c k s) (az:Int):qw c k (D1 s az).2:=by
 unfold D1;split;rename_i hf;obtain⟨he,hd,hs⟩:=rW h (by decide) hf;split;exact h;exact⟨h.b.to,he.to rfl rfl rfl rfl rfl,trivial⟩;exact h
theorem KJ (w:Nat) (hw:w<=32):oF (iy w)/\(iy w).ef=w/\(iy w).index.length<=64:=by
 have:∀w:Fin 33,oF (iy (w:Nat))/\(iy (w:Nat)).ef=w/\(iy (w:Nat)).index.length<=64:=by
  intro w;have GU:(iy (w:Nat)).ef=w:=by simp [iy]
  have hw:=w.2;have zV:(iy (w:Nat)).bT=[]:=rfl;have hval:(iy (w:Nat)).fg=[]:=rfl;have Wa:∃n,(iy (w:Nat)).index=List.replicate n (-1)/\(w:Nat)<n/\n<=64:=by
   refine⟨_,rfl,?_⟩;constructor
   . repeat' split
     all_goals omega
   repeat' split
   all_goals omega
  obtain⟨n,hn,C0,zP⟩:=Wa;have hixv:∀q,ix (iy (w:Nat)).index q = -1:=by
   intro q;unfold ix;rw [hn,List.getD_eq_getElem?_getD];by_cases hq:q<n;rw [List.getElem?_replicate,if_pos hq];rfl;rw [List.getElem?_eq_none (by simp;omega)];rfl
  refine⟨⟨by rw [zV,hval],by rw [zV];simp,by rw [GU,hn];simpa using C0,by rw [zV];simp,λq _=>by rw [hixv,zV];simp,?_,λe he=>by rw [zV] at he;simp at he,λi j hi=>by rw [zV] at hi;simp at hi⟩,GU,by rw [hn];simpa using zP⟩;rw [zV,hn];unfold ux;rw [List.countP_replicate];simp
 exact this ⟨w,by omega⟩
theorem CC (hc:db c) (k:Nat) (t:Int) (ht:0<=t/\t<16):qw c k (fG c t):=by
 have hw:=hc.bK;obtain⟨w,Xd⟩:∃w:Nat,c.bK=w:=⟨c.bK.toNat,by omega⟩;obtain⟨h1,h2,h3⟩:=KJ w (by omega);have ha:=hc.ak;have hf:=hc.av;have e:(fG c t).bu=iy w:=by unfold fG;rw [Xd]
 refine⟨⟨rfl,ht,by rw [e];exact h1,by rw [e,h2,Xd];rfl,by rw [e];exact h3,by rw [e];exact λa ha=>(by cases ha),λx hx=>(by cases hx),by show ((0:Nat):Int)<=c.ak;omega,Nat.le_refl _,Nat.zero_le _,List.nodup_nil,λa ha=>(by cases ha),by show ((0:Nat):Int)<=c.av;omega,by show (0:Int)<=0/\(0:Int)<=k;omega,Nat.zero_le _,λx hx=>(by cases hx)⟩,λ_=>⟨rfl,rfl,rfl,rfl,rfl⟩⟩
end
theorem NG {c:bq} {M:Mm} (p:qB) (GV:0<=p.bR/\p.bR<=2) (hc:db c) (hh:jH c p.eH p.head) (hb:p.block = -1):(gG p M).2.1.block<c.nb:=by
 have EM:=qb hc;rcases vX p M GV with ⟨h0,e0⟩|⟨h0,e0⟩|⟨h0,w,hw,e0⟩;rw [e0];dsimp only;omega;rw [e0];dsimp only;omega;rw [e0];dsimp only;split;exact hh.2.1;dsimp only;omega
end
section
variable [Gl]
theorem Cz:∀(n:Nat) (l:List Int),l.Nodup->(∀a∈l,0<=a/\a<(n:Int))->l.length<=n
 | 0,l,_,h=>by
   cases l with
   | nil=>simp
   | cons a t=>have:=h a (by simp);omega
 | n+1,l,hn,h=>by
   have h1:=Cz n (l.erase (n:Int)) (hn.erase _) λa ha=>by
    have h2:=(List.Nodup.mem_erase_iff hn).1 ha;have h3:=h a h2.2;have h4:=h2.1;omega
   rw [List.length_erase] at h1;split at h1<;>omega
variable {c:bq} {nt k:Nat} {M:Mm} {s:aM}
theorem jI.TE (hc:db c) (h:jI c k s):gq s:=by
 have wo:=h.cf;have EM:=hc.nb;have hw:=hc.ba;refine⟨wo▸hc,?_,h.bu,?_,h.dJ,?_,?_,?_,h.push,wo▸h.set,?_,?_⟩;have:=h.Pi;omega;have:=h.ef;have:=hc.bK;omega;intro a ha;have:=h.Hs a ha;omega;intro a ha;have:=h.O2 a ha;omega;have:=h.mW;have:=hc.ak;omega;have:=Cz c.ba.toNat s.reads h.Vh λa ha=>by have:=h.Vf a ha;omega
 omega;have:=h.Bq;have:=hc.av;omega
theorem jI.jB (hc:db c) (h:jI c k s):s.reads.length<=64:=by
 have hw:=hc.ba;have:=Cz c.ba.toNat s.reads h.Vh λa ha=>by have:=h.Vf a ha;omega
 omega
theorem tc.X4 (h:tc k s) (ho:s.ao.length<=64):RN s:=by
 refine⟨by omega,?_⟩;rcases h with h|⟨l,h1,h2,h3,h4,h5⟩;left;rw [h.1];rfl;right;exact⟨l,h1,h3.symm⟩
theorem qw.U9 (hc:db c) (h:qw c k s) (hM:lR c nt k M):HD s M:=by
 have hb:=h.b;have hC:=hb.TE hc;have wo:=hb.cf;have hd:=h.d;refine⟨hC,?_⟩;have ho:=hb.X3;cases e:s.aG with
 | bF=>trivial
 | je l=>
   rw [e] at hd;cases l with
   | nq a v=>exact hd.2
   | dq b v=>show 0<=b/\b<s.cf.nb;rw [wo];exact hd.2
   | _=>trivial
 | fx=>
   rw [e] at hd;obtain⟨h0,en,h1,h2⟩:=hd;exact⟨en,h1⟩
 | bh r u=>
   rw [e] at hd;obtain⟨h0,h1,h2,h3,h4,h5,h6⟩:=hd;refine⟨by have:=hb.jB hc;omega,h1,wo▸h2,?_⟩;cases u with
   | take=>trivial
   | dq b=>show 0<=b/\b<s.cf.nb;rw [wo];exact h4
 | fw p=>
   rw [e] at hd;obtain⟨h0,h1,h2,h3,h4,h5,h6,h7⟩:=hd;refine⟨?_,h2,?_⟩;have:=hc.ak;omega;rw [wo];exact NG p h6 hc h3 h5
 | fy=>
   rw [e] at hd;obtain⟨h0,MO,l,h1,h2,h3,h4,h5⟩:=hd;exact⟨l,h1,by omega,by rw [h2];omega⟩
 | dE=>
   rw [e] at hd;obtain⟨h0,hl,t,h1,h2,h3⟩:=hd;exact⟨t,h1⟩
 | d9 ck=>
   rw [e] at hd;exact hd.2.1.1.X4 ho
 | cH=>
   rw [e] at hd;exact hd.2.1.1.X4 ho
 | eS w=>
   rw [e] at hd;obtain⟨_,_,_,_,q,h1,h2⟩:=hd;have:=hb.bu.KU;refine⟨by rw [h2];simp only [List.length_drop];omega,by omega⟩
 | da w=>
   rw [e] at hd;obtain⟨_,_,hl,_,q,h1,h2⟩:=hd;show w.os.length=w.ws.length;rw [h2];have:(zD s).length=s.ao.length:=by
    unfold zD;split;simp;rcases hl with hl|⟨l,h3,h4,h5,h6,h7⟩;rw [hl.1] at h1;simp at h1;unfold aM.fe;rw [h3];exact h5
   simp only [List.length_drop];omega
 | jb=>trivial
 | gH=>
   rw [e] at hd;exact hd.2
 | fv p=>
   rw [e] at hd;exact hd.2.1
 | jf=>trivial
end
section
open T7
variable [Gl]
structure qZ (c:bq):Prop where
 ok:db c
 c0:c.c0=0\/c.c0=1\/c.c0=2
 c1:c.c1=0\/c.c1=1\/c.c1=2
 c2:c.c2=0
 c3:c.c3=0
theorem L6.WB {c:bq} (h:L6 c):qZ c:=by
 have h1:=h.ok.k0;have h2:=h.ok.k1;have h3:=h.c0;have h4:=h.c1;exact⟨h.ok,by omega,by omega,h.c2,h.c3⟩
def rn (n0 n1:Int):List Int:=[qg 0 (if 0<n0 then 0 else -1),qg 0 (if 0<n1 then n0 else -1),qg 0 (-1),qg 0 (-1)]
def rP (n0 n1:Int):List Int:=(if n0=2 then [2,0] else if n0=1 then [0] else [])++(if n1=2 then [n0+2,0] else if n1=1 then [0] else [])
theorem ah.Ue {A:AW} {L K:List It} {b:Nat} {k:IntKind} (l:List Int) (n:Nat) (h:ah A L) (hp:ay L (.at b (.cells (l.map (.int k)) true 1)) K) (hn:n=l.length):ah A (.h (ap k (.slice (some ⟨b,0,none⟩) n n) l)::K):=by
 subst hn;unfold ah at h;rw [hp.aE] at h;exact ap.mk rfl (Nat.le_refl _) (by simp) (by rw [List.drop_zero,List.take_of_length_le (by simp)]) h
theorem KS (c:bq) (hc:qZ c) (A:AW) (F:HP) (hw:A.Wf) (hS:ah A [.h F]) :
 ax Tryz.prog 58 [c.v] A (λv A'=>∃vh vn,v=.tuple #[vh,vn]/\ah A' [.h (ap .u64 vh (rn c.c0 c.c1)),.h (ap .u64 vn (rP c.c0 c.c1)),.h F]):=by
 obtain⟨ba,ao,base,n0,n1,n2,n3,reads,bK,ak,av,aw,aT⟩:=c;obtain⟨ok,h0,h1,h2,h3⟩:=hc;dsimp only at h0 h1 h2 h3 ⊢;subst h2 h3;obtain⟨q,hqn⟩:∃q:Nat,(q:Int)=n0+n1:=⟨(n0+n1).toNat,by omega⟩;have h4:q=0\/q=1\/q=2\/q=3\/q=4:=by omega
 rcases h0 with rfl|rfl|rfl<;>rcases h1 with rfl|rfl|rfl<;>rcases h4 with VU|VU|VU|VU|VU<;>(try (exfalso;omega))
 all_goals(
  have hb:=uG _ ok;refine aF Tryz.func58 λ_=>?_;dsimp only [bq.nb,bq.v] at hb ⊢;simp only [Int.add_zero,Int.zero_add,Int.reduceAdd] at hb
  all_goals(revert hS hw;refine W (J1 @hb) (J1 bz) ?_<;>unhygienic intros)
  refine ii 5 ?_
  all_goals(revert hS hw;(repeat first|clear hS|clear hw|revert hc|revert R|revert K);refine W (J1 @nD) (J1 bz) ?_<;>unhygienic intros)
  refine ii 3 ?_
  all_goals(revert hS hw;(repeat first|clear hS|clear hw|revert hc|revert R|revert K);refine W (J1 @nD) (J1 bz) ?_<;>unhygienic intros)
  refine ii 3 ?_
  all_goals(revert hS hw;(repeat first|clear hS|clear hw|revert hc|revert R|revert K);refine W (J1 @nD) (J1 bz) ?_<;>unhygienic intros)
  refine ii 3 ?_
  all_goals(revert hS hw;(repeat first|clear hS|clear hw|revert hc|revert R|revert K);refine W (J1 @nD) (J1 bz) ?_<;>unhygienic intros)
  refine ii 3 ?_
  all_goals(revert hS hw;(repeat first|clear hS|clear hw|revert hc|revert R|revert K);refine W (J1 @nD) (J1 bz) ?_<;>unhygienic intros)
  refine⟨_,by first|(simp [VU];done)|(simp [VU];rfl),.slice (some ⟨A.next+1,0,none⟩) 4 4,.slice (some ⟨A.next+1+1,0,none⟩) q q,rfl,?_⟩;refine ah.bO (L:=[.h (ap .u64 _ _),.h (ap .u64 _ _),.h F]) ?_ (.s .z (.s .z (.s .z .z)));refine ah.Ue (k:=.u64) (b:=A.next+1) _ 4 (ah.Ue (k:=.u64) (b:=A.next+1+1) _ q (L:=[.at (A.next+1+1) _,.at (A.next+1) _,.h F]) ?_ .z (by rw [VU];rfl)) (.s .z) rfl;apply ah.bO
  . repeat' (first|exact hS|exact Nat.le_refl _|with_reducible apply ah.fX|with_reducible apply ah.RG|with_reducible apply AW.IA|with_reducible apply AW.P3|with_reducible apply ay.z|with_reducible apply ay.s|assumption|apply AW.Wf.alloc|apply AW.Wf.set|(simp only [AW.aV,AW.tU];omega)|exact rfl)
  first|exact pA|exact kA)
end
end Go.Stx
