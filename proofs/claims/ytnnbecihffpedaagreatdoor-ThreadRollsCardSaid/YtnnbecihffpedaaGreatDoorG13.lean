/-
 One thread: what always holds of it, and that every step keeps it (plain law, no program in sight).
-/
import Derived.Test.YtnnbecihffpedaaGreatDoorG12
set_option linter.unusedVariables false
set_option linter.unusedSimpArgs false
set_option linter.unusedSectionVars false
set_option maxRecDepth 20000
set_option maxHeartbeats 4000000
namespace Go.Stx
open Go Go.Proofs
attribute [local irreducible] cB aW az aG bZ cz
section
variable [Gl]
theorem vP {p:List bg} {k b:Nat} (h:bN p k=some b):∀{t:Nat},k<=t->(∀j,k<=j->j<t->cu p j≠8)->bN p t=some b
 | 0,hk,_=>by
   have:k=0:=by omega
   subst this;exact h
 | t+1,hk,hn=>by
   by_cases e:k=t+1;subst e;exact h;have h1:=vP h (t:=t) (by omega) λj h1 h2=>hn j h1 (by omega);unfold bN;rw [h1];simp only;rw [ap (hn t (by omega) (by omega))]
theorem HT {p:List bg} {k:Nat} (h:k<p.length):cu p k=p[k].op:=ka (List.getElem?_eq_getElem h)
theorem On {p:List bg} (hp:(cK p).2=0) {k:Nat} (hk:k<p.length) (ho:p[k].op=4\/p[k].op=5\/p[k].op=6):eS p k (bN p k) p[k].bL=true/\0<=p[k].bL:=by
 have h1:=(fY hp).2.1 k p[k] (List.getElem?_eq_getElem hk);unfold rx at h1;by_cases e:bT p[k]=0;rw [ay e] at h1;split at h1;cases h1;split at h1;cases h1;have hs:dK p[k]=some p[k].bL:=ay ⟨e,ho⟩;rw [hs] at h1;simp only at h1;refine⟨?_,?_⟩;by_cases hh:eS p k (bN p k) p[k].bL=true;exact hh;rw [ap hh] at h1;cases h1;unfold bT at e;split at e;cases e;split at e;rename_i h2;have h3:=(Bool.and_eq_true _ _▸h2).2;unfold ej at h3;rw [ap (by omega),ap (by omega),ay ho] at h3;simp only [Bool.and_eq_true,decide_eq_true_eq] at h3;exact h3.1;cases e;rw [ap e] at h1;exact absurd h1 e
theorem MP {p:List bg} (hp:(cK p).2=0) {k:Nat} (hk:k<p.length) (ho:p[k].op=4\/p[k].op=5\/p[k].op=6) :
 k+1+p[k].bL.toNat<=p.length/\bN p (k+1+p[k].bL.toNat)=bN p k:=by
 obtain⟨ht,_⟩:=On hp hk ho;have RB:=HT hk;unfold eS at ht;by_cases hl:p.length<k+1+p[k].bL.toNat;simp [hl] at ht;have Kg:k+1+p[k].bL.toNat<=p.length:=by omega
 refine⟨Kg,?_⟩;cases hb:bN p k with
 | some b=>
   rw [hb] at ht;simp only [hl,if_false,decide_eq_true_eq] at ht;obtain⟨h1,h2,h3⟩:=jj hb;refine vP hb (by omega) λj h4 h5=>?_;exact(jS (p:=p) (k:=b+1) (by omega)).2.2.1 j (by omega) (by have:=ht;unfold cQ at this;omega)
 | none=>
   rw [hb] at ht;simp only [hl,if_false] at ht;cases hs:bN p (k+1+p[k].bL.toNat) with
   | none=>rfl
   | some b=>
     exfalso;obtain⟨h1,h2,h3⟩:=jj hs;have h4:=Br hb (by omega) hs;have h5:b≠k:=λe=>by subst e;rw [RB] at h2;omega
     have h6:k+1+p[k].bL.toNat≠p.length:=λe=>by
      rw [e,(fY hp).2.2] at hs;cases hs
     have h7:k+1+p[k].bL.toNat<=cQ p b:=by
      rcases Nat.lt_or_ge (cQ p b) (k+1+p[k].bL.toNat) with h|h;have h8:=(jS (p:=p) (k:=b+1) (by omega));have h9:cQ p b<p.length:=(by omega);have QN:b+1<=cQ p b:=h8.1;exact absurd (show cu p (cQ p b)=8 from h8.2.2.2 h9) (h3 (cQ p b) (by omega) h);exact h
     have h8:fX p k (k+1+p[k].bL.toNat)=true:=by
      unfold fX;rw [List.any_eq_true];refine⟨b,List.mem_range.2 h1,?_⟩;simp only [Bool.and_eq_true,decide_eq_true_eq];exact⟨⟨by omega,h2⟩,by omega⟩
     rw [h8] at ht;cases ht
theorem P3 {p:List bg} (hp:(cK p).2=0) {b:Nat} (hb:cu p b=7) (hs:bN p b=none):cQ p b<p.length/\cu p (cQ p b)=8/\bN p (cQ p b+1)=none:=by
 have H2:b<p.length:=oG (by omega);have h1:bN p (b+1)=some b:=by
  unfold bN;rw [hs];simp [hb]
 obtain⟨h2,h3,h4,h5⟩:=jS (p:=p) (k:=b+1) (by omega);have h6:bN p (cQ p b)=some b:=vP h1 h2 h4;have h7:cQ p b<p.length:=by
  rcases Nat.lt_or_ge (cQ p b) p.length with h|h;exact h;have e:cQ p b=p.length:=by unfold cQ at h ⊢;omega
  rw [e,(fY hp).2.2] at h6;cases h6
 refine⟨h7,h5 h7,?_⟩;unfold bN;rw [h6];simp only;rw [ay (show cu p (cQ p b)=8 from h5 h7)]
theorem yK {p:List bg} {k:Nat} {b:Option Nat} (h:bN p k=b) (h7:cu p k≠7) (h8:cu p k≠8):bN p (k+1)=b:=by
 unfold bN;rw [h];cases b with
 | none=>simp [h7]
 | some b=>simp [h8]
theorem KL {p:List bg} {k:Nat} (h:bN p k=none) (h7:cu p k=7):bN p (k+1)=some k:=by
 unfold bN;rw [h];simp [h7]
theorem tD {p:List bg} (hp:(cK p).2=0) {k:Nat} (hk:k<p.length) :
 (bN p k=none->p[k].op≠8/\p[k].op≠9/\p[k].op≠10/\p[k].op≠11/\p[k].op≠14/\p[k].op≠15)/\
 (∀b,bN p k=some b->p[k].op≠7/\p[k].op≠12/\p[k].op≠13/\p[k].op≠16/\p[k].op≠17)/\bT p[k]=0:=by
 have h1:=(fY hp).2.1 k p[k] (List.getElem?_eq_getElem hk);unfold rx at h1;by_cases e:bT p[k]=0;rw [ay e] at h1;split at h1;cases h1;rename_i h2;split at h1;cases h1;rename_i h3
 have h4:bk p[k]=if p[k].op=8\/p[k].op=9\/p[k].op=10\/p[k].op=11\/p[k].op=14\/p[k].op=15 then 1
  else if p[k].op=7\/p[k].op=12\/p[k].op=13\/p[k].op=16\/p[k].op=17 then 2 else 0:=ay e
 rw [h4] at h3;refine⟨λhb=>?_,λb hb=>?_,e⟩;rw [hb] at h3;have:¬(p[k].op=8\/p[k].op=9\/p[k].op=10\/p[k].op=11\/p[k].op=14\/p[k].op=15):=λh=>h3 (.inl ⟨by rw [ay h],rfl⟩);omega;rw [hb] at h3;have:¬(p[k].op=7\/p[k].op=12\/p[k].op=13\/p[k].op=16\/p[k].op=17):=λh=>h3 (.inr ⟨by rw [ap (by omega),ay h],rfl⟩);omega;rw [ap e] at h1;exact absurd h1 e
theorem lB {i:bg} (h:bT i=0):(ko i.op=true->0<=i.a/\i.a<8)/\(jd i.op=true->0<=i.b/\i.b<8)/\(km i.op=true->0<=i.c/\i.c<8)/\(0<=i.op/\i.op<18)/\(i.op=3->0<=i.bL/\i.bL<22)/\(i.op=7->1<=i.bL/\i.bL<=8):=by
 unfold bT at h;split at h;cases h;rename_i h0;split at h;rename_i h1;simp only [Bool.and_eq_true,fE,ej] at h1;obtain⟨⟨⟨h2,h3⟩,h4⟩,h5⟩:=h1;refine⟨λe=>?_,λe=>?_,λe=>?_,by omega,λe=>?_,λe=>?_⟩;rw [ay e] at h2;simpa using h2;rw [ay e] at h3;simpa using h3;rw [ay e] at h4;simpa using h4;rw [ap (by omega),ay e] at h5;simpa using h5;rw [ap (by omega),ap (by omega),ap (by omega),ay e] at h5;simpa using h5;cases h
def pL:bm->Prop
 | .gE (.bI _)=>True
 | .ei | .cq | .cG _ | .bJ | .dI _ | .bX _ | .gr | .eT | .dX _ | .go=>True
 | _=>False
theorem P4 (s:aF) (av:Int):pL (lZ s av).aC:=by unfold lZ;split<;>trivial
theorem zK (s:aF):pL (fC s).aC:=by unfold fC;split<;>trivial
theorem r8 (s:aF):pL (fK s).aC:=by unfold fK;split<;>trivial
theorem Nr {s:aF} (h:pL s.aC) (hs:s.aA=1) (M:Mm):((bE s M).2.2.1.aA=1/\pL (bE s M).2.2.1.aC)\/((bE s M).2.2.1.aA=2/\(bE s M).2.2.1.aC=.bq):=by
 have cL:=vu s M;unfold bE at cL ⊢;cases e:s.aC with
 | gE l=>
   rw [e] at h cL;cases l<;>first|exact absurd h id|skip
   refine .inl ⟨by rw [cL];exact hs,?_⟩;exact P4 _ _
 | ei=>
   rw [e] at h cL;simp only at cL ⊢;cases hl:s.aJ with
   | none=>rw [hl] at cL;exact .inl ⟨by rw [cL];exact hs,by dsimp only;rw [e];trivial⟩
   | some l=>
     rw [hl] at cL;refine .inl ⟨by rw [cL];exact hs,?_⟩;unfold iZ;dsimp only;split;trivial;dsimp only;rw [e];trivial
 | cq=>
   rw [e] at h cL;simp only at cL ⊢;cases hl:s.aI with
   | none=>rw [hl] at cL;exact .inl ⟨by rw [cL];exact hs,by dsimp only;rw [e];trivial⟩
   | some l=>
     rw [hl] at cL;refine .inl ⟨by rw [cL];exact hs,?_⟩;unfold gi;dsimp only;split;dsimp only;split<;>trivial;dsimp only;rw [e];trivial
 | cG c=>
   rw [e] at h cL;refine .inl ⟨by rw [cL];exact hs,?_⟩;show pL (fO s M c).2.2.1.aC;unfold fO;dsimp only;split;exact r8 _;split<;>trivial
 | bJ=>
   rw [e] at h cL;refine .inl ⟨by rw [cL];exact hs,?_⟩;show pL (fb s M).2.2.1.aC;unfold fb;dsimp only;split;exact r8 _;split;trivial;exact r8 _
 | dI w=>
   rw [e] at h cL;refine .inl ⟨by rw [cL];exact hs,?_⟩;show pL (gS s M w).2.2.1.aC;unfold gS;dsimp only;split<;>trivial
 | bX w=>
   rw [e] at h cL;refine .inl ⟨by rw [cL];exact hs,?_⟩;show pL (mP s M w).2.2.1.aC;unfold mP;dsimp only;split;split<;>trivial;trivial
 | gr=>rw [e] at cL;exact .inl ⟨by rw [cL];exact hs,trivial⟩
 | eT=>rw [e] at cL;exact .inl ⟨by rw [cL];exact hs,zK _⟩
 | dX p=>
   rw [e] at h cL;refine .inl ⟨by rw [cL];exact hs,?_⟩;show pL (gU s M p).2.2.1.aC;unfold gU;dsimp only;split;exact zK _;trivial
 | go=>exact .inr ⟨rfl,rfl⟩
 | bq=>rw [e] at h;exact absurd h id
 | cW=>rw [e] at h;exact absurd h id
 | aP _ _=>rw [e] at h;exact absurd h id
 | eh _=>rw [e] at h;exact absurd h id
theorem wD (s:aF):(fC s).ar=s.ar:=by unfold fC;split<;>rfl
theorem rn (s:aF) (av:Int):(iL s av).ar=s.ar:=wD _
theorem xR (s:aF) (av:Int):(lZ s av).ar=s.ar:=by unfold lZ;split<;>rfl
theorem tv (s:aF):(fK s).ar=s.ar:=by unfold fK;split<;>rfl
theorem sd (s:aF) (a v:Int):(ia s a v).2.ar=s.ar:=by
 unfold ia;split;rfl;exact rn s 3
theorem yr:∀(n:Nat) (a:Int) (s:aF),(gh n a s).2.ar=s.ar
 | 0,_,_=>rfl
 | n+1,a,s=>by
   unfold gh;split;rw [yr n];exact sd s a 0;exact sd s a 0
theorem D2 (s:aF) (dC iy:Int):(fu s dC iy).ar=s.ar:=by
 unfold fu;split;exact rn s 4;dsimp only;split;split;show (gh _ _ _).2.ar=_;rw [yr];exact sd { s with ag:=s.ag++[iy] } _ _;rw [yr];exact sd { s with ag:=s.ag++[iy] } _ _;exact sd { s with ag:=s.ag++[iy] } _ _
def Ss (s s':aF) (o:Option Int):Prop:=s'.ar=s.ar\/∃b,o=some b/\s'.ar=s.ar++[b]
theorem yW (s:aF) (b st:Int):Ss s (jG s b st) (some b):=by
 unfold jG;split;exact .inl (xR s 8);split;exact .inl (rn s 3);split;exact .inr ⟨b,rfl,by dsimp only⟩;exact .inl (sd s _ 0)
def frB:bm->Option Int
 | .gE (.cU b _)=>some b
 | .aP _ (.cU b)=>some b
 | _=>none
theorem KQ (s:aF) (M:Mm):Ss s (bE s M).2.2.1 (frB s.aC):=by
 unfold bE;cases hd:s.aC with
 | go=>exact .inl rfl
 | bq=>exact .inl rfl
 | gE k=>
   cases k with
   | kX a v=>
     show Ss s (sY { s with aC:=.bq } (.kX a v)) _;unfold sY;dsimp only;split;exact .inl (xR _ 7);exact .inl (sd { s with aC:=.bq } a v)
   | rO=>exact .inl (xR _ 7)
   | NB=>exact .inl (xR _ 8)
   | bI av=>exact .inl (xR _ av)
   | take v=>exact .inl rfl
   | yV=>exact .inl (rn _ 3)
   | cU b v=>exact yW { s with aC:=.bq } b v
 | cW=>
   dsimp only;cases s.bS with
   | none=>exact .inl rfl
   | some e=>
     dsimp only [gC];split<;>exact .inl rfl
 | aP r u=>
   show Ss s (dq s M r u).2.2.1 _;unfold dq;dsimp only;split;exact .inl rfl;split;exact .inl (rn _ 9);split
   . cases u with
     | take=>left;dsimp only [Ab];split<;>rfl
     | cU b=>
       dsimp only [Ab];split;exact yW _ b _;exact yW _ b _
   left;dsimp only;rw [rn];split<;>rfl
 | eh p=>
   show Ss s (ki s M p).2.2.1 _;unfold ki;dsimp only;split;exact .inl (D2 _ _ _);exact .inl rfl
 | ei=>
   dsimp only;cases s.aJ with
   | none=>exact .inl rfl
   | some l=>
     dsimp only [iZ];split<;>exact .inl rfl
 | cq=>
   dsimp only;cases s.aI with
   | none=>exact .inl rfl
   | some t=>
     dsimp only [gi];split<;>exact .inl rfl
 | cG ck=>
   show Ss s (fO s M ck).2.2.1 _;unfold fO;dsimp only;split;exact .inl (tv _);split<;>exact .inl rfl
 | bJ=>
   show Ss s (fb s M).2.2.1 _;unfold fb;dsimp only;split;exact .inl (tv _);split;exact .inl rfl;exact .inl (tv _)
 | dI w=>
   show Ss s (gS s M w).2.2.1 _;unfold gS;dsimp only;split<;>exact .inl rfl
 | bX w=>exact .inl rfl
 | gr=>exact .inl rfl
 | eT=>exact .inl (wD s)
 | dX p=>
   show Ss s (gU s M p).2.2.1 _;unfold gU;dsimp only;split;exact .inl (wD _);exact .inl rfl
theorem EU {c:bH} {k:Nat} {s:aF} (h:nj c k s) (hf:∀x∈s.ar,0<=x/\x<c.nb) (M:Mm):∀x∈(bE s M).2.2.1.ar,0<=x/\x<c.nb:=by
 have hd:=h.d;intro x hx;rcases KQ s M with e|⟨b,hb,e⟩;rw [e] at hx;exact hf x hx;rw [e] at hx;rcases List.mem_append.1 hx with hx|hx;exact hf x hx;rw [List.mem_singleton] at hx;subst hx;cases Kl:s.aC with
 | gE k=>
   rw [Kl] at hd hb;cases k with
   | cU b v=>
     injection hb with hb;subst hb;exact hd.2
   | _=>cases hb
 | aP r u=>
   rw [Kl] at hd hb;cases u with
   | cU b=>
     injection hb with hb;subst hb;exact hd.2.2.2.2.1
   | take=>cases hb
 | _=>rw [Kl] at hb;cases hb
variable {c:bH} {nt k:Nat} {M:Mm}
structure E0 (c:bH) (p:eZ):Prop where
 dC:p.dC=c8 c p.block
 cl0:0<=p.dC
 head:ja c p.dC p.head
 br:0<=p.br/\p.br<=2
structure mh (c:bH) (nt k:Nat) (t:aV):Prop where
 cf:t.cf=c
 nn:t.nt=nt
 wx:0<=t.id/\t.id<nt/\nt<=16
 oW:(cK t.av).2=0
 pc:0<=t.pc/\t.pc<=t.av.length
 dn:t.done=decide (t.pc=t.av.length)
 gx:t.gx.length<=2*k
 sn:t.d7.length<=k
 uJ:t.fG.length<=8*k
 xC:∀x∈t.fG,0<=c8 c x.1
 tg:0<=t.hU/\t.hU<=k
 wN:0<=t.gF/\t.gF<=k
 lR:0<=t.eU/\t.eU<=k
structure Adv (c:bH) (k:Nat) (t:aV) (s:aF):Prop where
 ok:nj c k s
 st:s.aA=1
 An:∀x∈s.ar,0<=x/\x<c.nb
 Lh:t.aT=true->(t.eX.op=12\/t.eX.op=13)/\bN t.av t.pc.toNat=none
 Da:t.aT=false->cu t.av t.bB.toNat=7/\bN t.av t.bB.toNat=none/\0<=t.bB/\
  ((t.pc=t.bB/\t.eX.op=7)\/(bN t.av t.pc.toNat=some t.bB.toNat/\(t.eX.op=10\/t.eX.op=11\/t.eX.op=14\/t.eX.op=15))\/pL s.aC)
structure Rest (c:bH) (k:Nat) (t:aV) (s:aF):Prop where
 ok:nj c k s
 st:s.aA=1
 An:∀x∈s.ar,0<=x/\x<c.nb
 Lh:t.aT=false
 Da:cu t.av t.bB.toNat=7/\bN t.av t.bB.toNat=none/\0<=t.bB/\bN t.av t.pc.toNat=some t.bB.toNat
structure j5 (c:bH) (nt k:Nat) (t:aV):Prop where
 co:mh c nt k t
 LH:t.gP=none->t.aT=false/\bN t.av t.pc.toNat=none
 Bn:∀s,t.gP=some s->(if s.gD=true\/t.aT=true then Adv c k t s else Rest c k t s)/\t.done=false/\t.dx=none/\t.gx.length+t.d7.length<=2*k
 fen:∀f,t.dx=some f->t.gP=none/\t.done=false/\t.eX.op=16/\f.ak=t.id/\f.lw=nt/\(0<=f.next/\f.next<=nt)/\(t.dB=none->f.done=false)
 O1:t.dx=none->t.dB=none
 dr:∀l,t.dB=some l->l≠[]/\l.length<=8*k/\∀p∈l,E0 c p
section
variable {t:aV} {s:aF}
theorem mh.mono {k':Nat} (h:mh c nt k t) (hk:k<=k'):mh c nt k' t:=
 ⟨h.cf,h.nn,h.wx,h.oW,h.pc,h.dn,by have:=h.gx;omega,by have:=h.sn;omega,by have:=h.uJ;omega,h.xC,by have:=h.tg;omega,by have:=h.wN;omega,by have:=h.lR;omega⟩
theorem mh.lt (h:mh c nt k t) (hd:t.done=false):t.pc<t.av.length:=by
 have:=h.dn;rw [hd] at this;have h1:¬t.pc=t.av.length:=by simpa using this.symm
 have:=h.pc;omega
theorem mh.eX (h:mh c nt k t) (hd:t.done=false):∃hk:t.pc.toNat<t.av.length,t.eX=t.av[t.pc.toNat]:=by
 have h1:=h.lt hd;have h2:=h.pc;have hk:t.pc.toNat<t.av.length:=by omega
 refine⟨hk,?_⟩;unfold aV.eX aV.sQ;rw [List.getD_eq_getElem?_getD,List.getElem?_eq_getElem hk];rfl
theorem mh.to (h:mh c nt k t) {pc:Int} (hp:0<=pc/\pc<=t.av.length):mh c nt k (t.to pc):=⟨h.cf,h.nn,h.wx,h.oW,hp,rfl,h.gx,h.sn,h.uJ,h.xC,h.tg,h.wN,h.lR⟩
theorem mh.fp (h:mh c nt k t) (a v:Int):mh c nt k (t.fp a v):=⟨h.cf,h.nn,h.wx,h.oW,h.pc,h.dn,h.gx,h.sn,h.uJ,h.xC,h.tg,h.wN,h.lR⟩
theorem mh.nk (h:mh c nt k t) (kd v:Int):mh c nt (k+1) (t.nk kd v):=
 ⟨h.cf,h.nn,h.wx,h.oW,h.pc,h.dn,by have:=h.gx;simp only [aV.nk,List.length_append,List.length_cons,List.length_nil];omega,(h.mono (Nat.le_succ k)).sn,(h.mono (Nat.le_succ k)).uJ,h.xC,(h.mono (Nat.le_succ k)).tg,(h.mono (Nat.le_succ k)).wN,(h.mono (Nat.le_succ k)).lR⟩
theorem yJ (h:mh c nt k t) (ha:t.gP=none) (hs:t.aT=false) (hf:t.dx=none) (hd:t.dB=none) (gJ:bN t.av t.pc.toNat=none):j5 c nt k t:=
 ⟨h,λ_=>⟨hs,gJ⟩,λs e=>(by rw [ha] at e;cases e),λf e=>(by rw [hf] at e;cases e),λ_=>hd,λl e=>(by rw [hd] at e;cases e)⟩
theorem vH {x:Int} (h:0<=x):(x+1).toNat=x.toNat+1:=by omega
theorem LG (h:mh c nt k t) (cF:t.pc<t.av.length) (ha:t.gP=none) (hs:t.aT=false) (hf:t.dx=none) (hd:t.dB=none) (gJ:bN t.av t.pc.toNat=none) (h7:cu t.av t.pc.toNat≠7) (h8:cu t.av t.pc.toNat≠8):j5 c nt k t.m9:=by
 have jV:=h.pc;refine yJ (h.to (by omega)) ha hs hf hd ?_;show bN t.av (t.pc+1).toNat=none;rw [vH jV.1];exact yK gJ h7 h8
theorem Hf {f:iJ} {nt:Nat} {id:Int} (h1:f.ak=id) (h2:id<nt) (h3:0<=f.next/\f.next<=nt):f.skip.ak=id/\f.skip.lw=f.lw/\(0<=f.skip.next/\f.skip.next<=nt):=by
 unfold iJ.skip;split;rename_i e;exact⟨h1,rfl,by dsimp only;omega⟩;exact⟨h1,rfl,h3⟩
theorem Ik {f:iJ} {id:Int} (h1:f.ak=id) (h2:id<nt) (h3:0<=f.next/\f.next<=nt) (h4:f.lw=nt) (hd:f.done=false) (M:Mm):(gq f M).2.ak=id/\(gq f M).2.lw=nt/\(0<=(gq f M).2.next/\(gq f M).2.next<=nt):=by
 unfold gq;rw [ap (by rw [hd];decide)];split;obtain⟨a,b,d⟩:=Hf (f:={ f with fH:=true,xD:=(gy M 3 0).eV }) (nt:=nt) h1 h2 h3;exact⟨a,b.trans h4,d⟩;rename_i hl;have Kg:f.fH=true:=by simpa using hl
 have hn:f.next<nt:=by
  unfold iJ.done at hd;rw [Kg] at hd;simp only [Bool.true_and,decide_eq_false_iff_not] at hd;omega
 split;obtain⟨a,b,d⟩:=Hf (f:={ f with next:=f.next+1 }) (nt:=nt) h1 h2 (by dsimp only;omega);exact⟨a,b.trans h4,d⟩;exact⟨h1,h4,h3⟩
theorem Cx {c:bH} (hc:cx c) {b:Int} (h:0<=c8 c b):0<=b/\b<c.nb:=by
 have q0:=hc.k0;have q1:=hc.k1;have q2:=hc.k2;have q3:=hc.k3;unfold c8 wv at h;unfold bH.nb
 repeat' split at h
 all_goals(simp only at h;omega)
theorem Jt (hc:cx c) (hM:js c nt k M) {p:eZ} (h:E0 c p):js c nt (k+1) (ct p M).2.2/\((ct p M).2.1.br≠3->E0 c (ct p M).2.1):=by
 have nc:=h.br;have hb:0<=p.block/\p.block<c.nb:=by
  have h1:=h.cl0;rw [h.dC] at h1;exact Cx hc h1
 have uz:=uy hc p.block hb;rw [<-h.dC] at uz;have hh:=h.head;rcases tB p M nc with ⟨h0,e0⟩|⟨h0,w,hw,e0⟩|⟨h0,w,hw,e0⟩;rw [e0];have hg:=Cg hc hM 1 uz.1.1 lf;exact⟨hM.mono (by omega),λ_=>⟨h.dC,h.cl0,hg,by dsimp only;omega⟩⟩;rw [e0];refine⟨hM.op (by omega) _ _ _ λ_=>⟨λe=>by omega,λ_=>?_,λe=>by omega,λe=>by omega⟩,λ_=>⟨h.dC,h.cl0,hh,by dsimp only;omega⟩⟩;have htop:=G8 hh.1;have h64:=hc.nb;have ht2:=hh.2.1;have i5:IntKind.u64.wrap (IntKind.i64.wrap (gT p.head+1))=gT p.head+1:=by
  rw [an (by omega) (by omega),ax (by omega) (by omega)]
 show mw c (c8 c p.block) w;rw [hw,i5,<-h.dC];refine⟨by omega,by omega,λe=>?_⟩;rw [show gT p.head+1-1=gT p.head by omega];exact hh.2.2 (by omega);rw [e0];refine⟨hM.op (by omega) _ _ _ λ_=>⟨λ_=>?_,λe=>by omega,λe=>by omega,λe=>by omega⟩,λhn=>⟨h.dC,h.cl0,hh,?_⟩⟩;show ja c p.dC w;rw [hw];exact CF hc hb.2 λ_=>h.dC.symm;dsimp only at hn ⊢;split;rename_i mr;rw [ay mr] at hn;exact absurd rfl hn;omega
theorem nW (h:mh c nt k t) (hd:t.done=false):cu t.av t.pc.toNat=t.eX.op:=by
 obtain⟨hk,e⟩:=h.eX hd;rw [HT hk,e]
theorem Cs {f:iJ} {l:List eZ} (h:mh c nt k t) (ha:t.gP=none) (hs:t.aT=false) (hd:t.done=false) (wR:t.eX.op=16) (gJ:bN t.av t.pc.toNat=none) (hf:t.dx=some f)
 (h1:f.ak=t.id) (h2:f.lw=nt) (h3:0<=f.next/\f.next<=nt) (hl:t.dB=some l) (b6:l.length<=8*(k+1)) (hp:∀p∈l,E0 c p):j5 c nt (k+1) t.jH:=by
 unfold aV.jH;rw [hl];have ho:=nW h hd;cases l with
 | nil=>
   have hC:mh c nt (k+1) (({ t with dx:=none,dB:=none }:aV).nk 6 0):=mh.nk (t:={ t with dx:=none,dB:=none }) ⟨h.cf,h.nn,h.wx,h.oW,h.pc,h.dn,h.gx,h.sn,h.uJ,h.xC,h.tg,h.wN,h.lR⟩ 6 0;exact LG hC (h.lt hd) ha hs rfl rfl gJ (by show cu t.av t.pc.toNat≠7;omega) (by show cu t.av t.pc.toNat≠8;omega)
 | cons q l=>
   have e:¬(q::l=[]):=λe=>by cases e
   exact⟨h.mono (by omega),λ_=>⟨hs,gJ⟩,λs e=>(by rw [ha] at e;cases e),λf' e=>(by rw [hf] at e;injection e with e;subst e;exact⟨ha,hd,wR,h1,h2,h3,λe=>(by rw [hl] at e;cases e)⟩),
    λe=>(by rw [hf] at e;cases e),λl' e'=>(by rw [hl] at e';injection e' with e';subst e';exact⟨e,b6,hp⟩)⟩
theorem Ld (hc:cx c) (hM:js c nt k M) {f:iJ} (h:mh c nt k t) (ha:t.gP=none) (hs:t.aT=false) (hd:t.done=false) (wR:t.eX.op=16) (gJ:bN t.av t.pc.toNat=none) (hf:t.dx=some f)
 (h1:f.ak=t.id) (h2:f.lw=nt) (h3:0<=f.next/\f.next<=nt) (hn:t.dB=none->f.done=false) (hdl:∀l,t.dB=some l->l≠[]/\l.length<=8*k/\∀p∈l,E0 c p) :
 j5 c nt (k+1) (t.uH M f).2.1/\js c nt (k+1) (t.uH M f).2.2:=by
 unfold aV.uH;cases e:t.dB with
 | none=>
   dsimp only;refine⟨?_,hM.mono (by omega)⟩;obtain⟨a1,a2,a3⟩:=Ik h1 h.wx.2.1 h3 h2 (hn e) M;by_cases mr:(gq f M).2.done=true;rw [ay mr];refine Cs (k:=k) (f:=(gq f M).2) (l:=kH t.cf t.fG (gq f M).2.me) ⟨h.cf,h.nn,h.wx,h.oW,h.pc,h.dn,h.gx,h.sn,?_,?_,h.tg,h.wN,h.lR⟩ ha hs hd wR gJ rfl a1 a2 a3 rfl ?_ ?_;have:=List.length_filter_le (λx:Int×Int=>decide ((gq f M).2.me<x.2)) t.fG;have:=h.uJ;show (jk t.fG (gq f M).2.me).length<=_;unfold jk;omega;intro x hx;exact h.xC x (List.mem_filter.1 hx).1;have:=List.length_filter_le (λx:Int×Int=>!decide ((gq f M).2.me<x.2)) t.fG;have:=h.uJ;unfold kH;rw [List.length_map];omega;intro p hp;obtain⟨x,hx,rfl⟩:=List.mem_map.1 hp;have SN:=h.xC x (List.mem_filter.1 hx).1;rw [h.cf];exact⟨rfl,SN,ja.zero hc _,by dsimp only;omega⟩;rw [ap mr];unfold aV.jH;dsimp only
   exact⟨mh.mono (k:=k) ⟨h.cf,h.nn,h.wx,h.oW,h.pc,h.dn,h.gx,h.sn,h.uJ,h.xC,h.tg,h.wN,h.lR⟩ (by omega),λ_=>⟨hs,gJ⟩,λs e=>(by rw [ha] at e;cases e),
    λf' e'=>(by injection e' with e';subst e';exact⟨ha,hd,wR,a1,a2,a3,λ_=>by simpa using mr⟩),λe'=>(by cases e'),λl' e'=>(by cases e')⟩
 | some l=>
   dsimp only;obtain⟨g1,g2,g3⟩:=hdl l e;cases l with
   | nil=>exact absurd rfl g1
   | cons p l=>
     obtain⟨b1,b2⟩:=Jt hc hM (g3 p (List.mem_cons_self ..));refine⟨?_,b1⟩;refine Cs (k:=k) (f:=f) (l:=(wF (p::l) M).2.1) ⟨h.cf,h.nn,h.wx,h.oW,h.pc,h.dn,h.gx,h.sn,h.uJ,h.xC,h.tg,h.wN,h.lR⟩ ha hs hd wR gJ hf h1 h2 h3 rfl ?_ ?_;show (if (ct p M).2.1.br=3 then l else (ct p M).2.1::l).length<=_;rw [List.length_cons] at g2;split;omega;rw [List.length_cons];omega;intro q hq;have FY:q∈(if (ct p M).2.1.br=3 then l else (ct p M).2.1::l):=hq;split at FY;exact g3 q (List.mem_cons_of_mem _ FY);rename_i h9;rcases List.mem_cons.1 FY with rfl|FY;exact b2 h9;exact g3 q (List.mem_cons_of_mem _ FY)
theorem Sc (hs:s.aA=1) (M:Mm):(bE s M).2.2.1.aA=1\/((bE s M).2.2.1.aA=2/\(bE s M).2.2.1.aC=.bq):=by
 have h:=vu s M;cases e:s.aC<;>rw [e] at h
 case go=>right;unfold bE;rw [e];exact⟨rfl,rfl⟩
 all_goals exact .inl (h.trans hs)
theorem Ns (h:pL s.aC):s.gD=true:=by
 unfold aF.gD;revert h;cases s.aC<;>first|(intro h;exact absurd h id)|(intro _;rfl)
theorem MU (h:s.aC=.bq):s.gD=false:=by
 unfold aF.gD;rw [h];rfl
theorem R3 (h:mh c nt (k+1) t) (xH:t.gx.length+t.d7.length<=2*k) (Pz:t.fG.length<=8*k) (s7:s.ar.length<=8) :
 mh c nt (k+1) (t.nf s)/\(t.nf s).gx.length<=2*k/\(t.nf s).gP=none/\(t.nf s).av=t.av/\(t.nf s).bB=t.bB/\(t.nf s).aT=t.aT/\(t.nf s).dx=t.dx/\(t.nf s).dB=t.dB/\(t.nf s).gF=t.gF:=by
 unfold aV.nf;split;refine⟨⟨h.cf,h.nn,h.wx,h.oW,h.pc,h.dn,by show (t.gx++t.d7).length<=_;rw [List.length_append];omega,h.sn,?_,?_,h.tg,h.wN,h.lR⟩,by show (t.gx++t.d7).length<=_;rw [List.length_append];omega,rfl,rfl,rfl,rfl,rfl,rfl,rfl⟩;dsimp only;split;unfold lS;have:=List.length_filter_le (λb=>decide (0<=c8 t.cf b)) s.ar;rw [List.length_append,List.length_map];omega;exact h.uJ;intro x hx;dsimp only at hx;split at hx;unfold lS at hx;rcases List.mem_append.1 hx with hx|hx;exact h.xC x hx;obtain⟨b,hb,rfl⟩:=List.mem_map.1 hx;have:=(List.mem_filter.1 hb).2;rw [h.cf] at this
 simpa using this
 exact h.xC x hx;exact⟨⟨h.cf,h.nn,h.wx,h.oW,h.pc,h.dn,h.gx,h.sn,h.uJ,h.xC,h.tg,h.wN,h.lR⟩,by dsimp only;omega,rfl,rfl,rfl,rfl,rfl,rfl,rfl⟩
theorem R2 (h:mh c nt (k+1) t) (xH:t.gx.length<=2*k) (ha:t.gP=none) (hs:t.aT=false) (hf:t.dx=none) (eE:t.dB=none) (h7:cu t.av t.bB.toNat=7) (gJ:bN t.av t.bB.toNat=none) (av:Int):j5 c nt (k+1) (t.jo av):=by
 obtain⟨e1,e2,e3⟩:=P3 h.oW h7 gJ;unfold aV.jo;refine yJ (mh.to (t:={ t with gF:=0,gA:=av,gx:=t.gx++[⟨t.bB,3,IntKind.u64.wrap av⟩] }) ⟨h.cf,h.nn,h.wx,h.oW,h.pc,h.dn,?_,h.sn,h.uJ,h.xC,h.tg,by dsimp only;omega,h.lR⟩ (by dsimp only;omega)) ha hs hf eE ?_;dsimp only;rw [List.length_append,List.length_singleton];omega;show bN t.av (((cQ t.av t.bB.toNat:Nat):Int)+1).toNat=none;rw [show (((cQ t.av t.bB.toNat:Nat):Int)+1).toNat=cQ t.av t.bB.toNat+1 by omega];exact e3
theorem U6 (h:mh c nt (k+1) t) (xH:t.gx.length+t.d7.length<=2*k) (Pz:t.fG.length<=8*k) (s7:s.ar.length<=8) (hs:t.aT=false) (hf:t.dx=none) (eE:t.dB=none)
 (h7:cu t.av t.bB.toNat=7) (gJ:bN t.av t.bB.toNat=none) (UZ:0<=t.bB):j5 c nt (k+1) (t.bI s):=by
 obtain⟨g1,g2,g3,g4,g5,g6,g7,g8,g9⟩:=R3 (s:=s) h xH Pz s7;have H2:t.bB.toNat<t.av.length:=oG (by omega);have e2:∀av,j5 c nt (k+1) ((t.nf s).jo av):=λav=>R2 g1 g2 g3 (g6.trans hs) (g7.trans hf) (g8.trans eE) (by rw [g4,g5];exact h7) (by rw [g4,g5];exact gJ) av;unfold aV.bI;split;split;refine yJ (g1.to (by rw [g4];omega)) g3 (g6.trans hs) (g7.trans hf) (g8.trans eE) ?_;show bN (t.nf s).av t.bB.toNat=none;rw [g4];exact gJ;exact e2 _;exact e2 _
theorem yb (h:mh c nt (k+1) t) (xH:t.gx.length<=2*k) (hd:t.done=false) (ha:t.gP=none) (hs:t.aT=false) (hf:t.dx=none) (eE:t.dB=none) (kJ:t.eX.op=12\/t.eX.op=13) (gJ:bN t.av t.pc.toNat=none) (kd v:Int):j5 c nt (k+1) (t.nk kd v).m9:=by
 have ho:=nW h hd;have hC:mh c nt (k+1) (t.nk kd v):=⟨h.cf,h.nn,h.wx,h.oW,h.pc,h.dn,by simp only [aV.nk,List.length_append,List.length_singleton];omega,h.sn,h.uJ,h.xC,h.tg,h.wN,h.lR⟩;exact LG hC (h.lt hd) ha hs hf eE gJ (by show cu t.av t.pc.toNat≠7;omega) (by show cu t.av t.pc.toNat≠8;omega)
theorem CU (h:mh c nt (k+1) t) (xH:t.gx.length<=2*k) (hd:t.done=false) (ha:t.gP=none) (hs:t.aT=false) (hf:t.dx=none) (eE:t.dB=none) (kJ:t.eX.op=12\/t.eX.op=13) (gJ:bN t.av t.pc.toNat=none) (i:bg) (v:Int):j5 c nt (k+1) (t.CW i v):=by
 unfold aV.CW;split;exact yb (h.fp _ _) xH hd ha hs hf eE kJ gJ _ _;exact yb h xH hd ha hs hf eE kJ gJ _ _
theorem Nu (h:mh c nt (k+1) t) (xH:t.gx.length<=2*k) (hd:t.done=false) (hf:t.dx=none) (eE:t.dB=none) (kJ:t.eX.op=12\/t.eX.op=13) (gJ:bN t.av t.pc.toNat=none) (i:bg):j5 c nt (k+1) (t.kU i s):=by
 have h1:mh c nt (k+1) ({ t with gP:=none,aT:=false }:aV):=⟨h.cf,h.nn,h.wx,h.oW,h.pc,h.dn,h.gx,h.sn,h.uJ,h.xC,h.tg,h.wN,h.lR⟩;unfold aV.kU;dsimp only;split;exact CU h1 xH hd rfl rfl hf eE kJ gJ _ _;split;exact yb h1 xH hd rfl rfl hf eE kJ gJ _ _;exact yJ h1 rfl rfl hf eE gJ
theorem Gw (hc:cx c) (hk:k<2^40) (hM:js c nt k M) (h:mh c nt (k+1) t) (xH:t.gx.length+t.d7.length<=2*k) (hsn:t.d7.length<=k) (Pz:t.fG.length<=8*k) (hd:t.done=false) (hf:t.dx=none) (eE:t.dB=none) (hA:Adv c k t s) :
 j5 c nt (k+1) (t.vz M s).2.2.1/\js c nt (k+1) (t.vz M s).2.2.2:=by
 obtain⟨RU,hK2⟩:=Ee hc hk hA.ok hM;have cL:=Sc hA.st M;have DP:=EU hA.ok hA.An M;have pf:=λh=>Nr (s:=s) h hA.st M;unfold aV.vz;dsimp only;generalize bE s M=r at RU hK2 cL pf DP ⊢;obtain⟨a,ph,s',M'⟩:=r;dsimp only at RU hK2 cL pf DP ⊢;refine⟨?_,hK2⟩;have h1:mh c nt (k+1) ({ t with gP:=some s' }:aV):=⟨h.cf,h.nn,h.wx,h.oW,h.pc,h.dn,h.gx,h.sn,h.uJ,h.xC,h.tg,h.wN,h.lR⟩;have s7:s'.ar.length<=8:=by
  have e1:=RU.b.An;have e2:=hc.ar;omega
 have ho:=nW h hd;have cF:=h.lt hd;have jV:=h.pc;by_cases hb:s'.gD=true;rw [ay hb];have EE:s'.aA=1:=by
  rcases cL with e|⟨_,e⟩;exact e;rw [MU e] at hb;cases hb
 refine⟨h1,λe=>(by cases e),λs2 e=>?_,λf e=>(by rw [hf] at e;cases e),λ_=>eE,λl e=>(by rw [eE] at e;cases e)⟩;injection e with e;subst e;refine⟨?_,hd,hf,by dsimp only;omega⟩;rw [ay (.inl hb)];refine⟨RU,EE,DP,hA.Lh,λe=>?_⟩;obtain⟨w1,w2,w3,w4⟩:=hA.Da e;refine⟨w1,w2,w3,?_⟩;rcases w4 with w|w|w;exact .inl w;exact .inr (.inl w);rcases pf w with ⟨_,w⟩|⟨w,_⟩;exact .inr (.inr w);omega;rw [ap hb];have ks:s'.gD=false:=by simpa using hb
 unfold aV.rI;rcases cL with e1|⟨e2,_⟩;rw [ap (by omega)];have gl:¬pL s.aC:=λw=>by
  rcases pf w with ⟨_,w⟩|⟨w,_⟩;rw [Ns w] at ks;cases ks;omega
 by_cases hs:t.aT=true;rw [ay hs];refine⟨h1,λe=>(by cases e),λs2 e=>?_,λf e=>(by rw [hf] at e;cases e),λ_=>eE,λl e=>(by rw [eE] at e;cases e)⟩;injection e with e;subst e;refine⟨?_,hd,hf,by dsimp only;omega⟩;rw [ay (.inr hs)];exact⟨RU,e1,DP,hA.Lh,λe=>(by rw [hs] at e;cases e)⟩;rw [ap hs];have Uu:t.aT=false:=by simpa using hs
 obtain⟨w1,w2,w3,w4⟩:=hA.Da Uu;have gJ:bN t.av (t.pc+1).toNat=some t.bB.toNat:=by
  rw [vH jV.1];rcases w4 with ⟨w,w'⟩|⟨w,w'⟩|w;rw [w];exact KL w2 w1;exact yK w (by omega) (by omega);exact absurd w gl
 have B8:t.pc+1<t.av.length:=by
  rcases Int.lt_or_le (t.pc+1) t.av.length with e|e;exact e;have e9:(t.pc+1).toNat=t.av.length:=by omega
  rw [e9,(fY h.oW).2.2] at gJ;cases gJ
 have bI:∀t2:aV,mh c nt (k+1) t2->t2.gP=some s'->t2.aT=false->t2.dx=none->t2.dB=none->t2.av=t.av->t2.bB=t.bB->t2.pc=t.pc->t2.gx.length+t2.d7.length<=2*(k+1)->j5 c nt (k+1) t2.m9:=by
  intro t2 g1 g2 g3 g4 g5 g6 g7 g8 g9;have kT:mh c nt (k+1) t2.m9:=g1.to (by rw [g6,g8];omega);refine⟨kT,λe=>?_,λs2 e=>?_,λf e=>?_,λ_=>g5,λl e=>?_⟩;have e':t2.gP=none:=e;rw [g2] at e';cases e';have e':t2.gP=some s2:=e;rw [g2] at e';injection e' with e';subst e';refine⟨?_,?_,g4,g9⟩;rw [ap (by rw [ks];show ¬(false=true\/t2.aT=true);rw [g3];simp)];refine⟨RU,e1,DP,g3,?_⟩;show cu t2.av t2.bB.toNat=7/\bN t2.av t2.bB.toNat=none/\0<=t2.bB/\bN t2.av (t2.pc+1).toNat=some t2.bB.toNat;rw [g6,g7,g8];exact⟨w1,w2,w3,gJ⟩;show decide (t2.pc+1=t2.av.length)=false;rw [g6,g8];exact decide_eq_false (by omega);have e':t2.dx=some f:=e;rw [g4] at e';cases e';have e':t2.dB=some l:=e;rw [g5] at e';cases e'
 have M8:∀r kd v,mh c nt (k+1) (({ t with gP:=some s' }:aV).eV r kd v):=λr kd v=>⟨h.cf,h.nn,h.wx,h.oW,h.pc,h.dn,h.gx,by simp only [aV.eV,aV.fp,List.length_append,List.length_singleton];omega,h.uJ,h.xC,h.tg,h.wN,h.lR⟩;split;exact bI _ (M8 _ _ _) rfl Uu hf eE rfl rfl rfl (by simp only [aV.eV,aV.fp,List.length_append,List.length_singleton];omega);split;exact bI _ (M8 _ _ _) rfl Uu hf eE rfl rfl rfl (by simp only [aV.eV,aV.fp,List.length_append,List.length_singleton];omega);exact bI _ h1 rfl Uu hf eE rfl rfl rfl (by dsimp only;omega);rw [ay e2];by_cases hs:t.aT=true;rw [ay hs];obtain⟨w1,w2⟩:=hA.Lh hs;exact Nu h1 (by dsimp only;omega) hd hf eE w1 w2 _;rw [ap hs];have Uu:t.aT=false:=by simpa using hs
 obtain⟨w1,w2,w3,w4⟩:=hA.Da Uu;exact U6 h1 xH Pz s7 Uu hf eE w1 w2 w3
variable {eW:Int->Int->Int->Int}
theorem O9 (h:mh c nt k t) (hd:t.done=false) (Aj:t.eX.op≠7/\t.eX.op≠8):∃pc,mh c nt k (t.gE eW t.eX)/\(t.gE eW t.eX).pc=pc/\(0<=pc/\pc<=t.av.length)/\bN t.av pc.toNat=bN t.av t.pc.toNat/\(t.gE eW t.eX).done=decide (pc=t.av.length)/\(t.gE eW t.eX).av=t.av/\(t.gE eW t.eX).gP=t.gP/\(t.gE eW t.eX).aT=t.aT/\(t.gE eW t.eX).dx=t.dx/\(t.gE eW t.eX).dB=t.dB/\(t.gE eW t.eX).bB=t.bB/\(t.gE eW t.eX).gx=t.gx/\(t.gE eW t.eX).d7=t.d7:=by
 have cF:=h.lt hd;have jV:=h.pc;obtain⟨jC,hi⟩:=h.eX hd;have ho:=nW h hd;have hnx:bN t.av (t.pc+1).toNat=bN t.av t.pc.toNat:=by
  rw [vH jV.1];exact yK rfl (by omega) (by omega)
 have UA:∃pc,pc=(t.pc+1+if t.eX.op=4\/(t.eX.op=5/\t.df.bt t.eX.a=0)\/(t.eX.op=6/\t.df.bt t.eX.a≠0) then t.eX.bL else 0)/\(0<=pc/\pc<=t.av.length)/\bN t.av pc.toNat=bN t.av t.pc.toNat:=by
  refine⟨_,rfl,?_⟩;split;rename_i hj;have GS:t.av[t.pc.toNat].op=4\/t.av[t.pc.toNat].op=5\/t.av[t.pc.toNat].op=6:=by
   rw [<-hi];omega
  obtain⟨j1,j2⟩:=MP h.oW jC GS;obtain⟨_,j3⟩:=On h.oW jC GS;rw [<-hi] at j1 j2 j3;refine⟨by omega,?_⟩;rw [<-j2];congr 1;omega;refine⟨by omega,?_⟩;rw [Int.add_zero];exact hnx
 obtain⟨pc,he,hr,gJ⟩:=UA;refine⟨pc,?_,?_,hr,gJ,?_⟩;unfold aV.gE;rw [<-he];split;exact(h.fp _ _).to hr;split;exact(h.fp _ _).to hr;split;exact(h.fp _ _).to hr;split;exact(h.fp _ _).to hr;exact h.to hr;unfold aV.gE;rw [<-he];rfl;unfold aV.gE;rw [<-he];have e:∀t2:aV,t2.av=t.av->t2.gP=t.gP->t2.aT=t.aT->t2.dx=t.dx->t2.dB=t.dB->t2.bB=t.bB->t2.gx=t.gx->t2.d7=t.d7->(t2.to pc).done=decide (pc=t.av.length)/\(t2.to pc).av=t.av/\(t2.to pc).gP=t.gP/\(t2.to pc).aT=t.aT/\(t2.to pc).dx=t.dx/\(t2.to pc).dB=t.dB/\(t2.to pc).bB=t.bB/\(t2.to pc).gx=t.gx/\(t2.to pc).d7=t.d7:=by
  intro t2 a1 a2 a3 a4 a5 a6 a7 a8;refine⟨?_,a1,a2,a3,a4,a5,a6,a7,a8⟩;show decide (pc=t2.av.length)=_;rw [a1]
 split;exact e _ rfl rfl rfl rfl rfl rfl rfl rfl;split;exact e _ rfl rfl rfl rfl rfl rfl rfl rfl;split;exact e _ rfl rfl rfl rfl rfl rfl rfl rfl;split;exact e _ rfl rfl rfl rfl rfl rfl rfl rfl;exact e _ rfl rfl rfl rfl rfl rfl rfl rfl
theorem Rl (h:mh c nt k t) (hd:t.done=false) (Aj:t.eX.op≠7/\t.eX.op≠8) (ha:t.gP=none) (hs:t.aT=false) (hf:t.dx=none) (eE:t.dB=none) (gJ:bN t.av t.pc.toNat=none):j5 c nt (k+1) (t.gE eW t.eX):=by
 obtain⟨pc,g0,g1,g2,g3,g4,g5,g6,g7,g8,g9,kT,jX,nX⟩:=O9 (eW:=eW) h hd Aj;exact yJ (g0.mono (by omega)) (g6.trans ha) (g7.trans hs) (g8.trans hf) (g9.trans eE) (by rw [g5,g1,g3];exact gJ)
theorem Eg (hc:cx c) (hk:k<2^40) (hM:js c nt k M) (h:mh c nt (k+1) t) (hcn:t.hU<=k) (xH:t.gx.length<=2*k) (Pz:t.fG.length<=8*k) (hd:t.done=false) (hf:t.dx=none) (eE:t.dB=none)
 (hs:t.aT=true->(t.eX.op=12\/t.eX.op=13)/\bN t.av t.pc.toNat=none) (hw:t.aT=false->t.pc=t.bB/\t.eX.op=7/\bN t.av t.pc.toNat=none) :
 j5 c nt (k+1) (t.ot.vz M (fy (ey t.cf t.id)).2).2.2.1/\js c nt (k+1) (t.ot.vz M (fy (ey t.cf t.id)).2).2.2.2:=by
 have RG:=h.wx;have hcn0:=h.tg;have h1:mh c nt (k+1) t.ot:=⟨h.cf,h.nn,h.wx,h.oW,h.pc,h.dn,h.gx,by show ([]:List lT).length<=_;simp,h.uJ,h.xC,by show 0<=t.hU+1/\t.hU+1<=((k+1:Nat):Int);omega,h.wN,h.lR⟩;have hn:(ey t.cf t.id).kF 0=true:=rfl;have hb:nj c k (fy (ey t.cf t.id)).2:=yZ (by rw [h.cf];exact wg hc k t.id (by omega));have cL:(fy (ey t.cf t.id)).2.aA=1:=by unfold fy;rw [ay hn]
 have hbf:∀x∈(fy (ey t.cf t.id)).2.ar,0<=x/\x<c.nb:=by
  unfold fy;rw [ay hn];intro x hx;cases hx
 refine Gw hc hk hM h1 (by show t.gx.length+([]:List lT).length<=_;simpa using xH) (by show ([]:List lT).length<=_;simp) Pz hd hf eE ⟨hb,cL,hbf,hs,λe=>?_⟩;obtain⟨w1,w2,w3⟩:=hw e;have jV:=h.pc;have ho:=nW h hd;show cu t.av t.bB.toNat=7/\bN t.av t.bB.toNat=none/\0<=t.bB/\_;rw [<-w1];exact⟨ho.trans w2,w3,jV.1,.inl ⟨w1,w2⟩⟩
theorem OJ (hc:cx c) (hk:k<2^40) (hM:js c nt k M) (h:mh c nt k t) (hd:t.done=false) (ha:t.gP=none) (hs:t.aT=false) (hf:t.dx=none) (eE:t.dB=none) (gJ:bN t.av t.pc.toNat=none) (kJ:t.eX.op=12\/t.eX.op=13) :
 j5 c nt (k+1) (t.plain M t.eX).2.2.1/\js c nt (k+1) (t.plain M t.eX).2.2.2:=by
 have h':=h.mono (Nat.le_succ k);have xH:=h.gx;unfold aV.plain;dsimp only;split;refine⟨?_,hM.mono (by omega)⟩;split;exact yb (h'.fp _ _) xH hd ha hs hf eE kJ gJ _ _;exact yb h' xH hd ha hs hf eE kJ gJ _ _;split;exact Eg hc hk hM (t:={ t with aT:=true,eU:=0 }) ⟨h'.cf,h'.nn,h'.wx,h'.oW,h'.pc,h'.dn,h'.gx,h'.sn,h'.uJ,h'.xC,h'.tg,h'.wN,by dsimp only;omega⟩ h.tg.2 xH h.uJ hd hf eE (λ_=>⟨kJ,gJ⟩) (λe=>(by cases e));split;exact⟨CU h' xH hd ha hs hf eE kJ gJ _ _,hM.mono (by omega)⟩;exact⟨CU h' xH hd ha hs hf eE kJ gJ _ _,hM.VK (by omega) _ _ _ (by decide)⟩
theorem Jp (hc:cx c) (h:nj c k s) (i:bg):nj c k (t.Bw i s):=by
 have u0:∀x,0<=IntKind.u64.wrap x:=λx=>(lu x).1;unfold aV.Bw;split;exact OF hc h _ (u0 _);split;exact Oc h _ _ (u0 _);split;exact Vr hc h _;split;exact U4 hc h _;split;exact KE h _;split;exact KE h _;exact h
theorem yD (hs:s.aA=1) (i:bg):(t.Bw i s).aA=1:=by
 have key:∀r:aF,(r=s\/r.aA=1)->r.aA=1:=λr h=>by
  rcases h with rfl|h;exact hs;exact h
 unfold aV.Bw;split;exact key _ (Lp s _);split;exact key _ (Lc s _ _);split;exact key _ (Sm s _);split;exact key _ (RX s _);split;exact key _ (Ga s _);split;exact key _ (Ga s _);exact hs
theorem OG (s:aF) (a:Int):(GP s a).2.ar=s.ar:=by unfold GP;(repeat' split)<;>rfl
theorem Oe (s:aF) (a v:Int):(E4 s a v).2.ar=s.ar:=by unfold E4;split<;>rfl
theorem Vs (s:aF) (a:Int):(K4 s a).2.ar=s.ar:=by unfold K4;(repeat' split)<;>rfl
theorem U5 (s:aF) (a:Int):(Kv s a).2.ar=s.ar:=by unfold Kv;(repeat' split)<;>rfl
theorem KF (s:aF) (a:Int):(Cq s a).2.ar=s.ar:=by unfold Cq;(repeat' split)<;>rfl
theorem Em (hf:∀x∈s.ar,0<=x/\x<c.nb) (i:bg):∀x∈(t.Bw i s).ar,0<=x/\x<c.nb:=by
 have e:(t.Bw i s).ar=s.ar:=by
  unfold aV.Bw;split;exact OG _ _;split;exact Oe _ _ _;split;exact Vs _ _;split;exact U5 _ _;split;exact KF _ _;split;exact KF _ _;rfl
 rw [e];exact hf
theorem EV (hf:∀x∈s.ar,0<=x/\x<c.nb) (i:bg):∀x∈(t.tX i s).ar,0<=x/\x<c.nb:=by
 have e:(t.tX i s).ar=s.ar:=by
  unfold aV.tX;split;exact KF _ _;split;exact OG _ _;exact Oe _ _ _
 rw [e];exact hf
theorem AJ (hs:s.aA=1) (hb:s.gD=false) {av:Int} (EI:av=1\/av=2):pL (Cq s av).2.aC:=by
 have hf:s.kF 1=true:=by
  unfold aF.gD at hb;unfold aF.kF;rw [hs]
  simpa using hb
 unfold Cq;rw [ay hf,ap (by omega)];trivial
theorem Qi (hs:s.aA=1) (i:bg):(t.tX i s).aA=1:=by
 have key:∀r:aF,(r=s\/r.aA=1)->r.aA=1:=λr h=>by
  rcases h with rfl|h;exact hs;exact h
 unfold aV.tX;split;exact key _ (Ga s _);split;exact key _ (Lp s _);exact key _ (Lc s _ _)
theorem Qj (hc:cx c) (h:nj c k s) (i:bg):nj c k (t.tX i s):=by
 have u0:∀x,0<=IntKind.u64.wrap x:=λx=>(lu x).1;unfold aV.tX;split;exact KE h _;split;refine OF hc h _ ?_;unfold aV.rU;split<;>exact u0 _;refine Oc h _ _ ?_;unfold aV.rU;split<;>exact u0 _
theorem No (hc:cx c) (hk:k<2^40) (hM:js c nt k M) (h:mh c nt k t) (hd:t.done=false) (ha:t.gP=none) (hs:t.aT=false) (hf:t.dx=none) (eE:t.dB=none) (gJ:bN t.av t.pc.toNat=none) :
 j5 c nt (k+1) (t.lj eW M t.eX).2.2.1/\js c nt (k+1) (t.lj eW M t.eX).2.2.2:=by
 have h':=h.mono (Nat.le_succ k);obtain⟨jC,hi⟩:=h.eX hd;have s4:=(tD h.oW jC).1 gJ;rw [<-hi] at s4;have htr:=h.wN;unfold aV.lj;split;rename_i h7;exact Eg hc hk hM (t:={ t with bB:=t.pc,jg:=t.df,gF:=t.gF+1 }) ⟨h'.cf,h'.nn,h'.wx,h'.oW,h'.pc,h'.dn,h'.gx,h'.sn,h'.uJ,h'.xC,h'.tg,by dsimp only;omega,h'.lR⟩ h.tg.2 h.gx h.uJ hd hf eE (λe=>(by rw [show t.aT=true from e] at hs;cases hs)) (λ_=>⟨rfl,h7,gJ⟩);rename_i h7;rw [ha];dsimp only;split;rename_i kJ;exact OJ hc hk hM h hd ha hs hf eE gJ kJ;split;rename_i wR;exact Ld hc hM (t:={ t with gP:=none,dx:=some ⟨t.id,t.nt,false,0,0⟩ }) (f:=⟨t.id,t.nt,false,0,0⟩) ⟨h.cf,h.nn,h.wx,h.oW,h.pc,h.dn,h.gx,h.sn,h.uJ,h.xC,h.tg,h.wN,h.lR⟩ rfl hs hd wR gJ rfl rfl h.nn (by dsimp only;omega) (λ_=>rfl) (λl e=>(by rw [show t.dB=some l from e] at eE;cases eE));exact⟨Rl h hd ⟨h7,s4.1⟩ ha hs hf eE gJ,hM.mono (by omega)⟩
theorem Nn (hc:cx c) (hk:k<2^40) (hM:js c nt k M) (h:mh c nt k t) (hd:t.done=false) (ha:t.gP=some s) (hf:t.dx=none) (eE:t.dB=none) (xH:t.gx.length+t.d7.length<=2*k) (hR:Rest c k t s) (hb:s.gD=false) :
 j5 c nt (k+1) (t.lj eW M t.eX).2.2.1/\js c nt (k+1) (t.lj eW M t.eX).2.2.2:=by
 have h':=h.mono (Nat.le_succ k);obtain⟨jC,hi⟩:=h.eX hd;obtain⟨w1,w2,w3,w4⟩:=hR.Da;have s4:=(tD h.oW jC).2.1 _ w4;rw [<-hi] at s4;unfold aV.lj;rw [ap s4.1,ha];dsimp only;split;rename_i kJ;refine Gw hc hk hM (t:={ t with gP:=some (t.Bw t.eX s) }) ⟨h'.cf,h'.nn,h'.wx,h'.oW,h'.pc,h'.dn,h'.gx,h'.sn,h'.uJ,h'.xC,h'.tg,h'.wN,h'.lR⟩ xH h.sn h.uJ hd hf eE ⟨Jp hc hR.ok _,yD hR.st _,Em hR.An _,λe=>(by have e2:t.aT=true:=e;rw [hR.Lh] at e2;cases e2),λ_=>⟨w1,w2,w3,?_⟩⟩;by_cases h89:t.eX.op=8\/t.eX.op=9;right;right;unfold aV.Bw;rw [ap (by omega),ap (by omega),ap (by omega),ap (by omega)];split;exact AJ hR.st hb (.inl rfl);rw [ay (by omega)];exact AJ hR.st hb (.inr rfl);exact .inr (.inl ⟨w4,by show t.eX.op=10\/t.eX.op=11\/t.eX.op=14\/t.eX.op=15;omega⟩);rename_i kJ;refine⟨?_,hM.mono (by omega)⟩;obtain⟨pc,g0,g1,g2,g3,g4,g5,g6,g7,g8,g9,kT,jX,nX⟩:=O9 (eW:=eW) h hd ⟨s4.1,by omega⟩;have gJ:bN t.av pc.toNat=some t.bB.toNat:=g3.trans w4
 have B8:¬pc=t.av.length:=λe=>by
  rw [show pc.toNat=t.av.length by omega,(fY h.oW).2.2] at gJ;cases gJ
 refine⟨g0.mono (by omega),λe=>(by rw [g6,ha] at e;cases e),λs2 e=>?_,λf e=>(by rw [g8,hf] at e;cases e),λ_=>g9.trans eE,λl e=>(by rw [g9,eE] at e;cases e)⟩;rw [g6,ha] at e;injection e with e;subst e;refine⟨?_,by rw [g4];exact decide_eq_false B8,g8.trans hf,by rw [jX,nX];omega⟩;rw [ap (by rw [g7,hb,hR.Lh];simp)];exact⟨hR.ok.mono (by omega),hR.st,hR.An,g7.trans hR.Lh,by rw [g5,kT,g1];exact⟨w1,w2,w3,gJ⟩⟩
theorem Ov (hc:cx c) (hk:k<2^40) (hM:js c nt k M) (h:j5 c nt k t) (hd:t.done=false):j5 c nt (k+1) (t.ly eW M).2.2.1/\js c nt (k+1) (t.ly eW M).2.2.2:=by
 have mu:=h.co;have wB:=mu.mono (Nat.le_succ k);have hak:=mu.lR;unfold aV.ly;cases hf:t.dx with
 | some f=>
   obtain⟨g1,g2,g3,g4,g5,g6,g7⟩:=h.fen f hf;obtain⟨g8,g9⟩:=h.LH g1;exact Ld hc hM mu g1 g8 hd g3 g9 hf g4 g5 g6 g7 h.dr
 | none=>
   have eE:=h.O1 hf;dsimp only;cases ha:t.gP with
   | none=>
     obtain⟨g8,g9⟩:=h.LH ha;exact No hc hk hM mu hd ha g8 hf eE g9
   | some s=>
     obtain⟨g1,_,_,g2⟩:=h.Bn s ha;dsimp only;by_cases hb:s.gD=true;rw [ay hb];rw [ay (.inl hb)] at g1;exact Gw hc hk hM wB g2 mu.sn mu.uJ hd hf eE g1;rw [ap hb];have ks:s.gD=false:=by simpa using hb
     by_cases hs:t.aT=true;rw [ay hs];rw [ay (.inr hs)] at g1;exact Gw hc hk hM (t:=t.ask t.eX s) ⟨wB.cf,wB.nn,wB.wx,wB.oW,wB.pc,wB.dn,wB.gx,wB.sn,wB.uJ,wB.xC,wB.tg,wB.wN,by show 0<=t.eU+1/\t.eU+1<=((k+1:Nat):Int);omega⟩ g2 mu.sn mu.uJ hd hf eE ⟨Qj hc g1.ok _,Qi g1.st _,EV g1.An _,g1.Lh,λe=>(by rw [show t.aT=false from e] at hs;cases hs)⟩;rw [ap hs];rw [ap (by rw [ks];simpa using hs)] at g1;exact Nn hc hk hM mu hd ha hf eE g2 g1 ks
theorem Ew {id:Int} (RG:0<=id/\id<nt/\nt<=16) {p:List bg} (hp:(cK p).2=0):j5 c nt 0 (wd c id nt p):=by
 refine yJ ⟨rfl,rfl,RG,hp,⟨Int.le_refl _,by show (0:Int)<=p.length;omega⟩,?_,Nat.zero_le _,Nat.zero_le _,Nat.zero_le _,λx hx=>(by cases hx),⟨Int.le_refl _,Int.le_refl _⟩,⟨Int.le_refl _,Int.le_refl _⟩,⟨Int.le_refl _,Int.le_refl _⟩⟩ rfl rfl rfl rfl rfl;show decide (p.length=0)=decide ((0:Int)=p.length);by_cases e:p.length=0;simp [e];rw [decide_eq_false e,decide_eq_false (by omega)]
theorem j5.mono {k':Nat} (h:j5 c nt k t) (hk:k<=k'):j5 c nt k' t:=by
 refine⟨h.co.mono hk,h.LH,λs e=>?_,h.fen,h.O1,λl e=>?_⟩;obtain⟨g1,g2,g3,g4⟩:=h.Bn s e;refine⟨?_,g2,g3,by omega⟩;split;rename_i hb;rw [ay hb] at g1;exact⟨g1.ok.mono hk,g1.st,g1.An,g1.Lh,g1.Da⟩;rename_i hb;rw [ap hb] at g1;exact⟨g1.ok.mono hk,g1.st,g1.An,g1.Lh,g1.Da⟩;obtain⟨g1,g2,g3⟩:=h.dr l e;exact⟨g1,by omega,g3⟩
end
end
section
variable [Gl]
structure ReqOf (s0 s:aF):Prop where
 q:Tq s
 bS:s.bS=s0.bS
 ne:s.aC≠.cW
 c2:Cal2 s
 th:s.ak=s0.ak
 r0:∀(r:fV) (u:yf),s.aC=.aP r u->r.br=0
def Came (t:aV) (s:aF):Prop:=
 t.gP=some s\/(∃s0,t.gP=some s0/\s0.aC=.bq/\s0.aA=1/\ReqOf s0 s)\/(t.gP=none/\s=(fy (ey t.cf t.id)).2)
inductive EZ (c:bH) (k:Nat) (t:aV) (M:Mm):gu->aV->Mm->Prop
 | gE {st:gu} {t':aV}:st.xh=0->st.Ap=aU.zero->t'.gP=t.gP->EZ c k t M st t' M
 | load {st:gu} {t':aV} (a:Int):t.gP=none->t'.gP=none->c.aT=false->(0<=a/\a<c.aR)->st.xh=1->st.Ap=gy M 1 a->(t.eX.op=12\/t.eX.op=13)->EZ c k t M st t' M
 | store {st:gu} {t':aV} (a v:Int):t.gP=none->t'.gP=none->c.aT=false->(0<=a/\a<c.aR)->st.xh=1->st.Ap=Bm M 1 a v->(t.eX.op=12\/t.eX.op=13)->EZ c k t M st t' (Dq M 1 a v)
 | dx {st:gu} {t':aV}:t.gP=none->t'.gP=none->(st.xh=25/\st.Ap=gy M 3 0)\/(st.xh=26/\(st.Ap=aU.zero\/∃i,st.Ap=gy M 6 i))->EZ c k t M st t' M
 | dB {st:gu} {t':aV} (p:eZ):t.gP=none->t'.gP=none->E0 c p->st.xh=gL (ct p M).1->st.Ap=(ct p M).1->EZ c k t M st t' (ct p M).2.2
 | gP {st:gu} {t':aV} (s:aF):nj c k s->s.aA=1->Came t s->st.xh=(bE s M).2.1->st.Ap=(bE s M).1->(t'.gP=some (bE s M).2.2.1\/(t'.gP=none/\(bE s M).2.2.1.aA=2/\(bE s M).2.2.1.aC=.bq))->EZ c k t M st t' (bE s M).2.2.2
section
variable {c:bH} {nt k:Nat} {t:aV} {s:aF} {M:Mm}
theorem Ny (h:s.gD=false):s.aC=.bq:=by
 unfold aF.gD at h;revert h;cases s.aC<;>first|(intro _;rfl)|(intro h;cases h)
variable {eW:Int->Int->Int->Int}
theorem Uc (hc:cx c) (h:mh c nt k t):nj c k (fy (ey t.cf t.id)).2/\(fy (ey t.cf t.id)).2.aA=1:=by
 have RG:=h.wx;refine⟨yZ (by rw [h.cf];exact wg hc k t.id (by omega)),?_⟩;have hn:(ey t.cf t.id).kF 0=true:=rfl;unfold fy;rw [ay hn]
end
end
section
variable [Gl]
def p4 (v n:Int):List bg:=[⟨1,1,0,0,v⟩,⟨12,1,0,0,n⟩,⟨13,0,1,0,n⟩,⟨12,2,0,0,-1⟩]
variable (eW:Int->Int->Int->Int)
def f4 (v n:Int) (c:bH) (j:Nat):aV:=
 { wd c 0 1 (p4 v n) with pc:=j,done:=decide (j=4),df:=if j=1 then R8.zero.set 1 (IntKind.u64.wrap v) else .zero,gx:=[⟨1,7,7⟩,⟨2,7,7⟩,⟨3,7,7⟩].take (j-1) }
end
end Go.Stx
