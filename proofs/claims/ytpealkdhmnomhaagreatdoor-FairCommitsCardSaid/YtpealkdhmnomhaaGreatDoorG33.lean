/-
 What always holds of the machine: locks, tickets, versions.
-/
import Derived.Test.YtpealkdhmnomhaaGreatDoorG22
import Derived.Test.YtpealkdhmnomhaaGreatDoorG31
set_option linter.unusedVariables false
set_option linter.unusedSimpArgs false
set_option linter.unusedSectionVars false
set_option maxRecDepth 20000
set_option maxHeartbeats 4000000
open Nat renaming le_succ->Zo
open Option.some renaming inj->kau
open Bool renaming true->qg
open Option renaming some->qc
open Or renaming inl->qq,inr->qt
namespace Go.Stx
open Go Go.Proofs
attribute [local irreducible] cM aV aB aL cU dh
section
variable [Gl]
variable [AF]
structure EJ (c:aY) (nt k:Nat) (m:rW):Prop where
 ok:xn c nt k m
 yq:∀(i:Nat) (t:aU),m.fN[i]? = some t->t.id=(i:Int)
 ti:∀(i:Nat) (t:aU) (s:aI),m.fN[i]? = some t->t.fR=some s->nZ c k s/\s.am=(i:Int)/\sx c s m.M/\Md s
 dis:∀(i j:Nat) (t u:aU) (s r:aI) (n:Int),m.fN[i]? = some t->m.fN[j]? = some u->t.fR=some s->u.fR=some r->i≠j->mN s=some n->mN r≠some n
 oX:∀o:Int,iX m.M o / 64<=kI m.M+1
structure Me (c:aY) (k:Nat) (m:rW) (i:Nat) (t:aU) (st:dm) (t':aU) (M':Mm):Prop where
 cs:vW c k t m.M st t' M'
 th:st.am=(i:Int)
 lU:oW m.M st.lU M'
 p13:st.fu=13->st.lU.eY=xu m.M/\∀(s':aI) (n:Int),t'.fR=some s'->mN s'=some n->n=xu m.M
 n13:st.fu≠13->∀(s':aI) (n:Int),t'.fR=some s'->mN s'=some n->∃s,t.fR=some s/\mN s=some n
 dn:(st.fu=15\/st.fu=16\/st.fu=17\/st.fu=19\/st.fu=20)->∃s,t.fR=some s/\mN s=some (xO m.M)/\nR s=true
 sv:xO M'=if st.fu=20 then xO m.M+1 else xO m.M
 ck:kI m.M<=kI M'
 oX:∀o:Int,iX m.M o / 64<=iX M' o / 64
section
variable {c:aY} {nt k:Nat} {m:rW}
theorem sx.sT {s:aI} {M M':Mm} (h:sx c s M) (h1:M' 1=M 1) (h2:M' 2=M 2) (h3:M' 3=M 3) (h4:M' 4=M 4):sx c s M':=by
 refine⟨h.nod,λi hi=>?_,λe=>?_,h.lg,λn e=>?_⟩;have:=h.lk i hi;unfold iX at this ⊢;rw [h1];exact this;have:=h.cm e;unfold kI at this ⊢;rw [h2];exact this;have:=h.tk n e;unfold xu xO at this ⊢;rw [h3,h4];exact this
theorem EJ.aM (h:EJ c nt k m) {i j:Nat} {t u:aU} {s r:aI} (hi:m.fN[i]? = qc t) (hj:m.fN[j]? = qc u) (hs:t.fR=qc s) (hr:u.fR=qc r) (h1:nR s=qg) (h2:nR r=qg):i=j:=by
 apply Classical.byContradiction;intro gZ;obtain⟨a1,_,a2,_⟩:=h.ti i t s hi hs;obtain⟨b1,_,b2,_⟩:=h.ti j u r hj hr;obtain⟨n,hn⟩:=WY a1 h1;obtain⟨q,hq⟩:=WY b1 h2;have e1:=(a2.tk n hn).2 h1;have e2:=(b2.tk q hq).2 h2;exact h.dis i j t u s r n hi hj hs hr gZ hn (by rw [hq,e1,e2])
theorem EJ.iM (h:EJ c nt k m) {i j:Nat} {t u:aU} {s r s':aI} {M':Mm} (hi:m.fN[i]? = qc t) (hs:t.fR=qc s\/vX s) (NI:s.am=(i:Int)) (he:Mi c s m.M s' M') (hj:m.fN[j]? = qc u) (hr:u.fR=qc r) (gZ:j≠i):sx c r M':=by
 obtain⟨hA,ht1,hT,_⟩:=h.ti j u r hj hr;have hx:∀e1:nR s=qg,nR r=qg->False:=λe1 e2=>by
  rcases hs with hs|hs;exact gZ (h.aM hj hi hr hs e2 e1);rw [hs.d] at e1;cases e1
 have wY:∀i,i<(rU r).length->iX M' ((rU r).getD i 0)=iX m.M ((rU r).getD i 0):=by
  intro i hi;have h1:=(hT.lk i hi).1;rcases he.m1 ((rU r).getD i 0).toNat with h2|h2|h2;exact h2;have h3:iX m.M ((rU r).getD i 0) % 64=0:=h2;have:=hA.b.Mn;omega;have h3:iX m.M ((rU r).getD i 0) % 64=s.am+1:=h2;omega
 refine⟨hT.nod,λi hi=>?_,λe=>?_,hT.lg,λn e=>?_⟩;rw [wY i hi];exact hT.lk i hi;rcases he.gL with h1|⟨h1,_⟩;rw [h1];exact hT.cm e;exact(hx (W2 h1) (W2 e)).elim;obtain⟨h1,h2⟩:=hT.tk n e;refine⟨by have:=he.tkn;omega,λe2=>?_⟩;rcases he.sv with h3|h3;rw [h3];exact h2 e2;exact(hx h3 e2).elim
theorem EJ.lQ (h:EJ c nt k m) {i:Nat} {t t':aU} {st:dm} {m':rW} (hi:m.fN[i]? = qc t) (ho:xn c nt (k+1) m') (Dx:m'.fN=m.fN.set i t') (Mt:t'.id=(i:Int))
 (RH:∀s':aI,t'.fR=qc s'->nZ c (k+1) s'/\s'.am=(i:Int)/\sx c s' m'.M/\Md s')
 (hoth:∀(j:Nat) (u:aU) (r:aI),j≠i->m.fN[j]? = qc u->u.fR=qc r->sx c r m'.M) (hv:∀o:Int,iX m'.M o / 64<=kI m'.M+1) (hS:Me c k m i t st t' m'.M):EJ c nt (k+1) m':=by
 have bY:i<m.fN.length:=(List.getElem?_eq_some_iff.1 hi).1;have hg:∀(j:Nat) (u:aU),m'.fN[j]? = qc u->(j=i/\u=t')\/(j≠i/\m.fN[j]? = qc u):=by
  intro j u hu;rw [Dx] at hu;by_cases hj:j=i;subst hj;rw [List.getElem?_set_self bY] at hu;exact qq ⟨rfl,(kau hu).symm⟩;rw [List.getElem?_set_ne (Ne.symm hj)] at hu;exact qt ⟨hj,hu⟩
 have MI:∀(j:Nat) (u:aU) (r:aI) (n:Int) (s':aI) (n':Int),j≠i->m.fN[j]? = qc u->u.fR=qc r->mN r=qc n->t'.fR=qc s'->mN s'=qc n'->n≠n':=by
  intro j u r n s' n' hj hu hr hn Tj hn' e;subst e;by_cases N1:st.fu=13;have e1:=(hS.p13 N1).2 s' n Tj hn';have e2:=((h.ti j u r hu hr).2.2.1.tk n hn).1;omega;obtain⟨s,hs,hsn⟩:=hS.n13 N1 s' n Tj hn';exact h.dis i j t u s r n hi hu hs hr (Ne.symm hj) hsn hn
 refine⟨ho,λj u hu=>?_,λj u s hu hs=>?_,λj l u v s r n hu VZ hs hr gZ hn hm=>?_,hv⟩;rcases hg j u hu with ⟨rfl,rfl⟩|⟨hj,hu⟩;exact Mt;exact h.yq j u hu;rcases hg j u hu with ⟨rfl,rfl⟩|⟨hj,hu⟩;exact RH s hs;obtain⟨a1,a2,_,a3⟩:=h.ti j u s hu hs;exact⟨a1.mono (Zo k),a2,hoth j u s hj hu hs,a3⟩;rcases hg j u hu with ⟨rfl,rfl⟩|⟨hj,hu⟩;rcases hg l v VZ with ⟨rfl,rfl⟩|⟨hl,VZ⟩;exact gZ rfl;exact MI l v r n s n hl VZ hr hm hs hn rfl;rcases hg l v VZ with ⟨rfl,rfl⟩|⟨hl,VZ⟩;exact MI j u s n r n hj hu hs hn hr hm rfl;exact h.dis j l u v s r n hu VZ hs hr gZ hn hm
theorem Et (t:aU):vX (gv (fh t.cf t.id)).2/\(gv (fh t.cf t.id)).2.am=t.id:=by
 have hn:(fh t.cf t.id).ga 0=qg:=rfl;unfold gv;rw [ay hn];exact⟨iC trivial,rfl⟩
theorem vX.tinv {s:aI} {M:Mm} (h:vX s) (hl:GD c s):sx c s M:=
 ⟨by rw [h.l];exact List.nodup_nil,λi hi=>(by rw [h.l] at hi;simp at hi),λe=>(by rw [h.c] at e;cases e),hl,λn e=>(by rw [h.t] at e;cases e)⟩
theorem EJ.step (hc:da c) (hk:k+1<2^24) (h:EJ c nt k m) {i:Nat} {t t':aU} {st:dm} {m':rW} (hi:m.fN[i]? = qc t) (ho:xn c nt (k+1) m') (Dx:m'.fN=m.fN.set i t') (Mt:t'.id=t.id) (NI:st.am=t.id) (hC:vW c k t m.M st t' m'.M):EJ c nt (k+1) m'/\Me c k m i t st t' m'.M:=by
 have hid0:=h.yq i t hi;have hC0:=hC;rw [hid0] at Mt NI;have sT:∀(ha:t'.fR=t.fR) (hp:st.fu<=11\/21<=st.fu) (hA:oW m.M st.lU m'.M),m'.M 1=m.M 1->m'.M 2=m.M 2->m'.M 3=m.M 3->m'.M 4=m.M 4->EJ c nt (k+1) m'/\Me c k m i t st t' m'.M:=by
  intro ha hp hA h1 h2 h3 h4;have hS:Me c k m i t st t' m'.M:=by
   refine⟨hC0,NI,hA,λe=>by omega,λ_ s' n e e2=>⟨s',ha▸e,e2⟩,λe=>by omega,by rw [aw Ya];unfold xO;rw [h4],by unfold kI;rw [h2];exact Int.le_refl _,λo=>by unfold iX;rw [h1];exact Int.le_refl _⟩
  refine⟨h.lQ hi ho Dx Mt (λs' e=>?_) (λj u r _ hu hr=>(h.ti j u r hu hr).2.2.1.sT h1 h2 h3 h4) (λo=>by have:=h.oX o;unfold iX kI at this ⊢;rw [h1,h2];exact this) hS,hS⟩;obtain⟨a1,a2,a3,a4⟩:=h.ti i t s' hi (ha▸e);exact⟨a1.mono (Zo k),a2,a3.sT h1 h2 h3 h4,a4⟩
 generalize tM:m'.M=M' at hC;cases hC with
 | je h1 h2 h3=>exact tM▸sT h3 Ya (by rw [h2,tM];exact .zero _) Yp Yp Yp Yp
 | load a h1 h2 h3 h4 h5 h6=>exact tM▸sT (h2.trans h1.symm) Ya (by rw [h6,tM];exact .load ..) Yp Yp Yp Yp
 | store a v h1 h2 h3 h4 h5 h6=>exact tM▸sT (h2.trans h1.symm) Ya (by rw [h6,tM];exact .op ..) (by rw [tM];exact gz Yf) (by rw [tM];exact gz Yf) (by rw [tM];exact gz Yf) (by rw [tM];exact gz Yf)
 | ee h1 h2 h3=>
   refine tM▸sT (h2.trans h1.symm) (by rcases h3 with h3|h3<;>omega) ?_ Yp Yp Yp Yp;rw [tM];rcases h3 with ⟨_,h3⟩|⟨_,h3|⟨j,h3⟩⟩<;>rw [h3];exact .load ..;exact .zero _;exact .load ..
 | dY p h1 h2 h3 h4 h5=>
   have hl:=Dp p m.M;exact tM▸sT (h2.trans h1.symm) (by rw [h4];exact qt (KR _)) (by rw [h5,tM];exact Rh p m.M) (by rw [tM];exact hl.2.1) (by rw [tM];exact hl.2.2.1) (by rw [tM];exact hl.2.2.2.1) (by rw [tM];exact hl.2.2.2.2)
 | fR s hO dw EY RL hac nV=>
   have hpre:s.am=(i:Int)/\sx c s m.M/\Md s/\(t.fR=qc s\/vX s)/\(∀n,mN s=qc n->∃s0,t.fR=qc s0/\mN s0=qc n)/\(nR s=qg->t.fR=qc s):=by
    rcases EY with e|⟨s0,e,e1,e2,e3⟩|⟨e,e1⟩;obtain⟨a1,a2,a3,a4⟩:=h.ti i t s hi e;exact⟨a2,a3,a4,qq e,λn hn=>⟨s,e,hn⟩,λ_=>e⟩;obtain⟨a1,a2,a3,a4⟩:=h.ti i t s0 hi e;exact⟨e3.th.trans a2,e3.q.tinv (e3.c2.lg hO.b.cf),.off e3.q.d,qt e3.q,λn hn=>(by rw [e3.q.t] at hn;cases hn),λe4=>(by rw [e3.q.d] at e4;cases e4)⟩;obtain⟨b1,b2⟩:=Et t;rw [<-e1] at b1 b2;have b3:GD c s:=by
     rw [e1];have hn:(fh t.cf t.id).ga 0=qg:=rfl;unfold gv;rw [ay hn];exact trivial
    exact⟨b2.trans hid0,b1.tinv b3,.off b1.d,qt b1,λn hn=>(by rw [b1.t] at hn;cases hn),λe4=>(by rw [b1.d] at e4;cases e4)⟩
   obtain⟨p1,p2,p3,p4,p5,p6⟩:=hpre;have hE:Mi c s m.M (ba s m.M).2.2.1 (ba s m.M).2.2.2:=UY hc Ya hO h.ok.M p2;have hU:=Jn hc Ya hO h.ok.M p2 p3;have yw:kI m.M<=kI (ba s m.M).2.2.2:=by
    rcases hE.gL with h1|⟨_,h1⟩;omega;exact h1
   have hS:Me c k m i t st t' (ba s m.M).2.2.2:=by
    have Lo:∀(s':aI) (n:Int),t'.fR=qc s'->mN s'=qc n->s'=(ba s m.M).2.2.1:=by
     intro s' n e _;rcases nV with nV|⟨nV,_⟩;rw [nV] at e;exact(kau e).symm;rw [nV] at e;cases e
    refine⟨tM▸hC0,NI,by rw [hac];exact att_ao s m.M,λe=>?_,λe s' n e1 e2=>?_,λe=>?_,by rw [RL];exact hU.sv,yw,λo=>(hU.oX h.oX o).1⟩;obtain⟨g1,g2⟩:=hU.p13 (RL▸e);refine⟨by rw [hac];exact g2,λs' n e1 e2=>?_⟩;have e3:=Lo s' n e1 e2;rw [e3] at e2;rcases hE.tks with g|g|g;rw [g] at e2;cases e2;rw [g,g1] at e2;cases e2;rw [g] at e2;exact(kau e2).symm;have e3:=Lo s' n e1 e2;rw [e3] at e2;have g3:=hU.n13 (λe9=>e (RL.trans e9));rcases hE.tks with g|g|g;rw [g] at e2;cases e2;rw [g] at e2;exact p5 n e2;have g4:=(hE.ti.tk n e2).1;rw [g] at e2;have:=kau e2;omega;have g:=hU.dn (by rw [<-RL];exact e);obtain⟨n,hn⟩:=WY hO g;have g5:=(p2.tk n hn).2 g;exact⟨s,p6 g,by rw [hn,g5],g⟩
   have hv:∀o:Int,iX (ba s m.M).2.2.2 o / 64<=kI (ba s m.M).2.2.2+1:=λo=>by
    have:=(hU.oX h.oX o).2;omega
   have hoth:∀(j:Nat) (u:aU) (r:aI),j≠i->m.fN[j]? = qc u->u.fR=qc r->sx c r (ba s m.M).2.2.2:=λj u r hj hu hr=>h.iM hi p4 p1 hE hu hr hj;have RH:∀s':aI,t'.fR=qc s'->nZ c (k+1) s'/\s'.am=(i:Int)/\sx c s' (ba s m.M).2.2.2/\Md s':=λs' e=>by
    rcases nV with nV|⟨nV,_⟩;rw [nV] at e;have e:=kau e;subst e;exact⟨(zg hc Ya hO h.ok.M).1,(HB s m.M).trans p1,hE.ti,UO hO p3⟩;rw [nV] at e;cases e
   rw [<-tM] at hv hoth RH hS ⊢;exact⟨h.lQ hi ho Dx Mt RH hoth hv hS,hS⟩
theorem U0 {ez:Int->Int->Int->Int} {t:aU} {M:Mm}:(t.m8 ez M).2.2.1.id=t.id:=by
 unfold aU.m8;split;exact Ki _;split;split;exact Bz;split;exact Bz;exact Fk _;exact Fk _
theorem EJ.mono (h:EJ c nt k m):EJ c nt (k+1) m:=
 ⟨h.ok.mono (Zo k),h.yq,λi t s a b=>let ⟨g1,g2⟩:=h.ti i t s a b;⟨g1.mono (Zo k),g2⟩,h.dis,h.oX⟩
theorem EJ.pick {ez:Int->Int->Int->Int} (hA:xN ez) (hc:da c) (hk:k+1<2^24) (h:EJ c nt k m) (id:Int) :
 EJ c nt (k+1) (m.pick ez id)/\((m.pick ez id)=m\/∃i t st t',m.fN[i]? = qc t/\(m.pick ez id).fN=m.fN.set i t'/\(m.pick ez id).bu=m.bu++[st]/\Me c k m i t st t' (m.pick ez id).M):=by
 have ho:=h.ok.pick hA hc hk id;revert ho;unfold rW.pick;split;split;exact λ_=>⟨h.mono,qq rfl⟩;rename_i t ht;dsimp only;split;rename_i hs;intro ho;have hd:t.done=false:=by
  cases e:t.done with
  | false=>rfl
  | true=>unfold aU.step at hs;rw [ay e] at hs;cases hs
 have e:t.step ez m.M=(qg,{ (t.m8 ez m.M).1 with am:=t.id },(t.m8 ez m.M).2):=by unfold aU.step;rw [aw (by rw [hd];decide)]
 rw [e] at ho ⊢;have hC:=SC (ez:=ez) (st:={ (t.m8 ez m.M).1 with am:=t.id }) (M:=m.M) hc (h.ok.T t (List.mem_of_getElem? ht)).1 hd rfl rfl;obtain⟨g1,g2⟩:=h.step hc hk ht ho rfl U0 rfl hC;exact⟨g1,qt ⟨_,t,_,_,ht,rfl,rfl,g2⟩⟩;exact λ_=>⟨h.mono,qq rfl⟩;exact λ_=>⟨h.mono,qq rfl⟩
theorem RC {c:aY} (tL:nT c) {zs:List Int} {ps:List (List bq)} (hz:(zs.length:Int)=c.bg) (hn:ps.length<=16) (lp:∀i (hi:i<ps.length),(c8 ps[i]).2=0) (rj:∀p∈ps,DY p):EJ c ps.length 0 (ng c zs ps):=by
 have hg:∀(i:Nat) (t:aU),(ng c zs ps).fN[i]? = qc t->t.id=(i:Int)/\t.fR=none:=λi t h=>by
  have h:(ps.mapIdx λi p=>pD c i ps.length p)[i]? = qc t:=h;rw [List.getElem?_mapIdx] at h;cases e:ps[i]? with
  | none=>rw [e] at h;cases h
  | some p=>rw [e] at h;have h:=kau h;rw [<-h];exact⟨rfl,rfl⟩
 refine⟨Gv tL hz hn lp rj,λi t h=>(hg i t h).1,λi t s h e=>(by rw [(hg i t h).2] at e;cases e),λi j t u s r n h _ e=>(by rw [(hg i t h).2] at e;cases e),λo=>?_⟩;have h1:iX (ng c zs ps).M o=0:=by
  show (List.replicate c.av.toNat (0:Int)).getD o.toNat 0=0;rw [List.getD_eq_getElem?_getD,List.getElem?_replicate];split<;>rfl
 rw [h1];show (0:Int) / 64<=0+1;decide
end
def yb {σ:Type} (f:dm->σ->Option σ) (s:σ) (l:List dm):Option σ:=l.foldl (λo x=>o.bind (f x)) (qc s)
theorem DI {σ:Type} (f:dm->σ->Option σ):∀(l:List dm) (o:Option σ),l.foldl (λo x=>o.bind (f x)) o=o.bind λs=>yb f s l
 | [],o=>by cases o<;>rfl
 | x::l,o=>by
   rw [List.foldl_cons,DI f l];cases o with
   | none=>rfl
   | some s=>
     show (f x s).bind _=yb f s (x::l);unfold yb;rw [List.foldl_cons,DI f l];rfl
theorem FZ {σ:Type} (f:dm->σ->Option σ) (s:σ) (l r:List dm):yb f s (l++r)=(yb f s l).bind λa=>yb f a r:=by
 unfold yb;rw [List.foldl_append,DI f r];rfl
theorem U2 {α:Type} {P:List α->Prop} (h0:P []) (h1:∀l x,P l->P (l++[x])) (l:List α):P l:=by
 have:∀r:List α,P r.reverse:=λr=>by
  induction r with
  | nil=>exact h0
  | cons x r ih=>rw [List.reverse_cons];exact h1 _ _ ih
 have h:=this l.reverse;rwa [List.reverse_reverse] at h
theorem Rd {σ:Type} {ez:Int->Int->Int->Int} (hA:xN ez) {c:aY} {nt:Nat} (hc:da c) {f:dm->σ->Option σ} {s0:σ} {Rel:rW->σ->Prop} {m0:rW} (h0:EJ c nt 0 m0) (Mq:m0.bu=[]) (hR0:Rel m0 s0)
 (um:∀k m m' s i t st t',k<2^24->EJ c nt k m->EJ c nt (k+1) m'->Rel m s->m.fN[i]? = qc t->m'.fN=m.fN.set i t'->m'.bu=m.bu++[st]->Me c k m i t st t' m'.M->∃s',f st s=qc s'/\Rel m' s') :
 ∀pk:List Int,pk.length<2^24->EJ c nt pk.length (om ez m0 pk)/\∃s,yb f s0 (om ez m0 pk).bu=qc s/\Rel (om ez m0 pk) s:=by
 intro pk
 induction pk using U2 with
 | h0=>exact λ_=>⟨h0,s0,by show yb f s0 m0.bu=_;rw [Mq];rfl,hR0⟩
 | h1 pk x ih=>
   intro hk;rw [List.length_append,List.length_singleton] at hk ⊢;obtain⟨g1,s,g2,g3⟩:=ih Ya;rw [F0];obtain⟨p1,p2⟩:=g1.pick hA hc Ya x;refine⟨p1,?_⟩;rcases p2 with p2|⟨i,t,st,t',q1,q2,q3,q4⟩;rw [p2];exact⟨s,g2,g3⟩;obtain⟨s',r1,r2⟩:=um pk.length _ _ s i t st t' Ya g1 p1 g3 q1 q2 q3 q4;refine⟨s',?_,r2⟩;rw [q3,FZ,g2];exact r1
structure TuS where
 MI:List Int
 srv:Int
 gL:Int
 vers:List Int
structure TuRel (c:aY) (nt:Nat) (m:rW) (σ:TuS):Prop where
 tl:σ.MI.length=nt
 tk:∀(i:Nat) (t:aU) (s:aI) (n:Int),m.fN[i]? = some t->t.fR=some s->mN s=some n->σ.MI.getD i 0=n
 srv:σ.srv=xO m.M
 sr0:0<=σ.srv
 gL:σ.gL<=kI m.M
 vl:(σ.vers.length:Int)=c.av
 oX:∀o:Nat,σ.vers.getD o 0<=iX m.M o / 64
end
end Go.Stx
