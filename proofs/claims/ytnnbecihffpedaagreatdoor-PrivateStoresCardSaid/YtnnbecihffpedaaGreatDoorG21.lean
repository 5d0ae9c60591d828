import Derived.Test.YtnnbecihffpedaaGreatDoorG20
set_option linter.all false
set_option maxRecDepth 20000
set_option maxHeartbeats 4000000
open List renaming length->U
open Go.Proofs.Tryz renaming prog->qZ
open Go.Stx.AW.Wf renaming alloc->kbK
open Int renaming le_refl->ZH
open List renaming getD_eq_getElem?_getD->Ze,getElem?_eq_getElem->Zf,getElem?_eq_some_iff->Zy,getElem?_set_ne->ZT,getElem?_set_self->ZN,length_replicate->ka8,replicate->q9
open Nat renaming le_refl->Za,le_succ->Zx
open Ne renaming symm->Zp
open Option.some renaming inj->ZC
open Bool renaming true->qj
open Go renaming Value->qi
open Go.IntKind renaming i64->qg,u64->qr
open Go.Stx.dt renaming cells->qm
open Go.Value renaming int->qh,slice->ql
open Option renaming none->qk,some->qf
open Or renaming inl->qw,inr->qB
namespace Go.Stx
open Go Go.Proofs
attribute [local irreducible] df aW aE aL cY dm TW bK
section
variable [Gl]
variable [AF]
structure Ex (c:bu) (nt k:Nat) (m:sy):Prop where
 ok:yt c nt k m
 zH:∀(i:Nat) (t:aV),m.fG[i]? = some t->t.id=(i:Int)
 ti:∀(i:Nat) (t:aV) (s:aJ),m.fG[i]? = some t->t.fR=some s->oU c k s/\s.af=(i:Int)/\uM c s m.M/\Rq s
 dis:∀(i j:Nat) (t u:aV) (s r:aJ) (n:Int),m.fG[i]? = some t->m.fG[j]? = some u->t.fR=some s->u.fR=some r->i≠j->ng s=some n->ng r≠some n
 pX:∀o:Int,kF m.M o / 64<=sQ m.M+1
structure GT (c:bu) (k:Nat) (m:sy) (i:Nat) (t:aV) (st:bS) (t':aV) (M':Mm):Prop where
 cs:uN c k t m.M st t' M'
 th:st.af=(i:Int)
 jq:pM m.M st.jq M'
 p13:st.eK=13->st.jq.eV=yy m.M/\∀(s':aJ) (n:Int),t'.fR=some s'->ng s'=some n->n=yy m.M
 n13:st.eK≠13->∀(s':aJ) (n:Int),t'.fR=some s'->ng s'=some n->∃s,t.fR=some s/\ng s=some n
 dn:(st.eK=15\/st.eK=16\/st.eK=17\/st.eK=19\/st.eK=20)->∃s,t.fR=some s/\ng s=some (yz m.M)/\pF s=true
 sv:yz M'=if st.eK=20 then yz m.M+1 else yz m.M
 ck:sQ m.M<=sQ M'
 pX:∀o:Int,kF m.M o / 64<=kF M' o / 64
section
variable {c:bu} {nt k:Nat} {m:sy}
def uM.HY {s:aJ}{M M':Mm}(h:uM c s M)(h1:M' 1=M 1)(h2:M' 2=M 2)(h3:M' 3=M 3)(h4:M' 4=M 4):uM c s M':=by refine⟨h.nod,λi hi=>?_,λe=>?_,h.lg,λn e=>?_⟩;have:=h.lk i hi;unfold kF at this ⊢;rw[h1];exact this;have:=h.cm e;unfold sQ at this ⊢;rw[h2];exact this;have:=h.tk n e;unfold yy yz at this ⊢;rw[h3,h4];exact this
def Ex.aM (h:Ex c nt k m){i j:Nat}{t u:aV}{s r:aJ}(hi:m.fG[i]?=qf t)(hj:m.fG[j]?=qf u)(hs:t.fR=qf s)(hr:u.fR=qf r)(h1:pF s=qj)(h2:pF r=qj):i=j:=by apply Classical.byContradiction;intro fL;obtain⟨a1,_,a2,_⟩:=h.ti i t s hi hs;obtain⟨b1,_,b2,_⟩:=h.ti j u r hj hr;obtain⟨n,hn⟩:=dn_tk a1 h1;obtain⟨q,hq⟩:=dn_tk b1 h2;have e1:=(a2.tk n hn).2 h1;have e2:=(b2.tk q hq).2 h2;exact h.dis i j t u s r n hi hj hs hr fL hn (by rw[hq,e1,e2])
def Ex.km (h:Ex c nt k m){i j:Nat}{t u:aV}{s r s':aJ}{M':Mm}(hi:m.fG[i]?=qf t)(hs:t.fR=qf s\/vG s)(F7:s.af=(i:Int))(he:Oz c s m.M s' M')(hj:m.fG[j]?=qf u)(hr:u.fR=qf r)(fL:j≠i):uM c r M':=by
 obtain⟨hA,ht1,hT,_⟩:=h.ti j u r hj hr;have hx:∀e1:pF s=qj,pF r=qj->False:=λe1 e2=>by rcases hs with hs|hs;exact fL (h.aM hj hi hr hs e2 e1);rw[hs.d]at e1;cases e1
 have vV:∀i,i<U (s8 r)->kF M' ((s8 r).getD i 0)=kF m.M ((s8 r).getD i 0):=by intro i hi;have h1:=(hT.lk i hi).1;rcases he.m1 ((s8 r).getD i 0).toNat with h2|h2|h2;exact h2;have h3:kF m.M ((s8 r).getD i 0) % 64=0:=h2;have:=hA.b.Rw;omega;have h3:kF m.M ((s8 r).getD i 0) % 64=s.af+1:=h2;omega
 refine⟨hT.nod,λi hi=>?_,λe=>?_,hT.lg,λn e=>?_⟩;rw[vV i hi];exact hT.lk i hi;rcases he.jC with h1|⟨h1,_⟩;rw[h1];exact hT.cm e;exact(hx (cm_dn h1) (cm_dn e)).elim;obtain⟨h1,h2⟩:=hT.tk n e;refine⟨by have:=he.tkn;omega,λe2=>?_⟩;rcases he.sv with h3|h3;rw[h3];exact h2 e2;exact(hx h3 e2).elim
def Ex.mu (h:Ex c nt k m){i:Nat}{t t':aV}{st:bS}{m':sy}(hi:m.fG[i]?=qf t)(ho:yt c nt (k+1) m')(xW:m'.fG=m.fG.set i t')(OK:t'.id=(i:Int))(nj:∀s':aJ,t'.fR=qf s'->oU c (k+1) s'/\s'.af=(i:Int)/\uM c s' m'.M/\Rq s')(hoth:∀(j:Nat)(u:aV)(r:aJ),j≠i->m.fG[j]?=qf u->u.fR=qf r->uM c r m'.M)(hv:∀o:Int,kF m'.M o / 64<=sQ m'.M+1)(hS:GT c k m i t st t' m'.M):Ex c nt (k+1) m':=by
 have b9:i<U m.fG:=(Zy.1 hi).1;have hg:∀(j:Nat)(u:aV),m'.fG[j]?=qf u->(j=i/\u=t')\/(j≠i/\m.fG[j]?=qf u):=by intro j u hu;rw[xW]at hu;by_cases hj:j=i;subst hj;rw[ZN b9]at hu;exact qw ⟨rfl,(ZC hu).symm⟩;rw[ZT (Zp hj)]at hu;exact qB ⟨hj,hu⟩
 have rg:∀(j:Nat)(u:aV)(r:aJ)(n:Int)(s':aJ)(n':Int),j≠i->m.fG[j]?=qf u->u.fR=qf r->ng r=qf n->t'.fR=qf s'->ng s'=qf n'->n≠n':=by intro j u r n s' n' hj hu hr hn CD RB e;subst e;by_cases D0:st.eK=13;have e1:=(hS.p13 D0).2 s' n CD RB;have e2:=((h.ti j u r hu hr).2.2.1.tk n hn).1;omega;obtain⟨s,hs,P3⟩:=hS.n13 D0 s' n CD RB;exact h.dis i j t u s r n hi hu hs hr (Zp hj) P3 hn
 refine⟨ho,λj u hu=>?_,λj u s hu hs=>?_,λj l u v s r n hu hv2 hs hr fL hn hm=>?_,hv⟩;rcases hg j u hu with ⟨rfl,rfl⟩|⟨hj,hu⟩;exact OK;exact h.zH j u hu;rcases hg j u hu with ⟨rfl,rfl⟩|⟨hj,hu⟩;exact nj s hs;obtain⟨a1,a2,_,a3⟩:=h.ti j u s hu hs;exact⟨a1.mono (Zx k),a2,hoth j u s hj hu hs,a3⟩;rcases hg j u hu with ⟨rfl,rfl⟩|⟨hj,hu⟩;rcases hg l v hv2 with ⟨rfl,rfl⟩|⟨hl,hv2⟩;exact fL rfl;exact rg l v r n s n hl hv2 hr hm hs hn rfl;rcases hg l v hv2 with ⟨rfl,rfl⟩|⟨hl,hv2⟩;exact rg j u s n r n hj hu hs hn hr hm rfl;exact h.dis j l u v s r n hu hv2 hs hr fL hn hm
def Gk (t:aV):vG (gE (fq t.cf t.id)).2/\(gE (fq t.cf t.id)).2.af=t.id:=by have hn:(fq t.cf t.id).nT 0=qj:=rfl;unfold gE;rw[az hn];exact⟨iL trivial,rfl⟩
def vG.tinv {s:aJ}{M:Mm}(h:vG s)(hl:Iy c s):uM c s M:=
 ⟨by rw[h.l];exact List.nodup_nil,λi hi=>(by rw[h.l]at hi;simp at hi),λe=>(by rw[h.c]at e;cases e),hl,λn e=>(by rw[h.t]at e;cases e)⟩
def Ex.step (hc:dl c)(hk:k+1<2^24)(h:Ex c nt k m){i:Nat}{t t':aV}{st:bS}{m':sy}(hi:m.fG[i]?=qf t)(ho:yt c nt (k+1) m')(xW:m'.fG=m.fG.set i t')(OK:t'.id=t.id)(F7:st.af=t.id)(hC:uN c k t m.M st t' m'.M):Ex c nt (k+1) m'/\GT c k m i t st t' m'.M:=by
 have hid0:=h.zH i t hi;have hC0:=hC;rw[hid0]at OK F7;have HY:∀(ha:t'.fR=t.fR)(hp:st.eK<=11\/21<=st.eK)(hA:pM m.M st.jq m'.M),m'.M 1=m.M 1->m'.M 2=m.M 2->m'.M 3=m.M 3->m'.M 4=m.M 4->Ex c nt (k+1) m'/\GT c k m i t st t' m'.M:=by
  intro ha hp hA h1 h2 h3 h4;have hS:GT c k m i t st t' m'.M:=by refine⟨hC0,F7,hA,λe=>by omega,λ_ s' n e e2=>⟨s',ha▸e,e2⟩,λe=>by omega,by rw[ar Ya];unfold yz;rw[h4],by unfold sQ;rw[h2];exact ZH _,λo=>by unfold kF;rw[h1];exact ZH _⟩
  refine⟨h.mu hi ho xW OK (λs' e=>?_) (λj u r _ hu hr=>(h.ti j u r hu hr).2.2.1.HY h1 h2 h3 h4) (λo=>by have:=h.pX o;unfold kF sQ at this ⊢;rw[h1,h2];exact this) hS,hS⟩;obtain⟨a1,a2,a3,a4⟩:=h.ti i t s' hi (ha▸e);exact⟨a1.mono (Zx k),a2,a3.HY h1 h2 h3 h4,a4⟩
 generalize yS:m'.M=M' at hC;cases hC with
 |iY h1 h2 h3=>exact yS▸HY h3 Ya (by rw[h2,yS];exact .zero _) Yp Yp Yp Yp
 |load a h1 h2 h3 h4 h5 h6=>exact yS▸HY (h2.trans h1.symm) Ya (by rw[h6,yS];exact .load ..) Yp Yp Yp Yp
 |store a v h1 h2 h3 h4 h5 h6=>exact yS▸HY (h2.trans h1.symm) Ya (by rw[h6,yS];exact .op ..) (by rw[yS];exact j9 Yd) (by rw[yS];exact j9 Yd) (by rw[yS];exact j9 Yd) (by rw[yS];exact j9 Yd)
 |dV h1 h2 h3=>refine yS▸HY (h2.trans h1.symm) (by rcases h3 with h3|h3<;>omega) ?_ Yp Yp Yp Yp;rw[yS];rcases h3 with ⟨_,h3⟩|⟨_,h3|⟨j,h3⟩⟩<;>rw[h3];exact .load ..;exact .zero _;exact .load ..
 |dP p h1 h2 h3 h4 h5=>have hl:=EY p m.M;exact yS▸HY (h2.trans h1.symm) (by rw[h4];exact qB (Nc _)) (by rw[h5,yS];exact Uq p m.M) (by rw[yS];exact hl.2.1) (by rw[yS];exact hl.2.2.1) (by rw[yS];exact hl.2.2.2.1) (by rw[yS];exact hl.2.2.2.2)
 |fR s hO cJ L3 Wq hac y7=>
   have hpre:s.af=(i:Int)/\uM c s m.M/\Rq s/\(t.fR=qf s\/vG s)/\(∀n,ng s=qf n->∃s0,t.fR=qf s0/\ng s0=qf n)/\(pF s=qj->t.fR=qf s):=by
    rcases L3 with e|⟨s0,e,e1,e2,e3⟩|⟨e,e1⟩;obtain⟨a1,a2,a3,a4⟩:=h.ti i t s hi e;exact⟨a2,a3,a4,qw e,λn hn=>⟨s,e,hn⟩,λ_=>e⟩;obtain⟨a1,a2,a3,a4⟩:=h.ti i t s0 hi e;exact⟨e3.th.trans a2,e3.q.tinv (e3.c2.lg hO.b.cf),.off e3.q.d,qB e3.q,λn hn=>(by rw[e3.q.t]at hn;cases hn),λe4=>(by rw[e3.q.d]at e4;cases e4)⟩;obtain⟨b1,b2⟩:=Gk t;rw[<-e1]at b1 b2;have b3:Iy c s:=by rw[e1];have hn:(fq t.cf t.id).nT 0=qj:=rfl;unfold gE;rw[az hn];exact trivial
    exact⟨b2.trans hid0,b1.tinv b3,.off b1.d,qB b1,λn hn=>(by rw[b1.t]at hn;cases hn),λe4=>(by rw[b1.d]at e4;cases e4)⟩
   obtain⟨p1,p2,p3,p4,p5,p6⟩:=hpre;have hE:Oz c s m.M (aY s m.M).2.2.1 (aY s m.M).2.2.2:=HJ hc Ya hO h.ok.M p2;have hU:=VM hc Ya hO h.ok.M p2 p3;have CF:sQ m.M<=sQ (aY s m.M).2.2.2:=by rcases hE.jC with h1|⟨_,h1⟩;omega;exact h1
   have hS:GT c k m i t st t' (aY s m.M).2.2.2:=by
    have Nz:∀(s':aJ)(n:Int),t'.fR=qf s'->ng s'=qf n->s'=(aY s m.M).2.2.1:=by intro s' n e _;rcases y7 with y7|⟨y7,_⟩;rw[y7]at e;exact(ZC e).symm;rw[y7]at e;cases e
    refine⟨yS▸hC0,F7,by rw[hac];exact att_ao s m.M,λe=>?_,λe s' n e1 e2=>?_,λe=>?_,by rw[Wq];exact hU.sv,CF,λo=>(hU.pX h.pX o).1⟩;obtain⟨g1,g2⟩:=hU.p13 (Wq▸e);refine⟨by rw[hac];exact g2,λs' n e1 e2=>?_⟩;have e3:=Nz s' n e1 e2;rw[e3]at e2;rcases hE.tks with g|g|g;rw[g]at e2;cases e2;rw[g,g1]at e2;cases e2;rw[g]at e2;exact(ZC e2).symm;have e3:=Nz s' n e1 e2;rw[e3]at e2;have g3:=hU.n13 (λe9=>e (Wq.trans e9));rcases hE.tks with g|g|g;rw[g]at e2;cases e2;rw[g]at e2;exact p5 n e2;have g4:=(hE.ti.tk n e2).1;rw[g]at e2;have:=ZC e2;omega;have g:=hU.dn (by rw[<-Wq];exact e);obtain⟨n,hn⟩:=dn_tk hO g;have g5:=(p2.tk n hn).2 g;exact⟨s,p6 g,by rw[hn,g5],g⟩
   have hv:∀o:Int,kF (aY s m.M).2.2.2 o / 64<=sQ (aY s m.M).2.2.2+1:=λo=>by have:=(hU.pX h.pX o).2;omega
   have hoth:∀(j:Nat)(u:aV)(r:aJ),j≠i->m.fG[j]?=qf u->u.fR=qf r->uM c r (aY s m.M).2.2.2:=λj u r hj hu hr=>h.km hi p4 p1 hE hu hr hj;have nj:∀s':aJ,t'.fR=qf s'->oU c (k+1) s'/\s'.af=(i:Int)/\uM c s' (aY s m.M).2.2.2/\Rq s':=λs' e=>by rcases y7 with y7|⟨y7,_⟩;rw[y7]at e;have e:=ZC e;subst e;exact⟨(AD hc Ya hO h.ok.M).1,(Jz s m.M).trans p1,hE.ti,tki_step hO p3⟩;rw[y7]at e;cases e
   rw[<-yS]at hv hoth nj hS ⊢;exact⟨h.mu hi ho xW OK nj hoth hv hS,hS⟩
def stepI_id {eu:Int->Int->Int->Int}{t:aV}{M:Mm}:(t.nJ eu M).2.2.1.id=t.id:=by unfold aV.nJ;split;exact Mw _;split;split;exact CT;split;exact CT;exact Hg _;exact Hg _
def Ex.mono (h:Ex c nt k m):Ex c nt (k+1) m:=
 ⟨h.ok.mono (Zx k),h.zH,λi t s a b=>let ⟨g1,g2⟩:=h.ti i t s a b;⟨g1.mono (Zx k),g2⟩,h.dis,h.pX⟩
def Ex.pick {eu:Int->Int->Int->Int}(hA:yx eu)(hc:dl c)(hk:k+1<2^24)(h:Ex c nt k m)(id:Int):
 Ex c nt (k+1) (m.pick eu id)/\((m.pick eu id)=m\/∃i t st t',m.fG[i]?=qf t/\(m.pick eu id).fG=m.fG.set i t'/\(m.pick eu id).bg=m.bg++[st]/\GT c k m i t st t' (m.pick eu id).M):=by
 have ho:=h.ok.pick hA hc hk id;revert ho;unfold sy.pick;split;split;exact λ_=>⟨h.mono,qw rfl⟩;rename_i t ht;dsimp only;split;rename_i hs;intro ho;have hd:t.done=false:=by
  cases e:t.done with
  |false=>rfl
  |true=>unfold aV.step at hs;rw[az e]at hs;cases hs
 have e:t.step eu m.M=(qj,{ (t.nJ eu m.M).1 with af:=t.id },(t.nJ eu m.M).2):=by unfold aV.step;rw[ar (by rw[hd];decide)]
 rw[e]at ho ⊢;have hC:=VO (eu:=eu) (st:={ (t.nJ eu m.M).1 with af:=t.id }) (M:=m.M) hc (h.ok.T t (List.mem_of_getElem? ht)).1 hd rfl rfl;obtain⟨g1,g2⟩:=h.step hc hk ht ho rfl stepI_id rfl hC;exact⟨g1,qB ⟨_,t,_,_,ht,rfl,rfl,g2⟩⟩;exact λ_=>⟨h.mono,qw rfl⟩;exact λ_=>⟨h.mono,qw rfl⟩
def Np {c:bu}(vX:re c){zs:List Int}{ps:List (List bp)}(hz:(U zs:Int)=c.bm)(hn:U ps<=16)(lj:∀i (hi:i<U ps),(b7 ps[i]).2=0)(sh:∀p∈ps,EC p):Ex c (U ps) 0 (oJ c zs ps):=by
 have hg:∀(i:Nat)(t:aV),(oJ c zs ps).fG[i]?=qf t->t.id=(i:Int)/\t.fR=qk:=λi t h=>by
  have h:(ps.mapIdx λi p=>rp c i (U ps) p)[i]?=qf t:=h;rw[List.getElem?_mapIdx]at h;cases e:ps[i]? with
  |none=>rw[e]at h;cases h
  |some p=>rw[e]at h;have h:=ZC h;rw[<-h];exact⟨rfl,rfl⟩
 refine⟨Il vX hz hn lj sh,λi t h=>(hg i t h).1,λi t s h e=>(by rw[(hg i t h).2]at e;cases e),λi j t u s r n h _ e=>(by rw[(hg i t h).2]at e;cases e),λo=>?_⟩;have h1:kF (oJ c zs ps).M o=0:=by show (q9 c.au.toNat (0:Int)).getD o.toNat 0=0;rw[Ze,List.getElem?_replicate];split<;>rfl
 rw[h1];show (0:Int) / 64<=0+1;decide
end
def xA {σ:Type}(f:bS->σ->Option σ)(s:σ)(l:List bS):Option σ:=l.foldl (λo x=>o.bind (f x)) (qf s)
def Fd {σ:Type}(f:bS->σ->Option σ):∀(l:List bS)(o:Option σ),l.foldl (λo x=>o.bind (f x)) o=o.bind λs=>xA f s l
 |[],o=>by cases o<;>rfl
 |x::l,o=>by
   rw[List.foldl_cons,Fd f l];cases o with
   |none=>rfl
   |some s=>show (f x s).bind _=xA f s (x::l);unfold xA;rw[List.foldl_cons,Fd f l];rfl
def Dg {σ:Type}(f:bS->σ->Option σ)(s:σ)(l r:List bS):xA f s (l++r)=(xA f s l).bind λa=>xA f a r:=by unfold xA;rw[List.foldl_append,Fd f r];rfl
def runO_at {σ:Type}{f:bS->σ->Option σ}{s b:σ}{l:List bS}(h:xA f s l=qf b){i:Nat}(hi:i<U l):∃x y,xA f s (l.take i)=qf x/\f l[i] x=qf y/\xA f s (l.take (i+1))=qf y:=by
 have e:l=l.take (i+1)++l.drop (i+1):=(List.take_append_drop ..).symm;have e2:l.take (i+1)=l.take i++[l[i]]:=List.take_succ_eq_append_getElem hi;rw[e,Dg]at h;cases h1:xA f s (l.take (i+1)) with
 |none=>rw[h1]at h;cases h
 |some y=>
   rw[e2,Dg]at h1;cases h2:xA f s (l.take i) with
   |none=>rw[h2]at h1;cases h1
   |some x=>rw[h2]at h1;exact⟨x,y,rfl,h1,rfl⟩
def C9 {α:Type}{P:List α->Prop}(h0:P [])(h1:∀l x,P l->P (l++[x]))(l:List α):P l:=by
 have:∀r:List α,P r.reverse:=λr=>by
  induction r with
  |nil=>exact h0
  |cons x r ih=>rw[List.reverse_cons];exact h1 _ _ ih
 have h:=this l.reverse;rwa [List.reverse_reverse]at h
def Ul {σ:Type}{eu:Int->Int->Int->Int}(hA:yx eu){c:bu}{nt:Nat}(hc:dl c){f:bS->σ->Option σ}{s0:σ}{Rel:sy->σ->Prop}{m0:sy}(h0:Ex c nt 0 m0)(Kb:m0.bg=[])(hR0:Rel m0 s0)(wU:∀k m m' s i t st t',k<2^24->Ex c nt k m->Ex c nt (k+1) m'->Rel m s->m.fG[i]?=qf t->m'.fG=m.fG.set i t'->m'.bg=m.bg++[st]->GT c k m i t st t' m'.M->∃s',f st s=qf s'/\Rel m' s'):
 ∀pk:List Int,U pk<2^24->Ex c nt (U pk) (nL eu m0 pk)/\∃s,xA f s0 (nL eu m0 pk).bg=qf s/\Rel (nL eu m0 pk) s:=by
 intro pk
 induction pk using C9 with
 |h0=>exact λ_=>⟨h0,s0,by show xA f s0 m0.bg=_;rw[Kb];rfl,hR0⟩
 |h1 pk x ih=>intro hk;rw[List.length_append,List.length_singleton]at hk ⊢;obtain⟨g1,s,g2,g3⟩:=ih Ya;rw[xB];obtain⟨p1,p2⟩:=g1.pick hA hc Ya x;refine⟨p1,?_⟩;rcases p2 with p2|⟨i,t,st,t',q1,q2,q3,q4⟩;rw[p2];exact⟨s,g2,g3⟩;obtain⟨s',r1,r2⟩:=wU (U pk) _ _ s i t st t' Ya g1 p1 g3 q1 q2 q3 q4;refine⟨s',?_,r2⟩;rw[q3,Dg,g2];exact r1
structure TuS where
 rg:List Int
 srv:Int
 jC:Int
 vers:List Int
structure TuRel (c:bu) (nt:Nat) (m:sy) (σ:TuS):Prop where
 tl:σ.rg.length=nt
 tk:∀(i:Nat) (t:aV) (s:aJ) (n:Int),m.fG[i]? = some t->t.fR=some s->ng s=some n->σ.rg.getD i 0=n
 srv:σ.srv=yz m.M
 sr0:0<=σ.srv
 jC:σ.jC<=sQ m.M
 vl:(σ.vers.length:Int)=c.au
 pX:∀o:Nat,σ.vers.getD o 0<=kF m.M o / 64
end
section
variable [Gl]
variable [AF]
structure PsS where
 rg:List Int
 PX:Int
def ue (x:bS)(σ:PsS):Option PsS:=
 if x.af<0\/(U σ.rg:Int)<=x.af then qk
 else if x.eK=13 then qf ⟨σ.rg.set x.af.toNat x.jq.eV,σ.PX⟩
 else if x.eK=17 then (if σ.rg.getD x.af.toNat 0<σ.PX then qk else qf ⟨σ.rg,σ.rg.getD x.af.toNat 0⟩)
 else qf σ
structure PsRel (nt:Nat) (m:sy) (σ:PsS):Prop where
 tl:σ.rg.length=nt
 tk:∀(i:Nat) (t:aV) (s:aJ) (n:Int),m.fG[i]? = some t->t.fR=some s->ng s=some n->σ.rg.getD i 0=n
 PX:σ.PX<=yz m.M
def ps_step {c:bu}{nt k:Nat}{m m':sy}{σ:PsS}{i:Nat}{t t':aV}{st:bS}(hk:k<2^24)(h:Ex c nt k m)(hR:PsRel nt m σ)(hi:m.fG[i]?=qf t)(xW:m'.fG=m.fG.set i t')(hS:GT c k m i t st t' m'.M):∃σ',ue st σ=qf σ'/\PsRel nt m' σ':=by
 have b9:i<U m.fG:=(Zy.1 hi).1;have hn:=h.ok.n;have UV:=hR.tl;have F7:=hS.th;have hthn:st.af.toNat=i:=Ya
 have SR:yz m.M<=yz m'.M:=by rw[hS.sv];split<;>omega
 have hla:=hR.PX;have eD:st.eK≠13->∀(j:Nat)(u:aV)(s:aJ)(n:Int),m'.fG[j]?=qf u->u.fR=qf s->ng s=qf n->σ.rg.getD j 0=n:=by intro D0 j u s n hu hs RB;rw[xW]at hu;by_cases hj:j=i;subst hj;rw[ZN b9]at hu;have hu:=ZC hu;subst hu;obtain⟨s0,h1,h2⟩:=hS.n13 D0 s n hs RB;exact hR.tk j t s0 n hi h1 h2;rw[ZT (Zp hj)]at hu;exact hR.tk j u s n hu hs RB
 unfold ue;rw[ar Ya];by_cases D0:st.eK=13;rw[az D0];refine⟨_,rfl,by dsimp only;rw[List.length_set];exact UV,λj u s n hu hs RB=>?_,Int.le_trans hla SR⟩;rw[xW]at hu;dsimp only;rw[hthn,nR];by_cases hj:j=i;subst hj;rw[ZN b9]at hu;have hu:=ZC hu;subst hu;rw[az Ya,(hS.p13 D0).1];exact((hS.p13 D0).2 s n hs RB).symm;rw[ZT (Zp hj)]at hu;rw[ar (λe=>hj e.1.symm)];exact hR.tk j u s n hu hs RB;rw[ar D0];by_cases WI:st.eK=17;rw[az WI];obtain⟨s,h1,h2,_⟩:=hS.dn Ya;have h3:=hR.tk i t s _ hi h1 h2;rw[hthn,h3,ar Ya];exact⟨_,rfl,UV,eD D0,SR⟩;rw[ar WI];exact⟨σ,rfl,UV,eD D0,Int.le_trans hla SR⟩
def Im {c:bu}{zs:List Int}{ps:List (List bp)}{i:Nat}{t:aV}(h:(oJ c zs ps).fG[i]?=qf t):t.fR=qk:=by
 have h:(ps.mapIdx λi p=>rp c i (U ps) p)[i]?=qf t:=h;rw[List.getElem?_mapIdx]at h;cases e:ps[i]? with
 |none=>rw[e]at h;cases h
 |some p=>rw[e]at h;have h:=ZC h;rw[<-h];rfl
def ps_law {eu:Int->Int->Int->Int}(hA:yx eu){c:bu}(vX:re c){zs:List Int}{ps:List (List bp)}(hz:(U zs:Int)=c.bm)(hn:U ps<=16)(lj:∀i (hi:i<U ps),(b7 ps[i]).2=0)(sh:∀p∈ps,EC p)(pk:List Int)(hk:U pk<2^24):
 ∃σ,xA ue ⟨q9 (U ps) 0,0⟩ (nL eu (oJ c zs ps) pk).bg=qf σ:=by have h0:=Np vX hz hn lj sh;obtain⟨_,s,h1,_⟩:=Ul hA vX.ok (Rel:=PsRel (U ps)) (f:=ue) (s0:=⟨q9 (U ps) 0,0⟩) h0 rfl ⟨ka8 ..,λi t s n hi hs=>(by rw[Im hi]at hs;cases hs),ZH _⟩ (λk m m' s i t st t' hk h h' hR hi xW _ hS=>ps_step hk h hR hi xW hS) pk hk;exact⟨s,h1⟩
end
section
variable [Gl]
def LD {A:AW}{v:qi}{l:List bS}(h:gW A 9 v (U l) (MI l)):∃(o:Option Addr)(c:Nat)(p:Addr)(bO:List qi)(own:Bool),v=ql o (U l) c/\(0<U l->o=qf p/\A.bk p.block=qf (qm bO own 9))/\∀i (hi:i<U l),p.off+i*9+9<=U bO/\(bO.drop (p.off+i*9)).take 9=(l[i]).cells:=by
 cases l with
 |nil=>obtain⟨o,c,e,_⟩:=h.cL;exact⟨o,c,⟨0,0,qk⟩,[],false,e,λh=>absurd h Yd,λi hi=>by cases hi⟩
 |cons x l=>obtain⟨p,c,bO,own,e1,e2,_,_⟩:=rec_at (f:=bS.cells) (λ_=>rfl) h (i:=0) Yb;refine⟨qf p,c,p,bO,own,e1,λ_=>⟨rfl,e2⟩,λi hi=>?_⟩;obtain⟨p',c',row',own',q1,q2,q3,q4⟩:=rec_at (f:=bS.cells) (λ_=>rfl) h hi;rw[e1]at q1;injection q1 with q1 _ _;have q1:=ZC q1;subst q1;rw[e2]at q2;have q2:=ZC q2;injection q2 with q2 _ _;subst q2;exact⟨q3,q4⟩
def UP (k:IntKind):∀n:Nat,fH [Value.int k 0] n=(q9 n (0:Int)).map (qh k)
 |0=>rfl
 |n+1=>by rw[List.replicate_succ,List.map_cons,<-UP k n];rfl
def make_u64 (B:AW){n:Nat}(h:n<2^30):mM qZ B 59 (qh qg n) (qh qg n)=qf (ql (qf ⟨B.next,0,qk⟩) n n,B.alloc (qm ((q9 n (0:Int)).map (qh qr)) qj 1)):=by
 have h1:(0:Int)<=n:=Ya
 have h2:(n:Int)<=140737488355328:=Ya
 have h3:(n:Int)*8<=140737488355328:=Ya
 simp[mM,h1,h2,h3,UP]
def at_map (k:IntKind)(l:List Int){i:Nat}(h:i<U l):((l.map (Value.int k)).drop i).take 1=[qh k (l.getD i 0)]:=by rw[<-List.map_drop,<-List.map_take,List.drop_eq_getElem_cons h,List.take_succ_cons,List.take_zero,Ze,Zf h];rfl
def at_getD {l:List Int}{i:Nat}(h:i<U l):l[i]?=qf (l.getD i 0):=by rw[Ze,Zf h];rfl
end
section
open T7
variable [Gl]
def ps_made {A:AW}{c:bu}{vi vp vk:qi}{zs:List Int}{ps:List (List bp)}{kl:List Int}(h:ScrG A c vi vp vk zs ps kl):∃σ,xA ue ⟨q9 (U ps) 0,0⟩ (scM c zs ps kl).bg=qf σ:=by obtain⟨_,_,_,BO,Kc,lj⟩:=wF (h.e kl (λ_ h=>h) (Za _));exact ps_law xf h.few Kc BO lj h.al kl YR
def FR {x:bS}{σ σ':PsS}(h:ue x σ=qf σ'):(0<=x.af/\x.af<U σ.rg)/\(x.eK=17->¬σ.rg.getD x.af.toNat 0<σ.PX)/\
 (if x.eK=13 then (⟨σ.rg.set x.af.toNat x.jq.eV,σ.PX⟩:PsS) else if x.eK=17 then ⟨σ.rg,σ.rg.getD x.af.toNat 0⟩ else σ)=σ':=by unfold ue at h;split at h;cases h;rename_i h1;refine⟨by omega,λWI=>?_,?_⟩;rw[ar Ya,az WI]at h;intro h2;rw[az h2]at h;cases h;by_cases D0:x.eK=13;rw[az D0]at h ⊢;exact ZC h;rw[ar D0]at h ⊢;by_cases WI:x.eK=17;rw[az WI]at h ⊢;split at h;cases h;exact ZC h;rw[ar WI]at h ⊢;exact ZC h
def VZ {σ0:PsS}:∀(l:List bS){σ:PsS},xA ue σ0 l=qf σ->U σ.rg=U σ0.rg:=by
 intro l
 induction l using C9 with
 |h0=>intro σ h;have h:qf σ0=qf σ:=h;injection h with h;subst h;rfl
 |h1 l x ih=>
   intro σ h;rw[Dg]at h;cases h1:xA ue σ0 l with
   |none=>rw[h1]at h;cases h
   |some τ=>rw[h1]at h;have h2:ue x τ=qf σ:=h;have h3:=(FR h2).2.2;have h4:=ih h1;rw[<-h3,<-h4];split;simp;split<;>rfl
section
attribute [-simp] mM
def Ck (hF:FOK)(hA:∀B,aE qZ 20 [] B (λu A'=>u=.bool qj/\B=A'))(l0 l1 l2 l3 l4:Int)(vl vq:qi)(ls:List (List Int))(nk:List Int)(aZ:Bool)(A:AW)(hL:oD A vl ls)(hk:b5 A qg vq nk)(WC:U ls<=maxLen)(Kf:∀x∈ls,U x<=17592186044415)(hpk:U nk<=17592186044415):
 aE qZ 5 [.agg #[qh qg l0,qh qg l1,qh qg l2,qh qg l3,qh qg l4],vl,vq,.bool aZ] A (λu A'=>u=.bool qj):=by
 refine aO Tryz.func5 λhw=>?_;have cA:=λB=>hA B;revert hw;refine W db (J1 bL) ?_<;>(unhygienic intros);refine bT (KE hF.n l0 l1 l2 l3 l4 vl vq ls nk aZ _ (hL.keeps (iI.oI (AW.le.alloc A _) hw)) (hk.le (AW.le.alloc A _) hw) WC Kf hpk) ?_;rintro _ A3⟨b,c,vi,vp,vk,zs,ps,kl,rfl,Wt,_,⟨oi,ni,ci,rfl⟩,⟨op,np,cp,rfl⟩,⟨ok,nkk,ck,rfl⟩,hG⟩E6 _;clear hL hk;cases b
 . clear hG;unfold MZ kj bu.cells;obtain⟨mB,gq,mh,c0,c1,c2,c3,kS,lZ,mi,mf,jC,nE⟩:=c;simp only[aa,ah];refine W (J1 @cA) (J1 bL) ?_<;>intros
   all_goals simp[aT,aX,bA,aR,aS]
 replace hG:=hG rfl;obtain⟨_,_,e1,_⟩:=hG.i.cL;obtain⟨_,_,e2,_⟩:=hG.p.cL;obtain⟨_,_,e3,_⟩:=hG.k.cL;injection e1 with _ e1 _;injection e2 with _ e2 _;injection e3 with _ e3 _;subst e1 e2 e3;have hpn:=hG.n;have cR:=λB (hK:iI A3 B)=>runG (pk:=kl) hF hG (λ_ h=>h) (Za _) _ _ _ B (hG.i.keeps hK) (hG.p.kps hK) (hG.k.keeps hK);have SX:=scM_ok (pk:=kl) hG (λ_ h=>h) (Za _);obtain⟨σe,Wn⟩:=ps_made hG;have hkl:=hG.kl;have cJ:=SX.s;clear SX hG;generalize scM c zs ps kl=m at *;obtain⟨mB,gq,mh,c0,c1,c2,c3,kS,lZ,mi,mf,jC,nE⟩:=c;unfold MZ kj bu.cells at cR ⊢;simp only[aa,ah]at cR ⊢;unfold M5 kD at cR;generalize (m.M 2).getD 0 0=d2 at cR;generalize (m.M 3).getD 0 0=d3 at cR;generalize (m.M 4).getD 0 0=d4 at cR;revert hw;(repeat first|revert R|revert K);refine W db (J1 bL) ?_<;>(unhygienic intros);refine bT (cR _ (iI.oI (AW.le.mu A3 _ _) E6)) ?_;rintro _ A4⟨z1,rfl,hk4,P5⟩rS _
 have hs4:=hk4 _ _ AW.cM;obtain⟨so,sc,p,bO,own,SR,Hc,bP⟩:=LD P5.st;injection SR with ED _ tu;rw[ED,tu];clear hk4 P5 cR ED tu;generalize A3.next=sb at *;have n4:¬sb=A4.next:=by have:=rS.lt hs4;omega
 have n4':¬A4.next=sb:=Ya
 have hmk1:=λB=>make_u64 B (n:=U ps) Ya;have hp9:0<U m.bg->¬p.block=A4.next:=λe e2=>by have:=rS.lt (Hc e).2;omega
 have mT:0<U m.bg->p.block<A4.next:=λe=>rS.lt (Hc e).2;obtain⟨rb,IM⟩:∃rb,A4.next=rb:=⟨_,rfl⟩;rw[IM]at n4 n4' hp9 mT;have OH:=rS.lt hs4;have n5:¬sb=rb+1:=Ya
 have n6:¬sb=rb+1+1:=Ya
 revert hw;(repeat first|revert hc|revert R|revert K);refine W db (J8 hs4 n4 n4' n5 n6 hmk1 IM bL) ?_<;>(unhygienic intros);obtain⟨a0,e0⟩:∃a,a=kD z1.f.v0 (m.M 0):=⟨_,rfl⟩;obtain⟨a1,e1⟩:∃a,a=kD z1.f.v1 (m.M 1):=⟨_,rfl⟩;obtain⟨a5,e5⟩:∃a,a=kD z1.f.v5 (m.M 5):=⟨_,rfl⟩;obtain⟨a6,e6⟩:∃a,a=kD z1.f.v6 (m.M 6):=⟨_,rfl⟩;obtain⟨a7,e7⟩:∃a,a=kD z1.f.v7 (m.M 7):=⟨_,rfl⟩;obtain⟨a8,e8⟩:∃a,a=Value.slice z1.t.1 (U m.fG) z1.t.2:=⟨_,rfl⟩;obtain⟨Bg,e10⟩:∃a,a=Value.slice z1.e.1 (U m.vE) z1.e.2:=⟨_,rfl⟩;obtain⟨CX,e11⟩:∃a,a=Value.slice z1.o.1 (U m.fG) z1.o.2:=⟨_,rfl⟩
 refine dO (λk fr A'=>A'.Wf/\∃(i:Nat)(σ:PsS),k=U m.bg-i/\i<=U m.bg/\xA ue ⟨q9 (U ps) 0,0⟩ (m.bg.take i)=qf σ/\fr 11=pv rb/\fr 15=ql (qf ⟨rb+1,0,qk⟩) (U ps) (U ps)/\fr 16=qh qr σ.PX/\fr 17=qh qg i/\
  A'.bk rb=qf (qm [a0,a1,qh qr d2,qh qr d3,qh qr d4,a5,a6,a7,a8,ql so (U m.bg) sc,Bg,CX] qj 1)/\A'.bk (rb+1)=qf (qm (σ.rg.map (qh qr)) qj 1)/\(0<U m.bg->A'.bk p.block=qf (qm bO own 9))) (U m.bg) ?_ ?_
 . refine⟨?_,0,_,rfl,Nat.zero_le _,rfl,by simp,by simp,by simp,by simp,?_,?_,λe=>?_⟩
   . repeat' (first|assumption|apply kbK|apply AW.Wf.set|(simp only[AW.bn,IM];omega))
   simp[AW.bX,IM,e0,e1,e5,e6,e7,e8,e10,e11,kD];simp[AW.bX,IM];have h1:=mT e;have h2:¬p.block=rb:=Ya;have h3:¬p.block=rb+1:=Ya;have h4:¬p.block=rb+1+1:=Ya;simp[AW.bX,AW.cU,IM,h2,h3,(Hc e).2]
 clear hs4 n4 n4' n5 n6 OH e0 e1 e5 e6 e7 e8 e10 e11;rintro k fr A5⟨CA,i,σ,rfl,hi,hrn,i9,rA,RF,OM,zR,zT,hP⟩;by_cases b9:i<U m.bg
 . obtain⟨σ1,σ2,r1,r2,r3⟩:=runO_at Wn b9;rw[hrn]at r1;injection r1 with r1;subst r1;have t1:=VZ _ hrn;rw[ka8]at t1;obtain⟨q1,q2⟩:=bP i b9;obtain⟨f1,f2,f5⟩:=FR r2;have zP:=hP Ya;obtain⟨up,_⟩:=Hc Ya;subst up;have ij:=C0 (i:=i);have gf:(i:Int)<U m.bg:=Ya;have x1:=CA.lt zR;have x2:=CA.lt zT;have x4:=CA.lt zP;have y1:¬rb=A5.next:=Ya;have y2:¬rb+1=A5.next:=Ya;have y4:¬p.block=A5.next:=Ya;have y5:¬p.block=rb+1:=λe=>by rw[e,zT]at zP;have:=ZC zP;injection this with _ _ h;cases h
   generalize m.bg[i]=x at *;obtain⟨xt,xp,xa,⟨ak,ac,ai,ag,ap,ad⟩⟩:=x;dsimp only[bS.cells]at q2 f1 f2 f5;obtain⟨j,rfl⟩:∃j:Nat,xt=j:=⟨xt.toNat,by omega⟩;rw[Int.toNat_natCast]at f2 f5;have hj:j<U σ.rg:=Ya;have Lb:j+1<=U σ.rg:=Ya;have OJ:¬(j:Int)<0:=Ya;have hj3:(j:Int)<U ps:=Ya;have y7:=at_map qr σ.rg hj;obtain⟨w2,hat2⟩:∃w,σ.rg[j]?=qf w:=⟨_,at_getD hj⟩;have e2:σ.rg.getD j 0=w2:=(by rw[Ze,hat2];rfl);rw[e2]at y7 f2;have hphase:xp=13\/xp=17\/(¬xp=13/\¬xp=17):=Ya;refine aU ?_;rcases hphase with rfl|rfl|⟨hp,yY⟩
   . revert hw;(repeat revert hc);refine W db (J20 i9 rA RF OM zR zT zP q1 q2 gf ij hj Lb OJ hj3 y7 hat2 t1 y1 (J4 y2 y4 y5 bL)) ?_<;>(unhygienic intros);subst f5;refine⟨U m.bg-(i+1),by omega,?_,i+1,_,rfl,by omega,r3,by simp[i9],by simp[rA],by simp[RF],by simp,?_,?_,λe=>?_⟩
     . repeat' (first|assumption|apply kbK|apply AW.Wf.set|(simp only[AW.bn,AW.lN];omega))
     . simp[AW.bX,AW.cU,zR,y1]
       all_goals(intro h;omega)
     simp[List.map_set];simp[AW.bX,AW.cU,zP,y4,y5]
   . have f2:=f2 rfl;revert hw;(repeat revert hc);refine W db (J20 i9 rA RF OM zR zT zP q1 q2 f2 gf ij hj Lb OJ hj3 y7 hat2 t1 (J5 y1 y2 y4 y5 bL)) ?_<;>(unhygienic intros);subst f5;refine⟨U m.bg-(i+1),by omega,?_,i+1,_,rfl,by omega,r3,by simp[i9],by simp[rA],by simp[hat2],by simp,?_,?_,λe=>?_⟩
     . repeat' (first|assumption|apply kbK|apply AW.Wf.set|(simp only[AW.bn];omega))
     simp[AW.bX,AW.cU,zR,y1];simp[AW.bX,AW.cU,zT,y2];simp[AW.bX,AW.cU,zP,y4]
   revert hw;(repeat revert hc);refine W db (J20 i9 rA RF OM zR zT zP q1 q2 hp yY gf ij hj Lb OJ hj3 t1 y1 (J4 y2 y4 y5 bL)) ?_<;>(unhygienic intros);simp only[hp,yY,if_false]at f5;subst f5;refine⟨U m.bg-(i+1),by omega,?_,i+1,_,rfl,by omega,r3,by simp[i9],by simp[rA],by simp[RF],by simp,?_,?_,λe=>?_⟩
   . repeat' (first|assumption|apply kbK|apply AW.Wf.set|(simp only[AW.bn];omega))
   simp[AW.bX,AW.cU,zR,y1];simp[AW.bX,AW.cU,zT,y2];simp[AW.bX,AW.cU,zP,y4]
 have uR:i=U m.bg:=Ya
 subst uR;have gf:¬((U m.bg:Int)<U m.bg):=Ya
 refine aU ?_;refine W (J1 @cA) (J7 i9 rA RF OM zR gf bL) ?_<;>intros
 all_goals simp[aX,bA,aR,aS]
end
end
section
open Go.RowKit
variable [Gl]
def pt_world (hF:FOK)(W:World)(ND:∀b x,Gl.B b=qf x->W.heap[b]?=qf x)(b0 b1 b2 b3 b4:Int)(a1:Option Addr)(len1 cap1:Nat)(w1:RowsZ W a1 len1 cap1)(a2:Option Addr)(len2 cap2:Nat)(z2:List Int)(w2:IntsIn qg W a2 len2 cap2 z2)(sE:len2<=17592186044415)(a3:Bool):
 Calls qZ 5 #[.agg #[qh qg b0,qh qg b1,qh qg b2,qh qg b3,qh qg b4],ql a1 len1 cap1,ql a2 len2 cap2,.bool a3] W λe w'=>e=.returned (.bool qj)/\Below W.heap.size W w':=by have s0:=jN.lS W ND;have n0:=AW.xg.lS;obtain⟨m1,A1,v1,ls,le1,g1,s1,n1,r1,h1,Kf,lW⟩:=F5 s0 n0 w1;obtain⟨m2,A2,v2,le2,g2,s2,n2,r2,h2,_⟩:=Cz s1 n1 (k:=qg) w2;refine Al (Ck hF (N8 hF.n) b0 b1 b2 b3 b4 v1 v2 ls (z2.take len2) a3 A2 (h1.keeps (iI.oI g2 s1.tO)) h2 Kf lW (by rw[List.length_take];omega)) (λv A' h=>h) s2 n2 ?_;exact .cons (ID _ _ _ _ _) (.cons (r1.mono le2) (.cons r2 (.cons (.bool _) .nil)))
end
end Go.Stx
