import Derived.Test.YtnnbecihffpedaaGreatDoorF1
set_option linter.all false
open List renaming length->U
open Array renaming all_eq_true_iff_forall_mem->kaE,getD_eq_getD_getElem?->Z8,getElem?_eq_getElem->ZQ,getElem?_eq_some_iff->Zj
open Bool renaming and_eq_true->Zg,not_eq_true'->kae
open List renaming all_eq_true->Zs,filter_congr->kcg,mem_filter->kax,mem_of_getElem?->kal,mem_range->Zr,range->Zt
open Nat renaming le_add_right->kci,le_refl->Za,le_trans->ZE,lt_of_lt_of_le->kaq
open Ne renaming symm->Zp
open Option.some renaming injEq->Zd
open Prod.mk renaming injEq->Zk
open Bool renaming false->qn,true->qj
open Go renaming Operand->qA,Program->qp,Value->qi,World->qz
open Go.Stx.dt renaming cells->qm
open Option renaming some->qf
open Or renaming inl->qw,inr->qB
namespace Go.Stx
open Go
variable [Gl]
inductive FK where
 | G0
 | slice (l c:Nat)
 | map
def FK.val:FK->Nat->qi
 | .G0,n=>.pointer (qf ⟨n,0,none⟩)
 | .slice l c,n=>.slice (qf ⟨n,0,none⟩) l c
 | .map,n=>.map (qf n)
def FK.move {k:FK}{m m':Mp}{i j:Nat}{x:qi}(h:bH m (k.val i) x)(e:m' j=m i):bH m' (k.val j) x:=by
 cases k with
 |G0=>
   unfold FK.val at h ⊢;cases h with
   |G0 h=>obtain⟨h1,h2,p,h3,h4⟩:=h;exact .G0 ⟨rfl,h2,p,by rw[e];exact h3,h4⟩
 |slice l c=>
   unfold FK.val at h ⊢;cases h with
   |slice h h1 h2=>refine .slice ?_ h1 h2;rcases h with ⟨q1,q2,p,q3,q4⟩|⟨q1,q2,q3⟩;exact qw ⟨rfl,q2,p,by rw[e];exact q3,q4⟩;refine qB ⟨q1,q2,?_⟩;rcases q3 with q3|q3;cases q3;exact qB (by rw[e];exact q3)
 |map=>
   unfold FK.val at h ⊢;cases h with
   |map h=>obtain⟨p,h1,h2⟩:=h;exact .map ⟨p,by rw[e];exact h1,h2⟩
def UN (P:qp)(r:qA->qi):Op->Option (FK×dt)
 | .alloc t=>
   match P.info? t with
   |some i=>
     match i.zero with
     |some z=>if yc z then qf (.G0,qm z.cells.toList qj 1) else none
     |none=>none
   |none=>none
 | .box _ x=>qf (.G0,qm (r x).cells.toList qj 1)
 | .buildSlice t len ps=>
   match P.underlying t with
   |some (.slice e)=>
     match P.info? e with
     |some i=>
       match i.zero with
       |some z=>
         if z.cells.size=i.size/\0<i.size/\len*i.size<=2 ^ 24/\z.cells.toList.all fJ then
          match Gq i.size (pH r ps) (fH z.cells.toList len) with
          |some cs=>qf (.slice len len,qm cs qj i.size)
          |none=>none
         else none
       |none=>none
     |none=>none
   |_=>none
 | .makeSlice t l c=>
   match P.underlying t,r l,r c with
   |some (.slice e),.int _ l,.int _ c=>
     match P.info? e with
     |some i=>
       match i.zero with
       |some z=>
         if z.cells.size=i.size/\0<i.size/\z.cells.toList.all fJ/\0<=l/\l<=c/\c<=140737488355328/\c*i.bytes<=140737488355328 then
          qf (.slice l.toNat c.toNat,qm (fH z.cells.toList c.toNat) qj i.size)
         else none
       |none=>none
     |none=>none
   |_,_,_=>none
 | .makeMap t x=>
   match x.map r with
   |none=>qf (.map,.map [] qj)
   |some (.int _ _)=>
     match P.underlying t with
     |some (.map _ _)=>qf (.map,.map [] qj)
     |_=>none
   |_=>none
 |_=>none
def mkO_ae {P:qp}{r:qA->qi}{op:Op}{k:FK}{ob:dt}(h:UN P r op=qf (k,ob))(A:AW):ae P A r op=qf (k.val A.next,A.alloc ob):=by
 cases op<;>simp only[UN]at h<;>(try (cases h;done))<;>simp only[ae]
 case alloc t=>
  unfold CW;split at h<;>try(cases h;done)
  rename_i i hi;split at h<;>try(cases h;done)
  rename_i z hz;split at h<;>try(cases h;done)
  rename_i hg;simp only[Zd,Zk]at h;obtain⟨rfl,rfl⟩:=h;rw[hi];simp only;rw[hz];simp only[hg,if_true,Rl,FK.val]
 case box t x=>simp only[Zd,Zk]at h;obtain⟨rfl,rfl⟩:=h;rfl
 case buildSlice t len ps=>
  unfold mO;split at h<;>try(cases h;done)
  rename_i e hu;split at h<;>try(cases h;done)
  rename_i i hi;split at h<;>try(cases h;done)
  rename_i z hz;split at h<;>try(cases h;done)
  rename_i hc;split at h<;>try(cases h;done)
  rename_i cs hcs;simp only[Zd,Zk]at h;obtain⟨rfl,rfl⟩:=h;rw[hu];simp only;rw[hi];simp only;rw[hz];simp only;rw[az hc,hcs];rfl
 case makeSlice t l c=>
  unfold mM;split at h<;>try(cases h;done)
  rename_i e kl nl kc nc hu hl hc0;split at h<;>try(cases h;done)
  rename_i i hi;split at h<;>try(cases h;done)
  rename_i z hz;split at h<;>try(cases h;done)
  rename_i hc;simp only[Zd,Zk]at h;obtain⟨rfl,rfl⟩:=h;rw[hu,hl,hc0];simp only;rw[hi];simp only;rw[hz];simp only;rw[az hc];rfl
 case makeMap t x=>
  unfold uF;split at h<;>try(cases h;done)
  rename_i hx;simp only[Zd,Zk]at h;obtain⟨rfl,rfl⟩:=h;rw[hx];rfl;rename_i hx;split at h<;>try(cases h;done)
  rename_i hu;simp only[Zd,Zk]at h;obtain⟨rfl,rfl⟩:=h;rw[hx];simp only;rw[hu];rfl
def Wa {P:qp}{r r':qA->qi}{op:Op}(h:∀x∈op.operands,r x=r' x):UN P r op=UN P r' op:=by
 cases op<;>simp only[UN,Op.operands]at h ⊢
 case box t x=>rw[h x Yb]
 case buildSlice t n ps=>rw[ym h]
 case makeSlice t l c=>rw[h l Yb,h c Yb]
 case makeMap t x=>rw[xL h]
def Mr (m:Mp):dt->Prop
 |qm cs own _=>own=qj/\∀v∈cs,∃y,bH m v y
 | .map es own=>own=qj/\es=[]
def Mr.own {m:Mp}{ob:dt}(h:Mr m ob):ob.own=qj:=by cases ob<;>exact h.1
def Db {p:qi->Prop}:∀(vs cs:List qi)(off:Nat),(∀v∈cs,p v)->(∀v∈vs,p v)->∀v∈dS cs off vs,p v
 |[],cs,off,h,_=>h
 |x::vs,cs,off,h,hx=>Db vs _ _ (λv hv=>by rcases List.mem_or_eq_of_mem_set hv with h1|h1;exact h v h1;rw[h1];exact hx x Yb) λv hv=>hx v (by simp[hv])
def Mi {p:qi->Prop}{size:Nat}:∀(ps:List (Nat×qi))(cs r:List qi),Gq size ps cs=qf r->(∀v∈cs,p v)->(∀x∈ps,∀v∈x.2.cells.toList,p v)->∀v∈r,p v
 |[],cs,r,h,h1,_=>by injection h with h;subst h;exact h1
 | (i,u)::dE,cs,r,h,h1,h2=>by unfold Gq at h;split at h;exact Mi dE _ r h (Db _ _ _ h1 (h2 (i,u) Yb)) λx hx=>h2 x Yu;cases h
def CS {p:qi->Prop}{z:List qi}(h:∀v∈z,p v):∀n,∀v∈fH z n,p v
 |0,v,hv=>by cases hv
 |n+1,v,hv=>by simp only[fH,List.mem_append]at hv;rcases hv with hv|hv;exact h v hv;exact CS h n v hv
def Fj {m:Mp}{v x:qi}(h:bH m v x):∀u∈v.cells.toList,∃y,bH m u y:=λu hu=>by
 obtain⟨n,hn⟩:=List.mem_iff_getElem?.1 hu;have h1:=h.cells;have b9:n<U v.cells.toList:=(List.getElem?_eq_some_iff.1 hn).1;have hlt':n<U x.cells.toList:=by rw[<-h1.1];exact b9
 exact⟨_,h1.2 n u _ hn (List.getElem?_eq_getElem hlt')⟩
def mkO_fit {P:qp}{m:Mp}{r:qA->qi}{op:Op}{k:FK}{ob:dt}(h:UN P r op=qf (k,ob))(hr:∀x∈op.operands,∃y,bH m (r x) y):Mr m ob:=by
 have je:∀v,fJ v=qj->∃y,bH m v y:=λv hv=>⟨v,.kZ hv m⟩;cases op<;>simp only[UN]at h<;>(try (cases h;done))<;>simp only[Op.operands]at hr
 case alloc t=>
  repeat' (split at h)
  all_goals(try (cases h;done))
  rename_i hg;simp only[Zd,Zk]at h;obtain⟨rfl,rfl⟩:=h;exact⟨rfl,Fj (bH.wM hg m)⟩
 case box t x=>simp only[Zd,Zk]at h;obtain⟨rfl,rfl⟩:=h;obtain⟨y,hy⟩:=hr x Yb;exact⟨rfl,Fj hy⟩
 case buildSlice t len ps=>
  repeat' (split at h)
  all_goals(try (cases h;done))
  rename_i hc _ _ hcs;simp only[Zd,Zk]at h;obtain⟨rfl,rfl⟩:=h;refine⟨rfl,Mi _ _ _ hcs (CS (λv hv=>je v (Zs.1 hc.2.2.2 v hv)) _) λx hx v hv=>?_⟩;unfold pH at hx;obtain⟨q,hq,rfl⟩:=List.mem_map.1 hx;obtain⟨y,hy⟩:=hr q.2 (by simpa using ⟨q.1,by simpa using hq⟩);exact Fj hy v hv
 case makeSlice t l c=>
  repeat' (split at h)
  all_goals(try (cases h;done))
  rename_i hc;simp only[Zd,Zk]at h;obtain⟨rfl,rfl⟩:=h;exact⟨rfl,CS (λv hv=>je v (Zs.1 hc.2.2.1 v hv)) _⟩
 case makeMap t x=>
  repeat' (split at h)
  all_goals(try (cases h;done))
  all_goals(
   simp only[Zd,Zk]at h;obtain⟨rfl,rfl⟩:=h;exact⟨rfl,rfl⟩)
def iH.fit {m m1 m':Mp}{w:qz}{p:Pl}{ob:dt}(hb:Mr m ob)(WE:∀i,m i≠none->m' i=m1 i)(h:iH m1 w p ob):iH m' w p ob:=by
 cases ob with
 |cells cs own u=>obtain⟨ik,e,fr,h1,h2,h3,h4,h5⟩:=h;refine⟨ik,e,fr,h1,h2,h3,h4,λk v hv=>?_⟩;obtain⟨y,hy,hr⟩:=h5 k v hv;obtain⟨x,hx⟩:=hb.2 v (kal hv);exact⟨_,hy,hx.Ca WE _ hr⟩
 |map es own=>obtain⟨kw,aC,yg,hp,h1,h2,h3⟩:=h;obtain⟨_,rfl⟩:=hb;have:=hp.nil_eq;subst this;exact⟨kw,aC,[],hp,h1,h2,λk x e hx=>by simp at hx⟩
def iH.perm {m:Mp}{w:qz}{p:Pl}{es yg:List (qi×qi)}{own:Bool}(hp:es.Perm yg)(h:iH m w p (.map es own)):iH m w p (.map yg own):=by obtain⟨kw,aC,e2,h1,h2⟩:=h;exact⟨kw,aC,e2,hp.symm.trans h1,h2⟩
def FF (m:Mp)(A:AW)(w:qz)(s0 j:Nat)(ob:dt):Prop:=
 ∃p,m j=qf p/\iH m w p ob/\s0<=p.block/\Gl.B p.block=none/\¬yM m A p.block/\ob.own=qj
def Ox.Km {m:Mp}{A:AW}{b:Nat}(h:Ox m A b):yM m A b:=by obtain⟨i,o,p,h1,_,h2,h3⟩:=h;exact⟨i,o,p,h1,h2,h3⟩
def FF.evo {m m':Mp}{A A':AW}{w w':qz}{s0 j:Nat}{ob:dt}(h:FF m A w s0 j ob)(ev:jf m A w m' A' w'):FF m' A' w' s0 j ob:=by obtain⟨p,h1,h2,h3,h4,h5,h6⟩:=h;refine⟨p,ev.ext _ _ h1,(h2.heap (ev.sD _ h2.lt λq=>h5 q.Km)).mono ev.ext,h3,h4,λq=>?_,h6⟩;rcases ev.Km _ q with q|q|q;exact h5 q;have:=h2.lt;omega;exact q h4
def Mp.put (m:Mp)(j:Nat)(p:Pl):Mp:=λi=>if i=j then qf p else m i
def Mp.EX {m:Mp}{j:Nat}{p:Pl}(h:m j=none):Mp.le m (m.put j p):=λi x e=>by unfold Mp.put;split;rename_i e1;subst e1;rw[h]at e;cases e;exact e
def jN.ne {m:Mp}{A:AW}{w:qz}(hs:jN m A w){i j:Nat}{o:dt}(hj:m j=none)(h:A.bk i=qf o):i≠j:=λe=>by subst e;obtain⟨p,h1,_⟩:=hs.Dv _ _ h;rw[hj]at h1;cases h1
def Hx {m:Mp}{A:AW}{w:qz}(hs:jN m A w){j:Nat}{p:Pl}(hj:m j=none){b:Nat}(h:yM (m.put j p) A b):yM m A b:=by obtain⟨i,o,q,h1,h2,h3⟩:=h;have:=hs.ne hj h1;simp only[Mp.put,this,if_false]at h2;exact⟨i,o,q,h1,h2,h3⟩
def own_put {m:Mp}{A:AW}{w:qz}(hs:jN m A w){j:Nat}{p:Pl}(hj:m j=none){b:Nat}(h:Ox (m.put j p) A b):Ox m A b:=by obtain⟨i,o,q,h1,h0,h2,h3⟩:=h;have:=hs.ne hj h1;simp only[Mp.put,this,if_false]at h2;exact⟨i,o,q,h1,h0,h2,h3⟩
def Tl {m m1:Mp}{A:AW}{w w1:qz}{j:Nat}{k:FK}{ob:dt}{x:qi}(hs:jN m A w)(hj:j<A.next)(oy:m j=none)(uO:Mr m ob)(ev:jf m A w m1 (A.alloc ob) w1)(hv:bH m1 (k.val A.next) x):
 ∃p,jN (m.put j p) A w1/\bH (m.put j p) (k.val j) x/\iH (m.put j p) w1 p ob/\w.heap.size<=p.block/\Gl.B p.block=none:=by
 have IO:(A.alloc ob).bk A.next=qf ob:=by simp[AW.alloc]
 have Qa:∀{i o},A.bk i=qf o->(A.alloc ob).bk i=qf o:=λ{i o} h=>by
  have:i≠A.next:=λe=>by subst e;rw[hs.tO _ (Za _)]at h;cases h
  simp[AW.alloc,this,h]
 obtain⟨p,hp,hm⟩:=ev.vL.Dv _ _ IO;have jd:=uO.own;have gb:Mp.le m (m.put j p):=Mp.EX oy;have WE:∀i,m i≠none->(m.put j p) i=m1 i:=λi hi=>by
  cases h:m i with
  |none=>exact absurd h hi
  |some q=>rw[gb _ _ h,ev.ext _ _ h]
 have uo:w.heap.size<=p.block:=by
  rcases ev.grow p.block ⟨_,ob,p,IO,jd,hp,rfl⟩ with ⟨i,o,q,h1,h2,h3,h4⟩|h;exfalso;have fL:i≠A.next:=λe=>by subst e;rw[hs.tO _ (Za _)]at h1;cases h1
  exact ev.vL.inj i A.next o ob q p (Qa h1) h2 IO fL (ev.ext _ _ h3) hp h4;exact h
 have hB:Gl.B p.block=none:=ev.vL.yP _ ob p IO jd hp;refine⟨p,⟨?_,?_,?_,hs.tO,ev.vL.laid,?_,hs.w5.mono gb⟩,FK.move hv (by simp[Mp.put,hp]),hm.fit uO WE,uo,hB⟩
 . intro i o hi;obtain⟨q0,DT,hm0⟩:=hs.Dv i o hi;obtain⟨q,hq,hmq⟩:=ev.vL.Dv i o (Qa hi);rw[ev.ext _ _ DT]at hq;injection hq with hq;subst hq;refine⟨q0,gb _ _ DT,?_⟩;cases o with
   |cells cs own u=>obtain⟨ik,e1,fr,g1,g2,g3,g4,g5⟩:=hmq;obtain⟨_,_,_,_,_,_,_,k5⟩:=hm0;refine⟨ik,e1,fr,g1,g2,g3,g4,λk u hu=>?_⟩;obtain⟨y,hy,hr⟩:=g5 k u hu;obtain⟨x,_,hr0⟩:=k5 k u hu;exact⟨y,hy,hr0.Ca WE y hr⟩
   |map es own=>obtain⟨kw,aC,yg,gp,g1,g2,g3⟩:=hmq;obtain⟨ents0,_,es0,kp,_,k2,k3⟩:=hm0;refine⟨kw,aC,yg,gp,g1,g2,λk x e hx he=>?_⟩;obtain⟨k0,U3⟩:=List.mem_iff_getElem?.1 ((kp.mem_iff).1 ((gp.mem_iff).2 (kal hx)));have b9:k0<ents0.size:=Xr;have q:=k3 k0 x _ U3 (ZQ b9);have r:=g3 k x e hx he;exact⟨q.1.Ca WE _ r.1,q.2.Ca WE _ r.2⟩
 intro i i' o o' q q' hi ho ww fL hq pS;have e1:=hs.ne oy hi;have e2:=hs.ne oy ww;simp only[Mp.put,e1,e2,if_false]at hq pS;exact hs.inj i i' o o' q q' hi ho ww fL hq pS;intro i hi;have:i≠j:=Ya
 simp only[Mp.put,this,if_false];exact hs.nS i hi;intro i o q hi ho hq;have e1:=hs.ne oy hi;simp only[Mp.put,e1,if_false]at hq;exact hs.yP i o q hi ho hq
def WM {m0 m m1:Mp}{A0 A:AW}{w0 w w1:qz}{j:Nat}{ob:dt}{p:Pl}(h0:jf m0 A0 w0 m A w)(hj:A0.next<=j)(oy:m j=none)(ev:jf m A w m1 (A.alloc ob) w1)(hs:jN (m.put j p) A w1):jf m0 A0 w0 (m.put j p) A w1:=by
 refine⟨Mp.le_trans h0.ext (Mp.EX oy),hs,h0.next,ev.os.trans h0.os,ev.tape.trans h0.tape,ev.output.trans h0.output,ZE h0.size ev.size,?_,?_,?_,?_⟩;intro b hb ho;rw[ev.sD b (kaq hb h0.size) (λhx=>?_),h0.sD b hb ho];rcases h0.grow b hx with h1|h1;exact ho h1;omega;exact λb hb=>h0.grow b (own_put h0.vL oy hb);intro i hi;have:i≠j:=Ya
 simp only[Mp.put,this,if_false];exact h0.jp i hi;exact λb hb=>h0.Km b (Hx h0.vL oy hb)
def FF.float {m m1:Mp}{A:AW}{w w1:qz}{s0 j j1:Nat}{ob ob1:dt}{p:Pl}(hs:jN m A w)(h:FF m A w s0 j1 ob1)(oy:m j=none)(ev:jf m A w m1 (A.alloc ob) w1):
 FF (m.put j p) A w1 s0 j1 ob1:=by obtain⟨q,h1,h2,h3,h4,h5,h6⟩:=h;exact⟨q,Mp.EX oy _ _ h1,(h2.heap (ev.sD _ h2.lt λq=>h5 q.Km)).mono (Mp.EX oy),h3,h4,λq=>h5 (Hx hs oy q),h6⟩
def zS {m0 m:Mp}{A0 A:AW}{w0 w:qz}{j:Nat}{ob:dt}(h0:jf m0 A0 w0 m A w)(hf:FF m A w w0.heap.size j ob):
 jf m0 A0 w0 m (A.set j (qf ob)) w:=by
 obtain⟨p,h1,h2,h3,h4,h5,_⟩:=hf;have hs:=h0.vL;have b9:j<A.next:=by rcases Nat.lt_or_ge j A.next with h|h;exact h;rw[hs.nS j h]at h1;cases h1
 have hu:∀b,yM m (A.set j (qf ob)) b->yM m A b\/b=p.block:=by rintro b⟨i,o,q,g1,g2,g3⟩;by_cases e:i=j;subst e;rw[h1]at g2;injection g2 with g2;subst g2;exact qB g3.symm;rw[AW.bh e]at g1;exact qw ⟨i,o,q,g1,g2,g3⟩
 refine⟨h0.ext,⟨?_,?_,hs.nS,?_,hs.laid,?_,hs.w5⟩,h0.next,h0.os,h0.tape,h0.output,h0.size,h0.sD,?_,h0.jp,?_⟩;intro i o hi;by_cases e:i=j;subst e;rw[AW.cM]at hi;injection hi with hi;subst hi;exact⟨p,h1,h2⟩;rw[AW.bh e]at hi;exact hs.Dv i o hi;intro i i' o o' q q' hi ho ww fL hq pS;by_cases e:i=j;subst e;rw[AW.bh (Zp fL)]at ww;rw[h1]at hq;injection hq with hq;subst hq;exact λe2=>h5 ⟨i',o',q',ww,pS,e2.symm⟩;rw[AW.bh e]at hi;by_cases e':i'=j;subst e';rw[h1]at pS;injection pS with pS;subst pS;exact λe2=>h5 ⟨i,o,q,hi,hq,e2⟩;rw[AW.bh e']at ww;exact hs.inj i i' o o' q q' hi ho ww fL hq pS;intro i hi;have xj:A.next<=i:=hi;rw[AW.bh Ya];exact hs.tO i xj;intro i o q hi ho hq;by_cases e:i=j;subst e;rw[h1]at hq;injection hq with hq;subst hq;exact h4;rw[AW.bh e]at hi;exact hs.yP i o q hi ho hq;rintro b⟨i,o,q,g1,g0,g2,g3⟩;by_cases e:i=j;subst e;rw[h1]at g2;injection g2 with g2
 subst g2;exact qB (by rw[<-g3];exact h3);rw[AW.bh e]at g1;exact h0.grow b ⟨i,o,q,g1,g0,g2,g3⟩;intro b hb;rcases hu b hb with h|h;exact h0.Km b h;exact qB (qw (by rw[h];exact h3))
structure FD where
 op:Nat
 dZ:Nat
 k:FK
 ob:dt
 dG:List (Nat×Value×Value)
 jV:Nat
def FD.ik (x:FD)(S:Nat->Bool):dt:=match x.ob with
 | .map _ own=>.map ((x.dG.filter λq=>S q.1).map (·.2)) own
 |qm cs own u=>qm cs own u
def FD.lp (x:FD):dt:=match x.ob with
 | .map _ own=>.map (x.dG.map (·.2)) own
 |qm cs own u=>qm cs own u
def FD.cur_full {x:FD}{S:Nat->Bool}(h:∀q∈x.dG,S q.1=qj):x.ik S=x.lp:=by unfold FD.ik FD.lp;split;rw[List.filter_eq_self.2 h];rfl
def FD.NY {x:FD}{S:Nat->Bool}{i:Nat}(h:∀q∈x.dG,q.1≠i):x.ik (bF S i)=x.ik S:=by
 unfold FD.ik;have:(x.dG.filter λq=>bF S i q.1)=x.dG.filter λq=>S q.1:=kcg λq hq=>by simp[bF,h q hq]
 rw[this]
def FD.cur_own {x:FD}{S:Nat->Bool}:(x.ik S).own=x.ob.own:=by unfold FD.ik;split<;>rename_i h<;>rw[h]<;>rfl
def clm1 (A:AW)(x:FD):AW:=A.set x.dZ (qf x.lp)
def Ki (l:List FD)(A:AW):AW:=l.foldl clm1 A
def Vi (A:AW):Ki [] A=A:=rfl
def clm_cons (x:FD)(l:List FD)(A:AW):Ki (x::l) A=Ki l (clm1 A x):=rfl
structure FlOk (fl:List FD):Prop where
 bf:∀x∈fl,∀y∈fl,x.op=y.op->x=y
 E2:∀x∈fl,∀y∈fl,x.dZ=y.dZ->x=y
 dG:∀x∈fl,∀y∈fl,∀q∈x.dG,q.1≠y.op/\q.1≠y.jV/\(x≠y->∀r∈y.dG,q.1≠r.1)
 jV:∀x∈fl,∀y∈fl,x.op≠y.jV
 nd:fl.Nodup
structure CY (m0:Mp) (A0:AW) (w0:World) (fl:List FD) (S:Nat->Bool) (m:Mp) (A:AW) (w:World):Prop where
 ev:jf m0 A0 w0 m A w
 on:∀x∈fl,S x.op=true->S x.jV=false->FF m A w w0.heap.size x.dZ (x.ik S)
 off:∀x∈fl,S x.op=false->m x.dZ=none
 dis:∀x∈fl,∀y∈fl,x≠y->∀p q,m x.dZ=some p->m y.dZ=some q->p.block≠q.block
 Dh:∀x∈fl,x.dZ<A.next
 tO:∀x∈fl,A0.next<=x.dZ
 lt:∀x∈fl,∀p,m x.dZ=some p->p.block<w.heap.size
def FF.none {m:Mp}{A:AW}{w:qz}{s0 j:Nat}{ob:dt}(h:FF m A w s0 j ob):A.bk j=none:=by
 obtain⟨p,h1,_,_,_,h5,_⟩:=h;cases hg:A.bk j with
 |none=>rfl
 |some o=>exact absurd ⟨j,o,p,hg,h1,rfl⟩ h5
def Mc {m0 m:Mp}{A0:AW}{w0 w:qz}:∀(cl:List FD)(A:AW)(fl:List FD)(S:Nat->Bool),jf m0 A0 w0 m A w->cl.Nodup->
 (∀x∈cl,FF m A w w0.heap.size x.dZ x.lp)->(∀y∈fl,FF m A w w0.heap.size y.dZ (y.ik S))->
 (∀x∈cl,∀y∈fl,∀p q,m x.dZ=qf p->m y.dZ=qf q->p.block≠q.block)->
 (∀x∈cl,∀y∈cl,x≠y->∀p q,m x.dZ=qf p->m y.dZ=qf q->p.block≠q.block)->
 jf m0 A0 w0 m (Ki cl A) w/\(∀y∈fl,FF m (Ki cl A) w w0.heap.size y.dZ (y.ik S))/\(Ki cl A).next=A.next
 |[],A,fl,S,ev,_,_,h2,_,_=>⟨ev,h2,rfl⟩
 |x::cl,A,fl,S,ev,hnd,h1,h2,h3,h4=>by
   simp only[List.nodup_cons]at hnd;have hx:=h1 x Yb;have ev1:=zS ev hx;obtain⟨p,g1,g2,g3,g4,g5,g6⟩:=hx;have jp:∀{j:Nat}{ob:dt},(∀q,m j=qf q->p.block≠q.block)->FF m A w w0.heap.size j ob->FF m (clm1 A x) w w0.heap.size j ob:=by rintro j ob hd⟨q,k1,k2,k3,k4,k5,k6⟩;refine⟨q,k1,k2,k3,k4,?_,k6⟩;rintro ⟨i,o,p',e1,e2,e3⟩;unfold clm1 at e1;by_cases e:i=x.dZ;subst e;rw[g1]at e2;injection e2 with e2;subst e2;exact hd q k1 e3;rw[AW.bh e]at e1;exact k5 ⟨i,o,p',e1,e2,e3⟩
   obtain⟨r1,r2,r3⟩:=Mc cl (clm1 A x) fl S ev1 hnd.2 (λy hy=>jp (λq hq=>h4 x Yb y YB (λe=>hnd.1 (by rw[e];exact hy)) p q g1 hq) (h1 y YB))
    (λy hy=>jp (λq hq=>h3 x Yb y hy p q g1 hq) (h2 y hy)) (λa ha=>h3 a (by simp[ha])) λa ha b hb=>h4 a (by simp[ha]) b (by simp[hb])
   exact⟨r1,r2,r3⟩
def sP (fl:List FD)(i:Nat):List FD:=fl.filter λx=>x.jV == i
def CY.Vj {m0 m:Mp}{A0 A:AW}{w0 w:qz}{fl:List FD}{S:Nat->Bool}(ki:FlOk fl)(h:CY m0 A0 w0 fl S m A w){i:Nat}(hS:S i=qn)(hc:∀x∈fl,x.jV=i->S x.op=qj/\∀q∈x.dG,S q.1=qj):
 jf m0 A0 w0 m (Ki (sP fl i) A) w/\(∀y∈fl,S y.op=qj->S y.jV=qn->y.jV≠i->FF m (Ki (sP fl i) A) w w0.heap.size y.dZ (y.ik S))/\(Ki (sP fl i) A).next=A.next:=by
 have nA:∀x∈sP fl i,x∈fl/\x.jV=i:=λx hx=>by simpa[sP]using hx
 obtain⟨r1,r2,r3⟩:=Mc (sP fl i) A (fl.filter λy=>S y.op && !S y.jV && !(y.jV == i)) S h.ev (ki.nd.filter _)
  (λx hx=>by obtain⟨h1,h2⟩:=nA x hx;obtain⟨h3,h4⟩:=hc x h1 h2;rw[<-FD.cur_full h4];exact h.on x h1 h3 (by rw[h2];exact hS))
  (λy hy=>by simp only[kax,Zg,kae]at hy;exact h.on y hy.1 hy.2.1.1 hy.2.1.2)
  (λx hx y hy=>by obtain⟨h1,h2⟩:=nA x hx;simp only[kax,Zg,kae]at hy;exact h.dis x h1 y hy.1 λe=>by rw[<-e,h2]at hy;simp at hy)
  (λx hx y hy fL=>h.dis x (nA x hx).1 y (nA y hy).1 fL)
 exact⟨r1,λy hy h1 h2 h3=>r2 y (by simp[hy,h1,h2,h3]),r3⟩
def CY.drew {m0 m:Mp}{A0 A:AW}{w0 w:qz}{fl:List FD}{S:Nat->Bool}(ki:FlOk fl)(h:CY m0 A0 w0 fl S m A w){i:Nat}(hS:S i=qn)(hc:∀x∈fl,x.jV=i->S x.op=qj/\∀q∈x.dG,S q.1=qj)(hn:∀x∈fl,x.op≠i/\∀q∈x.dG,q.1≠i){m1:Mp}{A1:AW}{w1:qz}(ev:jf m (Ki (sP fl i) A) w m1 A1 w1):CY m0 A0 w0 fl (bF S i) m1 A1 w1:=by
 obtain⟨c1,c2,c3⟩:=h.Vj ki hS hc;have zK:∀x∈fl,m1 x.dZ=m x.dZ:=λx hx=>ev.jp _ (by rw[c3];exact h.Dh x hx);refine⟨c1.trans ev,λx hx h1 h2=>?_,λx hx h1=>?_,λx hx y hy fL p q hp hq=>?_,λx hx=>?_,h.tO,λx hx p hp=>?_⟩;have h1':S x.op=qj:=by simpa[bF,(hn x hx).1]using h1
 have ht:x.jV≠i:=λe=>by simp[bF,e]at h2
 have h2':S x.jV=qn:=by simpa[bF,ht]using h2
 rw[FD.NY (hn x hx).2];exact(c2 x hx h1' h2' ht).evo ev;have h1':S x.op=qn:=by simpa[bF,(hn x hx).1]using h1
 rw[zK x hx];exact h.off x hx h1';rw[zK x hx]at hp;rw[zK y hy]at hq;exact h.dis x hx y hy fL p q hp hq;have:=ev.next;rw[c3]at this;exact kaq (h.Dh x hx) this;rw[zK x hx]at hp;exact kaq (h.lt x hx p hp) ev.size
def CY.float {m0 m m1:Mp}{A0 A:AW}{w0 w w1:qz}{fl:List FD}{S:Nat->Bool}(ki:FlOk fl)(h:CY m0 A0 w0 fl S m A w){x:FD}{p:Pl}(hx:x∈fl)(hS:S x.op=qn)(S6:x.ik S=x.ob)(ev:jf m A w m1 (A.alloc x.ob) w1)(hs:jN (m.put x.dZ p) A w1)(hm:iH (m.put x.dZ p) w1 p x.ob)(uo:w.heap.size<=p.block)(hB:Gl.B p.block=none)(AT:x.ob.own=qj):CY m0 A0 w0 fl (bF S x.op) (m.put x.dZ p) A w1:=by
 have oy:=h.off x hx hS;have Kb:=h.ev.vL;have ru:∀y∈fl,y≠x->(m.put x.dZ p) y.dZ=m y.dZ:=λy hy fL=>by have:y.dZ≠x.dZ:=λe=>fL (ki.E2 y hy x hx e);simp[Mp.put,this]
 have IJ:(m.put x.dZ p) x.dZ=qf p:=by simp[Mp.put]
 have NF:∀y∈fl,y.ik (bF S x.op)=y.ik S:=λy hy=>FD.NY λq hq=>(ki.dG y hy x hx q hq).1;have b9:=hm.lt;refine⟨WM h.ev (h.tO x hx) oy ev hs,λy hy h1 h2=>?_,λy hy h1=>?_,λy hy z hz fL p1 p2 up yY=>?_,h.Dh,h.tO,λy hy p1 up=>?_⟩;have h2':S y.jV=qn:=by
  have:y.jV≠x.op:=λe=>ki.jV x hx y hy e.symm
  simpa[bF,this]using h2
 rw[NF y hy];by_cases e:y=x;subst e;rw[S6];refine⟨p,IJ,hm,ZE h.ev.size uo,hB,λq=>?_,AT⟩;obtain⟨i0,o,q0,g1,g2,g3⟩:=Hx Kb oy q;have:=Kb.jj g1 g2;omega;have:y.op≠x.op:=λe1=>e (ki.bf y hy x hx e1);exact(h.on y hy (by simpa[bF,this]using h1) h2').float Kb oy ev;have e:y≠x:=λe=>by subst e;simp[bF]at h1
 have:y.op≠x.op:=λe1=>e (ki.bf y hy x hx e1);rw[ru y hy e];exact h.off y hy (by simpa[bF,this]using h1);by_cases e1:y=x;subst e1;rw[IJ]at up;injection up with up;subst up;rw[ru z hz (Zp fL)]at yY;have:=h.lt z hz p2 yY;omega;rw[ru y hy e1]at up;by_cases e2:z=x;subst e2;rw[IJ]at yY;injection yY with yY;subst yY;have:=h.lt y hy p1 up;omega;rw[ru z hz e2]at yY;exact h.dis y hy z hz fL p1 p2 up yY;by_cases e1:y=x;subst e1;rw[IJ]at up;injection up with up;subst up;exact b9;rw[ru y hy e1]at up;exact kaq (h.lt y hy p1 up) ev.size
def QN {m0 m m1:Mp}{A0 A:AW}{w0 w w1:qz}{j:Nat}{ob Uy:dt}(h:jf m0 A0 w0 m (A.set j (qf ob)) w)(hj:A.bk j=none)(ev:jf m (A.set j (qf ob)) w m1 (A.set j (qf Uy)) w1):
 jf m0 A0 w0 m1 A w1:=by have e:=h.trans ev;have k:=e.trans (jf.PY e.vL j);rw[AW.set_set,AW.Pd hj]at k;exact k
def CY.entry {m0 m m1:Mp}{A0 A:AW}{w0 w w1:qz}{fl:List FD}{S:Nat->Bool}(ki:FlOk fl)(h:CY m0 A0 w0 fl S m A w){x:FD}{i:Nat}{Uy:dt}(hx:x∈fl)(hS:S x.op=qj)(ht:S x.jV=qn)(hi:∃q∈x.dG,q.1=i)(ev:jf m (A.set x.dZ (qf (x.ik S))) w m1 (A.set x.dZ (qf Uy)) w1)(hfin:∀p,iH m1 w1 p Uy->iH m1 w1 p (x.ik (bF S i))):CY m0 A0 w0 fl (bF S i) m1 A w1:=by
 obtain⟨q0,DT,P7⟩:=hi;have hff:=h.on x hx hS ht;have wW:=hff.none;have evc:=zS h.ev hff;have hnx:x.dZ<A.next:=h.Dh x hx;have zK:∀y∈fl,m1 y.dZ=m y.dZ:=λy hy=>ev.jp _ (h.Dh y hy);obtain⟨p,g1,g2,g3,g4,g5,g6⟩:=hff;have up:m1 x.dZ=qf p:=by rw[zK x hx];exact g1
 have jM:∀y∈fl,S y.op=(bF S i) y.op/\S y.jV=(bF S i) y.jV:=λy hy=>by obtain⟨k1,k2,_⟩:=ki.dG x hx y hy q0 DT;rw[P7]at k1 k2;exact⟨by simp[bF,Zp k1],by simp[bF,Zp k2]⟩
 have UU:∀{b},yM m1 A b->yM m A b:=by
  rintro b⟨j,o,q,e1,e2,e3⟩;have hjn:j<A.next:=by rcases Nat.lt_or_ge j A.next with e|e;exact e;rw[h.ev.vL.tO j e]at e1;cases e1
  exact⟨j,o,q,e1,by rw[<-ev.jp j hjn];exact e2,e3⟩
 refine⟨QN evc wW ev,λy hy h1 h2=>?_,λy hy h1=>?_,λy hy z hz fL p1 p2 up yY=>?_,h.Dh,h.tO,λy hy p1 up=>?_⟩;rw[<-(jM y hy).1]at h1;rw[<-(jM y hy).2]at h2;by_cases e:y=x;subst e;obtain⟨p',k1,k2⟩:=ev.vL.Dv y.dZ Uy (by simp[AW.set]);rw[up]at k1;injection k1 with k1;subst k1;refine⟨p,up,hfin p k2,g3,g4,λq=>g5 (UU q),?_⟩;rw[FD.cur_own]at g6 ⊢;exact g6;rw[FD.NY λr hr e2=>by have:=(ki.dG x hx y hy q0 DT).2.2 (Zp e) r hr;exact this (P7.trans e2.symm)]
 obtain⟨p',k1,k2,k3,k4,k5,k6⟩:=h.on y hy h1 h2;refine⟨p',by rw[zK y hy];exact k1,(k2.heap (ev.sD _ k2.lt λq=>?_)).mono ev.ext,k3,k4,λq=>k5 (UU q),k6⟩;obtain⟨j,o,r,e1,_,e3,e4⟩:=q;by_cases ej:j=x.dZ;subst ej;rw[g1]at e3;injection e3 with e3;subst e3;exact h.dis x hx y hy (Zp e) p p' g1 k1 e4;rw[AW.bh ej]at e1;exact k5 ⟨j,o,r,e1,e3,e4⟩;rw[<-(jM y hy).1]at h1;rw[zK y hy];exact h.off y hy h1;rw[zK y hy]at up;rw[zK z hz]at yY;exact h.dis y hy z hz fL p1 p2 up yY;rw[zK y hy]at up;exact kaq (h.lt y hy p1 up) ev.size
def AW.TF (A:AW)(n:Nat):AW:={ A with next:=A.next+n }
def jf.TF {m:Mp}{A:AW}{w:qz}(hs:jN m A w)(n:Nat):jf m A w m (A.TF n) w:=
 ⟨Mp.le_refl m,⟨hs.Dv,hs.inj,λi hi=>hs.nS i (ZE (kci _ _) hi),λi hi=>hs.tO i (ZE (kci _ _) hi),hs.laid,hs.yP,hs.w5⟩,
  kci _ _,rfl,rfl,rfl,Za _,λ_ _ _=>rfl,λ_ h=>qw h,λ_ _=>rfl,λ_ h=>qw h⟩
def CY.sX {m:Mp}{A:AW}{w:qz}(hs:jN m A w)(fl:List FD){n:Nat}(hn:∀x∈fl,A.next<=x.dZ/\x.dZ<A.next+n){S:Nat->Bool}(hS:∀i,S i=qn):CY m A w fl S m (A.TF n) w:=
 ⟨jf.TF hs _,λx _ h=>by(rw[hS]at h;cases h),λx hx _=>hs.nS _ (hn x hx).1,
  λx hx y hy _ p q hp=>by(rw[hs.nS _ (hn x hx).1]at hp;cases hp),λx hx=>(hn x hx).2,λx hx=>(hn x hx).1,λx hx p hp=>by(rw[hs.nS _ (hn x hx).1]at hp;cases hp)⟩
def OT {P:qp}{m:Mp}{A:AW}{w:qz}(hs:jN m A w){o:Oper}{n:Nat}{a:Fr}{ca:Act}(hf:sW m n a ca)(ho:ma n o=qj){j:Nat}{k:FK}{ob:dt}(hj:j<A.next)(oy:m j=none)(h:UN P (gZ a) o.op=qf (k,ob)){K:Act->qz->Prop}{Q:Exit->Act->qz->Prop}(hK:∀m1 w1 p yK,jf m A w m1 (A.alloc ob) w1->jN (m.put j p) A w1->iH (m.put j p) w1 p ob->w.heap.size<=p.block->Gl.B p.block=none->ob.own=qj->
  sW (m.put j p) n (d8 a o.dst (k.val j)) yK->K yK w1):o.wp P ca w K Q:=by
 simp only[ma,Zg]at ho;obtain⟨ho1,ho2⟩:=ho;have hd:∀i,o.dst=qf i->i<n:=λi e=>by rw[e]at ho2;simpa using ho2
 have hr:∀x∈o.op.operands,bH m (gZ a x) (ca.eval x):=λx hx=>hf.eval (kaE.1 ho1 x hx);have uO:Mr m ob:=mkO_fit h λx hx=>⟨_,hr x hx⟩;obtain⟨v',w',m',h1,h2,h3⟩:=Rh hs hr (mkO_ae h A);obtain⟨p,g1,g2,g3,g4,g5⟩:=Tl hs hj oy uO h2 h3;unfold Oper.wp;rcases h1 with h1|⟨h1,rfl⟩;rw[h1];exact hK m' w' p _ h2 g1 g3 g4 g5 uO.own ((hf.mono (Mp.EX oy)).put hd g2);rw[h1];exact hK m' w' p _ h2 g1 g3 g4 g5 uO.own ((hf.mono (Mp.EX oy)).put hd g2)
def Ov (P:qp)(t:TypeId)(x:FD):Prop:=∃kt e d,P.underlying t=qf (.map kt e)/\P.underlying kt=qf d/\lU d=qj/\
 ∀q∈x.dG,∀q'∈x.dG,q.1≠q'.1->Instr.sameNow d q.2.1 q'.2.1=qf qn
def Tu {P:qp}{t:TypeId}{x:FD}(ht:Ov P t x){own:Bool}(uO:x.ob=.map [] own)(AT:own=qj){S:Nat->Bool}{q:Nat×qi×qi}(hq:q∈x.dG)(hS:S q.1=qn)(hnd:∀r∈x.dG,r.1=q.1->r=q)(zJ:x.dG.Nodup){A:AW}{r:qA->qi}{X K V:qA}(hX:r X=.map (qf x.dZ))(hK:r K=q.2.1)(hV:r V=q.2.2){k:qi->AW->Prop}(hk:∀Uy,(∀m w p,iH m w p Uy->iH m w p (x.ik (bF S q.1)))->k undef (A.set x.dZ (qf Uy))):iJ P (.insert t X K V) r (A.set x.dZ (qf (x.ik S))) k:=by
 obtain⟨kt,e,d,h1,h2,h3,h4⟩:=ht;subst AT;have NF:x.ik S=.map ((x.dG.filter λq=>S q.1).map (·.2)) qj:=by unfold FD.ik;rw[uO]
 have hcur2:x.ik (bF S q.1)=.map ((x.dG.filter λz=>bF S q.1 z.1).map (·.2)) qj:=by unfold FD.ik;rw[uO]
 have wW:fy d q.2.1 ((x.dG.filter λq=>S q.1).map (·.2)) 0=qf none:=rX.2 λy hy=>by obtain⟨z,hz,rfl⟩:=List.mem_map.1 hy;simp only[kax]at hz;exact h4 q hq z hz.1 λe=>by rw[<-e,hS]at hz;cases hz.2
 have hup:fv P (A.set x.dZ (qf (x.ik S))) t (.map (qf x.dZ)) q.2.1 q.2.2=qf (A.set x.dZ (qf (.map (((x.dG.filter λq=>S q.1).map (·.2))++[q.2]) qj))):=by unfold fv;rw[h1];simp only;rw[h2,AW.cM,NF];simp only[h3,if_true,wW];rw[AW.set_set]
 have:=hk (.map (((x.dG.filter λq=>S q.1).map (·.2))++[q.2]) qj) λm w p ho=>by
  rw[hcur2];refine ho.perm ?_;obtain⟨l,r',Qg⟩:=List.append_of_mem hq;rw[Qg]at zJ hnd ⊢;have hl:∀z∈l,z.1≠q.1:=λz hz e=>by have:=hnd z (by simp[hz]) e;subst this;rw[List.nodup_append]at zJ;exact zJ.2.2 z hz z Yb rfl
  have hr':∀z∈r',z.1≠q.1:=λz hz e=>by have:=hnd z (by simp[hz]) e;subst this;rw[List.nodup_append,List.nodup_cons]at zJ;exact zJ.2.1.1 hz
  have e1:(l.filter λz=>bF S q.1 z.1)=l.filter λz=>S z.1:=kcg λz hz=>by simp[bF,hl z hz]
  have e2:(r'.filter λz=>bF S q.1 z.1)=r'.filter λz=>S z.1:=kcg λz hz=>by simp[bF,hr' z hz]
  have e3:(bF S q.1) q.1=qj:=by simp[bF]
  simp only[List.filter_append,List.filter_cons,hS,e3,e1,e2,if_true,List.map_append,List.map_cons,Bool.false_eq_true,if_false];rw[List.append_assoc];exact List.Perm.append_left _ (List.perm_append_comm (l₁:=(r'.filter λz=>S z.1).map (·.2)) (l₂:=[q.2]))
 unfold iJ;simp only[aq,ae,hX,hK,hV,hup];exact this
def awp_flo {P:qp}{n:Nat}{Q:Exit->Fr->AW->Prop}{a:Fr}{A:AW}{id:Nat}{bf:Array Oper}(hm:P.follows .mixedOrders=qj)(pT:jT bf=qj)(fl:List FD)(ki:FlOk fl){nb:Nat}(Qc:∀x∈fl,A.next<=x.dZ/\x.dZ<A.next+nb)(xj:∀x∈fl,x.op<bf.size/\∀q∈x.dG,q.1<bf.size)(zJ:∀x∈fl,x.dG.Nodup/\∀q∈x.dG,∀r∈x.dG,r.1=q.1->r=q)(J:(Nat->Bool)->Fr->AW->Prop)(h0:J (λ_=>qn) a (A.TF nb))(wU:∀S a' A' i o,A'.Wf->J S a' A'->bf[i]?=qf o->Lq S i o->(∀x∈fl,x.op≠i/\∀q∈x.dG,q.1≠i)->
  (∀x∈fl,x.jV=i->S x.op=qj/\∀q∈x.dG,S q.1=qj)/\OC P bf o a' (Ki (sP fl i) A') (J (bF S i)))(Gb:∀S a' A' i o x,A'.Wf->J S a' A'->bf[i]?=qf o->Lq S i o->x∈fl->x.op=i->
  o.guard=none/\UN P (gZ a') o.op=qf (x.k,x.ob)/\x.ik S=x.ob/\J (bF S i) (d8 a' o.dst (x.k.val x.dZ)) A')(S6:∀S a' A' i o x q,A'.Wf->J S a' A'->bf[i]?=qf o->Lq S i o->x∈fl->q∈x.dG->q.1=i->
  o.guard=none/\S x.op=qj/\S x.jV=qn/\(∃t X K V,o.op=.insert t X K V/\Ov P t x/\x.ob=.map [] qj/\gZ a' X=.map (qf x.dZ)/\gZ a' K=q.2.1/\gZ a' V=q.2.2)/\J (bF S i) (d8 a' o.dst undef) A')(ry:∀S a' A',A'.Wf->J S a' A'->(∀i,i<bf.size->S i=qj)->Q .normal a' (Ki (sP fl bf.size) A')):df P n (.region id bf qj) Q a A:=by
 intro hokc m w ca hs hf;have Bo:bf.all (ma n)=qj:=hokc;refine wp_region_any hm ?_
 have key:∀(fuel:Nat)(listed:Array Bool)(S:Nat->Bool)(a':Fr)(A':AW)(m':Mp)(w':qz)(yK:Act),listed.size=bf.size->(∀i,i<bf.size->listed.getD i qn=S i)->(∀i,bf.size<=i->S i=qn)->
  (Zt bf.size).countP (λi=>!S i)<=fuel->J S a' A'->CY m A w fl S m' A' w'->sW m' n a' yK->
  wpAny P .any bf (λe yK w'=>∃m' a' A',jf m A w m' A' w'/\sW m' n a' yK/\Q e a' A') fuel listed yK w':=by
  intro fuel
  induction fuel with
  |zero=>
    intro listed S a' A' m' w' yK uo hS jK hcnt hJ Br rx;have gQ:∀i,i<bf.size->S i=qj:=by
     intro i hi;have:=List.countP_eq_zero.1 (Nat.le_zero.1 hcnt) i (Zr.2 hi)
     exact X9
    refine⟨?_,m',a',_,(Br.Vj ki (jK _ (Za _)) λx hx _=>⟨gQ _ (xj x hx).1,λq hq=>gQ _ ((xj x hx).2 q hq)⟩).1,rx,ry S a' A' Br.ev.vL.tO hJ gQ⟩;rw[List.eq_nil_iff_forall_not_mem];intro i hi;obtain⟨o,ho,hl,_⟩:=AH hi;have ww:=(Zj.1 ho).1;have:=hS i ww;rw[gQ i ww]at this;rw[Z8,ZQ Ya]at this hl;simp only[Option.getD_some]at this hl;rw[this]at hl;cases hl
  |succ fuel ih=>
    intro listed S a' A' m' w' yK uo hS jK hcnt hJ Br rx;refine⟨λhr=>?_,λi hi=>?_⟩;have gQ:∀i,i<bf.size->S i=qj:=λi hi=>by rw[<-hS i hi];exact yn pT uo hr (i+1) i Ya hi
    exact⟨m',a',_,(Br.Vj ki (jK _ (Za _)) λx hx _=>⟨gQ _ (xj x hx).1,λq hq=>gQ _ ((xj x hx).2 q hq)⟩).1,rx,ry S a' A' Br.ev.vL.tO hJ gQ⟩;obtain⟨o,ho,hl,ks⟩:=AH hi;have ww:=(Zj.1 ho).1;have rz:S i=qn:=by
     rw[<-hS i ww];rw[Z8,ZQ Ya]at hl ⊢
     simpa using hl
    have Qn:∀e∈o.after,Region.binds .any e=qj->S e.on=qj:=by intro e he hb;have h1:=ks e he hb;have b9:=mN pT ho he hb;rw[<-hS e.on Ya];exact h1
    have hoo:=kaE.1 Bo o (Array.mem_of_getElem? ho);have IW:(Zt bf.size).countP (λj=>!(bF S i) j)<=fuel:=by
     have e1:(Zt bf.size).countP (λj=>!(bF S i) j)+1<=(Zt bf.size).countP (λj=>!S j):=by
      have nA:i∈Zt bf.size:=Zr.2 ww;have key2:∀l:List Nat,i∈l->l.countP (λj=>!(bF S i) j)+1<=l.countP (λj=>!S j):=by
       intro l;have mono:∀l:List Nat,l.countP (λj=>!(bF S i) j)<=l.countP (λj=>!S j):=λl=>by
        refine List.countP_mono_left λx _ hx=>?_;by_cases e:x=i;simp[bF,e]at hx
        simpa[bF,e]using hx
       induction l with
       |nil=>intro h;cases h
       |cons x l ihl=>
         intro hx;rw[List.countP_cons,List.countP_cons];by_cases e:x=i;subst e;have:=mono l;simp[bF,rz]
         simpa[bF]using this
         have hx':i∈l:=by rcases List.mem_cons.1 hx with h|h;exact absurd h.symm e;exact h
         have:=ihl hx';simp only[bF,e,if_false]at this ⊢;omega
      exact key2 _ nA
     omega
    have sG:∀j,j<bf.size->(listed.setIfInBounds i qj).getD j qn=(bF S i) j:=by intro j hj;unfold bF;by_cases e:j=i;subst e;rw[az rfl,Z8,Array.getElem?_setIfInBounds_self_of_lt Ya];rfl;rw[ar e,<-hS j hj,Z8,Z8,Array.getElem?_setIfInBounds_ne Ya]
    have hS2':∀j,bf.size<=j->(bF S i) j=qn:=λj hj=>by
     have:j≠i:=Ya
     simp[bF,this,jK j hj]
    by_cases c1:∃x∈fl,x.op=i;obtain⟨x,hx,rfl⟩:=c1;obtain⟨hg,hmk,hcu,hJ'⟩:=Gb S a' A' _ o x Br.ev.vL.tO hJ ho ⟨rz,Qn⟩ hx rfl;unfold wpOp;rw[ho];simp only;rw[wZ rx Bo o];have xY:iX bf a' o=qj:=(by unfold iX;rw[hg]);rw[az xY];refine qw (OT Br.ev.vL rx hoo (Br.Dh x hx) (Br.off x hx rz) hmk ?_);intro m1 w1 p ca1 ev1 ED F9 hsz1 hB1 AT hf1;exact ih _ _ _ A' _ w1 ca1 YE sG hS2' IW hJ' (Br.float ki hx rz hcu ev1 ED F9 hsz1 hB1 AT) hf1;by_cases c2:∃x∈fl,∃q∈x.dG,q.1=i;obtain⟨x,hx,q,hq,rfl⟩:=c2;obtain⟨hg,hSx,hSt,⟨t,X,K,V,lV,hty,uO,hX,hK,hV⟩,hJ'⟩:=S6 S a' A' _ o x q Br.ev.vL.tO hJ ho ⟨rz,Qn⟩ hx hq rfl;unfold wpOp;rw[ho];simp only;rw[wZ rx Bo o];have xY:iX bf a' o=qj:=(by unfold iX;rw[hg]);rw[az xY];have hff:=Br.on x hx hSx hSt;have evc:=zS Br.ev hff;have cJ:iJ P o.op (gZ a') (A'.set x.dZ (qf (x.ik S))) λv A2=>v=undef/\∃Uy,A2=A'.set x.dZ (qf Uy)/\∀m w p,iH m w p Uy->iH m w p (x.ik (bF S q.1)):=by rw[lV];exact Tu hty uO rfl hq rz ((zJ x hx).2 q hq) (zJ x hx).1 hX hK hV λUy h=>⟨rfl,Uy,rfl,h⟩
    refine qw (uW evc.vL rx hoo cJ ?_);rintro v A2 m2 w2 ca2⟨rfl,Uy,rfl,hfin⟩NQ IT;exact ih _ _ _ A' m2 w2 ca2 YE sG hS2' IW hJ' (Br.entry ki hx hSx hSt ⟨q,hq,rfl⟩ NQ λp=>hfin _ _ p) IT;have hn:∀x∈fl,x.op≠i/\∀q∈x.dG,q.1≠i:=λx hx=>⟨λe=>c1 ⟨x,hx,e⟩,λq hq e=>c2 ⟨x,hx,q,hq,e⟩⟩;obtain⟨jv,cJ⟩:=wU S a' A' i o Br.ev.vL.tO hJ ho ⟨rz,Qn⟩ hn;have hcc:=Br.Vj ki rz jv;unfold OC at cJ;unfold wpOp;rw[ho];simp only;rw[wZ rx Bo o];split at cJ;rename_i hg;rw[az hg];refine qw (uW hcc.1.vL rx hoo cJ ?_);intro v A2 m2 w2 ca2 hk NQ IT;exact ih _ _ _ A2 m2 w2 ca2 YE sG hS2' IW hk (Br.drew ki rz jv hn NQ) IT;rename_i hg;rw[ar hg];simp only[ma,Zg]at hoo;have hd:∀j,o.dst=qf j->j<n:=λj e=>by have:=hoo.2;rw[e]at this;simpa using this
    exact ih _ _ _ _ m' w' _ YE sG hS2' IW cJ (Br.drew ki rz jv hn (jf.refl hcc.1.vL)) (rx.put hd (bH.undef m'))
 refine key bf.size _ (λ_=>qn) a (A.TF nb) m { w with drawn:=w.drawn+1 } ca Yb (λi hi=>by simp[Z8,hi]) (λ_ _=>rfl) ?_ h0 ?_ hf;exact ZE (List.countP_le_length) Yb;have h1:=CY.sX (hs.G3 (w':={ w with drawn:=w.drawn+1 }) rfl) fl Qc (S:=λ_=>qn) λ_=>rfl;exact⟨(jf.drew hs).trans h1.ev,h1.on,h1.off,h1.dis,h1.Dh,h1.tO,h1.lt⟩
end Go.Stx
