import Derived.Test.YtnnbecihffpedaaGreatDoorF5
import Derived.Test.YtnnbecihffpedaaGreatDoorF6
set_option linter.all false
open List renaming length->U
open Array renaming getElem?_eq_some_iff->Zj
open Bool renaming and_eq_true->Zg,or_eq_true->Z9
open Go.Instr renaming sameNow->Z7
open Go.Region renaming binds->ZM
open List renaming all_eq_true->Zs,filterMap_cons_some->kcc,filter_eq_nil_iff->kcd,mem_cons->Zz,mem_cons_of_mem->kbl,mem_filterMap->ka0,mem_range->Zr,pairwise_cons->kba,pairwise_map->kbo,range->Zt
open List.Pairwise renaming imp->kcr
open Nat renaming beq->Zi,ble->ZD,ble_eq_true_of_le->kaM,eq_of_beq_eq_true->ZR,le_of_ble_eq_true->kat
open Option.some renaming injEq->Zd
open Prod.mk renaming injEq->Zk
open Bool renaming false->qn,true->qj
open Go renaming Oper->qC,Operand->qA,Program->qp,Value->qi,undef->qE
open Go.Code renaming region->qS
open Go.Departure renaming mixedOrders->qI
open Go.Exit renaming normal->qG
open Go.Value renaming bool->qt
open Option renaming none->qk,some->qf
open Or renaming inl->qw,inr->qB
namespace Go.Stx
open Go
variable [Gl]
noncomputable section
section
variable {P:qp} {bf:Array qC} {S:AW->Prop} {md:Nat->Nat} {K:Fr->AW->Prop} {nf:List Nat} {fl:List FD}
def RD (P:qp)(fl:List FD)(i:Nat)(A:AW)(r:qA->qi)(op:Op)(v:qi):Prop:=
 (∃x∈fl,x.op=i/\UN P r op=qf (x.k,x.ob)/\v=x.k.val x.dZ) \/
 (∃x∈fl,∃q∈x.dG,q.1=i/\(∃t X Y V,op=.insert t X Y V/\Ov P t x/\x.ob=.map [] qj/\r X=.map (qf x.dZ)/\r Y=q.2.1/\r V=q.2.2)/\v=qE) \/
 ((∀x∈fl,x.op≠i/\∀q∈x.dG,q.1≠i)/\aq P A r op=qf v)
def RD.congr {i:Nat}{A:AW}{r r':qA->qi}{op:Op}{v:qi}(h:RD P fl i A r op v)(hr:∀x∈op.operands,r x=r' x):RD P fl i A r' op v:=by rcases h with ⟨x,h1,h2,h3,h4⟩|⟨x,h1,q,h2,h3,⟨t,X,Y,V,rfl,h5,h6,h7,h8,h9⟩,Qx⟩|⟨h1,h2⟩;exact qw ⟨x,h1,h2,by rw[<-Wa hr];exact h3,h4⟩;refine qB (qw ⟨x,h1,q,h2,h3,⟨t,X,Y,V,rfl,h5,h6,?_,?_,?_⟩,Qx⟩);rw[<-hr X Yh];exact h7;rw[<-hr Y Yh];exact h8;rw[<-hr V Yh];exact h9;exact qB (qB ⟨h1,by rw[<-Ej hr];exact h2⟩)
def RD.mem {i:Nat}{A A':AW}{r:qA->qi}{op:Op}{v:qi}(h:RD P fl i A r op v)(hm:tq op=qj\/(∃x∈fl,x.op=i\/∃q∈x.dG,q.1=i)):RD P fl i A' r op v:=by rcases h with h|h|⟨h1,h2⟩;exact qw h;exact qB (qw h);rcases hm with hm|⟨x,hx,e|⟨q,hq,e⟩⟩;exact qB (qB ⟨h1,by rw[JA hm];exact h2⟩);exact absurd e (h1 x hx).1;exact absurd e ((h1 x hx).2 q hq)
def Az (P:qp)(bf:Array qC)(S:AW->Prop)(md:Nat->Nat)(fl:List FD)(i:Nat)(o:qC)(a:Fr)(A:AW)(k:Fr->AW->Prop):Prop:=
 if iX bf a o=qj then
  if md i<=1 then ∃v,RD P fl i A (gZ a) o.op v/\k (d8 a o.dst v) A
  else iJ P o.op (gZ a) (Ki (sP fl i) A) λv A'=>(md i=3->S A')/\k (d8 a o.dst v) A'
 else k (d8 a o.dst qE) A
def Fz (P:qp)(bf:Array qC)(S:AW->Prop)(md:Nat->Nat)(fl:List FD)(K:Fr->AW->Prop):Nat->(Nat->Bool)->Fr->AW->Prop
 |0,L,a,A=>(∀i,i<bf.size->L i=qj)/\K a A
 |n+1,L,a,A=>((∀i,i<bf.size->L i=qj)->K a A)/\(A.Wf->∀i o,bf[i]?=qf o->Lq L i o->Az P bf S md fl i o a A (Fz P bf S md fl K n (bF L i)))
def Az.mono {i:Nat}{o:qC}{a:Fr}{A:AW}{k k':Fr->AW->Prop}(h:Az P bf S md fl i o a A k)(hk:∀v A',(md i<=1->A'=A)->(md i=3->iX bf a o=qj->S A')->(iX bf a o=qn->A'=A)->k (d8 a o.dst v) A'->k' (d8 a o.dst v) A'):Az P bf S md fl i o a A k':=by
 unfold Az at *;split;rename_i hg;rw[az hg]at h;split;rename_i hm;rw[az hm]at h;obtain⟨v,h1,h2⟩:=h;exact⟨v,h1,hk v A (λ_=>rfl) (λe=>by omega) (λ_=>rfl) h2⟩;rename_i hm;rw[ar hm]at h;exact h.mono λv A' ⟨h1,h2⟩=>⟨h1,hk v A' (λe=>absurd e hm) (λe _=>h1 e) (λe=>by rw[e]at hg;cases hg) h2⟩;rename_i hg;rw[ar hg]at h;have Ke:iX bf a o=qn:=by simpa using hg
 exact hk qE A (λ_=>rfl) (λ_ e=>by rw[e]at Ke;cases Ke) (λ_=>rfl) h
def Az.unput {j:Nat}{oi oj:qC}{a:Fr}{A:AW}{v:qi}{k:Fr->AW->Prop}(Tc:oi.apart bf oj=qj)(h:Az P bf S md fl j oj (d8 a oi.dst v) A k):
 Az P bf S md fl j oj a A λa' A'=>k (d8 a' oi.dst v) A':=by obtain⟨h1,h2,h3⟩:=Oper.apart_spec Tc;unfold Az at *;rw[D1 h1]at h;split;rename_i hg;rw[az hg]at h;split;rename_i hm;rw[az hm]at h;obtain⟨u,h4,h5⟩:=h;exact⟨u,h4.congr (mX h1),by show k (d8 (d8 a oj.dst u) oi.dst v) A;rw[<-tM h2];exact h5⟩;rename_i hm;rw[ar hm,GC (mX h1)]at h;refine h.mono λu A' ⟨h4,h5⟩=>⟨h4,by show k (d8 (d8 a oj.dst u) oi.dst v) A';rw[<-tM h2];exact h5⟩;rename_i hg;rw[ar hg]at h;rw[<-tM h2];exact h
def To (pT:jT bf=qj)(ha:Aq bf nf=qj){i:Nat}{o:qC}{v:qi}(hi:bf[i]?=qf o)(hmd:md i<=1):∀(n:Nat)(L:Nat->Bool)(a:Fr)(A:AW),mj bf L->
 (∀j oj,bf[j]?=qf oj->j≠i->L j=qn->(∀e∈oj.after,ZM .any e=qj->e.on≠i)->o.apart bf oj=qj)->
 ((tq o.op=qj\/(∃x∈fl,x.op=i\/∃q∈x.dG,q.1=i))\/(∀j oj,bf[j]?=qf oj->j≠i->2<=md j->L j=qn->(nf.getD j 0).testBit i=qj) \/
   ((∀j oj,bf[j]?=qf oj->j≠i->2<=md j->md j≠3->L j=qn->(nf.getD j 0).testBit i=qj)/\∀A',S A'->iX bf a o=qj->RD P fl i A' (gZ a) o.op v))->
 Lq L i o->((iX bf a o=qj/\RD P fl i A (gZ a) o.op v)\/(iX bf a o=qn/\v=qE))->
 Fz P bf S md fl K n (bF L i) (d8 a o.dst v) A->Fz P bf S md fl K (n+1) L a A:=by
 intro n
 have self:∀(n:Nat)(L:Nat->Bool)(a:Fr)(A:AW)(j:Nat)(oj:qC),bf[j]?=qf oj->j=i->((iX bf a o=qj/\RD P fl i A (gZ a) o.op v)\/(iX bf a o=qn/\v=qE))->
  Fz P bf S md fl K n (bF L i) (d8 a o.dst v) A->Az P bf S md fl j oj a A (Fz P bf S md fl K n (bF L j)):=by intro n L a A j oj hj lm hy H;subst lm;rw[hi]at hj;injection hj with hj;subst hj;unfold Az;rcases hy with ⟨h1,h2⟩|⟨h1,rfl⟩;rw[az h1,az hmd];exact⟨v,h2,H⟩;rw[ar (by simp[h1])];exact H
 induction n with
 |zero=>intro L a A hc wX cJ hr hy H;refine⟨λgQ=>?_,λhw j oj hj Bn=>?_⟩;have:=gQ i (Zj.1 hi).1;rw[hr.1]at this;cases this;by_cases lm:j=i;exact self 0 L a A j oj hj lm hy H;have:=H.1 j (Zj.1 hj).1;simp[bF,lm,Bn.1]at this
 |succ n ih=>
   intro L a A hc wX cJ hr hy H;refine⟨λgQ=>?_,λhw j oj hj Bn=>?_⟩;have:=gQ i (Zj.1 hi).1;rw[hr.1]at this;cases this;by_cases lm:j=i;exact self (n+1) L a A j oj hj lm hy H;have hnot:∀e∈oj.after,ZM .any e=qj->e.on≠i:=λe he hb heq=>by have:=Bn.2 e he hb;rw[heq,hr.1]at this;cases this
   have Tc:=wX j oj hj lm Bn.1 hnot;obtain⟨g1,g2,g3⟩:=Oper.apart_spec Tc;have h1:=H.2 hw j oj hj (Bn.mono lm);refine(Az.unput Tc h1).mono λu A' m1 m3 m4 hk=>?_;have xY:iX bf (d8 a oj.dst u) o=iX bf a o:=D1 g3;have lV:∀A0,RD P fl i A0 (gZ a) o.op v->RD P fl i A0 (gZ (d8 a oj.dst u)) o.op v:=λA0 h=>h.congr λx hx=>(mX g3 x hx).symm;have jv:=hc.set hj Bn;have jM:∀{q},(bF L j) q=qn->L q=qn:=λ{q} hq=>by unfold bF at hq;split at hq;cases hq;exact hq
   refine ih (bF L j) (d8 a oj.dst u) A' jv ?_ ?_ (hr.mono (Ne.symm lm)) ?_ (by rw[LH];exact hk);exact λq oq hq P7 L5 Bp=>wX q oq hq P7 (jM L5) Bp;rcases cJ with h|h|h;exact qw h;exact qB (qw λq oq hq P7 h3 L5=>h q oq hq P7 h3 (jM L5));exact qB (qB ⟨λq oq hq P7 h3 h4 L5=>h.1 q oq hq P7 h3 h4 (jM L5),λA'' hS hg=>lV _ (h.2 A'' hS (by rw[<-xY];exact hg))⟩);rw[xY];rcases hy with ⟨h2,h3⟩|h2
   . refine qw ⟨h2,lV _ ?_⟩;rcases Nat.lt_or_ge (md j) 2 with Lb|Lb;rw[m1 Ya];exact h3;rcases cJ with h|h|h;exact h3.mem h;exfalso;have:=ri pT ha hc hj Bn (h j oj hj lm Lb Bn.1);rw[hr.1]at this;cases this;cases hgj:iX bf a oj with
     |true=>by_cases hj3:md j=3;exact h.2 A' (m3 hj3 hgj) h2;exfalso;have:=ri pT ha hc hj Bn (h.1 j oj hj lm Lb hj3 Bn.1);rw[hr.1]at this;cases this
     |false=>rw[m4 hgj];exact h3
   exact qB h2
def B8 (P:qp)(S:AW->Prop)(fl:List FD)(K:Fr->AW->Prop):List (Nat×yW)->Fr->AW->Prop
 |[],a,A=>K a A
 | (i,o)::dE,a,A=>
   if sg a o.guard=qj then
    if o.pw<=1 then ∃v,RD P fl i A (gZ a) o.op v/\(o.pw=1->∀A',S A'->RD P fl i A' (gZ a) o.op v)/\B8 P S fl K dE (d8 a o.dst v) A
    else iJ P o.op (gZ a) (Ki (sP fl i) A) λv A'=>(o.pw=3->S A')/\B8 P S fl K dE (d8 a o.dst v) A'
   else B8 P S fl K dE (d8 a o.dst qE) A
def lopI (bf:Array qC)(x:Nat×Nat):Option (Nat×yW):=(bf[x.1]?).map λo=>(x.1,⟨o.dst,o.op,ml bf o.guard,x.2⟩)
def F1 (bf:Array qC)(jg:List (Nat×Nat)):List (Nat×yW):=jg.filterMap (lopI bf)
structure FS where
 op:Nat
 dG:List Nat
 jV:Nat
 t:TypeId
def PN:Nat->List Nat->Bool
 |_,[]=>qn
 |i,j::l=>match Zi i j with|true=>qj|false=>PN i l
def wR {i:Nat}:∀{l:List Nat},PN i l=qj↔i∈l
 |[]=>by simp[PN]
 |j::l=>by
   unfold PN;split;rename_i h;simp[ZR h];rename_i h;have:¬i=j:=λe=>by subst e;rw[Nat.beq_refl]at h;cases h
   rw[wR];simp[this]
def isF (ka:List FS)(i:Nat):Bool:=ka.any λs=>Zi s.op i || PN i s.dG
def isF_iff {ka:List FS}{i:Nat}:isF ka i=qj↔∃s∈ka,s.op=i\/i∈s.dG:=by simp only[isF,List.any_eq_true,Z9,wR,Nat.beq_eq]
def forcedF (bf:Array qC)(nf:List Nat)(jg:List (Nat×Nat))(M i:Nat):Bool:=(Zt bf.size).all λj=>j == i || M.testBit j || !(ZD 2 (mY jg j)) || (nf.getD j 0).testBit i
def forced3F (bf:Array qC)(nf:List Nat)(jg:List (Nat×Nat))(M i:Nat):Bool:=(Zt bf.size).all λj=>j == i || M.testBit j || !(ZD 2 (mY jg j)) || Zi (mY jg j) 3 || (nf.getD j 0).testBit i
def Nt (bf:Array qC)(nf:List Nat)(jg:List (Nat×Nat))(ka:List FS):Nat->List (Nat×Nat)->Bool
 |M,[]=>(Zt bf.size).all λj=>M.testBit j
 |M,(i,m)::r=>(match bf[i]? with
  |none=>qn
  |some o=>zz M i o && Zi (mY jg i) m && (if ZD m 1 then freeB bf M i o && ((Zi m 1 && forced3F bf nf jg M i) || (tq o.op || isF ka i) || forcedF bf nf jg M i) else soleB bf M i)) && Nt bf nf jg ka (M ||| 2 ^ i) r
def isIns (t:TypeId):Op->Bool
 | .insert t' _ _ _=>Zi t' t
 |_=>qn
def fsOk (bf:Array qC)(nf:List Nat)(jg:List (Nat×Nat))(s:FS):Bool:=
 ZD (mY jg s.op) 1 && (match bf[s.op]? with|some o=>o.guard.isNone|none=>qn) &&
 (s.dG.all λq=>ZD (mY jg q) 1 && (nf.getD q 0).testBit s.op && (match bf[q]? with|some o=>o.guard.isNone && isIns s.t o.op|none=>qn)) &&
 (Zi s.jV bf.size || (ZD 2 (mY jg s.jV) && (match bf[s.jV]? with|some o=>o.guard.isNone|none=>qn) && (nf.getD s.jV 0).testBit s.op && s.dG.all λq=>(nf.getD s.jV 0).testBit q))
def Nm:List Nat->Bool
 |[]=>qj
 |i::l=>match PN i l with|true=>qn|false=>Nm l
def Ij:∀{l:List Nat},Nm l=qj->l.Nodup
 |[],_=>List.nodup_nil
 |i::l,h=>by unfold Nm at h;split at h;cases h;rename_i h1;exact List.nodup_cons.2 ⟨λe=>(by rw[wR.2 e]at h1;exact absurd h1 Yb),Ij h⟩
def allF (ka:List FS):List Nat:=ka.flatMap λs=>s.op::s.dG
def linF (bf:Array qC)(jg:List (Nat×Nat))(ka:List FS):Bool:=
 jT bf && (let nf:=Ra bf.toList [];Aq bf nf && (Nt bf nf jg ka 0 jg && (ka.all (fsOk bf nf jg) && Nm (allF ka))))
def D8 (pT:jT bf=qj)(ha:Aq bf nf=qj){jg:List (Nat×Nat)}{ka:List FS}(Ga:∀i,isF ka i=qj->∃x∈fl,x.op=i\/∃q∈x.dG,q.1=i):∀(l:List (Nat×Nat))(M:Nat)(L:Nat->Bool)(a:Fr)(A:AW),
 (∀j,j<bf.size->L j=M.testBit j)->mj bf L->Nt bf nf jg ka M l=qj->B8 P S fl K (F1 bf l) a A->Fz P bf S (mY jg) fl K (U l) L a A
 |[],M,L,a,A,hL,hc,hg,h=>⟨λj hj=>by rw[hL j hj];exact Zs.1 hg j (Zr.2 hj),h⟩
 | (i,m)::r,M,L,a,A,hL,hc,hg,h=>by
   unfold Nt at hg;rw[Zg]at hg;obtain⟨zL,Qm⟩:=hg;cases hi:bf[i]? with
   |none=>rw[hi]at zL;cases zL
   |some o=>
     rw[hi]at zL;simp only[Zg]at zL;obtain⟨⟨hr,hmd⟩,ya⟩:=zL;have uR:=(Zj.1 hi).1;have hmd':mY jg i=m:=ZR hmd;have AS:Lq L i o:=(lu uR pT hi hL).1 hr;have hL':∀j,j<bf.size->bF L i j=(M ||| 2 ^ i).testBit j:=λj hj=>by rw[Nat.testBit_or,Nat.testBit_two_pow,<-hL j hj];unfold bF;by_cases e:j=i;subst e;simp;have:¬i=j:=λx=>e x.symm;simp[e,this]
     have hc':=hc.set hi AS;have IH:∀a A,B8 P S fl K (F1 bf r) a A->Fz P bf S (mY jg) fl K (U r) (bF L i) a A:=λa A h=>D8 pT ha Ga r (M ||| 2 ^ i) _ a A hL' hc' Qm h;have hlop:F1 bf ((i,m)::r)=(i,⟨o.dst,o.op,ml bf o.guard,m⟩)::F1 bf r:=(by simp[F1,lopI,hi]);rw[hlop]at h;unfold B8 at h;simp only[<-Pc]at h;have hsole:¬m<=1->∀j oj,bf[j]?=qf oj->Lq L j oj->j=i:=λF9 j oj hj Bn=>by rw[ar YG]at ya;have h1:=Zs.1 ya j (Zr.2 (Zj.1 hj).1);rw[hj]at h1;simp only[Z9,beq_iff_eq,Bool.not_eq_true']at h1;rcases h1 with h1|h1;exact h1;rw[(lu (Zj.1 hj).1 pT hj hL).2 Bn]at h1;cases h1
     have hnall:¬∀j,j<bf.size->L j=qj:=λgQ=>by have:=gQ i uR;rw[AS.1]at this;cases this
     by_cases F9:m<=1;rw[az YG]at ya;simp only[Zg]at ya;obtain⟨rx,cJ⟩:=ya;have wX:∀j oj,bf[j]?=qf oj->j≠i->L j=qn->(∀e∈oj.after,ZM .any e=qj->e.on≠i)->o.apart bf oj=qj:=λj oj hj lm Qv Bp=>by have wv:=(Zj.1 hj).1;have h1:=Zs.1 rx j (Zr.2 wv);rw[hj,<-hL j wv,Qv]at h1;simp only[Z9,beq_iff_eq,Bool.false_eq_true,or_false]at h1;rcases h1 with h1|h1|h1;exact absurd h1 lm;exfalso;rw[Array.any_eq_true]at h1;obtain⟨q,hq,h2⟩:=h1;simp only[Zg,beq_iff_eq]at h2;exact Bp _ (Array.getElem_mem hq) h2.1 h2.2;exact h1
     have bZ:∀v,((iX bf a o=qj/\RD P fl i A (gZ a) o.op v)\/(iX bf a o=qn/\v=qE))->(m=1->iX bf a o=qj->∀A',S A'->RD P fl i A' (gZ a) o.op v)->
      B8 P S fl K (F1 bf r) (d8 a o.dst v) A->Fz P bf S (mY jg) fl K (U r+1) L a A:=by
      intro v hy hS hk;refine To pT ha hi Ya (U r) L a A hc wX ?_ AS hy (IH _ _ hk);simp only[Z9]at cJ;rcases cJ with (h1|h1)|h1;rw[Zg]at h1;refine qB (qB ⟨λj oj hj lm h3 h4 Qv=>?_,λA' wY xY=>hS (ZR h1.1) xY A' wY⟩);have wv:=(Zj.1 hj).1;have h2:=Zs.1 h1.2 j (Zr.2 wv);rw[<-hL j wv,Qv]at h2;have xl:ZD 2 (mY jg j)=qj:=kaM h3;have AY:Zi (mY jg j) 3=qn:=nC h4;rw[xl,AY]at h2
      simpa[lm]using h2
      rcases h1 with h1|h1;exact qw (qw h1);exact qw (qB (Ga i h1));refine qB (qw λj oj hj lm h3 Qv=>?_);have wv:=(Zj.1 hj).1;have h2:=Zs.1 h1 j (Zr.2 wv);rw[<-hL j wv,Qv]at h2;have xl:ZD 2 (mY jg j)=qj:=kaM h3;rw[xl]at h2
      simpa[lm]using h2
     split at h;rename_i xY;obtain⟨v,hv,hS,hk⟩:=h;exact bZ v (qw ⟨xY,hv⟩) (λe _=>hS e) hk;rename_i xY;have Ql:iX bf a o=qn:=by simpa using xY
     exact bZ qE (qB ⟨Ql,rfl⟩) (λ_ e=>by rw[Ql]at e;cases e) h;refine⟨λgQ=>absurd gQ hnall,λhw j oj hj Bn=>?_⟩;have lm:=hsole F9 j oj hj Bn;subst lm;rw[hi]at hj;injection hj with hj;subst hj;unfold Az;split at h;rename_i xY;rw[az xY,ar Ya,hmd'];exact h.mono λv A' hh=>⟨hh.1,IH _ _ hh.2⟩;rename_i xY;rw[ar xY];exact IH _ _ h
end
section
def lI {α:Type}:List (Nat×α)->Nat->Option α
 |[],_=>qk
 | (k,v)::l,i=>match Zi k i with|true=>qf v|false=>lI l i
def Iv {α:Type}:∀{l:List (Nat×α)}{i:Nat}{v:α}(r:List (Nat×α)),lI l i=qf v->lI (l++r) i=qf v
 |[],i,v,r,h=>by cases h
 | (k,u)::l,i,v,r,h=>by simp only[aa];unfold lI at h ⊢;split;rename_i e;rw[e]at h;exact h;rename_i e;rw[e]at h;exact Iv r h
def Iu {α:Type}:∀{l:List (Nat×α)}{i:Nat}(v:α),lI l i=qk->lI (l++[(i,v)]) i=qf v
 |[],i,v,_=>by simp[lI]
 | (k,u)::l,i,v,h=>by simp only[aa];unfold lI at h ⊢;split;rename_i e;rw[e]at h;cases h;rename_i e;rw[e]at h;exact Iu v h
abbrev Vv:=List (Nat×Nat×FK×dt)
abbrev Ub:=List (Nat×qi×qi)
def F6 (IL:Ub):List Nat->Option (List (Nat×qi×qi))
 |[]=>qf []
 |q::r=>
   match lI IL q with
   |none=>qk
   |some kv=>
     match F6 IL r with
     |none=>qk
     |some l=>qf ((q,kv)::l)
def tx (FL:Vv)(IL:Ub)(s:FS):Option FD:=
 match lI FL s.op with
 |none=>qk
 |some (dZ,k,ob)=>
   match F6 IL s.dG with
   |none=>qk
   |some l=>qf ⟨s.op,dZ,k,ob,l,s.jV⟩
def IF {IL IL':Ub}(h:∀i v,lI IL i=qf v->lI IL' i=qf v):∀{dG:List Nat}{l},F6 IL dG=qf l->F6 IL' dG=qf l
 |[],l,e=>e
 |q::r,l,e=>by unfold F6 at e ⊢;split at e;cases e;rename_i kv hkv;rw[h _ _ hkv];simp only;split at e;cases e;rename_i l' hl';rw[IF h hl'];exact e
def WQ {FL FL':Vv}{IL IL':Ub}(hF:∀i v,lI FL i=qf v->lI FL' i=qf v)(hI:∀i v,lI IL i=qf v->lI IL' i=qf v){s:FS}{x:FD}(h:tx FL IL s=qf x):tx FL' IL' s=qf x:=by unfold tx at h ⊢;split at h;cases h;rename_i dZ k ob h1;rw[hF _ _ h1];simp only;split at h;cases h;rename_i l hl;rw[IF hI hl];exact h
def LX {IL:Ub}:∀{dG:List Nat}{l},F6 IL dG=qf l->l.map (·.1)=dG/\∀q∈l,lI IL q.1=qf q.2
 |[],l,e=>by unfold F6 at e;injection e with e;subst e;exact⟨rfl,λq hq=>by cases hq⟩
 |q::r,l,e=>by unfold F6 at e;split at e;cases e;rename_i kv hkv;split at e;cases e;rename_i l' hl';injection e with e;subst e;obtain⟨h1,h2⟩:=LX hl';refine⟨by simp[h1],λz hz=>?_⟩;rcases Zz.1 hz with rfl|hz;exact hkv;exact h2 z hz
def oM {FL:Vv}{IL:Ub}{s:FS}{x:FD}(h:tx FL IL s=qf x):x.op=s.op/\x.jV=s.jV/\lI FL s.op=qf (x.dZ,x.k,x.ob)/\x.dG.map (·.1)=s.dG/\∀q∈x.dG,lI IL q.1=qf q.2:=by unfold tx at h;split at h;cases h;rename_i dZ k ob h1;split at h;cases h;rename_i l hl;injection h with h;subst h;obtain⟨h2,h3⟩:=LX hl;exact⟨rfl,rfl,h1,h2,h3⟩
def CN (FL:Vv)(IL:Ub)(i:Nat):List FS->EM->Option EM
 |[],m=>qf m
 |s::r,m=>
   match Zi s.jV i with
   |false=>CN FL IL i r m
   |true=>
     match tx FL IL s with
     |none=>qk
     |some x=>
       match ZD x.dZ 1000000 with
       |false=>qk
       |true=>fObj (qf x.lp) λo=>fTr (m.t.put 24 (x.dZ+1) o) λt=>CN FL IL i r ⟨m.next,t⟩
def EM.put_aw {m:EM}{j:Nat}{o:Option dt}(hj:ZD j 1000000=qj):(⟨m.next,m.t.put 24 (j+1) o⟩:EM).aw=m.aw.set j o:=by have hj:j<=1000000:=kat hj;unfold EM.aw AW.set;congr 1;funext i;rw[Tr.Ba 24 m.t (j+1) o (i+1) (Nat.le_add_left 1 j) (Nat.lt_of_le_of_lt (Nat.succ_le_succ hj) Yd) (Nat.le_add_left 1 i)];by_cases e:i=j;subst e;simp;rw[ar Ya,ar e]
def Be {FL FLf:Vv}{IL ILf:Ub}(hF:∀i v,lI FL i=qf v->lI FLf i=qf v)(hI:∀i v,lI IL i=qf v->lI ILf i=qf v){i:Nat}:∀(ka:List FS)(m:EM){m0:EM},CN FL IL i ka m=qf m0->
 m0.aw=Ki (sP (ka.filterMap (tx FLf ILf)) i) m.aw
 |[],m,m0,h=>by unfold CN at h;injection h with h;subst h;rfl
 |s::r,m,m0,h=>by
   unfold CN at h;split at h
   . rename_i e;have ih:=Be hF hI r m h;rw[ih];cases hs:tx FLf ILf s with
     |none=>rw[List.filterMap_cons_none hs]
     |some x=>
       rw[kcc hs];have fL:(x.jV == i)=qn:=by rw[(oM hs).2.1];exact beq_eq_false_iff_ne.2 λe2=>by rw[e2,Nat.beq_refl]at e;cases e
       unfold sP;rw[List.filter_cons,fL];rfl
   rename_i e;split at h;cases h;rename_i x hx;split at h;cases h;rename_i hb;rw[NO,NM]at h;have ih:=Be hF hI r _ h;rw[ih];have hs:=WQ hF hI hx;rw[kcc hs];have he:(x.jV == i)=qj:=by rw[(oM hs).2.1];exact beq_iff_eq.2 (ZR e)
   unfold sP;rw[List.filter_cons,he];simp only[if_true];rw[clm_cons,EM.put_aw hb];rfl
def Fe:List FS->Nat->Option FS
 |[],_=>qk
 |s::r,i=>match Zi s.op i with|true=>qf s|false=>Fe r i
def Gd:∀{ka:List FS}{i:Nat}{s:FS},Fe ka i=qf s->s∈ka/\s.op=i
 |[],i,s,h=>by cases h
 |y::r,i,s,h=>by unfold Fe at h;split at h;rename_i e;injection h with h;subst h;exact⟨by simp,ZR e⟩;obtain⟨h1,h2⟩:=Gd h;exact⟨by simp[h1],h2⟩
def Ge:∀{ka:List FS}{i:Nat},Fe ka i=qk->∀s∈ka,s.op≠i
 |[],i,h,s,hs=>by cases hs
 |y::r,i,h,s,hs=>by
   unfold Fe at h;split at h;cases h;rename_i e;rcases Zz.1 hs with rfl|hs;exact λe2=>by rw[e2,Nat.beq_refl]at e;cases e
   exact Ge h s hs
def Bc:List FS->Nat->Option FS
 |[],_=>qk
 |s::r,i=>match PN i s.dG with|true=>qf s|false=>Bc r i
def D5:∀{ka:List FS}{i:Nat}{s:FS},Bc ka i=qf s->s∈ka/\i∈s.dG
 |[],i,s,h=>by cases h
 |y::r,i,s,h=>by unfold Bc at h;split at h;rename_i e;injection h with h;subst h;exact⟨by simp,wR.1 e⟩;obtain⟨h1,h2⟩:=D5 h;exact⟨by simp[h1],h2⟩
def D6:∀{ka:List FS}{i:Nat},Bc ka i=qk->∀s∈ka,i∉s.dG
 |[],i,h,s,hs=>by cases hs
 |y::r,i,h,s,hs=>by
   unfold Bc at h;split at h;cases h;rename_i e;rcases Zz.1 hs with rfl|hs;exact λe2=>by rw[wR.2 e2]at e;cases e
   exact D6 h s hs
def evEnt (r:qA->qi)(FL:Vv)(s:FS)(op:Op):Option (qi×qi):=
 match op with
 | .insert t X Y V=>
   match Zi t s.t with
   |false=>qk
   |true=>
     match r X with
     | .map (qf j)=>
       match lI FL s.op with
       |some (dZ,_,.map [] qj)=>match Zi j dZ with|true=>qf (r Y,r V)|false=>qk
       |_=>qk
     |_=>qk
 |_=>qk
def Tt {r:qA->qi}{FL:Vv}{s:FS}{op:Op}{y v:qi}(h:evEnt r FL s op=qf (y,v)):∃X Y V dZ k,op=.insert s.t X Y V/\lI FL s.op=qf (dZ,k,.map [] qj)/\r X=.map (qf dZ)/\r Y=y/\r V=v:=by unfold evEnt at h;split at h;rename_i t X Y V;split at h;cases h;rename_i e;have e:=ZR e;subst e;split at h;rename_i j hX;split at h;rename_i dZ k hl;split at h;rename_i e2;have e2:=ZR e2;subst e2;simp only[Zd,Zk]at h;exact⟨X,Y,V,j,k,rfl,hl,hX,h.1,h.2⟩;cases h;cases h;cases h;cases h
def pD (P:qp)(call:mt)(ka:List FS):List (Nat×yW)->Nat->Vv->Ub->FT->EM->Option (FT×EM×List Rd×List EM×Vv×Ub)
 |[],_,FL,IL,a,m=>qf (a,m,[],[],FL,IL)
 | (i,o)::dE,b,FL,IL,a,m=>
   match MX o.dst with
   |false=>qk
   |true=>
     match sg a.fr o.guard with
     |true=>
       match ZD o.pw 1 with
       |true=>
         match Fe ka i with
         |some s=>
           match lI FL i with
           |some _=>qk
           |none=>
             match UN P (gZ a.fr) o.op with
             |some (k,ob)=>fObj (qf ob) λoo=>match oo with
               |some ob=>Bv (k.val b) λv=>GH a o.dst v λa'=>pD P call ka dE (b+1) (FL++[(i,b,k,ob)]) IL a' m
               |none=>qk
             |none=>qk
         |none=>
           match Bc ka i with
           |some s=>
             match lI IL i with
             |some _=>qk
             |none=>
               match evEnt (gZ a.fr) FL s o.op with
               |some (y,v)=>Bv y λy=>Bv v λv=>GH a o.dst qE λa'=>pD P call ka dE b FL (IL++[(i,y,v)]) a' m
               |none=>qk
           |none=>
             match aqX P m.aw (gZ a.fr) o.op with
             |some v=>Bv v λv=>GH a o.dst v λa'=>
               match pD P call ka dE b FL IL a' m with
               |some (a2,m2,rs,ms,F,I)=>qf (a2,m2,(match Zi o.pw 1 with|true=>(o.op,a,v)::rs|false=>rs),ms,F,I)
               |none=>qk
             |none=>qk
       |false=>
         match CN FL IL i ka m with
         |none=>qk
         |some m0=>
           match evOp P call (gZ a.fr) o.op m0 with
           |some (v,m')=>GH a o.dst v λa'=>
             match pD P call ka dE b FL IL a' m' with
             |some (a2,m2,rs,ms,F,I)=>qf (a2,m2,rs,(match Zi o.pw 3 with|true=>m'::ms|false=>ms),F,I)
             |none=>qk
           |none=>qk
     |false=>GH a o.dst qE λa'=>pD P call ka dE b FL IL a' m
def m9 {P:qp}{call:mt}(hc:call.Ok P){S:AW->Prop}{K:Fr->AW->Prop}{ka:List FS}{FLf:Vv}{ILf:Ub}(gQ:∀s∈ka,∃x,tx FLf ILf s=qf x)(hty:∀s∈ka,∀x,tx FLf ILf s=qf x->s.dG≠[]->Ov P s.t x):∀(l:List (Nat×yW))(b:Nat)(FL:Vv)(IL:Ub)(a:FT)(m:EM){a':FT}{m':EM}{rs:List Rd}{ms:List EM}{FL':Vv}{IL':Ub},
 pD P call ka l b FL IL a m=qf (a',m',rs,ms,FL',IL')->
 (∀i v,lI FL i=qf v->lI FL' i=qf v)/\(∀i v,lI IL i=qf v->lI IL' i=qf v)/\
 ((∀i v,lI FL' i=qf v->lI FLf i=qf v)->(∀i v,lI IL' i=qf v->lI ILf i=qf v)->
   (∀x∈rs,∀A',S A'->aq P A' (gZ x.2.1.fr) x.1=qf x.2.2)->(∀m∈ms,S m.aw)->K a'.fr m'.aw->B8 P S (ka.filterMap (tx FLf ILf)) K l a.fr m.aw)
 |[],b,FL,IL,a,m,a',m',rs,ms,FL',IL',h=>by simp only[pD,Zd,Zk]at h;obtain⟨rfl,rfl,_,_,rfl,rfl⟩:=h;exact⟨λ_ _ h=>h,λ_ _ h=>h,λ_ _ _ _ hk=>hk⟩
 | (i,o)::dE,b,FL,IL,a,m,a',m',rs,ms,FL',IL',h=>by
   unfold pD at h;unfold B8;split at h;cases h;rename_i hd;split at h;rename_i hg;rw[az hg];split at h;rename_i SX;have gb:o.pw<=1:=kat SX;rw[az gb];split at h
   .
    rename_i s hs;obtain⟨ED,tu⟩:=Gd hs;split at h;cases h;rename_i wW;split at h;rename_i k ob hmk;rw[NO]at h;simp only at h;rw[nX]at h;obtain⟨a1,h1,h2⟩:=rF (a:=a) (v:=k.val b) (c:=λa'=>pD P call ka dE (b+1) (FL++[(i,b,k,ob)]) IL a' m) hd;rw[h1]at h;obtain⟨e1,e2,e3⟩:=m9 hc (S:=S) (K:=K) gQ hty dE _ _ _ a1 m h;refine⟨λj v hv=>e1 j v (Iv _ hv),e2,λhF hI hr hm hk=>?_⟩;obtain⟨x,hx⟩:=gQ s ED;obtain⟨g1,g2,g3,g4,g5⟩:=oM hx;have g6:=hF _ _ (e1 _ _ (Iu (b,k,ob) wW));rw[tu,g6]at g3;simp only[Zd,Zk]at g3;obtain⟨rfl,rfl,rfl⟩:=g3
    have AS:∀A',RD P (ka.filterMap (tx FLf ILf)) i A' (gZ a.fr) o.op (x.k.val x.dZ):=λA'=>qw ⟨x,ka0.2 ⟨s,ED,hx⟩,g1.trans tu,hmk,rfl⟩
    refine⟨x.k.val x.dZ,AS _,λ_ A' _=>AS A',?_⟩;rw[<-h2];exact e3 hF hI hr hm hk;cases h
   rename_i Bp;split at h
   .
    rename_i s hs;obtain⟨ED,tu⟩:=D5 hs;split at h;cases h;rename_i wW;split at h;rename_i y v hen;rw[nX,nX]at h;obtain⟨a1,h1,h2⟩:=rF (a:=a) (v:=qE) (c:=λa'=>pD P call ka dE b FL (IL++[(i,y,v)]) a' m) hd;rw[h1]at h;obtain⟨e1,e2,e3⟩:=m9 hc (S:=S) (K:=K) gQ hty dE _ _ _ a1 m h;refine⟨e1,λj v hv=>e2 j v (Iv _ hv),λhF hI hr hm hk=>?_⟩;obtain⟨x,hx⟩:=gQ s ED;obtain⟨g1,g2,g3,g4,g5⟩:=oM hx;obtain⟨X,Y,V,dZ,k,f1,f2,f3,f4,f5⟩:=Tt hen;have g6:=hI _ _ (e2 _ _ (Iu (y,v) wW));have g7:=hF _ _ (e1 _ _ f2);rw[g7]at g3;simp only[Zd,Zk]at g3;obtain⟨rfl,rfl,g8⟩:=g3;have nA:i∈x.dG.map (·.1):=(by rw[g4];exact tu);obtain⟨q,hq,P7⟩:=List.mem_map.1 nA;have L0:=g5 q hq;rw[P7,g6]at L0;injection L0 with L0
    have AS:∀A',RD P (ka.filterMap (tx FLf ILf)) i A' (gZ a.fr) o.op qE:=λA'=>qB (qw ⟨x,ka0.2 ⟨s,ED,hx⟩,q,hq,P7,⟨s.t,X,Y,V,f1,hty s ED x hx (λe=>by rw[e]at tu;cases tu),g8.symm,f3,by rw[f4,<-L0],by rw[f5,<-L0]⟩,rfl⟩)
    refine⟨qE,AS _,λ_ A' _=>AS A',?_⟩;rw[<-h2];exact e3 hF hI hr hm hk;cases h
   rename_i Kc;rw[Oc]at h;split at h
   . rename_i v hv;rw[nX]at h;obtain⟨a1,h1,h2⟩:=rF (a:=a) (v:=v) (c:=λa'=>match pD P call ka dE b FL IL a' m with
      |some (a2,m2,rs,ms,F,I)=>qf (a2,m2,(match Zi o.pw 1 with|true=>((o.op,a,v):Rd)::rs|false=>rs),ms,F,I)
      |none=>qk) hd
     rw[h1]at h;split at h;rename_i a2 m2 rs1 ms1 F I DR;simp only[Zd,Zk]at h;obtain⟨rfl,rfl,EE,rfl,rfl,rfl⟩:=h;obtain⟨e1,e2,e3⟩:=m9 hc (S:=S) (K:=K) gQ hty dE _ _ _ a1 m DR;refine⟨e1,e2,λhF hI hr hm hk=>?_⟩;have hnf:∀x∈ka.filterMap (tx FLf ILf),x.op≠i/\∀q∈x.dG,q.1≠i:=λx hx=>by obtain⟨s,hs,hfx⟩:=ka0.1 hx;obtain⟨g1,_,_,g4,_⟩:=oM hfx;refine⟨by rw[g1];exact Ge Bp s hs,λq hq e=>D6 Kc s hs ?_⟩;rw[<-g4,<-e];exact List.mem_map_of_mem hq
     refine⟨v,qB (qB ⟨hnf,hv⟩),λe A' wY=>qB (qB ⟨hnf,?_⟩),?_⟩;rw[e]at EE;simp only[Zi]at EE;subst EE;exact hr (o.op,a,v) Yb A' wY;rw[<-h2];refine e3 hF hI (λx hx=>hr x ?_) hm hk;have hmode:o.pw=0\/o.pw=1:=Ya;rcases hmode with e|e<;>rw[e]at EE<;>simp only[Zi]at EE<;>subst EE;exact hx;exact kbl _ hx;cases h
   cases h;rename_i SX;have S8:¬o.pw<=1:=λgb=>by rw[kaM gb]at SX;cases SX
   rw[ar S8];split at h;cases h;rename_i m0 jv;split at h
   . rename_i v m1 hv;obtain⟨a1,h1,h2⟩:=rF (a:=a) (v:=v) (c:=λa'=>match pD P call ka dE b FL IL a' m1 with
      |some (a2,m2,rs,ms,F,I)=>qf (a2,m2,rs,(match Zi o.pw 3 with|true=>m1::ms|false=>ms),F,I)
      |none=>qk) hd
     rw[h1]at h;split at h;rename_i a2 m2 rs1 ms1 F I DR;simp only[Zd,Zk]at h;obtain⟨rfl,rfl,rfl,hms,rfl,rfl⟩:=h;obtain⟨e1,e2,e3⟩:=m9 hc (S:=S) (K:=K) gQ hty dE _ _ _ a1 m1 DR;refine⟨e1,e2,λhF hI hr hm hk=>?_⟩;have L3:=Be (λi v h=>hF i v (e1 i v h)) (λi v h=>hI i v (e2 i v h)) _ _ jv;rw[<-L3];refine yf hc hv ⟨λe=>?_,?_⟩;rw[e]at hms;simp only[Zi]at hms;subst hms;exact hm m1 Yb;rw[<-h2];refine e3 hF hI hr (λx hx=>hm x ?_) hk;rw[<-hms];split;exact kbl _ hx;exact hx;cases h
   cases h;rename_i hg;have Ke:¬sg a.fr o.guard=qj:=(by rw[hg];simp);rw[ar Ke];obtain⟨a1,h1,h2⟩:=rF (a:=a) (v:=qE) (c:=λa'=>pD P call ka dE b FL IL a' m) hd;rw[h1]at h;obtain⟨e1,e2,e3⟩:=m9 hc (S:=S) (K:=K) gQ hty dE _ _ _ a1 m h;rw[<-h2];exact⟨e1,e2,e3⟩
end
def HV {S:Nat->Bool}{i n:Nat}(h:∀j,n<=j->S j=qn)(hi:i<n):∀j,n<=j->bF S i j=qn:=λj hj=>by
 have:j≠i:=Ya
 simp[bF,this,h j hj]
def US (d:TypeDesc):List (Nat×qi×qi)->Bool
 |[]=>qj
 |q::r=>(r.all λz=>(match Z7 d q.2.1 z.2.1 with|some qn=>qj|_=>qn) && (match Z7 d z.2.1 q.2.1 with|some qn=>qj|_=>qn)) && US d r
def IA {d:TypeDesc}:∀{l:List (Nat×qi×qi)},US d l=qj->∀q∈l,∀z∈l,q.1≠z.1->Z7 d q.2.1 z.2.1=qf qn
 |[],_,q,hq,_,_,_=>by cases hq
 |x::r,h,q,hq,z,hz,fL=>by
   simp only[US,Zg,Zs]at h;have bk:∀{o:Option Bool},(match o with|some qn=>qj|_=>qn)=qj->o=qf qn:=λ{o} h=>by split at h;rfl;cases h
   rcases Zz.1 hq with hq1|hq1;rcases Zz.1 hz with hz1|hz1;exact absurd (by rw[hq1,hz1]) fL;rw[hq1];exact bk (h.1 z hz1).1;rcases Zz.1 hz with hz1|hz1;rw[hz1];exact bk (h.1 q hq1).2;exact IA h.2 q hq1 z hz1 fL
def tyB (P:qp)(t:TypeId)(x:FD):Bool:=
 match P.underlying t with
 |some (.map kt _)=>
   match P.underlying kt with
   |some d=>lU d && US d x.dG
   |none=>qn
 |_=>qn
def tyB_ok {P:qp}{t:TypeId}{x:FD}(h:tyB P t x=qj):Ov P t x:=by unfold tyB at h;split at h;rename_i kt e h1;split at h;rename_i d h2;simp only[Zg]at h;exact⟨kt,e,d,h1,h2,h.1,IA h.2⟩;cases h;cases h
def L8 (P:qp)(base nb:Nat)(FL:Vv)(IL:Ub):List FS->List Nat->Bool
 |[],_=>qj
 |s::r,dC=>
   match tx FL IL s with
   |none=>qn
   |some x=>
     match ZD base x.dZ with
     |false=>qn
     |true=>
       match ZD (x.dZ+1) (base+nb) with
       |false=>qn
       |true=>
         match PN x.dZ dC with
         |true=>qn
         |false=>
           match s.dG with
           |[]=>L8 P base nb FL IL r (x.dZ::dC)
           |_::_=>match tyB P s.t x with|true=>L8 P base nb FL IL r (x.dZ::dC)|false=>qn
def I6 {P:qp}{base nb:Nat}{FL:Vv}{IL:Ub}:∀{ka:List FS}{dC:List Nat},L8 P base nb FL IL ka dC=qj->
 (∀s∈ka,∃x,tx FL IL s=qf x/\base<=x.dZ/\x.dZ<base+nb/\x.dZ∉dC/\(s.dG≠[]->Ov P s.t x))/\((ka.filterMap (tx FL IL)).map (·.dZ)).Nodup
 |[],dC,_=>⟨λs hs=>(by cases hs),by simp⟩
 |s::r,dC,h=>by
   unfold L8 at h;split at h;cases h;rename_i x hx;split at h;cases h;rename_i h1;split at h;cases h;rename_i h2;split at h;cases h;rename_i h3;have hns:x.dZ∉dC:=λe=>by rw[wR.2 e]at h3;cases h3
   have main:∀(hr:L8 P base nb FL IL r (x.dZ::dC)=qj)(ht:s.dG≠[]->Ov P s.t x),(∀s'∈s::r,∃x,tx FL IL s'=qf x/\base<=x.dZ/\x.dZ<base+nb/\x.dZ∉dC/\(s'.dG≠[]->Ov P s'.t x))/\
    (((s::r).filterMap (tx FL IL)).map (·.dZ)).Nodup:=by intro hr ht;obtain⟨g1,g2⟩:=I6 hr;refine⟨λs' CD=>?_,?_⟩;rcases Zz.1 CD with rfl|CD;exact⟨x,hx,kat h1,kat h2,hns,ht⟩;obtain⟨y,k1,k2,k3,k4,k5⟩:=g1 s' CD;exact⟨y,k1,k2,k3,λe=>k4 (by simp[e]),k5⟩;rw[kcc hx,List.map_cons,List.nodup_cons];refine⟨λe=>?_,g2⟩;obtain⟨y,hy,hyx⟩:=List.mem_map.1 e;obtain⟨s',CD,hy'⟩:=ka0.1 hy;obtain⟨z,k1,_,_,k4,_⟩:=g1 s' CD;rw[hy']at k1;injection k1 with k1;subst k1;exact k4 (by simp[hyx])
   split at h;rename_i hi;exact main h λe=>absurd hi e;split at h;rename_i ht;exact main h λ_=>tyB_ok ht;cases h
def pf {α:Type}{R:α->α->Prop}:∀{l:List α},l.Pairwise R->∀x∈l,∀y∈l,x≠y->R x y\/R y x
 |[],_,x,hx,_,_,_=>by cases hx
 |a::l,h,x,hx,y,hy,fL=>by rw[kba]at h;rcases Zz.1 hx with hx1|hx1;rcases Zz.1 hy with hy1|hy1;exact absurd (hx1.trans hy1.symm) fL;rw[hx1];exact qw (h.1 y hy1);rcases Zz.1 hy with hy1|hy1;rw[hy1];exact qB (h.1 x hx1);exact pf h.2 x hx1 y hy1 fL
def mkO_map {P:qp}{r:qA->qi}{op:Op}{k:FK}{es:List (qi×qi)}{own:Bool}(h:UN P r op=qf (k,.map es own)):es=[]:=by
 cases op<;>simp only[UN]at h<;>(try (cases h;done))
 all_goals(
  repeat' (split at h)
  all_goals(try (cases h;done))
  all_goals((simp only[Zd,Zk]at h;obtain⟨_,h⟩:=h;cases h;rfl)))
def evReg (P:qp)(call:mt)(bf:Array qC)(jg:List (Nat×Nat))(ka:List FS)(a:FT)(m:EM):Option (FT×EM):=
 Ff (m.next+U ka) λn=>
 match pD P call ka (F1 bf jg) m.next [] [] a ⟨n,m.t⟩ with
 |some (a',m',rs,ms,FL,IL)=>
   match Pk P rs ms with
   |false=>qk
   |true=>
     match L8 P m.next (U ka) FL IL ka []with
     |false=>qk
     |true=>
       match CN FL IL bf.size ka m' with
       |some m2=>qf (a',m2)
       |none=>qk
 |none=>qk
def W8 {P:qp}(EF:P.follows qI=qj){nt:Nat}{id:Nat}{bf:Array qC}{jg:List (Nat×Nat)}{ka:List FS}(hB:linF bf jg ka=qj)(fl:List FD)(M:FS->FD->Prop)(py:∀s x,M s x->x.op=s.op/\x.jV=s.jV/\x.dG.map (·.1)=s.dG)(nQ:∀s x y,M s x->M s y->x=y)(Gb:∀x∈fl,∃s∈ka,M s x)(gQ:∀s∈ka,∃x∈fl,M s x){a:Fr}{A:AW}{nb:Nat}(hrange:∀x∈fl,A.next<=x.dZ/\x.dZ<A.next+nb)(U0:(fl.map (·.dZ)).Nodup)(S0:AW->Prop){Q:Exit->Fr->AW->Prop}(hwalk:B8 P S0 fl (λa' A'=>Q qG a' (Ki (sP fl bf.size) A')) (F1 bf jg) a (A.TF nb)):df P nt (qS id bf qj) Q a A:=by
 simp only[linF,Zg]at hB;obtain⟨pT,ha,wx,Ga,hnd⟩:=hB;have hnd:=Ij hnd;unfold allF at hnd;rw[List.Nodup,List.pairwise_flatMap]at hnd;obtain⟨hnd1,hnd2⟩:=hnd;have nj:∀s∈ka,s.op∉s.dG/\s.dG.Nodup:=λs hs=>by have:=hnd1 s hs;rw[kba]at this;exact⟨λe=>this.1 _ e rfl,this.2⟩
 have hdisj:∀s∈ka,∀s'∈ka,s≠s'->∀i∈s.op::s.dG,∀j∈s'.op::s'.dG,i≠j:=λs hs s' CD fL i hi j hj=>by rcases pf hnd2 s hs s' CD fL with e|e;exact e i hi j hj;exact Ne.symm (e j hj i hi)
 have IJ:∀x∈fl,∀y∈fl,∀s∈ka,M s x->M s y->x=y:=λx _ y _ s _ h1 h2=>nQ s x y h1 h2;have mT:∀s∈ka,fsOk bf (Ra bf.toList []) jg s=qj:=λs hs=>Zs.1 Ga s hs;have lV:∀s∈ka,mY jg s.op<=1/\∃o,bf[s.op]?=qf o/\o.guard=qk:=λs hs=>by have:=mT s hs;simp only[fsOk,Zg]at this;obtain⟨⟨⟨k1,k2⟩,_⟩,_⟩:=this;refine⟨kat k1,?_⟩;split at k2;rename_i o ho;exact⟨o,ho,by simpa using k2⟩;cases k2
 have hinq:∀s∈ka,∀q∈s.dG,mY jg q<=1/\((Ra bf.toList []).getD q 0).testBit s.op=qj/\∃o,bf[q]?=qf o/\o.guard=qk:=λs hs q hq=>by have:=mT s hs;simp only[fsOk,Zg,Zs]at this;obtain⟨⟨_,k3⟩,_⟩:=this;obtain⟨⟨k4,k5⟩,k6⟩:=k3 q hq;refine⟨kat k4,k5,?_⟩;split at k6;rename_i o ho;simp only[Zg]at k6;exact⟨o,ho,by simpa using k6.1⟩;cases k6
 have UV:∀s∈ka,s.jV=bf.size\/(2<=mY jg s.jV/\(∃o,bf[s.jV]?=qf o/\o.guard=qk)/\((Ra bf.toList []).getD s.jV 0).testBit s.op=qj/\∀q∈s.dG,((Ra bf.toList []).getD s.jV 0).testBit q=qj):=λs hs=>by have:=mT s hs;simp only[fsOk,Zg,Z9,Zs]at this;rcases this.2 with k|⟨⟨⟨k1,k2⟩,k3⟩,k4⟩;exact qw (ZR k);refine qB ⟨kat k1,?_,k3,k4⟩;split at k2;rename_i o ho;exact⟨o,ho,by simpa using k2⟩;cases k2
 have b9:∀{i:Nat}{o:qC},bf[i]?=qf o->i<bf.size:=λh=>(Zj.1 h).1;have nA:∀{s x},M s x->∀q∈x.dG,q.1∈s.dG:=λ{s x} hx q hq=>by rw[<-(py _ _ hx).2.2];exact List.mem_map_of_mem hq
 have U1:∀s∈ka,∀s'∈ka,∀i,(i=s.op\/i∈s.dG)->i≠s'.jV:=λs hs s' CD i hi e=>by
  have hm:mY jg i<=1/\i<bf.size:=by rcases hi with hi|hi;subst hi;obtain⟨k1,o,k2,_⟩:=lV s hs;exact⟨k1,b9 k2⟩;obtain⟨k1,_,o,k2,_⟩:=hinq s hs i hi;exact⟨k1,b9 k2⟩
  rcases UV s' CD with k|⟨k,_⟩;omega;rw[<-e]at k;omega
 have ki:FlOk fl:=by
  refine⟨λx hx y hy e=>?_,λx hx y hy e=>?_,λx hx y hy q hq=>?_,λx hx y hy e=>?_,?_⟩;obtain⟨s,hs,CC⟩:=Gb x hx;obtain⟨s',CD,hsy⟩:=Gb y hy;by_cases es:s=s';subst es;exact IJ x hx y hy s hs CC hsy;exfalso;refine hdisj s hs s' CD es s.op Yb s'.op Yb ?_;rw[<-(py _ _ CC).1,<-(py _ _ hsy).1];exact e;by_cases exy:x=y;exact exy;exfalso;have:=pf (kbo.1 U0) x hx y hy exy;rcases this with k|k;exact k e;exact k e.symm;obtain⟨s,hs,CC⟩:=Gb x hx;obtain⟨s',CD,hsy⟩:=Gb y hy;have hqs:=nA CC q hq;refine⟨λe=>?_,λe=>?_,λfL r hr e=>?_⟩;rw[(py _ _ hsy).1]at e;by_cases es:s=s';subst es;exact(nj s hs).1 (by rw[<-e];exact hqs);exact hdisj s hs s' CD es q.1 (by simp[hqs]) s'.op Yb e;rw[(py _ _ hsy).2.1]at e;exact U1 s hs s' CD q.1 (qB hqs) e;have EE:=nA hsy r hr;by_cases es:s=s';subst es;exact fL (IJ x hx y hy s hs CC hsy);exact hdisj s hs s' CD es q.1 (by simp[hqs]) r.1 (by simp[EE]) e
  obtain⟨s,hs,CC⟩:=Gb x hx;obtain⟨s',CD,hsy⟩:=Gb y hy;rw[(py _ _ CC).1,(py _ _ hsy).2.1]at e;exact U1 s hs s' CD s.op (qw rfl) e;exact kcr (λh e=>h (by rw[e])) (kbo.1 U0)
 have hisf:∀i,isF ka i=qj->∃x∈fl,x.op=i\/∃q∈x.dG,q.1=i:=λi hi=>by
  obtain⟨s,hs,hi⟩:=isF_iff.1 hi;obtain⟨x,hxf,hx⟩:=gQ s hs;refine⟨x,hxf,?_⟩;rcases hi with hi|hi;exact qw ((py _ _ hx).1.trans hi);have:i∈x.dG.map (·.1):=by rw[(py _ _ hx).2.2];exact hi
  obtain⟨q,hq,e⟩:=List.mem_map.1 this;exact qB ⟨q,hq,e⟩
 have hany:=D8 pT ha hisf jg 0 (λ_=>qn) a _ (λj _=>by simp) (λk o _ hk=>by cases hk) wx hwalk
 have vU:∀{S:Nat->Bool}{a':Fr}{A':AW}{i:Nat}{o:qC}{n:Nat},A'.Wf->Fz P bf S0 (mY jg) fl (λa' A'=>Q qG a' (Ki (sP fl bf.size) A')) n S a' A'->
  bf[i]?=qf o->Lq S i o->∃n',Az P bf S0 (mY jg) fl i o a' A' (Fz P bf S0 (mY jg) fl (λa' A'=>Q qG a' (Ki (sP fl bf.size) A')) n' (bF S i)):=by
  intro S a' A' i o n Rx hk ho hr;cases n with
  |zero=>have:=hk.1 i (b9 ho);rw[hr.1]at this;cases this
  |succ n=>exact⟨n,hk.2 Rx i o ho hr⟩
 refine awp_flo EF pT fl ki (nb:=nb) (λx hx=>?_) (λx hx=>?_) (λx hx=>?_)
  (λS a' A'=>mj bf S/\(∀i,bf.size<=i->S i=qn)/\∃n,Fz P bf S0 (mY jg) fl (λa' A'=>Q qG a' (Ki (sP fl bf.size) A')) n S a' A') ?_ ?_ ?_ ?_ ?_
 exact hrange x hx;obtain⟨s,hs,CC⟩:=Gb x hx;obtain⟨_,o,k2,_⟩:=lV s hs;refine⟨by rw[(py _ _ CC).1];exact b9 k2,λq hq=>?_⟩;obtain⟨_,_,o,k3,_⟩:=hinq s hs q.1 (nA CC q hq);exact b9 k3;obtain⟨s,hs,CC⟩:=Gb x hx;have hn:(x.dG.map (·.1)).Nodup:=by rw[(py _ _ CC).2.2];exact(nj s hs).2
 refine⟨kcr (λh e=>h (by rw[e])) (kbo.1 hn),λq hq r hr e=>?_⟩;by_cases er:r=q;exact er;exfalso;rcases pf (kbo.1 hn) r hr q hq er with k|k;exact k e;exact k e.symm;exact⟨λk o _ hk=>(by cases hk),λ_ _=>rfl,_,hany⟩;rintro S a' A' i o Rx⟨jv,jK,n,hk⟩ho hr hn;have hi:=b9 ho;obtain⟨n',cJ⟩:=vU Rx hk ho hr;have hmd:mY jg i<=1->sP fl i=[]:=λhm=>by
  unfold sP;rw[kcd];intro x hx e;obtain⟨s,hs,CC⟩:=Gb x hx;have e:x.jV=i:=by simpa using e
  rw[(py _ _ CC).2.1]at e;rcases UV s hs with k|⟨k,_⟩;omega;rw[e]at k;omega
 have hgn:iX bf a' o=qn->sP fl i=[]:=λhg=>by
  unfold sP;rw[kcd];intro x hx e;obtain⟨s,hs,CC⟩:=Gb x hx;have e:x.jV=i:=by simpa using e
  rw[(py _ _ CC).2.1]at e;rcases UV s hs with k|⟨_,⟨o',k2,k3⟩,_⟩;omega;rw[e,ho]at k2;injection k2 with k2;subst k2;unfold iX at hg;rw[k3]at hg;cases hg
 have pQ:∀{a2 A2},Fz P bf S0 (mY jg) fl (λa' A'=>Q qG a' (Ki (sP fl bf.size) A')) n' (bF S i) a2 A2->
  mj bf (bF S i)/\(∀j,bf.size<=j->(bF S i) j=qn)/\∃n,Fz P bf S0 (mY jg) fl (λa' A'=>Q qG a' (Ki (sP fl bf.size) A')) n (bF S i) a2 A2:=
  λ{a2 A2} h=>⟨jv.set ho hr,HV jK hi,n',h⟩
 refine⟨λx hx e=>?_,?_⟩;obtain⟨s,hs,CC⟩:=Gb x hx;rw[(py _ _ CC).2.1]at e;rcases UV s hs with k|⟨_,_,k3,k4⟩;omega;rw[e]at k3 k4;refine⟨by rw[(py _ _ CC).1];exact ri pT ha jv ho hr k3,λq hq=>ri pT ha jv ho hr (k4 _ (nA CC q hq))⟩;unfold Az at cJ;unfold OC;split;rename_i hg;rw[az hg]at cJ;split at cJ;rename_i hm;obtain⟨v,hv,hk⟩:=cJ;rw[hmd hm,Vi];rcases hv with ⟨x,hx,e,_⟩|⟨x,hx,q,hq,e,_⟩|⟨_,hv⟩;exact absurd e (hn x hx).1;exact absurd e ((hn x hx).2 q hq);simp only[iJ,hv];exact pQ hk;exact cJ.mono λv A' hh=>pQ hh.2;rename_i hg;rw[ar hg]at cJ;rw[hgn (by simpa using hg),Vi];exact pQ cJ;rintro S a' A' i o x Rx⟨jv,jK,n,hk⟩ho hr hx e;have hi:=b9 ho;obtain⟨n',cJ⟩:=vU Rx hk ho hr;obtain⟨s,hs,CC⟩:=Gb x hx;have es:=(py _ _ CC).1;obtain⟨k1,o',k2,k3⟩:=lV s hs;rw[<-es,e,ho]at k2;injection k2 with k2;subst k2;have hg:iX bf a' o=qj:=by unfold iX;rw[k3]
 unfold Az at cJ;rw[az hg,az (by rw[<-e,es];exact k1)]at cJ;obtain⟨v,hv,hk⟩:=cJ;have hmk:UN P (gZ a') o.op=qf (x.k,x.ob)/\v=x.k.val x.dZ:=by rcases hv with ⟨y,hy,e2,k4,k5⟩|⟨y,hy,q,hq,e2,_⟩|⟨hn,_⟩;have:=ki.bf y hy x hx (e2.trans e.symm);subst this;exact⟨k4,k5⟩;exact absurd (e2.trans e.symm) (ki.dG y hy x hx q hq).1;exact absurd e (hn x hx).1
 obtain⟨hmk,rfl⟩:=hmk;refine⟨k3,hmk,?_,jv.set ho hr,HV jK hi,n',hk⟩;unfold FD.ik;split;rename_i es0 own uO;rw[uO]at hmk;have:=mkO_map hmk;subst this;have:(x.dG.filter λq=>S q.1)=[]:=kcd.2 λq hq hSq=>by obtain⟨_,k5,o2,k6,_⟩:=hinq s hs q.1 (nA CC q hq);have:=yi pT ha jv _ _ _ (Nat.lt_succ_self _) k6 hSq k5;rw[<-es,e,hr.1]at this;cases this
 rw[this,uO];rfl;rename_i uO;exact uO.symm;rintro S a' A' i o x q Rx⟨jv,jK,n,hk⟩ho hr hx hq e;have hi:=b9 ho;obtain⟨n',cJ⟩:=vU Rx hk ho hr;obtain⟨s,hs,CC⟩:=Gb x hx;obtain⟨k1,k5,o',k2,k3⟩:=hinq s hs q.1 (nA CC q hq);rw[e,ho]at k2;injection k2 with k2;subst k2;have hg:iX bf a' o=qj:=by unfold iX;rw[k3]
 unfold Az at cJ;rw[az hg,az (by rw[<-e];exact k1)]at cJ;obtain⟨v,hv,hk⟩:=cJ;rw[e]at k5;have hSx:S x.op=qj:=by rw[(py _ _ CC).1];exact ri pT ha jv ho hr k5
 have hSt:S x.jV=qn:=by
  cases hSt:S x.jV with
  |false=>rfl
  |true=>exfalso;rw[(py _ _ CC).2.1]at hSt;rcases UV s hs with k|⟨_,⟨o2,k6,_⟩,_,k7⟩;rw[k,jK _ (Nat.le_refl _)]at hSt;cases hSt;have:=yi pT ha jv _ _ _ (Nat.lt_succ_self _) k6 hSt (k7 _ (nA CC q hq));rw[e,hr.1]at this;cases this
 have pQ:mj bf (bF S i)/\(∀j,bf.size<=j->(bF S i) j=qn):=⟨jv.set ho hr,HV jK hi⟩;rcases hv with ⟨y,hy,e2,_⟩|⟨y,hy,z,hz,e2,⟨t,X,Y,V,k6,k7,k8,k9,k10,k11⟩,rfl⟩|⟨hn,_⟩;exact absurd (e.trans e2.symm) (ki.dG x hx y hy q hq).1;have hxy:y=x:=by by_cases exy:x=y;exact exy.symm;exact absurd (e.trans e2.symm) ((ki.dG x hx y hy q hq).2.2 exy z hz)
 subst hxy;have hzq:z=q:=by
  have SW:(y.dG.map (·.1)).Nodup:=by rw[(py _ _ CC).2.2];exact(nj s hs).2
  by_cases ez:z=q;exact ez;rcases pf (kbo.1 SW) z hz q hq ez with k|k;exact absurd (e2.trans e.symm) k;exact absurd (e.trans e2.symm) k
 subst hzq;exact⟨k3,hSx,hSt,⟨t,X,Y,V,k6,k7,k8,k9,k10,k11⟩,pQ.1,pQ.2,n',hk⟩;exact absurd e ((hn x hx).2 q hq);rintro S a' A' Rx⟨jv,jK,n,hk⟩hall2;cases n with
 |zero=>exact hk.2
 |succ n=>exact hk.1 hall2
def QO {P:qp}{call:mt}(hc:call.Ok P)(EF:P.follows qI=qj){nt:Nat}{id:Nat}{bf:Array qC}{jg:List (Nat×Nat)}{ka:List FS}{a:FT}{m:EM}{a':FT}{m':EM}(h:evReg P call bf jg ka a m=qf (a',m'))(hB:linF bf jg ka=qj){Q:Exit->Fr->AW->Prop}(hq:Q qG a'.fr m'.aw):df P nt (qS id bf qj) Q a.fr m.aw:=by
 unfold evReg at h;rw[Bd]at h;split at h;rename_i a1 m1 rs ms FL IL h1;split at h;cases h;rename_i AS;split at h;cases h;rename_i hchk;split at h;rename_i m2 jv;simp only[Zd,Zk]at h;obtain⟨rfl,rfl⟩:=h;obtain⟨zI,U0⟩:=I6 hchk;have gQ:∀s∈ka,∃x,tx FL IL s=qf x:=λs hs=>let ⟨x,h,_⟩:=zI s hs;⟨x,h⟩
 have hty:∀s∈ka,∀x,tx FL IL s=qf x->s.dG≠[]->Ov P s.t x:=λs hs x hx fL=>by obtain⟨y,k1,_,_,_,k5⟩:=zI s hs;rw[hx]at k1;injection k1 with k1;subst k1;exact k5 fL
 obtain⟨_,_,hw⟩:=m9 hc (S:=λA'=>∀x∈rs,aq P A' (gZ x.2.1.fr) x.1=qf x.2.2)
  (K:=λa' A'=>Q qG a' (Ki (sP (ka.filterMap (tx FL IL)) bf.size) A')) gQ hty _ _ _ _ _ _ h1
 have L3:=Be (FLf:=FL) (ILf:=IL) (λ_ _ h=>h) (λ_ _ h=>h) _ _ jv
 refine W8 EF hB (ka.filterMap (tx FL IL)) (λs x=>tx FL IL s=qf x) (λs x h=>⟨(oM h).1,(oM h).2.1,(oM h).2.2.2.1⟩) (λs x y h1 h2=>by rw[h1]at h2;injection h2)
  (λx hx=>ka0.1 hx) (λs hs=>let ⟨x,hx⟩:=gQ s hs;⟨x,ka0.2 ⟨s,hs,hx⟩,hx⟩) (nb:=U ka) (λx hx=>?_) U0 _
  (hw (λ_ _ h=>h) (λ_ _ h=>h) (λx hx A' wY=>wY x hx) (λm hm x hx=>EW AS m hm x hx) (by rw[<-L3];exact hq))
 obtain⟨s,hs,CC⟩:=ka0.1 hx;obtain⟨y,k1,k2,k3,_⟩:=zI s hs;rw[CC]at k1;injection k1 with k1;subst k1;exact⟨k2,k3⟩;cases h;cases h
abbrev JW:=List (Nat×List (Nat×Nat)×List FS)
def Sl:JW->Nat->Option (List (Nat×Nat)×List FS)
 |[],_=>qk
 | (k,l)::dE,i=>match Zi k i with|true=>qf l|false=>Sl dE i
def mJ (os:JW):Code->Bool
 |qS id bf qj=>match Sl os id with|some (jg,[])=>SA bf jg|some (jg,ka)=>linF bf jg ka|none=>qn
 | .seq x y=>mJ os x && mJ os y
 | .cond _ x y=>mJ os x && mJ os y
 | .block _ b=>mJ os b
 | .loop b=>mJ os b
 |_=>qj
def Jc (P:qp)(os:JW)(call:mt):Nat->Code->FT->EM->Option (Exit×FT×EM)
 |0,_,_,_=>qk
 |n+1,c,a,m=>
   match c with
   | .skip=>qf (qG,a,m)
   | .exit id=>qf (.exit id,a,m)
   | .ret=>qf (.ret,a,m)
   | .seq x y=>
     match Jc P os call n x a m with
     |some (qG,a',m')=>Jc P os call n y a' m'
     |r=>r
   | .block id b=>
     match Jc P os call n b a m with
     |some (.exit id',a',m')=>match Zi id' id with|true=>qf (qG,a',m')|false=>qf (.exit id',a',m')
     |r=>r
   | .cond c x y=>
     match gZ a.fr c with
     |qt qj=>Jc P os call n x a m
     |qt qn=>Jc P os call n y a m
     |_=>qk
   | .loop b=>
     match Jc P os call n b a m with
     |some (qG,a',m')=>Jc P os call n (.loop b) a' m'
     |r=>r
   |qS id bf qn=>
     match Gg P call bf bf.toList a m with
     |some (a',m')=>qf (qG,a',m')
     |none=>qk
   |qS id bf qj=>
     match Sl os id with
     |some (jg,[])=>
       match BT P call (cY bf jg) a m with
       |some (a',m',rs,ms)=>match Pk P rs ms with|true=>qf (qG,a',m')|false=>qk
       |none=>qk
     |some (jg,s::ka)=>
       match evReg P call bf jg (s::ka) a m with
       |some (a',m')=>qf (qG,a',m')
       |none=>qk
     |none=>qk
   |_=>qk
def i6 {P:qp}{os:JW}{call:mt}(hc:call.Ok P)(EF:P.follows qI=qj){nt:Nat}:∀(n:Nat)(c:Code)(a:FT)(m:EM){e:Exit}{a':FT}{m':EM},Jc P os call n c a m=qf (e,a',m')->mJ os c=qj->
 ∀{Q:Exit->Fr->AW->Prop},Q e a'.fr m'.aw->df P nt c Q a.fr m.aw/\∀b,c=.loop b->∃k,aL P nt b Q k a.fr m.aw
 |0,c,a,m,e,a',m',h,_,_,_=>by cases h
 |n+1,c,a,m,e,a',m',h,ho,Q,hq=>by
   unfold Jc at h;cases c with
   |skip=>simp only[Zd,Zk]at h;obtain⟨rfl,rfl,rfl⟩:=h;exact⟨Q3 hq,λb e=>by cases e⟩
   |exit id=>simp only[Zd,Zk]at h;obtain⟨rfl,rfl,rfl⟩:=h;exact⟨Q5 hq,λb e=>by cases e⟩
   |ret=>simp only[Zd,Zk]at h;obtain⟨rfl,rfl,rfl⟩:=h;exact⟨N7 hq,λb e=>by cases e⟩
   |seq x y=>refine⟨aU ?_,λb e=>by cases e⟩;simp only[mJ,Zg]at ho;simp only at h;split at h;rename_i a1 m1 h1;exact(i6 hc EF n x a m h1 ho.1 (Q:=aT (df P nt y Q) Q) (i6 hc EF n y a1 m1 h ho.2 hq).1).1;rename_i r hr;rw[h]at hr;refine(i6 hc EF n x a m h ho.1 (Q:=aT (df P nt y Q) Q) ?_).1;cases e<;>first|exact hq|exact absurd rfl (hr _ _)
   |block id b=>refine⟨Me ?_,λb e=>by cases e⟩;simp only at h;split at h;rename_i id' a1 m1 h1;split at h;rename_i e1;simp only[Zd,Zk]at h;obtain⟨rfl,rfl,rfl⟩:=h;refine(i6 hc EF n b a m h1 ho (Q:=b6 id Q) ?_).1;simp only[b6];rw[az (ZR e1)];exact hq;rename_i e1;simp only[Zd,Zk]at h;obtain⟨rfl,rfl,rfl⟩:=h;refine(i6 hc EF n b a m h1 ho (Q:=b6 id Q) ?_).1;simp only[b6];rw[ar (λe2=>by rw[yk e2]at e1;cases e1)];exact hq;rename_i r hr;refine(i6 hc EF n b a m h ho (Q:=b6 id Q) ?_).1;cases e<;>first|exact hq|exact absurd h (hr _ _ _)
   |cond c x y=>refine⟨?_,λb e=>by cases e⟩;simp only[mJ,Zg]at ho;simp only at h;split at h;rename_i e1;exact Jy e1 (λ_=>(i6 hc EF n x a m h ho.1 hq).1) (λe=>by cases e);rename_i e1;exact Jy e1 (λe=>by cases e) (λ_=>(i6 hc EF n y a m h ho.2 hq).1);cases h
   |loop b=>
     have key:∃k,aL P nt b Q k a.fr m.aw:=by simp only at h;split at h;rename_i a1 m1 h1;obtain⟨k,hk⟩:=(i6 hc EF n (.loop b) a1 m1 h ho hq).2 b rfl;exact⟨k+1,(i6 hc EF n b a m h1 ho (Q:=aT (aL P nt b Q k) Q) hk).1⟩;rename_i r hr;refine⟨1,(i6 hc EF n b a m h ho (Q:=aT (aL P nt b Q 0) Q) ?_).1⟩;cases e<;>first|exact hq|exact absurd h (hr _ _)
     obtain⟨k,hk⟩:=key;exact⟨i7 k hk,λb' e=>by injection e with e;subst e;exact⟨k,hk⟩⟩
   |region id bf dr=>
     refine⟨?_,λb e=>by cases e⟩;cases dr with
     |false=>simp only at h;split at h;rename_i a1 m1 h1;simp only[Zd,Zk]at h;obtain⟨rfl,rfl,rfl⟩:=h;exact Jx (Ac hc _ _ _ h1 hq);cases h
     |true=>simp only[mJ]at ho;simp only at h;split at h;rename_i jg vV;rw[vV]at ho;split at h;rename_i a1 m1 rs ms h1;split at h;rename_i AS;simp only[Zd,Zk]at h;obtain⟨rfl,rfl,rfl⟩:=h;refine wlS (λA'=>∀x∈rs,aq P A' (gZ x.2.1.fr) x.1=qf x.2.2) EF jg ho λK hK=>?_;exact oN hc _ a m h1 (λx hx A' wY=>wY x hx) (λm hm x hx=>EW AS m hm x hx) (hK _ _ hq);cases h;cases h;rename_i jg s ka vV;rw[vV]at ho;split at h;rename_i a1 m1 h1;simp only[Zd,Zk]at h;obtain⟨rfl,rfl,rfl⟩:=h;exact QO hc EF h1 ho hq;cases h;cases h
   |_=>cases h
abbrev Ez:=List (Nat×JW)
def MF:Ez->Nat->Option JW
 |[],_=>qk
 | (k,l)::dE,i=>match Zi k i with|true=>qf l|false=>MF dE i
def NI (fn:Func)(os:JW):Bool:=
 !(fn.name == "runtime.NumGoroutine") && fn.results.toList.all (H3 fn.ntmps) && (match fn.body with|some c=>mg fn.ntmps c && mJ os c|none=>qn)
def HE (P:qp):Ez->Bool
 |[]=>qj
 | (f,os)::dE=>(match P.funcs[f]? with|some fn=>NI fn os|none=>qn) && HE P dE
def O6 {P:qp}:∀{T:Ez},HE P T=qj->∀{f os},MF T f=qf os->∃fn,P.funcs[f]?=qf fn/\NI fn os=qj
 |[],_,f,os,h=>by cases h
 | (k,l)::dE,hT,f,os,h=>by simp only[HE,Zg]at hT;unfold MF at h;split at h;rename_i e;have e:=ZR e;subst e;injection h with h;subst h;have h1:=hT.1;split at h1;rename_i fn hfn;exact⟨fn,hfn,h1⟩;cases h1;exact O6 hT.2 h
def Ea (P:qp)(T:Ez)(base:mt)(N:Nat):Nat->mt
 |0,_,_,_=>qk
 |n+1,f,args,m=>
   match MF T f with
   |none=>base f args m
   |some os=>
     match P.funcs[f]? with
     |none=>qk
     |some fn=>
       match fn.body with
       |none=>qk
       |some c=>
         match ZD (U args) fn.ntmps with
         |false=>qk
         |true=>
           match ZD (U args) 1000 with
           |false=>qk
           |true=>GZ args 0 .nil λa0=>
             match Jc P os (Ea P T base N n) N c a0 m with
             |some (qG,a',m')=>
               match bA P a'.fr m'.aw fn.results.toList with
               |some v=>Bv v λv=>qf (v,m')
               |none=>qk
             |some (.ret,a',m')=>
               match bA P a'.fr m'.aw fn.results.toList with
               |some v=>Bv v λv=>qf (v,m')
               |none=>qk
             |_=>qk
def BU {P:qp}{T:Ez}{base:mt}(U6:base.Ok P)(hT:HE P T=qj)(EF:P.follows qI=qj)(N:Nat):∀n,(Ea P T base N n).Ok P
 |0=>λf args m v m' h=>by cases h
 |n+1=>λf args m v m' h=>by
   have ih:=BU U6 hT EF N n;unfold Ea at h;split at h;exact U6 _ _ _ _ _ h;rename_i os OI;obtain⟨fn,hfn,cJ⟩:=O6 hT OI;rw[hfn]at h;simp only at h;split at h;cases h;rename_i c hb;split at h;cases h;rename_i gb;split at h;cases h;rename_i NB;have gb:U args<=fn.ntmps:=kat gb;have NB:U args<=1000:=kat NB;simp only[NI,hb,Zg]at cJ;obtain⟨⟨ED,tu⟩,hs3,hs4⟩:=cJ;refine Et hfn hb (by simp only[NJ,hb,Zg,decide_eq_true_eq];exact⟨⟨⟨gb,ED⟩,tu⟩,hs3⟩) ?_;obtain⟨a0,h1,h2⟩:=H8 (c:=λa0=>match Jc P os (Ea P T base N n) N c a0 m with
    |some (qG,a',m')=>
      match bA P a'.fr m'.aw fn.results.toList with
      |some v=>Bv v λv=>qf (v,m')
      |none=>qk
    |some (.ret,a',m')=>
      match bA P a'.fr m'.aw fn.results.toList with
      |some v=>Bv v λv=>qf (v,m')
      |none=>qk
    |_=>qk) args 0 .nil Ya
   rw[h1]at h;have hi:a0.fr=DQ args:=by funext j;rw[h2,az (Nat.zero_le _)];simp only[DQ,Nat.zero_add,Nat.sub_zero];split;rfl;rename_i hj;rw[List.getD_eq_getElem?_getD,List.getElem?_eq_none Ya];rfl
   rw[<-hi];split at h;rename_i a1 m1 h3;split at h;rename_i u hu;rw[nX]at h;simp only[Zd,Zk]at h;obtain⟨rfl,rfl⟩:=h;exact(i6 ih EF N c a0 m h3 hs4 ⟨u,hu,rfl,rfl⟩).1;cases h;rename_i a1 m1 h3;split at h;rename_i u hu;rw[nX]at h;simp only[Zd,Zk]at h;obtain⟨rfl,rfl⟩:=h;exact(i6 ih EF N c a0 m h3 hs4 ⟨u,hu,rfl,rfl⟩).1;cases h;cases h
def Hh (P:qp)(T:Ez)(base:mt)(n:Nat)(f:FuncId):Bool:=match Ea P T base 1000000 200 f [] (EM.lS n) with|some (qt qj,_)=>qj|_=>qn
def BS {P:qp}{T:Ez}{base:mt}(U6:base.Ok P)(hT:HE P T=qj)(EF:P.follows qI=qj){n:Nat}(hn:Gl.N=n){f:FuncId}(h:Hh P T base n f=qj):aE P f [] AW.lS λv _=>v=qt qj:=by unfold Hh at h;split at h;rename_i m' h1;have h2:=BU U6 hT EF _ _ _ _ _ _ _ h1;rw[EM.empty_aw hn]at h2;exact h2.mono λv A' e=>e.1;cases h
end
end Go.Stx
