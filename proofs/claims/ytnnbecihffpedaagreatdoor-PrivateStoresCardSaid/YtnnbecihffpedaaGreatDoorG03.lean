import Derived.Test.YtnnbecihffpedaaGreatDoorG02
import Derived.Test.YtnnbecihffpedaaGreatDoorF4
set_option linter.all false
set_option maxRecDepth 20000
set_option maxHeartbeats 4000000
open List renaming length->U
open Go.IntKind renaming i64->Zb,u64->Zc
open Go.Lib renaming indexByte->ka2
open Go.Proofs.Tryz renaming func24->kaa,prog->qZ
open Go.Stx.AW.le renaming alloc->q8,refl->Zu,set->Z2,trans->Z1
open Go.Value renaming oneCell'->ZK
open Int renaming tmod_eq_emod_of_nonneg->ZU
open List renaming all_eq_true->Zs,drop_eq_getElem_cons->Z3,flatMap_cons->kbc,getElem?_append_left->kac,getElem?_eq_getElem->Zf,getElem?_eq_some_iff->Zy,getElem_mem->ZP,length_append->Zh,length_set->ZZ,length_singleton->ZO,mem_append->ZG,mem_or_eq_of_mem_set->ka6,mem_range->Zr,mem_singleton->ZV,set_getElem_self->kbk
open Nat renaming le_refl->Za,lt_or_ge->ZX,zero_le->Zv
open Bool renaming false->qn,true->qj
open Go renaming Program->qp,Value->qi
open Go.IntKind renaming i64->qg
open Go.Value renaming bool->qt,int->qh,slice->ql,string->qO
open Option renaming none->qk,some->qf
open Or renaming inl->qw
namespace Go.Stx
open Go Go.Proofs
attribute [local irreducible] TW bK df aW aE aL cY dm
section
namespace TGFbW
def oK [Gl]{A:AW}{L:List It}{T:Prop}(hS:aj A L)(hw:A.Wf)(h':(ba A L/\bB A L/\cd L)=T:=by first|(dsimp only[aa,ah,ba,bB,cd,fw];done)|exact rfl):T:=h'▸hS.fm hw
end TGFbW
open TGFbW
variable [Gl]
end
section
variable [Gl]
def dW.km {B:Nat}{A A':AW}{size:Nat}{v:qi}{n:Nat}{cs:List qi}(h:dW B A size v n cs)(he:∀j,dX v=qf j->A'.bk j=A.bk j):dW B A' size v n cs:=by rcases h with h|⟨p,c,bO,rfl,h2,hs,h3,h4,h5⟩;exact qw h;exact .inr ⟨p,c,bO,rfl,h2,hs,h3,(he _ rfl).trans h4,h5⟩
def dW.lt {B:Nat}{A:AW}{size:Nat}{v:qi}{n:Nat}{cs:List qi}(h:dW B A size v n cs)(hw:A.Wf){j:Nat}(hj:dX v=qf j):B<=j/\j<A.next:=by rcases h with ⟨rfl,_⟩|⟨p,c,bO,rfl,h2,hs,h3,h4,h5⟩;cases hj;injection hj with hj;subst hj;exact⟨h3,hw.lt h4⟩
structure AppK (B:Nat) (A A':AW) (v v':Value):Prop where
 le:∀A0:AW,A0.next<=B->A0.le A->A0.le A'
 wf:A'.Wf
 next:A.next<=A'.next
 bk:∀j,j<A.next->dX v≠some j->A'.bk j=A.bk j
 nF:∀j,dX v'=some j->dX v=some j\/A.next<=j
def app_ins {A:AW}{B:Nat}{v:qi}{n:Nat}{cs:List qi}(x:bp)(jd:dW B A 5 v n cs)(hn:n<2 ^ 30)(hB:B<=A.next)(hw:A.Wf):
 ∃v' A',fD qZ (A.alloc (.cells (aA x) qj 5)) 30 30 v (ql (qf ⟨A.next,0,qk⟩) 1 1)=qf (v',A')/\dW B A' 5 v' (n+1) (cs++aA x)/\AppK B A A' v v':=by
 have IN:=dW.le (q8 A (.cells (aA x) qj 5)) hw jd;have j5:iv (A.alloc (.cells (aA x) qj 5)) 5 (ql (qf ⟨A.next,0,qk⟩) 1 1)=qf (1,aA x):=by simp[iv,AW.bO,aA]
 obtain⟨v',A',h1,h2,h3,h4,h5,h6,h7⟩:=lD (P:=qZ) (size:=5) (t:=30) Tryz.underlying30 Tryz.info33 Tryz.zero33 rfl rfl Ya IN j5 (by simp[aA,ZK]) Ya (by show (n+1)*40<=140737488355328;omega) YX (hw.alloc _);exact XO
def app_num {A:AW}{B:Nat}{v:qi}{l:List Int}(y:Int)(jd:fW B A qg v l)(hn:U l<2 ^ 30)(hB:B<=A.next)(hw:A.Wf):
 ∃v' A',fD qZ (A.alloc (.cells [qh qg y] qj 1)) 23 23 v (ql (qf ⟨A.next,0,qk⟩) 1 1)=qf (v',A')/\fW B A' qg v' (l++[y])/\AppK B A A' v v':=by
 have IN:=dW.le (q8 A (.cells [qh qg y] qj 1)) hw jd;have j5:iv (A.alloc (.cells [qh qg y] qj 1)) 1 (ql (qf ⟨A.next,0,qk⟩) 1 1)=qf (1,[qh qg y]):=by simp[iv,AW.bO]
 obtain⟨v',A',h1,h2,h3,h4,h5,h6,h7⟩:=lD (P:=qZ) (size:=1) (t:=23) Tryz.underlying23 Tryz.info3 Tryz.zero3 rfl rfl Ya IN j5 (by simp[ZK]) Ya (by show (U l+1)*8<=140737488355328;omega) YX (hw.alloc _);refine⟨v',A',h1,by unfold fW;simpa using h2,λA0 ha hl=>h3 A0 ha (hl.trans (q8 A _)),h4,by rw[AW.bn]at h5;omega,λj hj fL=>?_,λj hj=>?_⟩;rw[h6 j Yg fL,AW.gJ _ _ Ya];rcases h7 with rfl|h7;exact qw hj;rw[h7]at hj;injection hj with hj;simp at hj;exact .inr Ya
def QF (y:Int):∀(l:List bp)(j:Nat)(hj:j<U l),(l.flatMap aA).set (j*5+4) (qh qg y)=(l.set j { l[j]with cg:=y }).flatMap aA
 |x::l,0,_=>by simp[aA]
 |x::l,j+1,h=>by have ih:=QF y l j YV;rw[kbc,List.set_cons_succ,kbc,List.getElem_cons_succ,<-ih];have e:(j+1)*5+4=U (aA x)+(j*5+4):=(by simp[aA];omega);rw[e,List.set_append_right _ _ Ya,Nat.add_sub_cancel_left]
def VL {A:AW}{B:Nat}{p:Addr}{c:Nat}{l:List bp}(y:Int){j:Nat}(jd:dW B A 5 (ql (qf p) (U l) c) (U l) (l.flatMap aA))(hj:j<U l)(hw:A.Wf):
 ∃A',aI qZ A 3 ⟨p.block,p.off+j*5+4,qk⟩ (qh qg y)=qf A'/\dW B A' 5 (ql (qf p) (U l) c) (U l) ((l.set j { l[j]with cg:=y }).flatMap aA)/\A'.Wf/\A'.next=A.next/\(∀i,i≠p.block->A'.bk i=A.bk i)/\p.spot=qk:=by
 rcases jd with ⟨h,_⟩|⟨q,c',bO,e,h2,hs,h3,h4,h5,h6⟩;cases h;injection e with e1 e2 e3;injection e1 with e1;subst e1;refine⟨A.set p.block (qf (.cells (bO.set (p.off+j*5+4) (qh qg y)) qj 5)),?_,?_,hw.set _ (hw.lt h4),rfl,λi hi=>AW.bh hi,hs⟩;have ho:p.off+j*5+4+1<=U bO:=Ya
 simp[aI,h4,Tryz.info3,ZK,ho];refine .inr ⟨p,c,bO.set (p.off+j*5+4) (qh qg y),rfl,by omega,hs,h3,AW.cM,by simpa using h5,?_⟩;rw[<-QF y l j hj,h6];rw[List.drop_set,ar Ya,List.take_set,show p.off+j*5+4-p.off=j*5+4 by omega]
end
def ke (n:Int):Prop:=n=0\/n=1\/n=5\/n=8\/n=11\/n=12
structure Rs (x:bp):Prop where
 e:cQ x=0
 j:x.op=4\/x.op=5\/x.op=6->x.cg=0
 a:x.op=3->ke x.cg
def Fw (b:Bool)(o:Int):Prop:=(o=1\/o=2\/o=3\/o=4\/o=5\/o=6)\/(b=qn/\(o=7\/o=12\/o=13\/o=16\/o=17))\/(b=qj/\(o=8\/o=9\/o=10\/o=11\/o=14\/o=15))
def opN (b:Bool)(o:Int):Bool:=if o=7 then qj else if o=8 then qn else b
inductive pL:List bp->Bool->Prop
 | nil:pL [] false
 | oZ {ps:List bp} {b:Bool} {x:bp}:pL ps b->Rs x->Fw b x.op->pL (ps++[x]) (opN b x.op)
def Wh {p r:List bp}{k:Nat}(h:k<U p):d9 (p++r) k=d9 p k:=by unfold d9;rw[kac h]
def AG {p r:List bp}:∀{k:Nat},k<=U p->bY (p++r) k=bY p k
 |0,_=>rfl
 |k+1,h=>by rw[bY,bY,AG (k:=k) Ya,Wh Ya]
def pL.scan {ps:List bp}{b:Bool}(h:pL ps b):(bY ps (U ps)).isSome=b/\∀k x,ps[k]?=qf x->Rs x/\Fw (bY ps k).isSome x.op:=by
 induction h with
 |nil=>exact⟨rfl,λk x hk=>by simp at hk⟩
 |@oZ ps b x h hx ho ih=>
   obtain⟨h1,h2⟩:=ih;have hk:d9 (ps++[x]) (U ps)=x.op:=m8 Yb;refine⟨?_,λk y hy=>?_⟩
   . rw[Zh,ZO,bY,AG (Za _),hk];unfold opN;cases hs:bY ps (U ps) with
     |none=>rw[hs]at h1;subst h1;by_cases h7:x.op=7;rw[az h7];simp[h7];simp only;rw[ar h7,ar h7];by_cases h8:x.op=8;rw[az h8];rfl;rw[ar h8]
     |some q=>
       rw[hs]at h1;subst h1;have h7:¬x.op=7:=by intro h7;rcases ho with h|⟨h,_⟩|⟨_,h⟩;omega;cases h;omega
       simp only;rw[ar h7];by_cases h8:x.op=8;rw[az h8,az h8];rfl;rw[ar h8,ar h8]
   by_cases hl:k<U ps;rw[kac hl]at hy;rw[AG (Nat.le_of_lt hl)];exact h2 k y hy;have hkl:k<U (ps++[x]):=(Zy.1 hy).1;rw[Zh,ZO]at hkl;have e:k=U ps:=Ya;subst e;rw[List.getElem?_append_right (Za _)]at hy;simp at hy;subst hy;rw[AG (Za _),h1];exact⟨hx,ho⟩
def CO {LC:Nat->Option Nat->Int->Bool}{p:List bp}(h:∀j x,p[j]?=qf x->vQ LC j (bY p j) x=0)(he:bY p (U p)=qk):
 ∀(l:List bp)(k:Nat),p.drop k=l->k<=U p->(jI LC l k (bY p k)).2=0
 |[],k,hd,hk=>by have:U p<=k:=List.drop_eq_nil_iff.1 hd;have e:k=U p:=Ya;subst e;rw[he];rfl
 |x::l,k,hd,hk=>by
   have b9:k<U p:=by rcases ZX k (U p) with h1|h1;exact h1;rw[List.drop_eq_nil_of_le h1]at hd;cases hd
   rw[Z3 b9]at hd;obtain⟨h1,h2⟩:=List.cons.inj hd;have hx:p[k]?=qf x:=(by rw[Zf b9,h1]);have h0:=h k x hx;unfold jI;rw[az h0,Cr hx h0];exact CO h he l (k+1) h2 b9
def jump_ok {p:List bp}{k:Nat}{x:bp}(hx:p[k]?=qf x)(ho:x.op=4\/x.op=5\/x.op=6):fz p k (bY p k) 0=qj:=by
 have b9:k<U p:=(Zy.1 hx).1;have e:=m8 hx;unfold fz;simp only[Int.toNat_zero,Nat.add_zero];rw[ar Ya];cases hs:bY p k with
 |none=>
   simp only[Bool.not_eq_true'];unfold gY;rw[List.any_eq_false];intro b hb;have:=Zr.1 hb;have:decide (k<b)=qn:=by simp;omega
   simp[this]
 |some b=>
   simp only[decide_eq_true_eq];obtain⟨h1,h2,h3⟩:=lG hs;unfold dH;obtain⟨g1,g2,g3,g4⟩:=om (p:=p) (k:=b+1) Ya;rcases ZX (ly p (b+1)) (k+1) with h4|h4;exfalso;have h5:=g4 Ya;rcases ZX (ly p (b+1)) k with h6|h6;exact h3 _ Ya h6 h5;have:ly p (b+1)=k:=Ya
   rw[this,e]at h5;omega;exact h4
def pL.ok {ps:List bp}(h:pL ps qn)(hl:U ps<=64):(b7 ps).2=0:=by
 obtain⟨h1,h2⟩:=h.scan;have he:bY ps (U ps)=qk:=by simpa using h1
 unfold b7;rw[ar Ya];refine CO (λj x hx=>?_) he ps 0 rfl (Zv _);obtain⟨g,o⟩:=h2 j x hx;have ge:=g.e;have gj:=g.j;have hj:=λho=>jump_ok hx ho;revert o hj;generalize bY ps j=sb;intro o hj;unfold vQ;rw[az ge,ar,ar]
 . cases hk:eS x with
   |none=>rfl
   |some n=>obtain⟨k1,k2,k3⟩:=xv hk;simp only;rw[k1,gj k3,az (hj k3)]
 unfold bE;rw[az ge];rcases o with o|⟨ob,o⟩|⟨ob,o⟩;rw[ar Ya,ar Ya];simp;rw[ar Ya,az Ya,ob];simp;rw[az Ya,ob];simp;rcases o with o|⟨ob,o⟩|⟨ob,o⟩;omega;rw[ob];simp;omega;rw[ob];simp;omega
def pL.eu {ps:List bp}{b:Bool}(h:pL ps b):∀x∈ps,x.op=3->ke x.cg:=λx hx h3=>by obtain⟨k,hk⟩:=List.mem_iff_getElem?.1 hx;exact(h.scan.2 k x hk).1.a h3
section
namespace TMdW
def oK [Gl]{A:AW}{L:List It}{T:Prop}(hS:aj A L)(hw:A.Wf)(h':(ba A L/\bB A L/\cd L)=T:=by first|(dsimp only[aa,ah,ba,bB,cd,fw];done)|exact rfl):T:=h'▸hS.fm hw
end TMdW
open TMdW
variable [Gl]
def Nw (op:Int)(n:Nat)(hn:(n:Int)<18446744073709551616):∃x:bp,x.op=op/\(1<=op/\op<=17->Rs x)/\∀A,aE qZ 24 [qh qg op,qh .u64 n] A (λu A'=>u=.agg (aA x).toArray/\A=A'):=by
 obtain⟨va,ha⟩:∃va,Zb.wrap ((n:Int).tmod 4)=va:=⟨_,rfl⟩;obtain⟨vb,hb⟩:∃vb,Zb.wrap (((n:Int) / 4).tmod 4)=vb:=⟨_,rfl⟩;obtain⟨vc,mz⟩:∃vc,Zb.wrap (((n:Int) / 16).tmod 4)=vc:=⟨_,rfl⟩;obtain⟨kk,hk⟩:∃kk,Zb.wrap (((n:Int) / 64).tmod 1024)=kk:=⟨_,rfl⟩;have U3:0<=kk/\kk<1024:=by rw[<-hk,ZU Ya,an Ya Ya];omega
 obtain⟨r7,h7⟩:∃r7,kk.tmod 7=r7:=⟨_,rfl⟩;obtain⟨r6,h6⟩:∃r6,kk.tmod 6=r6:=⟨_,rfl⟩;obtain⟨r5,h5⟩:∃r5,kk.tmod 5=r5:=⟨_,rfl⟩;obtain⟨r3,h3⟩:∃r3,kk.tmod 3=r3:=⟨_,rfl⟩;obtain⟨r2,h2⟩:∃r2,r3.tmod 2=r2:=⟨_,rfl⟩;have h60:0<=r6/\r6<6:=by rw[<-h6,ZU U3.1];omega
 have h30:0<=r3/\r3<3:=by rw[<-h3,ZU U3.1];omega
 obtain⟨r1,h1⟩:∃r1,Zb.wrap (1+r3)=r1:=⟨_,rfl⟩;have hva:0<=va/\va<4:=by rw[<-ha,ZU Ya,an Ya Ya];omega
 have hvb:0<=vb/\vb<4:=by rw[<-hb,ZU Ya,an Ya Ya];omega
 have hvc:0<=vc/\vc<4:=by rw[<-mz,ZU Ya,an Ya Ya];omega
 have h20:0<=r2/\r2<2:=by rw[<-h2,ZU h30.1];omega
 have Qx:1<=r1/\r1<4:=by rw[<-h1,an Ya Ya];omega
 have bZ:∀(A:AW)(v:qi)(o o':dt),v=v->A.le ((A.alloc o).set A.next (qf o')):=λA v o o' _=>by
  refine⟨by simp,λi hi=>?_⟩;have e1:¬i=A.next:=Ya
  have e2:¬A.next=i:=Ya
  simp[AW.cU,AW.bX,e1]
 by_cases o1:op=1
 . subst o1;refine⟨⟨1,va,0,0,r7⟩,rfl,λ_=>⟨by simp[cQ,iB,nI,lF,nH,fV]<;>omega,by simp,by simp[ke]⟩,λA=>aE.wy (dK.agg Yl) (λhw=>?_) Yf⟩;refine aO kaa λ_=>?_;refine W db (Hr ha hb mz hk h7 h5 h3 h2 h1 bL) ?_<;>intros
   all_goals(refine ⟨_,by simp[ja,AW.ab];rfl,by simp[aA],?_⟩;repeat' (first|exact Zu _|refine Z2 ?_ Yj _|refine Z1 ?_ (q8 _ _)))
 by_cases o2:op=2
 . subst o2;refine⟨⟨2,va,vb,0,0⟩,rfl,λ_=>⟨by simp[cQ,iB,nI,lF,nH,fV]<;>omega,by simp,by simp[ke]⟩,λA=>aE.wy (dK.agg Yl) (λhw=>?_) Yf⟩;refine aO kaa λ_=>?_;refine W db (Ls ha hb mz hk h7 h5 h3 h2 h1 o1 bL) ?_<;>intros
   all_goals(refine ⟨_,by simp[ja,AW.ab];rfl,by simp[aA],?_⟩;repeat' (first|exact Zu _|refine Z2 ?_ Yj _|refine Z1 ?_ (q8 _ _)))
 by_cases o3:op=3
 . subst o3;have hr:r6=0\/r6=1\/r6=2\/r6=3\/r6=4\/r6=5:=Ya;rcases hr with rfl|rfl|rfl|rfl|rfl|rfl
   . skip
     refine⟨⟨3,va,vb,vc,0⟩,rfl,λ_=>⟨by simp[cQ,iB,nI,lF,nH,fV]<;>omega,by simp,by simp[ke]⟩,λA=>aE.wy (dK.agg Yl) (λhw=>?_) Yf⟩;refine aO kaa λ_=>?_;refine W db (oP ha hb mz hk h7 h5 h3 h2 h1 h6 o1 o2 bL) ?_<;>intros
     all_goals(refine ⟨_,by simp[ja,AW.ab];rfl,by simp[aA],?_⟩;repeat' (first|exact Zu _|refine Z2 ?_ Yj _|refine Z1 ?_ (q8 _ _)))
   . skip
     refine⟨⟨3,va,vb,vc,1⟩,rfl,λ_=>⟨by simp[cQ,iB,nI,lF,nH,fV]<;>omega,by simp,by simp[ke]⟩,λA=>aE.wy (dK.agg Yl) (λhw=>?_) Yf⟩;refine aO kaa λ_=>?_;refine W db (oP ha hb mz hk h7 h5 h3 h2 h1 h6 o1 o2 bL) ?_<;>intros
     all_goals(refine ⟨_,by simp[ja,AW.ab];rfl,by simp[aA],?_⟩;repeat' (first|exact Zu _|refine Z2 ?_ Yj _|refine Z1 ?_ (q8 _ _)))
   . skip
     refine⟨⟨3,va,vb,vc,5⟩,rfl,λ_=>⟨by simp[cQ,iB,nI,lF,nH,fV]<;>omega,by simp,by simp[ke]⟩,λA=>aE.wy (dK.agg Yl) (λhw=>?_) Yf⟩;refine aO kaa λ_=>?_;refine W db (oP ha hb mz hk h7 h5 h3 h2 h1 h6 o1 o2 bL) ?_<;>intros
     all_goals(refine ⟨_,by simp[ja,AW.ab];rfl,by simp[aA],?_⟩;repeat' (first|exact Zu _|refine Z2 ?_ Yj _|refine Z1 ?_ (q8 _ _)))
   . skip
     refine⟨⟨3,va,vb,vc,8⟩,rfl,λ_=>⟨by simp[cQ,iB,nI,lF,nH,fV]<;>omega,by simp,by simp[ke]⟩,λA=>aE.wy (dK.agg Yl) (λhw=>?_) Yf⟩;refine aO kaa λ_=>?_;refine W db (oP ha hb mz hk h7 h5 h3 h2 h1 h6 o1 o2 bL) ?_<;>intros
     all_goals(refine ⟨_,by simp[ja,AW.ab];rfl,by simp[aA],?_⟩;repeat' (first|exact Zu _|refine Z2 ?_ Yj _|refine Z1 ?_ (q8 _ _)))
   . skip
     refine⟨⟨3,va,vb,vc,11⟩,rfl,λ_=>⟨by simp[cQ,iB,nI,lF,nH,fV]<;>omega,by simp,by simp[ke]⟩,λA=>aE.wy (dK.agg Yl) (λhw=>?_) Yf⟩;refine aO kaa λ_=>?_;refine W db (oP ha hb mz hk h7 h5 h3 h2 h1 h6 o1 o2 bL) ?_<;>intros
     all_goals(refine ⟨_,by simp[ja,AW.ab];rfl,by simp[aA],?_⟩;repeat' (first|exact Zu _|refine Z2 ?_ Yj _|refine Z1 ?_ (q8 _ _)))
   skip
   refine⟨⟨3,va,vb,vc,12⟩,rfl,λ_=>⟨by simp[cQ,iB,nI,lF,nH,fV]<;>omega,by simp,by simp[ke]⟩,λA=>aE.wy (dK.agg Yl) (λhw=>?_) Yf⟩;refine aO kaa λ_=>?_;refine W db (oP ha hb mz hk h7 h5 h3 h2 h1 h6 o1 o2 bL) ?_<;>intros
   all_goals(refine ⟨_,by simp[ja,AW.ab];rfl,by simp[aA],?_⟩;repeat' (first|exact Zu _|refine Z2 ?_ Yj _|refine Z1 ?_ (q8 _ _)))
 by_cases pn:op=10
 . subst pn;refine⟨⟨10,va,vb,0,r5⟩,rfl,λ_=>⟨by simp[cQ,iB,nI,lF,nH,fV]<;>omega,by simp,by simp[ke]⟩,λA=>aE.wy (dK.agg Yl) (λhw=>?_) Yf⟩;refine aO kaa λ_=>?_;refine W db (oP ha hb mz hk h7 h5 h3 h2 h1 o1 o2 o3 bL) ?_<;>intros
   all_goals(refine ⟨_,by simp[ja,AW.ab];rfl,by simp[aA],?_⟩;repeat' (first|exact Zu _|refine Z2 ?_ Yj _|refine Z1 ?_ (q8 _ _)))
 by_cases o11:op=11
 . subst o11;refine⟨⟨11,va,vb,0,r5⟩,rfl,λ_=>⟨by simp[cQ,iB,nI,lF,nH,fV]<;>omega,by simp,by simp[ke]⟩,λA=>aE.wy (dK.agg Yl) (λhw=>?_) Yf⟩;refine aO kaa λ_=>?_;refine W db (y9 ha hb mz hk h7 h5 h3 h2 h1 o1 o2 o3 pn bL) ?_<;>intros
   all_goals(refine ⟨_,by simp[ja,AW.ab];rfl,by simp[aA],?_⟩;repeat' (first|exact Zu _|refine Z2 ?_ Yj _|refine Z1 ?_ (q8 _ _)))
 by_cases o12:op=12
 . subst o12;refine⟨⟨12,va,vb,0,r5⟩,rfl,λ_=>⟨by simp[cQ,iB,nI,lF,nH,fV]<;>omega,by simp,by simp[ke]⟩,λA=>aE.wy (dK.agg Yl) (λhw=>?_) Yf⟩;refine aO kaa λ_=>?_;refine W db (J15 ha hb mz hk h7 h5 h3 h2 h1 o1 o2 o3 pn o11 bL) ?_<;>intros
   all_goals(refine ⟨_,by simp[ja,AW.ab];rfl,by simp[aA],?_⟩;repeat' (first|exact Zu _|refine Z2 ?_ Yj _|refine Z1 ?_ (q8 _ _)))
 by_cases o13:op=13
 . subst o13;refine⟨⟨13,va,vb,0,r5⟩,rfl,λ_=>⟨by simp[cQ,iB,nI,lF,nH,fV]<;>omega,by simp,by simp[ke]⟩,λA=>aE.wy (dK.agg Yl) (λhw=>?_) Yf⟩;refine aO kaa λ_=>?_;refine W db (Rr ha hb mz hk h7 h5 h3 h2 h1 o1 o2 o3 pn o11 o12 bL) ?_<;>intros
   all_goals(refine ⟨_,by simp[ja,AW.ab];rfl,by simp[aA],?_⟩;repeat' (first|exact Zu _|refine Z2 ?_ Yj _|refine Z1 ?_ (q8 _ _)))
 by_cases o14:op=14
 . subst o14;refine⟨⟨14,va,0,0,r2⟩,rfl,λ_=>⟨by simp[cQ,iB,nI,lF,nH,fV]<;>omega,by simp,by simp[ke]⟩,λA=>aE.wy (dK.agg Yl) (λhw=>?_) Yf⟩;refine aO kaa λ_=>?_;refine W db (J17 ha hb mz hk h7 h5 h3 h2 h1 o1 o2 o3 pn o11 o12 o13 bL) ?_<;>intros
   all_goals(refine ⟨_,by simp[ja,AW.ab];rfl,by simp[aA],?_⟩;repeat' (first|exact Zu _|refine Z2 ?_ Yj _|refine Z1 ?_ (q8 _ _)))
 by_cases o15:op=15
 . subst o15;refine⟨⟨15,va,0,0,0⟩,rfl,λ_=>⟨by simp[cQ,iB,nI,lF,nH,fV]<;>omega,by simp,by simp[ke]⟩,λA=>aE.wy (dK.agg Yl) (λhw=>?_) Yf⟩;refine aO kaa λ_=>?_;refine W db (J18 ha hb mz hk h7 h5 h3 h2 h1 o1 o2 o3 pn o11 o12 o13 o14 bL) ?_<;>intros
   all_goals(refine ⟨_,by simp[ja,AW.ab];rfl,by simp[aA],?_⟩;repeat' (first|exact Zu _|refine Z2 ?_ Yj _|refine Z1 ?_ (q8 _ _)))
 by_cases o17:op=17
 . subst o17;refine⟨⟨17,va,0,0,0⟩,rfl,λ_=>⟨by simp[cQ,iB,nI,lF,nH,fV]<;>omega,by simp,by simp[ke]⟩,λA=>aE.wy (dK.agg Yl) (λhw=>?_) Yf⟩;refine aO kaa λ_=>?_;refine W db (J19 ha hb mz hk h7 h5 h3 h2 h1 o1 o2 o3 pn o11 o12 o13 o14 o15 bL) ?_<;>intros
   all_goals(refine ⟨_,by simp[ja,AW.ab];rfl,by simp[aA],?_⟩;repeat' (first|exact Zu _|refine Z2 ?_ Yj _|refine Z1 ?_ (q8 _ _)))
 by_cases o7:op=7
 . subst o7;refine⟨⟨7,0,0,0,r1⟩,rfl,λ_=>⟨by simp[cQ,iB,nI,lF,nH,fV]<;>omega,by simp,by simp[ke]⟩,λA=>aE.wy (dK.agg Yl) (λhw=>?_) Yf⟩;refine aO kaa λ_=>?_;refine W db (J20 ha hb mz hk h7 h5 h3 h2 h1 o1 o2 o3 pn o11 o12 o13 o14 o15 o17 (J1 bL)) ?_<;>intros
   all_goals(refine ⟨_,by simp[ja,AW.ab];rfl,by simp[aA],?_⟩;repeat' (first|exact Zu _|refine Z2 ?_ Yj _|refine Z1 ?_ (q8 _ _)))
 refine⟨⟨op,0,0,0,0⟩,rfl,λho=>?_,λA=>aE.wy (dK.agg Yl) (λhw=>?_) Yf⟩;have ho2:op=4\/op=5\/op=6\/op=8\/op=9\/op=16:=Ya
 rcases ho2 with rfl|rfl|rfl|rfl|rfl|rfl<;>exact⟨by decide,by simp,by simp⟩;refine aO kaa λ_=>?_;refine W db (J20 ha hb mz hk h7 h5 h3 h2 h1 o1 o2 o3 pn o11 o12 o13 o14 o15 o17 (J2 o7 bL)) ?_<;>intros
 all_goals(refine ⟨_,by simp[ja,AW.ab];rfl,by simp[aA],?_⟩;repeat' (first|exact Zu _|refine Z2 ?_ Yj _|refine Z1 ?_ (q8 _ _)))
end
section
namespace TMdY
def oK [Gl]{A:AW}{L:List It}{T:Prop}(hS:aj A L)(hw:A.Wf)(h':(ba A L/\bB A L/\cd L)=T:=by first|(dsimp only[aa,ah,ba,bB,cd,fw];done)|exact rfl):T:=h'▸hS.fm hw
end TMdY
open TMdY
variable [Gl]
structure PJ (A0 A:AW) (vp vj:Value) (ps:List bp) (jl:List Int) (N:Nat):Prop where
 own:dW A0.next A 5 vp ps.length (ps.flatMap aA)
 E2:fW A0.next A .i64 vj jl
 range:∀x∈jl,0<=x/\x<(N:Int)
 QU:∀j,dX vp=some j->dX vj≠some j
 le:A0.le A
 wf:A.Wf
def PJ.grow {A0 A B:AW}{vp vj:qi}{ps:List bp}{jl:List Int}{N:Nat}(h:PJ A0 A vp vj ps jl N)(hl:A.le B)(hw:B.Wf):PJ A0 B vp vj ps jl N:=
 ⟨h.own.le hl h.wf,dW.le hl h.wf h.E2,h.range,h.QU,h.le.trans hl,hw⟩
def PJ.ne {A0 A:AW}{vp vj:qi}{ps:List bp}{jl:List Int}{N:Nat}(h:PJ A0 A vp vj ps jl N){b:Nat}(hb:A.next<=b):dX vp≠qf b/\dX vj≠qf b:=by refine⟨λe=>?_,λe=>?_⟩;have:=h.own.lt h.wf e;omega;have:=dW.lt h.E2 h.wf e;omega
def PJ.SH {A0 A:AW}{vp vj:qi}{ps:List bp}{jl:List Int}(h:PJ A0 A vp vj ps jl (U ps))(hj:U jl<2 ^ 30){b:Nat}{o:dt}(hb:A.bk b=qf o)(fL:dX vp≠qf b/\dX vj≠qf b):
 ∃vj' A',fD qZ (A.alloc (.cells [qh qg (U ps)] qj 1)) 23 23 vj (ql (qf ⟨A.next,0,qk⟩) 1 1)=qf (vj',A')/\PJ A0 A' vp vj' ps (jl++[(U ps:Int)]) (U ps+1)/\A'.bk b=qf o/\dX vp≠qf b:=by have Tb:=h.wf.lt hb;obtain⟨vj',A',e,h2,k⟩:=app_num (U ps:Int) h.E2 hj h.le.next h.wf;refine⟨vj',A',e,⟨h.own.km λj hj=>k.bk j (h.own.lt h.wf hj).2 (h.QU j hj),h2,λx hx=>?_,λj hj BP=>?_,k.le A0 (Za _) h.le,k.wf⟩,?_,fL.1⟩;rcases ZG.1 hx with hx|hx;have:=h.range x hx;omega;simp at hx;omega;rcases k.nF j BP with e2|e2;exact h.QU j hj e2;have:=(h.own.lt h.wf hj).2;omega;rw[k.bk b Tb fL.2,hb]
def PJ.dG {A0 A:AW}{vp vj:qi}{ps:List bp}{jl:List Int}{N:Nat}(h:PJ A0 A vp vj ps jl N)(hn:U ps<2 ^ 30)(x:bp):
 ∃JZ A',fD qZ (A.alloc (.cells (aA x) qj 5)) 30 30 vp (ql (qf ⟨A.next,0,qk⟩) 1 1)=qf (JZ,A')/\PJ A0 A' JZ vj (ps++[x]) jl N:=by
 obtain⟨JZ,A',e,h2,k⟩:=app_ins x h.own hn h.le.next h.wf;refine⟨JZ,A',e,⟨?_,dW.km h.E2 λj hj=>k.bk j (dW.lt h.E2 h.wf hj).2 λe2=>h.QU j e2 hj,h.range,λj hj BP=>?_,k.le A0 (Za _) h.le,k.wf⟩⟩
 simpa[List.flatMap_append]using h2
 rcases k.nF j hj with e2|e2;exact h.QU j e2 BP;have:=(dW.lt h.E2 h.wf BP).2;omega
def PJ.mono {A0 A:AW}{vp vj:qi}{ps:List bp}{jl:List Int}{N M:Nat}(h:PJ A0 A vp vj ps jl N)(hm:N<=M):PJ A0 A vp vj ps jl M:=
 ⟨h.own,h.E2,λx hx=>by have:=h.range x hx;omega,h.QU,h.le,h.wf⟩
def PJ.setImm {A0 A:AW}{p:Addr}{n c:Nat}{vj:qi}{ps:List bp}{jl:List Int}{N:Nat}(y:Int)(h:PJ A0 A (ql (qf p) n c) vj ps jl N)(hn:n=U ps){j:Nat}(hj:j<U ps):
 ∃A',aI qZ A 3 ⟨p.block,p.off+j*5+4,qk⟩ (qh qg y)=qf A'/\PJ A0 A' (ql (qf p) n c) vj (ps.set j { ps[j]with cg:=y }) jl N:=by subst hn;obtain⟨A',e,h2,hw,hn,hg,_⟩:=VL y h.own hj h.wf;have hb:=(h.own.lt h.wf (j:=p.block) rfl).1;refine⟨A',e,⟨?_,dW.km h.E2 λi hi=>hg i λe2=>h.QU p.block rfl (by rw[<-e2];exact hi),h.range,h.QU,⟨by rw[hn];exact h.le.next,λi hi=>?_⟩,hw⟩⟩;rw[ZZ];exact h2;rw[hg i Ya];exact h.le.bk i hi
structure Halt (p:Prop):Prop where
 bk:p
def halt2 {P:qp}{n:Nat}{Q:Exit->Fr->AW->Prop}{a:Fr}{A:AW}{c:Code}(h:Halt (df P n (.block 2 c) Q a A)):df P n (.block 2 c) Q a A:=h.bk
def haltc {P:qp}{n:Nat}{Q:Exit->Fr->AW->Prop}{a:Fr}{A:AW}{c d:Code}(h:Halt (df P n (.cond (.tmp 158) c d) Q a A)):df P n (.cond (.tmp 158) c d) Q a A:=h.bk
def Q4 {P:qp}{n:Nat}{Q:Exit->Fr->AW->Prop}{a:Fr}{A:AW}{x:Code}{K:Fr->AW->Prop}(J:Fr->AW->Prop)(h1:df P n x (aT J Q) a A)(h2:∀a A,J a A->K a A):df P n x (aT K Q) a A:=
 An h1 λe a A h=>by cases e<;>first|exact h2 a A h|exact h
def lY {P:qp}{n:Nat}{id:Nat}{Q:Exit->Fr->AW->Prop}{a:Fr}{A:AW}{x:Code}{K:Fr->AW->Prop}(J:Fr->AW->Prop)(h1:df P n x (b6 id (aT J Q)) a A)(h2:∀a A,J a A->K a A):df P n x (b6 id (aT K Q)) a A:=
 An h1 λe a A h=>by
  cases e with
  |normal=>exact h2 a A h
  |exit k=>simp only[b6]at h ⊢;split at h;rename_i e;rw[az e];exact h2 a A h;rename_i e;rw[ar e];exact h
  |_=>exact h
def yX (ps:List bp)(jl:List Int):Prop:=(∀x∈jl,∃j:Nat,x=(j:Int)/\∃i,ps[j]?=qf i/\i.cg=0/\i.op≠3)/\jl.Nodup
def GU (ps:List bp):Prop:=∀x∈ps,x.op=3->ke x.cg
def yX.nil (ps:List bp):yX ps []:=⟨λx hx=>by(cases hx),List.nodup_nil⟩
def yX.oZ {ps:List bp}{jl:List Int}(h:yX ps jl)(x:bp):yX (ps++[x]) jl:=by refine⟨λy hy=>?_,h.2⟩;obtain⟨j,e,i,h1,h2⟩:=h.1 y hy;have hl:=(Zy.1 h1).1;exact⟨j,e,i,by rw[kac hl];exact h1,h2⟩
def yX.SH {ps:List bp}{jl:List Int}(h:yX ps jl){x:bp}(h0:x.cg=0)(h3:x.op≠3):yX (ps++[x]) (jl++[(U ps:Int)]):=by have h1:=h.oZ x;refine⟨λy hy=>?_,?_⟩;rcases ZG.1 hy with hy|hy;exact h1.1 y hy;rw[ZV]at hy;exact⟨U ps,hy,x,by simp,h0,h3⟩;rw[List.nodup_append];refine⟨h.2,by simp,λa ha b hb=>?_⟩;rw[ZV]at hb;subst hb;obtain⟨j,e,i,g1,_⟩:=h.1 a ha;have hl:=(Zy.1 g1).1;omega
def yX.set {ps:List bp}{j:Nat}{jl:List Int}(h:yX ps ((j:Int)::jl))(y:bp):yX (ps.set j y) jl:=by obtain⟨h1,h2⟩:=h;rw[List.nodup_cons]at h2;refine⟨λx hx=>?_,h2.2⟩;obtain⟨k,e,i,g1,g2⟩:=h1 x (List.mem_cons_of_mem _ hx);have fL:¬j=k:=λe2=>h2.1 (by rw[e2,<-e];exact hx);exact⟨k,e,i,by rw[List.getElem?_set_ne fL];exact g1,g2⟩
def yX.head {ps:List bp}{j:Nat}{jl:List Int}(h:yX ps ((j:Int)::jl))(hj:j<U ps):ps[j].cg=0/\ps[j].op≠3:=by
 obtain⟨k,e,i,g1,g2⟩:=h.1 _ List.mem_cons_self;have:j=k:=Ya
 subst this;rw[Zf hj]at g1;injection g1 with g1;rw[g1];exact g2
def GU.set {ps:List bp}(h:GU ps){j:Nat}{y:bp}(hy:y.op≠3):GU (ps.set j y):=λx hx h3=>by rcases ka6 hx with h1|h1;exact h x h1 h3;subst h1;exact absurd h3 hy
def Rs.setA {a b c r:Int}{o cg:Int}(ho:o=5\/o=6)(h:Rs ⟨o,a,b,c,cg⟩)(hr:0<=r/\r<4):Rs ⟨o,r,b,c,cg⟩:=by obtain⟨h1,h2,h3⟩:=h;refine⟨?_,h2,h3⟩;rcases ho with rfl|rfl;simp[cQ,iB,nI,lF,nH,fV]at h1 ⊢;omega;simp[cQ,iB,nI,lF,nH,fV]at h1 ⊢;omega
def Fw.v {b:Bool}{o:Int}(h:Fw b o):1<=o/\o<=17:=by rcases h with h|⟨_,h⟩|⟨_,h⟩<;>omega
def ON (plain:Bool)(ps:List bp):Prop:=∀x∈ps,1<=x.op/\(plain=qn->x.op≠12/\x.op≠13/\x.op≠16)
def ON.oZ {pl:Bool}{ps:List bp}(h:ON pl ps){x:bp}(h1:1<=x.op)(hx:pl=qn->x.op≠12/\x.op≠13/\x.op≠16):ON pl (ps++[x]):=λy hy=>by rcases ZG.1 hy with h2|h2;exact h y h2;rw[ZV.1 h2];exact⟨h1,hx⟩
def ON.set1 {pl:Bool}{ps:List bp}(h:ON pl ps){j:Nat}(hj:j<U ps)(n:Int):ON pl (ps.set j { ps[j]with cg:=n }):=λy hy=>by rcases ka6 hy with h1|h1;exact h y h1;subst h1;exact h ps[j] (ZP hj)
def PgJ (A0:AW)(ol:Option Addr)(cl:Nat)(l:List Int)(kr:Int)(heap plain:Bool)(i:Nat)(vp vj:qi)(b:Bool)(fr:Fr):Prop:=
 fr 0=ql ol (U l) cl/\fr 1=qh qg kr/\fr 2=qt heap/\fr 3=qt plain/\fr 9=vp/\fr 10=qt b/\fr 11=vj/\fr 12=qh qg i
set_option maxHeartbeats 16000000 in
def Ia (hn:Gl.N=4)(vl:qi)(l:List Int)(kr:Int)(heap plain:Bool)(A:AW)(h:b5 A qg vl l)(hm:0<=kr/\kr<=1000):
 aE qZ 9 [vl,qh qg kr,qt heap,qt plain] A (λu A'=>∃p:List bp,U p<=1001/\dW A.next A' 5 u (U p) (p.flatMap aA)/\A.le A'/\A'.Wf/\(kr<=64->(b7 p).2=0)/\GU p/\ON plain p/\U p<=U l+1):=by
 refine aO Tryz.func9 λhw=>?_;obtain⟨ol,cl,rfl,_⟩:=h.cL;have hws:Zb.wrap (kr-1)=kr-1:=an Ya Ya;revert hw;refine W db db ?_<;>(unhygienic intros);refine lY (λfr A'=>∃(ps:List bp)(jl:List Int)(vp vj:qi)(b:Bool),U ps<=1000/\U jl<=1000/\fr 9=vp/\fr 10=qt b/\fr 11=vj/\PJ A A' vp vj ps jl (U ps)/\pL ps b/\yX ps jl/\((U ps:Int)<=kr-1\/U ps=0)/\ON plain ps/\U ps<=U l) ?_ ?_
 rotate_left
 . rintro fr A'⟨ps,jl,vp,vj,b,UX,wv,g9,jn,i9,hJ,Td,L6,hle0,Qu,hLL⟩
   repeat' (first|(refine lz λR hR=>?_;simp[jn];try simp(disch:=omega)only[az,ar,an,ax])|(refine hR _ _ ?_;clear hR R)|(refine hK _ _ ?_;clear hK K)|refine nx ?_|refine wn λK hK=>?_|simp only[wS]|(refine haltc ?_))
   refine⟨?_⟩;refine Q4 (λfr A'=>∃(ps:List bp)(vp:qi),U ps<=1001/\fr 9=vp/\fr 11=vj/\PJ A A' vp vj ps jl (U ps)/\(kr<=64->(b7 ps).2=0)/\yX ps jl/\GU ps/\ON plain ps/\U ps<=U l+1) ?_ ?_
   . cases b with
     |false=>refine W db (J3 g9 jn i9) ?_<;>intros;exact⟨ps,vp,by omega,by simp[g9],by simp[i9],hJ,λhm6=>Td.ok Ya,L6,Td.eu,Qu,by omega⟩
     |true=>
       obtain⟨JZ,A5,e5,WH⟩:=hJ.dG Ya ⟨8,0,0,0,0⟩;simp only[aA]at e5;refine W db (J4 g9 jn i9 e5) ?_<;>intros;have hG8:pL (ps++[⟨8,0,0,0,0⟩]) qn:=pL.oZ (x:=⟨8,0,0,0,0⟩) Td ⟨by decide,by simp,by simp⟩ (by simp[Fw]);have ND:U ps=0->False:=λe=>by rw[List.eq_nil_of_length_eq_zero e]at Td;have:=Td.scan.1;simp[bY]at this
       exact⟨ps++[⟨8,0,0,0,0⟩],JZ,by simp;omega,by simp,by simp[i9],WH.mono Yb,λhm6=>hG8.ok (by rw[Zh,ZO];rcases hle0 with h1|h1<;>omega),L6.oZ ⟨8,0,0,0,0⟩,λx hx h3=>hG8.eu x hx h3,Qu.oZ Yd λ_=>by decide,by rw[Zh,ZO];omega⟩
   clear hJ g9 jn i9 Td L6 hle0;rintro fr A'⟨ps,vp,UX,g9,i9,hJ,hV,L6,hAl,Qu,hLL⟩;obtain⟨oj,cj,hvj,_⟩:=hJ.E2.is.cL;obtain⟨op,cp,yE,_⟩:=hJ.own.is.cL;subst yE;subst hvj;generalize zJ:U ps=nl at g9 hJ UX hLL;revert hw;refine W db (J2 g9 i9) ?_<;>(unhygienic intros);refine dO (λk fr A'=>∃(i:Nat)(ps:List bp),k=U jl-i/\i<=U jl/\U ps=nl/\fr 9=ql op nl cp/\fr 11=ql oj (U jl) cj/\fr 17=qh qg i/\PJ A A' (ql op nl cp) (ql oj (U jl) cj) ps jl nl/\(kr<=64->(b7 ps).2=0)/\yX ps (jl.drop i)/\GU ps/\ON plain ps) (U jl) ?_ ?_;exact⟨0,ps,rfl,Zv _,zJ,by simp[g9],by simp[i9],by simp,hJ,hV,L6,hAl,Qu⟩;clear zJ hJ g9 i9 hV L6 hAl;rintro k fr A'⟨i,ps,rfl,hi,zJ,g9,i9,OM,hJ,hV,L6,hAl,Qu⟩;by_cases b9:i<U jl;obtain⟨q,bO,pS,bP,hcell⟩:=hJ.E2.is.at b9;subst pS;obtain⟨hr0,P5⟩:=hJ.range jl[i] (ZP b9)
   obtain⟨j,hj⟩:∃j:Nat,jl[i]=(j:Int):=⟨jl[i].toNat,by omega⟩;rw[hj]at hcell P5;have hjn:j<nl:=Ya;rw[Z3 b9,hj]at L6;obtain⟨hz0,hz3⟩:=L6.head (show j<U ps by omega);have ij:=C0 (i:=i);have hpa:∃pa,op=qf pa:=by rcases hJ.own with ⟨e,e2,_⟩|⟨p,c,bO,e,_⟩;omega;injection e with e _ _;exact⟨p,e⟩
   obtain⟨pa,rfl⟩:=hpa;obtain⟨A1,e1,hJ1⟩:=hJ.setImm 1 zJ.symm (show j<U ps by omega);have hal1:GU (ps.set j { ps[j]with cg:=1 }):=hAl.set hz3;have hnp1:ON plain (ps.set j { ps[j]with cg:=1 }):=Qu.set1 _ 1;have hjl1:=L6.set { ps[j]with cg:=1 };have hjl0:=L6.set ps[j];rw[kbk]at hjl0;obtain⟨Po,hps1⟩:∃Po,ps.set j { ps[j]with cg:=1 }=Po:=⟨_,rfl⟩;have hback:∀h:j<U Po,Po.set j { Po[j]with cg:=0 }=ps:=by
    subst hps1;intro h;rw[List.set_set,List.getElem_set_self];have e:({ ({ ps[j]with cg:=1 }:bp) with cg:=0 }:bp)=ps[j]:=by generalize ps[j]=y at hz0;obtain⟨y1,y2,y3,y4,y5⟩:=y;dsimp only at hz0;subst hz0;rfl
    rw[e,kbk]
   rw[hps1]at hJ1 hal1 hjl1 hnp1;have hnl1:U Po=nl:=(by rw[<-hps1,ZZ,zJ]);have cC:=KJ hn (ql (qf pa) nl cp) Po A1 (by have:=hJ1.own.is;unfold lE;rw[hnl1]at this ⊢;exact this);unfold sj at cC;obtain⟨q2,row2,L0,BM,hcell2⟩:=hJ1.E2.is.at b9;injection L0 with L0;subst L0;rw[hj]at hcell2;have cJ:U jl-i=(U jl-(i+1))+1:=Ya;by_cases z:(nN Po).2=0;refine aU ?_;refine W (J1 @cC) (Hr g9 i9 OM b9 ij bP hcell hjn e1 z) ?_<;>intros;exact⟨U jl-(i+1),by omega,i+1,Po,rfl,by omega,hnl1,by simp[g9],by simp[i9],by simp,hJ1,λ_=>by rw[<-check_eq];exact z,hjl1,hal1,hnp1⟩;obtain⟨A2,e2,hJ2⟩:=hJ1.setImm 0 hnl1.symm (show j<U Po by omega);refine aU ?_;refine W (J1 @cC) (oP g9 i9 OM b9 ij bP hcell BM hcell2 hjn e1 e2 z) ?_<;>intros;rw[hback]at hJ2;exact⟨U jl-(i+1),by omega,i+1,ps,rfl,by omega,zJ,by simp[g9],by simp[i9],by simp,hJ2,hV,hjl0,hAl,Qu⟩
   refine aU ?_;refine W db (J4 g9 i9 OM b9) ?_<;>intros;refine⟨_,rfl,ps,by omega,?_,hJ.le,hJ.wf,hV,hAl,Qu,by omega⟩;have:=hJ.own;rw[zJ]at this ⊢;exact this
 refine dO (λk fr A'=>∃(i:Nat)(ps:List bp)(jl:List Int)(vp vj:qi)(b:Bool),k=U l-i/\i<=U l/\i<=1000/\U ps=i/\U jl<=i/\PgJ A ol cl l kr heap plain i vp vj b fr/\PJ A A' vp vj ps jl (U ps)/\pL ps b/\yX ps jl/\((U ps:Int)<=kr-1\/U ps=0)/\ON plain ps) (U l) ?_ ?_;exact⟨0,[],[],_,_,qn,rfl,Zv _,Zv _,rfl,Zv _,⟨rfl,rfl,rfl,rfl,rfl,rfl,rfl,rfl⟩,⟨dW.nil _ _ _,fW.nil _ _ _,by simp,by simp[dX],Zu A,hw⟩,.nil,yX.nil _,.inr rfl,λx hx=>by cases hx⟩;rintro k fr A'⟨i,ps,jl,vp,vj,b,rfl,hi,hi9,UX,wv,⟨g0,g1,g2,g3,g9,jn,i9,rT⟩,hJ,Td,L6,hle0,Qu⟩;obtain⟨op,cp,yE,hcp⟩:=hJ.own.is.cL;have hvp0:=yE;by_cases b9:i<U l
 . by_cases se:(U ps:Int)<kr-1
   . obtain⟨q,bO,pS,bP,hcell⟩:=(h.le hJ.le hw).at b9;subst pS;obtain⟨nn,SW⟩:∃nn:Nat,Zc.wrap l[i]=(nn:Int):=⟨(Zc.wrap l[i]).toNat,by simp only[IntKind.wrap,IntKind.bits,IntKind.signed,Bool.false_and,Bool.false_eq_true,if_false];omega⟩
     have hnn2:(nn:Int)<18446744073709551616:=by rw[<-SW];exact X1
     obtain⟨kd,xh⟩:∃kd,Zb.wrap ((nn:Int).tmod 16)=kd:=⟨_,rfl⟩;have hkd0:0<=kd/\kd<16:=by rw[<-xh,ZU Ya,an Ya Ya];omega
     obtain⟨n1,Hd⟩:∃n1:Nat,(nn:Int) / 16=(n1:Int):=⟨nn / 16,by omega⟩;have hn12:(n1:Int)<18446744073709551616:=Ya;have ij:=C0 (i:=i);have cJ:U l-i=(U l-(i+1))+1:=Ya;refine aU ?_
     repeat' (first|(refine halt2 ?_)|(refine lz λR hR=>?_;simp[g0,g1,g9,rT,yE,b9,se,hws,bP,hcell,SW,xh,Hd];try simp(disch:=omega)only[ax])|(refine hR _ _ ?_;clear hR R)|(refine hK _ _ ?_;clear hK K)|refine nx ?_|refine wn λK hK=>?_|simp only[wS]|(show df _ _ _ _ _ _;refine nx ?_)|(refine wc rfl (λhc=>?_) (λhc=>?_)<;>(try simp at hc)))
     refine⟨?_⟩;refine Q4 (λfr2 A2=>∃(o:Int)(n2:Nat),(n2:Int)<18446744073709551616/\fr2 15=qh qg o/\fr2 13=qh .u64 n2/\PgJ A (qf q) cl l kr heap plain i vp vj b fr2/\A'.le A2/\A2.Wf/\Fw b o/\(plain=qn->o≠12/\o≠13/\o≠16)) ?_ ?_
     . have U2:(n1:Int).tmod 3=((n1 % 3:Nat):Int):=(by rw[ZU Ya];omega);have hm5:(n1:Int).tmod 5=((n1 % 5:Nat):Int):=(by rw[ZU Ya];omega);obtain⟨n3,hd3⟩:∃n3:Nat,(n1:Int) / 3=(n3:Int):=⟨n1 / 3,by omega⟩;obtain⟨n5,hd5⟩:∃n5:Nat,(n1:Int) / 5=(n5:Int):=⟨n1 / 5,by omega⟩;have hr3:n1 % 3=0\/n1 % 3=1\/n1 % 3=2:=Ya;have hr5:n1 % 5=0\/n1 % 5=1\/n1 % 5=2\/n1 % 5=3\/n1 % 5=4:=Ya;have hv3:(n3:Int)<18446744073709551616:=Ya;have hv5:(n5:Int)<18446744073709551616:=Ya;by_cases k1:kd<2
       . rcases hr3 with hr|hr|hr<;>rw[hr]at U2
         . skip
           refine W db (y9 g0 g1 g2 g3 g9 jn i9 rT yE xh k1 U2 hd3 @AW.ab) ?_<;>intros
           all_goals(refine ⟨_,_,?_,rfl,rfl,⟨by simp[g0],by simp[g1],by simp[g2],by simp[g3],by simp[g9],by simp[jn],by simp[i9],by simp[rT]⟩,?_,?_,?_,?_⟩<;>first|exact q8 _ _|exact hJ.wf.alloc _|omega|(simp[Fw];done))
         . skip
           refine W db (y9 g0 g1 g2 g3 g9 jn i9 rT yE xh k1 U2 hd3 @AW.ab) ?_<;>intros
           all_goals(refine ⟨_,_,?_,rfl,rfl,⟨by simp[g0],by simp[g1],by simp[g2],by simp[g3],by simp[g9],by simp[jn],by simp[i9],by simp[rT]⟩,?_,?_,?_,?_⟩<;>first|exact q8 _ _|exact hJ.wf.alloc _|omega|(simp[Fw];done))
         skip
         refine W db (y9 g0 g1 g2 g3 g9 jn i9 rT yE xh k1 U2 hd3 @AW.ab) ?_<;>intros
         all_goals(refine ⟨_,_,?_,rfl,rfl,⟨by simp[g0],by simp[g1],by simp[g2],by simp[g3],by simp[g9],by simp[jn],by simp[i9],by simp[rT]⟩,?_,?_,?_,?_⟩<;>first|exact q8 _ _|exact hJ.wf.alloc _|omega|(simp[Fw];done))
       by_cases k2:kd=2/\0<U ps
       . obtain⟨k2,k3⟩:=k2;subst k2;rcases hr3 with hr|hr|hr<;>rw[hr]at U2
         . skip
           refine W db (y9 g0 g1 g2 g3 g9 jn i9 rT yE xh k3 U2 hd3 @AW.ab) ?_<;>intros
           all_goals(refine ⟨_,_,?_,rfl,rfl,⟨by simp[g0],by simp[g1],by simp[g2],by simp[g3],by simp[g9],by simp[jn],by simp[i9],by simp[rT]⟩,?_,?_,?_,?_⟩<;>first|exact q8 _ _|exact hJ.wf.alloc _|omega|(simp[Fw];done))
         . skip
           refine W db (y9 g0 g1 g2 g3 g9 jn i9 rT yE xh k3 U2 hd3 @AW.ab) ?_<;>intros
           all_goals(refine ⟨_,_,?_,rfl,rfl,⟨by simp[g0],by simp[g1],by simp[g2],by simp[g3],by simp[g9],by simp[jn],by simp[i9],by simp[rT]⟩,?_,?_,?_,?_⟩<;>first|exact q8 _ _|exact hJ.wf.alloc _|omega|(simp[Fw];done))
         skip
         refine W db (y9 g0 g1 g2 g3 g9 jn i9 rT yE xh k3 U2 hd3 @AW.ab) ?_<;>intros
         all_goals(refine ⟨_,_,?_,rfl,rfl,⟨by simp[g0],by simp[g1],by simp[g2],by simp[g3],by simp[g9],by simp[jn],by simp[i9],by simp[rT]⟩,?_,?_,?_,?_⟩<;>first|exact q8 _ _|exact hJ.wf.alloc _|omega|(simp[Fw];done))
       have k3:kd=2->¬0<U ps:=λh1 h2=>k2 ⟨h1,h2⟩;clear k2;cases b with
       |false=>
         cases plain with
         |true=>
           by_cases k4:kd<7
           . rcases hr5 with hr|hr|hr|hr|hr<;>rw[hr]at hm5
             . by_cases k5:kd=2
               . have k6:=k3 k5;subst k5;refine W db (y9 g0 g1 g2 g3 g9 jn i9 rT yE xh k6 hm5 hd5 @AW.ab) ?_<;>intros
                 all_goals(refine ⟨_,_,?_,rfl,rfl,⟨by simp[g0],by simp[g1],by simp[g2],by simp[g3],by simp[g9],by simp[jn],by simp[i9],by simp[rT]⟩,?_,?_,?_,?_⟩<;>first|exact q8 _ _|exact hJ.wf.alloc _|omega|(simp[Fw];done))
               skip
               refine W db (Rr g0 g1 g2 g3 g9 jn i9 rT yE xh k1 k4 k5 hm5 hd5 @AW.ab) ?_<;>intros
               all_goals(refine ⟨_,_,?_,rfl,rfl,⟨by simp[g0],by simp[g1],by simp[g2],by simp[g3],by simp[g9],by simp[jn],by simp[i9],by simp[rT]⟩,?_,?_,?_,?_⟩<;>first|exact q8 _ _|exact hJ.wf.alloc _|omega|(simp[Fw];done))
             . by_cases k5:kd=2
               . have k6:=k3 k5;subst k5;refine W db (y9 g0 g1 g2 g3 g9 jn i9 rT yE xh k6 hm5 hd5 @AW.ab) ?_<;>intros
                 all_goals(refine ⟨_,_,?_,rfl,rfl,⟨by simp[g0],by simp[g1],by simp[g2],by simp[g3],by simp[g9],by simp[jn],by simp[i9],by simp[rT]⟩,?_,?_,?_,?_⟩<;>first|exact q8 _ _|exact hJ.wf.alloc _|omega|(simp[Fw];done))
               skip
               refine W db (Rr g0 g1 g2 g3 g9 jn i9 rT yE xh k1 k4 k5 hm5 hd5 @AW.ab) ?_<;>intros
               all_goals(refine ⟨_,_,?_,rfl,rfl,⟨by simp[g0],by simp[g1],by simp[g2],by simp[g3],by simp[g9],by simp[jn],by simp[i9],by simp[rT]⟩,?_,?_,?_,?_⟩<;>first|exact q8 _ _|exact hJ.wf.alloc _|omega|(simp[Fw];done))
             . by_cases k5:kd=2
               . have k6:=k3 k5;subst k5;refine W db (y9 g0 g1 g2 g3 g9 jn i9 rT yE xh k6 hm5 hd5 @AW.ab) ?_<;>intros
                 all_goals(refine ⟨_,_,?_,rfl,rfl,⟨by simp[g0],by simp[g1],by simp[g2],by simp[g3],by simp[g9],by simp[jn],by simp[i9],by simp[rT]⟩,?_,?_,?_,?_⟩<;>first|exact q8 _ _|exact hJ.wf.alloc _|omega|(simp[Fw];done))
               skip
               refine W db (Rr g0 g1 g2 g3 g9 jn i9 rT yE xh k1 k4 k5 hm5 hd5 @AW.ab) ?_<;>intros
               all_goals(refine ⟨_,_,?_,rfl,rfl,⟨by simp[g0],by simp[g1],by simp[g2],by simp[g3],by simp[g9],by simp[jn],by simp[i9],by simp[rT]⟩,?_,?_,?_,?_⟩<;>first|exact q8 _ _|exact hJ.wf.alloc _|omega|(simp[Fw];done))
             . by_cases k5:kd=2
               . have k6:=k3 k5;subst k5;refine W db (y9 g0 g1 g2 g3 g9 jn i9 rT yE xh k6 hm5 hd5 @AW.ab) ?_<;>intros
                 all_goals(refine ⟨_,_,?_,rfl,rfl,⟨by simp[g0],by simp[g1],by simp[g2],by simp[g3],by simp[g9],by simp[jn],by simp[i9],by simp[rT]⟩,?_,?_,?_,?_⟩<;>first|exact q8 _ _|exact hJ.wf.alloc _|omega|(simp[Fw];done))
               skip
               refine W db (Rr g0 g1 g2 g3 g9 jn i9 rT yE xh k1 k4 k5 hm5 hd5 @AW.ab) ?_<;>intros
               all_goals(refine ⟨_,_,?_,rfl,rfl,⟨by simp[g0],by simp[g1],by simp[g2],by simp[g3],by simp[g9],by simp[jn],by simp[i9],by simp[rT]⟩,?_,?_,?_,?_⟩<;>first|exact q8 _ _|exact hJ.wf.alloc _|omega|(simp[Fw];done))
             by_cases k5:kd=2
             . have k6:=k3 k5;subst k5;refine W db (y9 g0 g1 g2 g3 g9 jn i9 rT yE xh k6 hm5 hd5 @AW.ab) ?_<;>intros
               all_goals(refine ⟨_,_,?_,rfl,rfl,⟨by simp[g0],by simp[g1],by simp[g2],by simp[g3],by simp[g9],by simp[jn],by simp[i9],by simp[rT]⟩,?_,?_,?_,?_⟩<;>first|exact q8 _ _|exact hJ.wf.alloc _|omega|(simp[Fw];done))
             skip
             refine W db (Rr g0 g1 g2 g3 g9 jn i9 rT yE xh k1 k4 k5 hm5 hd5 @AW.ab) ?_<;>intros
             all_goals(refine ⟨_,_,?_,rfl,rfl,⟨by simp[g0],by simp[g1],by simp[g2],by simp[g3],by simp[g9],by simp[jn],by simp[i9],by simp[rT]⟩,?_,?_,?_,?_⟩<;>first|exact q8 _ _|exact hJ.wf.alloc _|omega|(simp[Fw];done))
           have k5:¬kd=2:=Ya;refine W db (y9 g0 g1 g2 g3 g9 jn i9 rT yE xh k1 k4 k5 @AW.ab) (J2 ?_ ?_)<;>intros
           all_goals(refine ⟨_,_,?_,rfl,rfl,⟨by simp[g0],by simp[g1],by simp[g2],by simp[g3],by simp[g9],by simp[jn],by simp[i9],by simp[rT]⟩,?_,?_,?_,?_⟩<;>first|exact Zu _|exact hJ.wf|omega|(simp[Fw];done))
         |false=>
           by_cases k5:kd=2
           . have k6:=k3 k5;subst k5;refine W db (Ay g0 g1 g2 g3 g9 jn i9 rT yE xh k6 @AW.ab) ?_<;>intros
             all_goals(refine ⟨_,_,?_,rfl,rfl,⟨by simp[g0],by simp[g1],by simp[g2],by simp[g3],by simp[g9],by simp[jn],by simp[i9],by simp[rT]⟩,?_,?_,?_,?_⟩<;>first|exact Zu _|exact hJ.wf|omega|(simp[Fw];done))
           skip
           refine W db (oP g0 g1 g2 g3 g9 jn i9 rT yE xh k1 k5 @AW.ab) (J3 ?_ ?_ ?_)<;>intros
           all_goals(refine ⟨_,_,?_,rfl,rfl,⟨by simp[g0],by simp[g1],by simp[g2],by simp[g3],by simp[g9],by simp[jn],by simp[i9],by simp[rT]⟩,?_,?_,?_,?_⟩<;>first|exact Zu _|exact hJ.wf|omega|(simp[Fw];done))
       |true=>
         have hm4:(n1:Int).tmod 4=((n1 % 4:Nat):Int):=(by rw[ZU Ya];omega);by_cases k5:kd=2
         . have k6:=k3 k5;subst k5;refine W db (Ay g0 g1 g2 g3 g9 jn i9 rT yE xh k6 @AW.ab) ?_<;>intros
           all_goals(refine ⟨_,_,?_,rfl,rfl,⟨by simp[g0],by simp[g1],by simp[g2],by simp[g3],by simp[g9],by simp[jn],by simp[i9],by simp[rT]⟩,?_,?_,?_,?_⟩<;>first|exact Zu _|exact hJ.wf|omega|(simp[Fw];done))
         skip
         refine W db (y9 g0 g1 g2 g3 g9 jn i9 rT yE xh k1 k5 hm4 @AW.ab) (J9 ?_ ?_ ?_ ?_ ?_ ?_ ?_ ?_ ?_)<;>intros
         all_goals(refine ⟨_,_,?_,rfl,rfl,⟨by simp[g0],by simp[g1],by simp[g2],by simp[g3],by simp[g9],by simp[jn],by simp[i9],by simp[rT]⟩,?_,?_,?_,?_⟩<;>first|exact Zu _|exact hJ.wf|omega|(simp[Fw];done))
     rintro fr2 A2⟨o,n2,BO,f15,f13,⟨f0,f1,f2,f3,f9,f10,f11,f12⟩,NB,jG,WG,hoP⟩;clear SW hnn2 xh hkd0 Hd hn12 bP hcell;subst yE;obtain⟨x,hx,hIG0,cI⟩:=Nw o n2 BO;have hJ2:=hJ.grow NB jG;obtain⟨ra,Rz⟩:∃ra,Zb.wrap ((n2:Int).tmod 4)=ra:=⟨_,rfl⟩;have hra0:0<=ra/\ra<4:=(by rw[<-Rz,ZU Ya,an Ya Ya];omega);obtain⟨xo,xa,xb,xc,xi⟩:=x;simp only at hx;subst hx;simp only[aA]at cI;have hIG:=hIG0 WG.v;clear hIG0;have hz:∀O O',((A2.alloc O).set A2.next O').Wf:=λO O'=>(jG.alloc O).set _ Yb;by_cases o5:xo=5
     . subst o5;obtain⟨A3,Qw⟩:∃A3,((A2.alloc (.cells [qh qg 0,qh qg 0,qh qg 0,qh qg 0,qh qg 0] qj 1)).set A2.next (qf (.cells [qh qg 5,qh qg xa,qh qg xb,qh qg xc,qh qg xi] qj 1))).set A2.next (qf (.cells [qh qg 5,qh qg ra,qh qg xb,qh qg xc,qh qg xi] qj 1))=A3:=⟨_,rfl⟩;have zN:(A2.alloc (.cells [qh qg 0,qh qg 0,qh qg 0,qh qg 0,qh qg 0] qj 1)).set A2.next (qf (.cells [qh qg 5,qh qg ra,qh qg xb,qh qg xc,qh qg xi] qj 1))=A3:=(by rw[<-Qw,AW.set_set]);have hJ3:PJ A A3 (ql op (U ps) cp) vj ps jl (U ps):=YI;have xl:A3.bk A2.next=qf (.cells [qh qg 5,qh qg ra,qh qg xb,qh qg xc,qh qg xi] qj 1):=YJ;obtain⟨vj',A4,e4,hJ4,AY,-⟩:=hJ3.SH Ya xl (hJ2.ne (Za _));obtain⟨JZ,A5,e5,WH⟩:=hJ4.dG Ya ⟨5,ra,xb,xc,xi⟩
       simp only[aA]at e5
       repeat' (first|(refine lz λR hR=>?_;simp[f9,f11,f12,f13,f15,Rz,ij,AW.ab,aI,Qw,e4,AY,e5];try simp(disch:=omega)only[az,ar,an,ax])|(refine hR _ _ ?_;clear hR R)|(refine hK _ _ ?_;clear hK K)|refine nx ?_|refine wn λK hK=>?_|simp only[wS]|(refine bT (cI _) ?_;rintro _ _⟨rfl,rfl⟩_ _)|(show df _ _ _ _ _ _;refine nx ?_)|(refine wc rfl (λhc=>?_) (λhc=>?_)<;>(try simp at hc)))
       refine⟨U l-(i+1),by omega,i+1,ps++[⟨5,ra,xb,xc,xi⟩],(jl++[(U ps:Int)]),JZ,vj',b,rfl,by omega,by omega,by simp[UX],by (simp;omega),⟨?_,?_,?_,?_,?_,?_,?_,?_⟩,?_,?_,?_,qw YK,Qu.oZ WG.v.1 hoP⟩
       iterate 8 simp[f0,f1,f2,f3,f10]
       exact WH.mono Yb;exact pL.oZ (x:=⟨5,ra,xb,xc,xi⟩) Td (Rs.setA Ya hIG hra0) WG;exact L6.SH (x:=⟨5,ra,xb,xc,xi⟩) (hIG.j Yb) Yb
     by_cases o6:xo=6
     . subst o6;obtain⟨A3,Qw⟩:∃A3,((A2.alloc (.cells [qh qg 0,qh qg 0,qh qg 0,qh qg 0,qh qg 0] qj 1)).set A2.next (qf (.cells [qh qg 6,qh qg xa,qh qg xb,qh qg xc,qh qg xi] qj 1))).set A2.next (qf (.cells [qh qg 6,qh qg ra,qh qg xb,qh qg xc,qh qg xi] qj 1))=A3:=⟨_,rfl⟩;have zN:(A2.alloc (.cells [qh qg 0,qh qg 0,qh qg 0,qh qg 0,qh qg 0] qj 1)).set A2.next (qf (.cells [qh qg 6,qh qg ra,qh qg xb,qh qg xc,qh qg xi] qj 1))=A3:=(by rw[<-Qw,AW.set_set]);have hJ3:PJ A A3 (ql op (U ps) cp) vj ps jl (U ps):=YI;have xl:A3.bk A2.next=qf (.cells [qh qg 6,qh qg ra,qh qg xb,qh qg xc,qh qg xi] qj 1):=YJ;obtain⟨vj',A4,e4,hJ4,AY,-⟩:=hJ3.SH Ya xl (hJ2.ne (Za _));obtain⟨JZ,A5,e5,WH⟩:=hJ4.dG Ya ⟨6,ra,xb,xc,xi⟩
       simp only[aA]at e5
       repeat' (first|(refine lz λR hR=>?_;simp[f9,f11,f12,f13,f15,Rz,ij,AW.ab,aI,Qw,e4,AY,e5,o5];try simp(disch:=omega)only[az,ar,an,ax])|(refine hR _ _ ?_;clear hR R)|(refine hK _ _ ?_;clear hK K)|refine nx ?_|refine wn λK hK=>?_|simp only[wS]|(refine bT (cI _) ?_;rintro _ _⟨rfl,rfl⟩_ _)|(show df _ _ _ _ _ _;refine nx ?_)|(refine wc rfl (λhc=>?_) (λhc=>?_)<;>(try simp at hc)))
       refine⟨U l-(i+1),by omega,i+1,ps++[⟨6,ra,xb,xc,xi⟩],(jl++[(U ps:Int)]),JZ,vj',b,rfl,by omega,by omega,by simp[UX],by (simp;omega),⟨?_,?_,?_,?_,?_,?_,?_,?_⟩,?_,?_,?_,qw YK,Qu.oZ WG.v.1 hoP⟩
       iterate 8 simp[f0,f1,f2,f3,f10]
       exact WH.mono Yb;exact pL.oZ (x:=⟨6,ra,xb,xc,xi⟩) Td (Rs.setA Ya hIG hra0) WG;exact L6.SH (x:=⟨6,ra,xb,xc,xi⟩) (hIG.j Yb) Yb
     by_cases o4:xo=4
     . subst o4;obtain⟨A3,Qw⟩:∃A3,(A2.alloc (.cells [qh qg 0,qh qg 0,qh qg 0,qh qg 0,qh qg 0] qj 1)).set A2.next (qf (.cells [qh qg 4,qh qg xa,qh qg xb,qh qg xc,qh qg xi] qj 1))=A3:=⟨_,rfl⟩;have zN:=Qw;have hJ3:PJ A A3 (ql op (U ps) cp) vj ps jl (U ps):=YI;have xl:A3.bk A2.next=qf (.cells [qh qg 4,qh qg xa,qh qg xb,qh qg xc,qh qg xi] qj 1):=YJ;obtain⟨vj',A4,e4,hJ4,AY,-⟩:=hJ3.SH Ya xl (hJ2.ne (Za _));obtain⟨JZ,A5,e5,WH⟩:=hJ4.dG Ya ⟨4,xa,xb,xc,xi⟩;simp only[aA]at e5
       repeat' (first|(refine lz λR hR=>?_;simp[f9,f11,f12,f13,f15,ij,AW.ab,aI,Qw,e4,AY,e5,o5,o6];try simp(disch:=omega)only[az,ar,an,ax])|(refine hR _ _ ?_;clear hR R)|(refine hK _ _ ?_;clear hK K)|refine nx ?_|refine wn λK hK=>?_|simp only[wS]|(refine bT (cI _) ?_;rintro _ _⟨rfl,rfl⟩_ _)|(show df _ _ _ _ _ _;refine nx ?_)|(refine wc rfl (λhc=>?_) (λhc=>?_)<;>(try simp at hc)))
       refine⟨U l-(i+1),by omega,i+1,ps++[⟨4,xa,xb,xc,xi⟩],(jl++[(U ps:Int)]),JZ,vj',b,rfl,by omega,by omega,by simp[UX],by (simp;omega),⟨?_,?_,?_,?_,?_,?_,?_,?_⟩,?_,?_,?_,qw YK,Qu.oZ WG.v.1 hoP⟩
       iterate 8 simp[f0,f1,f2,f3,f10]
       exact WH.mono Yb;exact pL.oZ (x:=⟨4,xa,xb,xc,xi⟩) Td (hIG) WG;exact L6.SH (x:=⟨4,xa,xb,xc,xi⟩) (hIG.j Yb) Yb
     by_cases o7:xo=7
     . subst o7;obtain⟨A3,Qw⟩:∃A3,(A2.alloc (.cells [qh qg 0,qh qg 0,qh qg 0,qh qg 0,qh qg 0] qj 1)).set A2.next (qf (.cells [qh qg 7,qh qg xa,qh qg xb,qh qg xc,qh qg xi] qj 1))=A3:=⟨_,rfl⟩;have zN:=Qw;have hJ3:PJ A A3 (ql op (U ps) cp) vj ps jl (U ps):=YI;have xl:A3.bk A2.next=qf (.cells [qh qg 7,qh qg xa,qh qg xb,qh qg xc,qh qg xi] qj 1):=YJ;obtain⟨JZ,A5,e5,WH⟩:=hJ3.dG Ya ⟨7,xa,xb,xc,xi⟩;simp only[aA]at e5
       repeat' (first|(refine lz λR hR=>?_;simp[f9,f12,f13,f15,ij,AW.ab,aI,Qw,xl,e5,o5,o6,o4];try simp(disch:=omega)only[az,ar,an,ax])|(refine hR _ _ ?_;clear hR R)|(refine hK _ _ ?_;clear hK K)|refine nx ?_|refine wn λK hK=>?_|simp only[wS]|(refine bT (cI _) ?_;rintro _ _⟨rfl,rfl⟩_ _)|(show df _ _ _ _ _ _;refine nx ?_)|(refine wc rfl (λhc=>?_) (λhc=>?_)<;>(try simp at hc)))
       refine⟨U l-(i+1),by omega,i+1,ps++[⟨7,xa,xb,xc,xi⟩],jl,JZ,vj,qj,rfl,by omega,by omega,by simp[UX],by omega,⟨?_,?_,?_,?_,?_,?_,?_,?_⟩,?_,?_,?_,qw YK,Qu.oZ WG.v.1 hoP⟩
       iterate 8 simp[f0,f1,f2,f3,f11]
       exact WH.mono Yb;exact pL.oZ (x:=⟨7,xa,xb,xc,xi⟩) Td (hIG) WG;exact L6.oZ _
     by_cases o8:xo=8
     . subst o8;obtain⟨A3,Qw⟩:∃A3,(A2.alloc (.cells [qh qg 0,qh qg 0,qh qg 0,qh qg 0,qh qg 0] qj 1)).set A2.next (qf (.cells [qh qg 8,qh qg xa,qh qg xb,qh qg xc,qh qg xi] qj 1))=A3:=⟨_,rfl⟩;have zN:=Qw;have hJ3:PJ A A3 (ql op (U ps) cp) vj ps jl (U ps):=YI;have xl:A3.bk A2.next=qf (.cells [qh qg 8,qh qg xa,qh qg xb,qh qg xc,qh qg xi] qj 1):=YJ;obtain⟨JZ,A5,e5,WH⟩:=hJ3.dG Ya ⟨8,xa,xb,xc,xi⟩;simp only[aA]at e5
       repeat' (first|(refine lz λR hR=>?_;simp[f9,f12,f13,f15,ij,AW.ab,aI,Qw,xl,e5,o5,o6,o4,o7];try simp(disch:=omega)only[az,ar,an,ax])|(refine hR _ _ ?_;clear hR R)|(refine hK _ _ ?_;clear hK K)|refine nx ?_|refine wn λK hK=>?_|simp only[wS]|(refine bT (cI _) ?_;rintro _ _⟨rfl,rfl⟩_ _)|(show df _ _ _ _ _ _;refine nx ?_)|(refine wc rfl (λhc=>?_) (λhc=>?_)<;>(try simp at hc)))
       refine⟨U l-(i+1),by omega,i+1,ps++[⟨8,xa,xb,xc,xi⟩],jl,JZ,vj,qn,rfl,by omega,by omega,by simp[UX],by omega,⟨?_,?_,?_,?_,?_,?_,?_,?_⟩,?_,?_,?_,qw YK,Qu.oZ WG.v.1 hoP⟩
       iterate 8 simp[f0,f1,f2,f3,f11]
       exact WH.mono Yb;exact pL.oZ (x:=⟨8,xa,xb,xc,xi⟩) Td (hIG) WG;exact L6.oZ _
     obtain⟨A3,Qw⟩:∃A3,(A2.alloc (.cells [qh qg 0,qh qg 0,qh qg 0,qh qg 0,qh qg 0] qj 1)).set A2.next (qf (.cells [qh qg xo,qh qg xa,qh qg xb,qh qg xc,qh qg xi] qj 1))=A3:=⟨_,rfl⟩;have zN:=Qw;have hJ3:PJ A A3 (ql op (U ps) cp) vj ps jl (U ps):=YI;have xl:A3.bk A2.next=qf (.cells [qh qg xo,qh qg xa,qh qg xb,qh qg xc,qh qg xi] qj 1):=YJ;obtain⟨JZ,A5,e5,WH⟩:=hJ3.dG Ya ⟨xo,xa,xb,xc,xi⟩;simp only[aA]at e5
     repeat' (first|(refine lz λR hR=>?_;simp[f9,f12,f13,f15,ij,AW.ab,aI,Qw,xl,e5,o5,o6,o4,o7,o8];try simp(disch:=omega)only[az,ar,an,ax])|(refine hR _ _ ?_;clear hR R)|(refine hK _ _ ?_;clear hK K)|refine nx ?_|refine wn λK hK=>?_|simp only[wS]|(refine bT (cI _) ?_;rintro _ _⟨rfl,rfl⟩_ _)|(show df _ _ _ _ _ _;refine nx ?_)|(refine wc rfl (λhc=>?_) (λhc=>?_)<;>(try simp at hc)))
     refine⟨U l-(i+1),by omega,i+1,ps++[⟨xo,xa,xb,xc,xi⟩],jl,JZ,vj,b,rfl,by omega,by omega,by simp[UX],by omega,⟨?_,?_,?_,?_,?_,?_,?_,?_⟩,?_,?_,?_,qw YK,Qu.oZ WG.v.1 hoP⟩
     iterate 8 simp[f0,f1,f2,f3,f10,f11]
     exact WH.mono Yb;have hg:=pL.oZ Td hIG WG;rw[show opN b xo=b by simp[opN,o7,o8]]at hg;exact hg;exact L6.oZ _
   refine aU ?_;refine W db (Ay g0 g1 g2 g3 g9 jn i9 rT yE b9 se hws) ?_<;>intros;exact⟨ps,jl,vp,vj,b,by omega,by omega,by simp[g9,yE],by simp[jn],by simp[i9],hJ,Td,L6,hle0,Qu,by omega⟩
 refine aU ?_;refine W db (Ls g0 g1 g2 g3 g9 jn i9 rT yE b9 hws) ?_<;>intros;exact⟨ps,jl,vp,vj,b,by omega,by omega,by simp[g9,yE],by simp[jn],by simp[i9],hJ,Td,L6,hle0,Qu,by omega⟩
def pe (hn:Gl.N=4)(vl:qi)(l:List Int)(kr:Int)(heap plain:Bool)(A:AW)(h:b5 A qg vl l)(hm:0<=kr/\kr<=1000):
 aE qZ 9 [vl,qh qg kr,qt heap,qt plain] A (λu A'=>∃p:List bp,U p<=1001/\dW A.next A' 5 u (U p) (p.flatMap aA)/\A.le A'/\A'.Wf/\(kr<=64->(b7 p).2=0)/\GU p/\ON plain p):=
 (Ia hn vl l kr heap plain A h hm).mono λu A' ⟨p,h1,h2,h3,h4,h5,h6,h7,_⟩=>⟨p,h1,h2,h3,h4,h5,h6,h7⟩
end
section
namespace TGFbI
def oK [Gl]{A:AW}{L:List It}{T:Prop}(hS:aj A L)(hw:A.Wf)(h':(ba A L/\bB A L/\cd L)=T:=by first|(dsimp only[aa,ah,ba,bB,cd,fw];done)|exact rfl):T:=h'▸hS.fm hw
end TGFbI
open TGFbI
open Go.RowKit
variable [Gl]
def lf:List (List UInt8×List UInt8):=[([110,111,112],[]),([99,111,110,115,116],[65,73]),([109,111,118,101],[65,66]),([],[65,66,67]),([106,117,109,112],[73]),([122,101,114,111],[65,73]),
 ([110,111,110,122,101,114,111],[65,73]),([98,101,103,105,110],[73]),([99,111,109,109,105,116],[]),([97,98,111,114,116],[]),([116,114,101,97,100],[65,66,73]),([116,119,114,105,116,101],[65,66,73]),
 ([112,114,101,97,100],[65,66,73]),([112,119,114,105,116,101],[65,66,73]),([97,108,108,111,99],[65,73]),([102,114,101,101],[65]),([102,101,110,99,101],[]),([111,117,116,99,111,109,101],[65])]
def il:List qi:=lf.flatMap λx=>[qO (bs x.1),qO (bs x.2)]
def lJ (k:Nat):List UInt8:=(lf.getD k ([],[])).2
structure FOK [Gl]:Prop where
 n:Gl.N=4
 ok:Gl.ok 0=true
 forms:∃e fr,Gl.B 0=some (.cells il.toArray e fr)
def WL {k:Nat}(hk:k<18):il[k*2+1]?=qf (qO (bs (lJ k))):=by
 have h:((List.range 18).all λk=>match il[k*2+1]? with|some (qO s)=>decide (s.data.toList=lJ k)|_=>qn)=qj:=Yf
 have:=Zs.1 h k (Zr.2 hk);cases hc:il[k*2+1]? with
 |none=>rw[hc]at this;cases this
 |some v=>
   rw[hc]at this;cases v with
   |string s=>
     have h2:s.data.toList=lJ k:=by simpa using this
     rw[<-h2];rfl
   |_=>cases this
def caps {k:Nat}(hk:k<18):decide (0<=ka2 (lJ k) 65)=nI k/\decide (0<=ka2 (lJ k) 66)=lF k/\decide (0<=ka2 (lJ k) 67)=nH k:=by
 have h:((List.range 18).all λk=>(decide (0<=ka2 (lJ k) 65) == nI k) && (decide (0<=ka2 (lJ k) 66) == lF k) && (decide (0<=ka2 (lJ k) 67) == nH k))=qj:=Yf
 have:=Zs.1 h k (Zr.2 hk);simp only[Bool.and_eq_true,beq_iff_eq]at this;exact⟨this.1.1,this.1.2,this.2⟩
def wh (s:List UInt8)(c:UInt8)(A:AW):AA qZ 163 [qO (bs s),qO ⟨#[c]⟩] A (qt (decide (0<=ka2 s c))):=by
 refine⟨by kernel_rfl,rfl,λm w iE hs hl=>?_⟩;have e2:iE = #[qO (bs s),qO ⟨#[c]⟩]:=by apply Array.ext';obtain⟨v1,l1,h1,h2,h3⟩:=hl.nP;obtain⟨v2,l2,rfl,h4,h5⟩:=h3.nP;rw[h1,h2.pE rfl,h4.pE rfl,h5.tt]
 subst e2;refine(Tryz.strings_Contains_one (bs s) c w).mono ?_;rintro e w'⟨rfl,rfl⟩;exact⟨rfl,⟨λ_ _=>rfl,rfl,rfl,rfl,Za _⟩⟩
def PB (x:bp)(A:AW):aE qZ 164 [.agg (aA x).toArray] A (λu A'=>u=qt (fV x.op x.cg)/\A=A'):=by
 refine aE.wy (V:=qt (fV x.op x.cg)) Yb (λhw=>?_) Yf;refine aO Tryz.func164 λ_=>?_;obtain⟨op,a,b,c,cg⟩:=x;by_cases o1:op=1
 . subst o1;have he:fV 1 cg=qj:=Ys;rw[he];refine W db (J2 @AW.ab @aA.eq_1) ?_<;>intros
   all_goals (simp[aT,aX,bA,aR,aS]<;>exact q8 A _)
 by_cases pn:op=10
 . subst pn;have he:fV 10 cg=qj:=Ys;rw[he];refine W db (J3 o1 @AW.ab @aA.eq_1) ?_<;>intros
   all_goals (simp[aT,aX,bA,aR,aS]<;>exact q8 A _)
 by_cases o11:op=11
 . subst o11;have he:fV 11 cg=qj:=Ys;rw[he];refine W db (J4 o1 pn @AW.ab @aA.eq_1) ?_<;>intros
   all_goals (simp[aT,aX,bA,aR,aS]<;>exact q8 A _)
 by_cases o12:op=12
 . subst o12;have he:fV 12 cg=qj:=Ys;rw[he];refine W db (J5 o1 pn o11 @AW.ab @aA.eq_1) ?_<;>intros
   all_goals (simp[aT,aX,bA,aR,aS]<;>exact q8 A _)
 by_cases o13:op=13
 . subst o13;have he:fV 13 cg=qj:=Ys;rw[he];refine W db (J6 o1 pn o11 o12 @AW.ab @aA.eq_1) ?_<;>intros
   all_goals (simp[aT,aX,bA,aR,aS]<;>exact q8 A _)
 by_cases o3:op=3
 . subst o3;have he:fV 3 cg=(decide (0<=cg) && decide (cg<22)):=Ys;rw[he];by_cases q1:0<=cg
   . by_cases q2:cg<22
     . skip
       refine W db (J9 o1 pn o11 o12 o13 q1 q2 @AW.ab @aA.eq_1) ?_<;>intros
       all_goals (simp[aT,aX,bA,aR,aS,q1,q2]<;>exact q8 A _)
     skip
     refine W db (J9 o1 pn o11 o12 o13 q1 q2 @AW.ab @aA.eq_1) ?_<;>intros
     all_goals (simp[aT,aX,bA,aR,aS,q1,q2]<;>exact q8 A _)
   skip
   refine W db (J8 o1 pn o11 o12 o13 q1 @AW.ab @aA.eq_1) ?_<;>intros
   all_goals (simp[aT,aX,bA,aR,aS,q1]<;>exact q8 A _)
 by_cases o4:op=4
 . subst o4;have he:fV 4 cg=(decide (0<=cg) && decide (cg<=64)):=Ys;rw[he];by_cases q1:0<=cg
   . by_cases q2:cg<=64
     . skip
       refine W db (Hr o1 pn o11 o12 o13 o3 q1 q2 @AW.ab @aA.eq_1) ?_<;>intros
       all_goals (simp[aT,aX,bA,aR,aS,q1,q2]<;>exact q8 A _)
     skip
     refine W db (Hr o1 pn o11 o12 o13 o3 q1 q2 @AW.ab @aA.eq_1) ?_<;>intros
     all_goals (simp[aT,aX,bA,aR,aS,q1,q2]<;>exact q8 A _)
   skip
   refine W db (J9 o1 pn o11 o12 o13 o3 q1 @AW.ab @aA.eq_1) ?_<;>intros
   all_goals (simp[aT,aX,bA,aR,aS,q1]<;>exact q8 A _)
 by_cases o5:op=5
 . subst o5;have he:fV 5 cg=(decide (0<=cg) && decide (cg<=64)):=Ys;rw[he];by_cases q1:0<=cg
   . by_cases q2:cg<=64
     . skip
       refine W db (Ls o1 pn o11 o12 o13 o3 o4 q1 q2 @AW.ab @aA.eq_1) ?_<;>intros
       all_goals (simp[aT,aX,bA,aR,aS,q1,q2]<;>exact q8 A _)
     skip
     refine W db (Ls o1 pn o11 o12 o13 o3 o4 q1 q2 @AW.ab @aA.eq_1) ?_<;>intros
     all_goals (simp[aT,aX,bA,aR,aS,q1,q2]<;>exact q8 A _)
   skip
   refine W db (Hr o1 pn o11 o12 o13 o3 o4 q1 @AW.ab @aA.eq_1) ?_<;>intros
   all_goals (simp[aT,aX,bA,aR,aS,q1]<;>exact q8 A _)
 by_cases o6:op=6
 . subst o6;have he:fV 6 cg=(decide (0<=cg) && decide (cg<=64)):=Ys;rw[he];by_cases q1:0<=cg
   . by_cases q2:cg<=64
     . skip
       refine W db (Ay o1 pn o11 o12 o13 o3 o4 o5 q1 q2 @AW.ab @aA.eq_1) ?_<;>intros
       all_goals (simp[aT,aX,bA,aR,aS,q1,q2]<;>exact q8 A _)
     skip
     refine W db (Ay o1 pn o11 o12 o13 o3 o4 o5 q1 q2 @AW.ab @aA.eq_1) ?_<;>intros
     all_goals (simp[aT,aX,bA,aR,aS,q1,q2]<;>exact q8 A _)
   skip
   refine W db (Ls o1 pn o11 o12 o13 o3 o4 o5 q1 @AW.ab @aA.eq_1) ?_<;>intros
   all_goals (simp[aT,aX,bA,aR,aS,q1]<;>exact q8 A _)
 by_cases o7:op=7
 . subst o7;have he:fV 7 cg=(decide (1<=cg) && decide (cg<=8)):=Ys;rw[he];by_cases q1:1<=cg
   . by_cases q2:cg<=8
     . skip
       refine W db (oP o1 pn o11 o12 o13 o3 o4 o5 o6 q1 q2 @AW.ab @aA.eq_1) ?_<;>intros
       all_goals (simp[aT,aX,bA,aR,aS,q1,q2]<;>exact q8 A _)
     skip
     refine W db (oP o1 pn o11 o12 o13 o3 o4 o5 o6 q1 q2 @AW.ab @aA.eq_1) ?_<;>intros
     all_goals (simp[aT,aX,bA,aR,aS,q1,q2]<;>exact q8 A _)
   skip
   refine W db (Ay o1 pn o11 o12 o13 o3 o4 o5 o6 q1 @AW.ab @aA.eq_1) ?_<;>intros
   all_goals (simp[aT,aX,bA,aR,aS,q1]<;>exact q8 A _)
 by_cases o14:op=14
 . subst o14;have he:fV 14 cg=(decide (0<=cg) && decide (cg<4)):=Ys;rw[he];by_cases q1:0<=cg
   . by_cases q2:cg<4
     . skip
       refine W db (y9 o1 pn o11 o12 o13 o3 o4 o5 o6 o7 q1 q2 @AW.ab @aA.eq_1) ?_<;>intros
       all_goals (simp[aT,aX,bA,aR,aS,q1,q2]<;>exact q8 A _)
     skip
     refine W db (y9 o1 pn o11 o12 o13 o3 o4 o5 o6 o7 q1 q2 @AW.ab @aA.eq_1) ?_<;>intros
     all_goals (simp[aT,aX,bA,aR,aS,q1,q2]<;>exact q8 A _)
   skip
   refine W db (oP o1 pn o11 o12 o13 o3 o4 o5 o6 o7 q1 @AW.ab @aA.eq_1) ?_<;>intros
   all_goals (simp[aT,aX,bA,aR,aS,q1]<;>exact q8 A _)
 have he:fV op cg=decide (cg=0):=by unfold fV;rw[ar Ya,ar o3,ar Ya,ar o7,ar o14]
 rw[he];by_cases q1:cg=0
 . skip
   refine W db (y9 o1 pn o11 o12 o13 o3 o4 o5 o6 o7 o14 q1 @AW.ab @aA.eq_1) ?_<;>intros
   all_goals (simp[aX,bA,aR,aS,q1]<;>exact q8 A _)
 skip
 refine W db (y9 o1 pn o11 o12 o13 o3 o4 o5 o6 o7 o14 q1 @AW.ab @aA.eq_1) ?_<;>intros
 all_goals (simp[aX,bA,aR,aS,q1]<;>exact q8 A _)
end
end Go.Stx
