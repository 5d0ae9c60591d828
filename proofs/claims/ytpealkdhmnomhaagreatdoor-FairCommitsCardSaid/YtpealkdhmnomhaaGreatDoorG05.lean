/-
 The program's check of a program; the commit of a transaction, by both.
-/
import Derived.Test.YtpealkdhmnomhaaGreatDoorG04
set_option linter.unusedVariables false
set_option linter.unusedSimpArgs false
set_option linter.unusedSectionVars false
set_option maxRecDepth 20000
set_option maxHeartbeats 4000000
open Go.IntKind renaming i64->qY
open Go.Proofs.Tryz renaming func68->ZT,prog->qV
open Go.Stx.AW.le renaming alloc->qW,refl->Zl,set->ZG,trans->ZB
open Go.Value renaming oneCell'->Zz
open Int renaming tmod_eq_emod_of_nonneg->ZI
open List renaming drop_eq_getElem_cons->ZU,flatMap_cons->ka1,getElem?_append_left->kaf,getElem?_eq_getElem->q9,getElem?_eq_some_iff->ZC,length_append->Zc,length_singleton->kaw
open Nat renaming le_refl->qZ,lt_or_ge->Z4
open Bool renaming false->qk,true->qg
open Go renaming Value->qd
open Go.IntKind renaming i64->qa
open Go.Stx.eh renaming cells->qi
open Go.Value renaming int->qb,slice->qf
open Option renaming none->qh,some->qc
namespace Go.Stx
open Go Go.Proofs
attribute [local irreducible] TW bI cM aV aB aL cU dh
section
namespace TGFbL
theorem nO [Gl] {A:AW} {L:List It} {T:Prop} (hS:aj A L) (hw:A.Wf) (h':(aW A L/\bz A L/\cd L)=T:=by first|(dsimp only [aa,ah,aW,bz,cd,ff];done)|exact rfl):T:=h'▸hS.eX hw
end TGFbL
open TGFbL
variable [Gl]
set_option maxHeartbeats 8000000 in
theorem sZ (hF:FOK) (v:qd) (p:List bq) (A:AW) (h:li A v p) :
 aB qV 83 [v] A (λu A'=>u=rm (c8 p)/\A=A'):=by
 refine aB.tF (V:=rm (c8 p)) (dB.tuple Yb) (λhw=>?_) Ye;refine aK Tryz.func83 λ_=>?_;obtain⟨o,c,rfl,_⟩:=h.bR;by_cases hL:64<p.length
 . have he:c8 p=(0,3):=(by unfold c8;rw [ay hL]);rw [he];refine W cx (J1 hL) ?_<;>intros
   all_goals (simp [aS,aX,bA,aQ,aR,rm]<;>exact Zl A)
 have hl:p.length<2^30:=Ya
 have he:c8 p=jG (gm p) (p.drop 0) 0 qh:=by unfold c8;rw [aw hL];rfl
 generalize htgt:gm p=Jl at he;generalize c8 p=RR at he ⊢;revert hw;refine W cx (J1 hL) ?_<;>(unhygienic intros)
 refine df (λk fr A'=>A.le A'/\∃(i:Nat) (b:Option Nat),k=p.length-i/\i<=p.length/\(∀d,b=qc d->d<i)/\fr 0=qf o p.length c/\fr 11=qf o p.length c/\fr 12=qb qa p.length/\fr 4=qb qa (fV b)/\fr 13=qb qa i/\
  RR=jG Jl (p.drop i) i b) p.length ?_ ?_
 exact⟨Zl A,0,qh,rfl,Nat.zero_le _,by simp,rfl,rfl,rfl,rfl,rfl,he⟩;rintro k fr A' ⟨GW,i,b,rfl,hi,Aa,h0,H4,JR,h4,N1,he⟩;by_cases bY:i<p.length
 . obtain⟨q,bS,wW,bO,fA,hcell⟩:=(h.le GW hw).at bY;subst wW;have gC:=zd (i:=i);have fz:p.drop i=p[i]::p.drop (i+1):=ZU bY;rw [fz] at he;have cO:=λo o'=>Vq hF _ p i b _ (h.le (GW.trans (AW.le.lQ A' o o')) hw) Ya bY (λd hd=>by have:=Aa d hd;omega);rw [htgt] at cO;generalize p[i]=x at he hcell cO;clear fz;have dZ:=yn hcell;unfold jG at he;generalize hE:wH Jl i b x=E at he cO;generalize hN:Gt i b x=N at he;unfold Gt at hN;obtain⟨op,a,b',c',cy⟩:=x;simp only at hN dZ;simp only [az] at hcell;by_cases e0:E=0;subst e0;rw [ay rfl] at he;by_cases o7:op=7;subst o7;rw [ay rfl] at hN;subst hN;refine aT ?_;refine W (J1 @cO) (vZ h0 h4 H4 JR N1 bO dZ hcell fA bY gC bC) ?_<;>intros;refine⟨p.length-(i+1),by omega,GW.trans (AW.le.lQ A' _ _),i+1,qc i,rfl,by omega,?_,?_,?_,?_,?_,?_,he⟩<;>simp [h0,H4,JR,fV];by_cases o8:op=8;subst o8;rw [aw Yf,ay rfl] at hN;subst hN
   refine aT ?_;refine W (J1 @cO) (vZ h0 h4 H4 JR N1 bO dZ hcell fA bY gC bC) ?_<;>intros;refine⟨p.length-(i+1),by omega,GW.trans (AW.le.lQ A' _ _),i+1,qh,rfl,by omega,?_,?_,?_,?_,?_,?_,he⟩<;>simp [h0,H4,JR,fV];rw [aw o7,aw o8] at hN;subst hN;refine aT ?_;refine W (J1 @cO) (y9 h0 h4 H4 JR N1 bO dZ hcell fA bY gC o7 o8 bC) ?_<;>intros;refine⟨p.length-(i+1),by omega,GW.trans (AW.le.lQ A' _ _),i+1,b,rfl,by omega,λd hd=>Nat.lt_succ_of_lt (Aa d hd),?_,?_,?_,?_,?_,he⟩<;>simp [h0,h4,H4,JR,fV];rw [aw e0] at he;refine aT ?_;refine W (J1 @cO) (mW h0 h4 H4 JR N1 bO dZ hcell fA bY gC e0 bC) ?_<;>intros
   all_goals (simp [cZ,aS,aX,bA,aQ,aR,rm,he]<;>exact GW.trans (AW.le.lQ A' _ _))
 have tD:i=p.length:=Ya
 subst tD;rw [List.drop_length] at he;unfold jG at he;cases b with
 | none=>
   simp only [fV] at h4;refine aT ?_;refine W cx (J6 h0 h4 H4 JR N1 bY) ?_<;>intros
   all_goals (simp [aX,bA,aQ,aR,rm,he]<;>exact GW)
 | some d=>
   simp only [fV] at h4;have xC:¬((d:Int)<0):=Ya;have Au:(0:Int)<=d:=Ya;refine aT ?_;refine W cx (J8 h0 h4 H4 JR N1 bY xC Au) ?_<;>intros
   all_goals (simp [aS,aX,bA,aQ,aR,rm,he]<;>exact GW)
def Dq (p:List bq):Bool:=decide ((c8 p).2=0)
theorem OV (hF:FOK) (v:qd) (p:List bq) (A:AW) (h:li A v p) :
 aB qV 272 [v] A (λu A'=>u=.bool (Dq p)/\A=A'):=by
 refine aK Tryz.func272 λhw=>?_;have cC:=sZ hF v p A h;unfold Dq;unfold rm at cC;by_cases h0:(c8 p).2=0
 . refine W (J1 @cC) (J1 h0) ?_<;>intros
   all_goals simp [aX,bA,aQ,aR,h0]
 refine W (J1 @cC) (J1 h0) ?_<;>intros
 all_goals simp [aX,bA,aQ,aR,h0]
def Fp (p:List bq) (k:Nat):Int:=if Dq p=qg/\eH p k=7 then dL p k else -1
theorem Ol (hF:FOK) (v:qd) (p:List bq) (k:Nat) (A:AW) (h:li A v p) (hk:k<p.length) :
 aB qV 239 [v,qb qa k] A (λu A'=>u=qb qa (Fp p k)/\A=A'):=by
 refine aK Tryz.func239 λhw=>?_;have cV:=OV hF v p A h;unfold Fp;cases hv:Dq p with
 | false=>
   rw [hv] at cV;obtain⟨o,c,rfl,_⟩:=h.bR;refine W (J1 @cV) (J1 hk) ?_<;>intros
   all_goals simp [aS,aX,bA,aQ,aR]
 | true=>
   rw [hv] at cV;have hl:p.length<=64:=(ia (p:=p) (by simpa [Dq] using hv)).1;have cE:=yJ v p k A h Ya hk;obtain⟨o,c,rfl,_⟩:=h.bR;obtain⟨q,bS,wW,bO,fA,hcell⟩:=h.at hk;subst wW;have dZ:=yn hcell;have ho:eH p k=p[k].op:=mE (q9 hk);rw [ho];by_cases h7:p[k].op=7
   . refine W (J2 @cV @cE) (J5 hk bO dZ fA h7) ?_<;>intros
     all_goals simp [aX,bA,aQ,aR,h7]
   refine W (J2 @cV @cE) (J5 hk bO dZ fA h7) ?_<;>intros
   all_goals simp [aS,aX,bA,aQ,aR,h7]
end
section
namespace TGFbW
theorem nO [Gl] {A:AW} {L:List It} {T:Prop} (hS:aj A L) (hw:A.Wf) (h':(aW A L/\bz A L/\cd L)=T:=by first|(dsimp only [aa,ah,aW,bz,cd,ff];done)|exact rfl):T:=h'▸hS.eX hw
end TGFbW
open TGFbW
variable [Gl]
end
section
variable [Gl]
theorem dV.iM {B:Nat} {A A':AW} {size:Nat} {v:qd} {n:Nat} {cs:List qd} (h:dV B A size v n cs) (he:∀j,ep v=qc j->A'.bk j=A.bk j):dV B A' size v n cs:=by
 rcases h with h|⟨p,c,bS,rfl,h2,hs,h3,h4,h5⟩;exact .inl h;exact .inr ⟨p,c,bS,rfl,h2,hs,h3,(he _ rfl).trans h4,h5⟩
theorem dV.lt {B:Nat} {A:AW} {size:Nat} {v:qd} {n:Nat} {cs:List qd} (h:dV B A size v n cs) (hw:A.Wf) {j:Nat} (hj:ep v=qc j):B<=j/\j<A.next:=by
 rcases h with ⟨rfl,_⟩|⟨p,c,bS,rfl,h2,hs,h3,h4,h5⟩;cases hj;injection hj with hj;subst hj;exact⟨h3,hw.lt h4⟩
structure Q3 (B:Nat) (A A':AW) (v v':Value):Prop where
 le:∀A0:AW,A0.next<=B->A0.le A->A0.le A'
 wf:A'.Wf
 next:A.next<=A'.next
 bk:∀j,j<A.next->ep v≠some j->A'.bk j=A.bk j
 mR:∀j,ep v'=some j->ep v=some j\/A.next<=j
theorem Sc {A:AW} {B:Nat} {v:qd} {n:Nat} {cs:List qd} (x:bq) (iz:dV B A 5 v n cs) (hn:n<2 ^ 30) (hB:B<=A.next) (hw:A.Wf) :
 ∃v' A',fI qV (A.alloc (qi (az x) qg 5)) 76 76 v (qf (qc ⟨A.next,0,qh⟩) 1 1)=qc (v',A')/\dV B A' 5 v' (n+1) (cs++az x)/\Q3 B A A' v v':=by
 have Cw:=dV.le (qW A (qi (az x) qg 5)) hw iz;have jI:gN (A.alloc (qi (az x) qg 5)) 5 (qf (qc ⟨A.next,0,qh⟩) 1 1)=qc (1,az x):=by
  simp [gN,AW.bS,az]
 obtain⟨v',A',h1,h2,h3,h4,h5,h6,h7⟩:=km (P:=qV) (size:=5) (t:=76) Tryz.underlying76 Tryz.info75 Tryz.zero75 rfl rfl Ya Cw jI (by simp [az,Zz]) Ya (by show (n+1)*40<=140737488355328;omega) Y0 (hw.alloc _);refine⟨v',A',h1,h2,λA0 ha hl=>h3 A0 ha (hl.trans (qW A _)),h4,by rw [AW.be] at h5;omega,λj hj gZ=>?_,λj hj=>?_⟩;rw [h6 j Yg gZ,AW.gl _ _ Ya];rcases h7 with rfl|h7;exact .inl hj;rw [h7] at hj;injection hj with hj;simp at hj;exact .inr Ya
theorem app_num {A:AW} {B:Nat} {v:qd} {l:List Int} (y:Int) (iz:eE B A qa v l) (hn:l.length<2 ^ 30) (hB:B<=A.next) (hw:A.Wf) :
 ∃v' A',fI qV (A.alloc (qi [qb qa y] qg 1)) 24 24 v (qf (qc ⟨A.next,0,qh⟩) 1 1)=qc (v',A')/\eE B A' qa v' (l++[y])/\Q3 B A A' v v':=by
 have Cw:=dV.le (qW A (qi [qb qa y] qg 1)) hw iz;have jI:gN (A.alloc (qi [qb qa y] qg 1)) 1 (qf (qc ⟨A.next,0,qh⟩) 1 1)=qc (1,[qb qa y]):=by
  simp [gN,AW.bS]
 obtain⟨v',A',h1,h2,h3,h4,h5,h6,h7⟩:=km (P:=qV) (size:=1) (t:=24) Tryz.underlying24 Tryz.info3 Tryz.zero3 rfl rfl Ya Cw jI (by simp [Zz]) Ya (by show (l.length+1)*8<=140737488355328;omega) Y0 (hw.alloc _);refine⟨v',A',h1,by unfold eE;simpa using h2,λA0 ha hl=>h3 A0 ha (hl.trans (qW A _)),h4,by rw [AW.be] at h5;omega,λj hj gZ=>?_,λj hj=>?_⟩;rw [h6 j Yg gZ,AW.gl _ _ Ya];rcases h7 with rfl|h7;exact .inl hj;rw [h7] at hj;injection hj with hj;simp at hj;exact .inr Ya
theorem Oa (y:Int):∀(l:List bq) (j:Nat) (hj:j<l.length),(l.flatMap az).set (j*5+4) (qb qa y)=(l.set j { l[j] with cy:=y }).flatMap az
 | x::l,0,_=>by
   simp [az]
 | x::l,j+1,h=>by
   have ih:=Oa y l j (by simpa using h);rw [ka1,List.set_cons_succ,ka1,List.getElem_cons_succ,<-ih];have e:(j+1)*5+4=(az x).length+(j*5+4):=(by simp [az];omega);rw [e,List.set_append_right _ _ Ya,Nat.add_sub_cancel_left]
theorem Sz {A:AW} {B:Nat} {p:Addr} {c:Nat} {l:List bq} (y:Int) {j:Nat} (iz:dV B A 5 (qf (qc p) l.length c) l.length (l.flatMap az)) (hj:j<l.length) (hw:A.Wf) :
 ∃A',aG qV A 3 ⟨p.block,p.off+j*5+4,qh⟩ (qb qa y)=qc A'/\dV B A' 5 (qf (qc p) l.length c) l.length ((l.set j { l[j] with cy:=y }).flatMap az)/\A'.Wf/\A'.next=A.next/\(∀i,i≠p.block->A'.bk i=A.bk i)/\p.spot=qh:=by
 rcases iz with ⟨h,_⟩|⟨q,c',bS,e,h2,hs,h3,h4,h5,h6⟩;cases h;injection e with e1 e2 e3;injection e1 with e1;subst e1;refine⟨A.set p.block (qc (qi (bS.set (p.off+j*5+4) (qb qa y)) qg 5)),?_,?_,hw.set _ (hw.lt h4),rfl,λi hi=>AW.aZ hi,hs⟩;have ho:p.off+j*5+4+1<=bS.length:=Ya
 simp [aG,h4,Tryz.info3,Zz,ho];refine .inr ⟨p,c,bS.set (p.off+j*5+4) (qb qa y),rfl,by omega,hs,h3,AW.bV,by simpa using h5,?_⟩;rw [<-Oa y l j hj,h6];rw [List.drop_set,aw Ya,List.take_set,show p.off+j*5+4-p.off=j*5+4 by omega]
end
def kX (n:Int):Prop:=n=0\/n=1\/n=5\/n=8\/n=11\/n=12
structure OH (x:bq):Prop where
 e:cW x=0
 j:x.op=4\/x.op=5\/x.op=6->x.cy=0
 a:x.op=3->kX x.cy
def DX (b:Bool) (o:Int):Prop:=(o=1\/o=2\/o=3\/o=4\/o=5\/o=6)\/(b=qk/\(o=7\/o=12\/o=13\/o=16\/o=17))\/(b=qg/\(o=8\/o=9\/o=10\/o=11\/o=14\/o=15))
def opN (b:Bool) (o:Int):Bool:=if o=7 then qg else if o=8 then qk else b
inductive oV:List bq->Bool->Prop
 | nil:oV [] false
 | zM {ps:List bq} {b:Bool} {x:bq}:oV ps b->OH x->DX b x.op->oV (ps++[x]) (opN b x.op)
theorem Te {p r:List bq} {k:Nat} (h:k<p.length):eH (p++r) k=eH p k:=by
 unfold eH;rw [kaf h]
theorem zj {p r:List bq}:∀{k:Nat},k<=p.length->cD (p++r) k=cD p k
 | 0,_=>rfl
 | k+1,h=>by
   rw [cD,cD,zj (k:=k) Ya,Te Ya]
theorem oV.scan {ps:List bq} {b:Bool} (h:oV ps b):(cD ps ps.length).isSome=b/\∀k x,ps[k]? = qc x->OH x/\DX (cD ps k).isSome x.op:=by
 induction h with
 | nil=>exact⟨rfl,λk x hk=>by simp at hk⟩
 | @zM ps b x h hx ho ih=>
   obtain⟨h1,h2⟩:=ih;have hk:eH (ps++[x]) ps.length=x.op:=mE Yb;refine⟨?_,λk y hy=>?_⟩
   . rw [Zc,kaw,cD,zj (qZ _),hk];unfold opN;cases hs:cD ps ps.length with
     | none=>
       rw [hs] at h1;subst h1;by_cases h7:x.op=7;rw [ay h7];simp [h7];simp only;rw [aw h7,aw h7];by_cases h8:x.op=8;rw [ay h8];rfl;rw [aw h8]
     | some q=>
       rw [hs] at h1;subst h1;have h7:¬x.op=7:=by
        intro h7;rcases ho with h|⟨h,_⟩|⟨_,h⟩;omega;cases h;omega
       simp only;rw [aw h7];by_cases h8:x.op=8;rw [ay h8,ay h8];rfl;rw [aw h8,aw h8]
   by_cases hl:k<ps.length;rw [kaf hl] at hy;rw [zj (Nat.le_of_lt hl)];exact h2 k y hy;have hkl:k<(ps++[x]).length:=(ZC.1 hy).1;rw [Zc,kaw] at hkl;have e:k=ps.length:=Ya;subst e;rw [List.getElem?_append_right (qZ _)] at hy;simp at hy;subst hy;rw [zj (qZ _),h1];exact⟨hx,ho⟩
theorem Hu {Jl:Nat->Option Nat->Int->Bool} {p:List bq} (h:∀j x,p[j]? = qc x->wH Jl j (cD p j) x=0) (he:cD p p.length=qh) :
 ∀(l:List bq) (k:Nat),p.drop k=l->k<=p.length->(jG Jl l k (cD p k)).2=0
 | [],k,hd,hk=>by
   have:p.length<=k:=List.drop_eq_nil_iff.1 hd;have e:k=p.length:=Ya;subst e;rw [he];rfl
 | x::l,k,hd,hk=>by
   have bY:k<p.length:=by
    rcases Z4 k p.length with h1|h1;exact h1;rw [List.drop_eq_nil_of_le h1] at hd;cases hd
   rw [ZU bY] at hd;obtain⟨h1,h2⟩:=List.cons.inj hd;have hx:p[k]? = qc x:=(by rw [q9 bY,h1]);have h0:=h k x hx;unfold jG;rw [ay h0,A9 hx h0];exact Hu h he l (k+1) h2 bY
theorem jump_ok {p:List bq} {k:Nat} {x:bq} (hx:p[k]? = qc x) (ho:x.op=4\/x.op=5\/x.op=6):gm p k (cD p k) 0=qg:=by
 have bY:k<p.length:=(ZC.1 hx).1;have e:=mE hx;unfold gm;simp only [Int.toNat_zero,Nat.add_zero];rw [aw Ya];cases hs:cD p k with
 | none=>
   simp only [Bool.not_eq_true'];unfold iE;rw [List.any_eq_false];intro b hb;have:=List.mem_range.1 hb;have:decide (k<b)=qk:=by simp;omega
   simp [this]
 | some b=>
   simp only [decide_eq_true_eq];obtain⟨h1,h2,h3⟩:=ll hs;unfold dL;obtain⟨g1,g2,g3,g4⟩:=nC (p:=p) (k:=b+1) Ya;rcases Z4 (ml p (b+1)) (k+1) with h4|h4;exfalso;have h5:=g4 Ya;rcases Z4 (ml p (b+1)) k with h6|h6;exact h3 _ Ya h6 h5;have:ml p (b+1)=k:=Ya
   rw [this,e] at h5;omega;exact h4
theorem oV.ok {ps:List bq} (h:oV ps qk) (hl:ps.length<=64):(c8 ps).2=0:=by
 obtain⟨h1,h2⟩:=h.scan;have he:cD ps ps.length=qh:=by simpa using h1
 unfold c8;rw [aw Ya];refine Hu (λj x hx=>?_) he ps 0 rfl (Nat.zero_le _);obtain⟨g,o⟩:=h2 j x hx;have ge:=g.e;have gj:=g.j;have hj:=λho=>jump_ok hx ho;revert o hj;generalize cD ps j=sb;intro o hj;unfold wH;rw [ay ge,aw,aw]
 . cases hk:eL x with
   | none=>rfl
   | some n=>
     obtain⟨k1,k2,k3⟩:=wh hk;simp only;rw [k1,gj k3,ay (hj k3)]
 unfold bH;rw [ay ge];rcases o with o|⟨ob,o⟩|⟨ob,o⟩;rw [aw Ya,aw Ya];simp;rw [aw Ya,ay Ya,ob];simp;rw [ay Ya,ob];simp;rcases o with o|⟨ob,o⟩|⟨ob,o⟩;omega;rw [ob];simp;omega;rw [ob];simp;omega
theorem oV.ez {ps:List bq} {b:Bool} (h:oV ps b):∀x∈ps,x.op=3->kX x.cy:=λx hx h3=>by
 obtain⟨k,hk⟩:=List.mem_iff_getElem?.1 hx;exact(h.scan.2 k x hk).1.a h3
section
namespace TMdW
theorem nO [Gl] {A:AW} {L:List It} {T:Prop} (hS:aj A L) (hw:A.Wf) (h':(aW A L/\bz A L/\cd L)=T:=by first|(dsimp only [aa,ah,aW,bz,cd,ff];done)|exact rfl):T:=h'▸hS.eX hw
end TMdW
open TMdW
variable [Gl]
theorem Ll (op:Int) (n:Nat) (hn:(n:Int)<18446744073709551616):∃x:bq,x.op=op/\(1<=op/\op<=17->OH x)/\∀A,aB qV 68 [qb qa op,qb .u64 n] A (λu A'=>u=.agg (az x).toArray/\A=A'):=by
 obtain⟨va,ha⟩:∃va,qY.wrap ((n:Int).tmod 4)=va:=⟨_,rfl⟩;obtain⟨vb,hb⟩:∃vb,qY.wrap (((n:Int) / 4).tmod 4)=vb:=⟨_,rfl⟩;obtain⟨vc,mg⟩:∃vc,qY.wrap (((n:Int) / 16).tmod 4)=vc:=⟨_,rfl⟩;obtain⟨kk,hk⟩:∃kk,qY.wrap (((n:Int) / 64).tmod 1024)=kk:=⟨_,rfl⟩;have NU:0<=kk/\kk<1024:=by
  rw [<-hk,ZI Ya,af Ya Ya];omega
 obtain⟨r7,h7⟩:∃r7,kk.tmod 7=r7:=⟨_,rfl⟩;obtain⟨r6,h6⟩:∃r6,kk.tmod 6=r6:=⟨_,rfl⟩;obtain⟨r5,h5⟩:∃r5,kk.tmod 5=r5:=⟨_,rfl⟩;obtain⟨r3,h3⟩:∃r3,kk.tmod 3=r3:=⟨_,rfl⟩;obtain⟨r2,h2⟩:∃r2,r3.tmod 2=r2:=⟨_,rfl⟩;have h60:0<=r6/\r6<6:=by rw [<-h6,ZI NU.1];omega
 have h30:0<=r3/\r3<3:=by rw [<-h3,ZI NU.1];omega
 obtain⟨r1,h1⟩:∃r1,qY.wrap (1+r3)=r1:=⟨_,rfl⟩;have hva:0<=va/\va<4:=by rw [<-ha,ZI Ya,af Ya Ya];omega
 have hvb:0<=vb/\vb<4:=by rw [<-hb,ZI Ya,af Ya Ya];omega
 have hvc:0<=vc/\vc<4:=by rw [<-mg,ZI Ya,af Ya Ya];omega
 have h20:0<=r2/\r2<2:=by rw [<-h2,ZI h30.1];omega
 have Qi:1<=r1/\r1<4:=by rw [<-h1,af Ya Ya];omega
 have bX:∀(A:AW) (v:qd) (o o':eh),v=v->A.le ((A.alloc o).set A.next (qc o')):=λA v o o' _=>by
  refine⟨by simp,λi hi=>?_⟩;have e1:¬i=A.next:=Ya
  have e2:¬A.next=i:=Ya
  simp [AW.du,AW.dx,e1]
 by_cases o1:op=1
 . subst o1;refine⟨⟨1,va,0,0,r7⟩,rfl,λ_=>⟨by simp [cW,ip,mZ,lj,mY,fG]<;>omega,by simp,by simp [kX]⟩,λA=>aB.tF (dB.agg Yl) (λhw=>?_) Ye⟩;refine aK ZT λ_=>?_;refine W cx (E5 ha hb mg hk h7 h5 h3 h2 h1 bC) ?_<;>intros
   all_goals(refine ⟨_,by simp [ir,AW.ab];rfl,by simp [az],?_⟩;repeat' (first|exact Zl _|refine ZG ?_ Yi _|refine ZB ?_ (qW _ _)))
 by_cases o2:op=2
 . subst o2;refine⟨⟨2,va,vb,0,0⟩,rfl,λ_=>⟨by simp [cW,ip,mZ,lj,mY,fG]<;>omega,by simp,by simp [kX]⟩,λA=>aB.tF (dB.agg Yl) (λhw=>?_) Ye⟩;refine aK ZT λ_=>?_;refine W cx (H7 ha hb mg hk h7 h5 h3 h2 h1 o1 bC) ?_<;>intros
   all_goals(refine ⟨_,by simp [ir,AW.ab];rfl,by simp [az],?_⟩;repeat' (first|exact Zl _|refine ZG ?_ Yi _|refine ZB ?_ (qW _ _)))
 by_cases o3:op=3
 . subst o3;have hr:r6=0\/r6=1\/r6=2\/r6=3\/r6=4\/r6=5:=Ya;rcases hr with rfl|rfl|rfl|rfl|rfl|rfl
   . skip
     refine⟨⟨3,va,vb,vc,0⟩,rfl,λ_=>⟨by simp [cW,ip,mZ,lj,mY,fG]<;>omega,by simp,by simp [kX]⟩,λA=>aB.tF (dB.agg Yl) (λhw=>?_) Ye⟩;refine aK ZT λ_=>?_;refine W cx (mW ha hb mg hk h7 h5 h3 h2 h1 h6 o1 o2 bC) ?_<;>intros
     all_goals(refine ⟨_,by simp [ir,AW.ab];rfl,by simp [az],?_⟩;repeat' (first|exact Zl _|refine ZG ?_ Yi _|refine ZB ?_ (qW _ _)))
   . skip
     refine⟨⟨3,va,vb,vc,1⟩,rfl,λ_=>⟨by simp [cW,ip,mZ,lj,mY,fG]<;>omega,by simp,by simp [kX]⟩,λA=>aB.tF (dB.agg Yl) (λhw=>?_) Ye⟩;refine aK ZT λ_=>?_;refine W cx (mW ha hb mg hk h7 h5 h3 h2 h1 h6 o1 o2 bC) ?_<;>intros
     all_goals(refine ⟨_,by simp [ir,AW.ab];rfl,by simp [az],?_⟩;repeat' (first|exact Zl _|refine ZG ?_ Yi _|refine ZB ?_ (qW _ _)))
   . skip
     refine⟨⟨3,va,vb,vc,5⟩,rfl,λ_=>⟨by simp [cW,ip,mZ,lj,mY,fG]<;>omega,by simp,by simp [kX]⟩,λA=>aB.tF (dB.agg Yl) (λhw=>?_) Ye⟩;refine aK ZT λ_=>?_;refine W cx (mW ha hb mg hk h7 h5 h3 h2 h1 h6 o1 o2 bC) ?_<;>intros
     all_goals(refine ⟨_,by simp [ir,AW.ab];rfl,by simp [az],?_⟩;repeat' (first|exact Zl _|refine ZG ?_ Yi _|refine ZB ?_ (qW _ _)))
   . skip
     refine⟨⟨3,va,vb,vc,8⟩,rfl,λ_=>⟨by simp [cW,ip,mZ,lj,mY,fG]<;>omega,by simp,by simp [kX]⟩,λA=>aB.tF (dB.agg Yl) (λhw=>?_) Ye⟩;refine aK ZT λ_=>?_;refine W cx (mW ha hb mg hk h7 h5 h3 h2 h1 h6 o1 o2 bC) ?_<;>intros
     all_goals(refine ⟨_,by simp [ir,AW.ab];rfl,by simp [az],?_⟩;repeat' (first|exact Zl _|refine ZG ?_ Yi _|refine ZB ?_ (qW _ _)))
   . skip
     refine⟨⟨3,va,vb,vc,11⟩,rfl,λ_=>⟨by simp [cW,ip,mZ,lj,mY,fG]<;>omega,by simp,by simp [kX]⟩,λA=>aB.tF (dB.agg Yl) (λhw=>?_) Ye⟩;refine aK ZT λ_=>?_;refine W cx (mW ha hb mg hk h7 h5 h3 h2 h1 h6 o1 o2 bC) ?_<;>intros
     all_goals(refine ⟨_,by simp [ir,AW.ab];rfl,by simp [az],?_⟩;repeat' (first|exact Zl _|refine ZG ?_ Yi _|refine ZB ?_ (qW _ _)))
   skip
   refine⟨⟨3,va,vb,vc,12⟩,rfl,λ_=>⟨by simp [cW,ip,mZ,lj,mY,fG]<;>omega,by simp,by simp [kX]⟩,λA=>aB.tF (dB.agg Yl) (λhw=>?_) Ye⟩;refine aK ZT λ_=>?_;refine W cx (mW ha hb mg hk h7 h5 h3 h2 h1 h6 o1 o2 bC) ?_<;>intros
   all_goals(refine ⟨_,by simp [ir,AW.ab];rfl,by simp [az],?_⟩;repeat' (first|exact Zl _|refine ZG ?_ Yi _|refine ZB ?_ (qW _ _)))
 by_cases oE:op=10
 . subst oE;refine⟨⟨10,va,vb,0,r5⟩,rfl,λ_=>⟨by simp [cW,ip,mZ,lj,mY,fG]<;>omega,by simp,by simp [kX]⟩,λA=>aB.tF (dB.agg Yl) (λhw=>?_) Ye⟩;refine aK ZT λ_=>?_;refine W cx (mW ha hb mg hk h7 h5 h3 h2 h1 o1 o2 o3 bC) ?_<;>intros
   all_goals(refine ⟨_,by simp [ir,AW.ab];rfl,by simp [az],?_⟩;repeat' (first|exact Zl _|refine ZG ?_ Yi _|refine ZB ?_ (qW _ _)))
 by_cases o11:op=11
 . subst o11;refine⟨⟨11,va,vb,0,r5⟩,rfl,λ_=>⟨by simp [cW,ip,mZ,lj,mY,fG]<;>omega,by simp,by simp [kX]⟩,λA=>aB.tF (dB.agg Yl) (λhw=>?_) Ye⟩;refine aK ZT λ_=>?_;refine W cx (y9 ha hb mg hk h7 h5 h3 h2 h1 o1 o2 o3 oE bC) ?_<;>intros
   all_goals(refine ⟨_,by simp [ir,AW.ab];rfl,by simp [az],?_⟩;repeat' (first|exact Zl _|refine ZG ?_ Yi _|refine ZB ?_ (qW _ _)))
 by_cases o12:op=12
 . subst o12;refine⟨⟨12,va,vb,0,r5⟩,rfl,λ_=>⟨by simp [cW,ip,mZ,lj,mY,fG]<;>omega,by simp,by simp [kX]⟩,λA=>aB.tF (dB.agg Yl) (λhw=>?_) Ye⟩;refine aK ZT λ_=>?_;refine W cx (Uc ha hb mg hk h7 h5 h3 h2 h1 o1 o2 o3 oE o11 bC) ?_<;>intros
   all_goals(refine ⟨_,by simp [ir,AW.ab];rfl,by simp [az],?_⟩;repeat' (first|exact Zl _|refine ZG ?_ Yi _|refine ZB ?_ (qW _ _)))
 by_cases o13:op=13
 . subst o13;refine⟨⟨13,va,vb,0,r5⟩,rfl,λ_=>⟨by simp [cW,ip,mZ,lj,mY,fG]<;>omega,by simp,by simp [kX]⟩,λA=>aB.tF (dB.agg Yl) (λhw=>?_) Ye⟩;refine aK ZT λ_=>?_;refine W cx (Mg ha hb mg hk h7 h5 h3 h2 h1 o1 o2 o3 oE o11 o12 bC) ?_<;>intros
   all_goals(refine ⟨_,by simp [ir,AW.ab];rfl,by simp [az],?_⟩;repeat' (first|exact Zl _|refine ZG ?_ Yi _|refine ZB ?_ (qW _ _)))
 by_cases o14:op=14
 . subst o14;refine⟨⟨14,va,0,0,r2⟩,rfl,λ_=>⟨by simp [cW,ip,mZ,lj,mY,fG]<;>omega,by simp,by simp [kX]⟩,λA=>aB.tF (dB.agg Yl) (λhw=>?_) Ye⟩;refine aK ZT λ_=>?_;refine W cx (J17 ha hb mg hk h7 h5 h3 h2 h1 o1 o2 o3 oE o11 o12 o13 bC) ?_<;>intros
   all_goals(refine ⟨_,by simp [ir,AW.ab];rfl,by simp [az],?_⟩;repeat' (first|exact Zl _|refine ZG ?_ Yi _|refine ZB ?_ (qW _ _)))
 by_cases o15:op=15
 . subst o15;refine⟨⟨15,va,0,0,0⟩,rfl,λ_=>⟨by simp [cW,ip,mZ,lj,mY,fG]<;>omega,by simp,by simp [kX]⟩,λA=>aB.tF (dB.agg Yl) (λhw=>?_) Ye⟩;refine aK ZT λ_=>?_;refine W cx (J18 ha hb mg hk h7 h5 h3 h2 h1 o1 o2 o3 oE o11 o12 o13 o14 bC) ?_<;>intros
   all_goals(refine ⟨_,by simp [ir,AW.ab];rfl,by simp [az],?_⟩;repeat' (first|exact Zl _|refine ZG ?_ Yi _|refine ZB ?_ (qW _ _)))
 by_cases o17:op=17
 . subst o17;refine⟨⟨17,va,0,0,0⟩,rfl,λ_=>⟨by simp [cW,ip,mZ,lj,mY,fG]<;>omega,by simp,by simp [kX]⟩,λA=>aB.tF (dB.agg Yl) (λhw=>?_) Ye⟩;refine aK ZT λ_=>?_;refine W cx (J19 ha hb mg hk h7 h5 h3 h2 h1 o1 o2 o3 oE o11 o12 o13 o14 o15 bC) ?_<;>intros
   all_goals(refine ⟨_,by simp [ir,AW.ab];rfl,by simp [az],?_⟩;repeat' (first|exact Zl _|refine ZG ?_ Yi _|refine ZB ?_ (qW _ _)))
 by_cases o7:op=7
 . subst o7;refine⟨⟨7,0,0,0,r1⟩,rfl,λ_=>⟨by simp [cW,ip,mZ,lj,mY,fG]<;>omega,by simp,by simp [kX]⟩,λA=>aB.tF (dB.agg Yl) (λhw=>?_) Ye⟩;refine aK ZT λ_=>?_;refine W cx (J20 ha hb mg hk h7 h5 h3 h2 h1 o1 o2 o3 oE o11 o12 o13 o14 o15 o17 (J1 bC)) ?_<;>intros
   all_goals(refine ⟨_,by simp [ir,AW.ab];rfl,by simp [az],?_⟩;repeat' (first|exact Zl _|refine ZG ?_ Yi _|refine ZB ?_ (qW _ _)))
 refine⟨⟨op,0,0,0,0⟩,rfl,λho=>?_,λA=>aB.tF (dB.agg Yl) (λhw=>?_) Ye⟩;have ho2:op=4\/op=5\/op=6\/op=8\/op=9\/op=16:=Ya
 rcases ho2 with rfl|rfl|rfl|rfl|rfl|rfl<;>exact⟨by decide,by simp,by simp⟩;refine aK ZT λ_=>?_;refine W cx (J20 ha hb mg hk h7 h5 h3 h2 h1 o1 o2 o3 oE o11 o12 o13 o14 o15 o17 (J2 o7 bC)) ?_<;>intros
 all_goals(refine ⟨_,by simp [ir,AW.ab];rfl,by simp [az],?_⟩;repeat' (first|exact Zl _|refine ZG ?_ Yi _|refine ZB ?_ (qW _ _)))
end
end Go.Stx
