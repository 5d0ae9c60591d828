import Derived.Test.YtnnbecihffpedaaGreatDoorF0
import Derived.Sort.Grow
import Derived.Orders
import Derived.KernelRfl
set_option linter.all false
set_option maxRecDepth 20000
open List renaming length->U
open Array renaming all_eq_true_iff_forall_mem->kaE,getD_eq_getD_getElem?->Z8,getElem?_eq_getElem->ZQ,getElem?_eq_some_iff->Zj,getElem?_modify->kbj,mem_of_getElem?->kaH,mem_toList_iff->kau
open Bool renaming and_eq_true->Zg,false_eq_true->Zq,not_eq_true'->kae,or_eq_true->Z9
open Go.Op renaming operands->kaX
open Go.Region renaming binds->ZM,ready->kbH
open Go.Sort renaming grow->kb4,mapBlock->kbD,putCells->kch,putRow->kcn
open Go.Value renaming int->Zl,oneCell'->ZK
open Go.World renaming cell?->kaV
open Int renaming toNat_natCast->Z5
open List renaming all_eq_true->Zs,any_eq_true->kbd,drop_zero->kap,eq_nil_of_length_eq_zero->kab,ext_getElem?->kaO,filterMap->kb0,getElem?_drop->kam,getElem?_eq_getElem->Zf,getElem?_eq_none->ZL,getElem?_map->Z6,getElem?_set_ne->ZT,getElem?_set_self->ZN,getElem?_take_of_lt->kak,length_append->Zh,map_append->kaF,map_cons->Z0,mem_of_getElem?->kal,mem_range->Zr,range->Zt,replicate->q9,replicate_succ->kbm,take_of_length_le->kaG
open Nat renaming ble->ZD,ble_eq_true_of_le->kaM,eq_of_beq_eq_true->ZR,le_refl->Za,lt_or_ge->ZX,mul_le_mul_left->ka9,mul_one->ZY,testBit_or->kbE,testBit_two_pow->kbR,zero_le->Zv
open Ne renaming symm->Zp
open Option renaming getD_some->kbC,map->kb8,map_eq_some_iff->kas,map_some->kaR,some_ne_none->kbB
open Option.some renaming injEq->Zd
open Prod.mk renaming injEq->Zk
open Bool renaming false->qn,true->qj
open Go renaming Addr->qM,FuncId->qN,IntKind->qD,Oper->qC,Operand->qA,Program->qp,TypeId->qy,TypeInfo->qX,Value->qi,World->qz,undef->qE
open Go.Callee renaming builtin->qH
open Go.Code renaming region->qS
open Go.Departure renaming mixedOrders->qI
open Go.Exit renaming normal->qG
open Go.Value renaming bool->qt
open Option renaming none->qk,some->qf
open Or renaming inl->qw,inr->qB
namespace Go.Stx
open Go
variable [Gl]
def dW (B:Nat)(A:AW)(size:Nat)(v:qi)(n:Nat)(cs:List qi):Prop:=
 (v=.slice qk 0 0/\n=0/\cs=[]) \/
 ∃p c bO,v=.slice (qf p) n c/\n<=c/\p.spot=qk/\B<=p.block/\A.bk p.block=qf (.cells bO qj size)/\p.off+n*size<=U bO/\cs=(bO.drop p.off).take (n*size)
def dW.is {B:Nat}{A:AW}{size:Nat}{v:qi}{n:Nat}{cs:List qi}(h:dW B A size v n cs):gW A size v n cs:=by rcases h with ⟨h1,h2,h3⟩|⟨p,c,bO,h1,h2,_,_,h3,h4,h5⟩;exact qw ⟨⟨qk,h1⟩,h2,h3⟩;exact qB ⟨p,c,bO,qj,size,h1,h2,h3,rfl,h4,h5⟩
def dW.nil (B:Nat)(A:AW)(size:Nat):dW B A size (.slice qk 0 0) 0 []:=qw ⟨rfl,rfl,rfl⟩
def dW.le {B:Nat}{A A':AW}(hl:A.le A')(hw:A.Wf){size:Nat}{v:qi}{n:Nat}{cs:List qi}(h:dW B A size v n cs):dW B A' size v n cs:=by rcases h with h|⟨p,c,bO,h1,h2,hs,h3,h4,h5⟩;exact qw h;exact qB ⟨p,c,bO,h1,h2,hs,h3,hl.jp hw h4,h5⟩
def dX:qi->Option Nat
 | .slice (qf p) _ _=>qf p.block
 |_=>qk
def dW.length {B:Nat}{A:AW}{size:Nat}{v:qi}{n:Nat}{cs:List qi}(h:dW B A size v n cs):cs.length=n*size:=h.is.length
def JC {A:AW}{size:Nat}{x:qi}{m:Nat}{nF:List qi}(h:iv A size x=qf (m,nF)):U nF=m*size:=by unfold iv at h;split at h;simp only[Zd,Zk]at h;obtain⟨rfl,rfl⟩:=h;simp;split at h;simp only[Zd,Zk]at h;obtain⟨rfl,rfl⟩:=h;simp;split at h;split at h;simp only[Zd,Zk]at h;obtain⟨rfl,rfl⟩:=h;simp;omega;cases h;cases h;cases h
def lD {P:qp}{A:AW}{t e:qy}{i:qX}{z:qi}{B:Nat}{v x:qi}{n m size:Nat}{cs nF:List qi}(hu:P.underlying t=qf (.slice e))(hi:P.info? e=qf i)(hz:i.zero=qf z)(iP:i.size=size)(rR:z.cells.size=size)(h0:0<size)(jd:dW B A size v n cs)(j5:iv A size x=qf (m,nF))(nQ:nF.all ZK=qj)(lW:n+m<=140737488355328)(hb:(n+m)*i.bytes<=140737488355328)(hB:B<=A.next)(hw:A.Wf):
 ∃v' A',fD P A t t v x=qf (v',A')/\dW B A' size v' (n+m) (cs++nF)/\(∀A0:AW,A0.next<=B->A0.le A->A0.le A')/\A'.Wf/\A.next<=A'.next/\
  (∀j,j<A.next->dX v≠qf j->A'.bk j=A.bk j)/\(v'=v\/dX v'=qf A.next):=by
 subst iP;have cy:=jd.length;have zJ:=JC j5;by_cases hm:m=0;subst hm;have IO:nF=[]:=kab Ya;subst IO;have holds:∃b,gU A i.size v=qf (b,n,cs):=by rcases jd with ⟨rfl,rfl,rfl⟩|⟨p,c,bO,rfl,hc,zI,_,hg,gb,rfl⟩;exact⟨qk,rfl⟩;exact⟨qf p,by simp[gU,zI,hg,gb]⟩
 obtain⟨b,uO⟩:=holds;refine⟨v,A,?_,by simpa using jd,λA0 _ h=>h,hw,Za _,λj _ _=>rfl,qw rfl⟩;simp[fD,hu,hi,hz,rR,h0,j5,uO];rcases jd with ⟨rfl,rfl,rfl⟩|⟨p,c,bO,rfl,hc,zI,hBp,hg,gb,rfl⟩;refine⟨.slice (qf ⟨A.next,0,qk⟩) (0+m) (0+m),A.alloc (.cells nF qj i.size),?_,?_,λA0 _ h=>h.trans (AW.le.alloc A _),hw.alloc _,by simp,λj hj _=>AW.gJ _ _ Ya,qB rfl⟩;have yb:(0+m)*i.bytes<=140737488355328:=hb;have hb2':0+m<=140737488355328:=lW;simp only[fD,hu,hi,hz,j5,gU];rw[az ⟨rR,h0,trivial⟩,ar hm,az ⟨hb2',yb,nQ⟩];simp;refine qB ⟨⟨A.next,0,qk⟩,0+m,nF,rfl,Za _,rfl,hB,AW.cD _ _,by simp;omega,?_⟩;simp only[ah,kap,Nat.zero_add];rw[kaG Ya];have b9:=hw.lt hg;refine⟨.slice (qf ⟨A.next,0,qk⟩) (n+m) (n+m),(A.set p.block qk).alloc (.cells ((bO.drop p.off).take (n*i.size)++nF) qj i.size),?_,?_,?_,(hw.set qk b9).alloc _,by simp,?_,qB rfl⟩
 simp only[fD,hu,hi,hz,j5,gU,hg];have KZ:¬(p.spot.isSome=qj/\c=0/\n=0):=by simp[zI]
 rw[az ⟨rR,h0,trivial⟩,ar KZ,az ⟨trivial,gb⟩];simp only;rw[ar hm,az ⟨lW,hb,nQ⟩];refine qB ⟨⟨A.next,0,qk⟩,n+m,(bO.drop p.off).take (n*i.size)++nF,rfl,Za _,rfl,hB,?_,?_,?_⟩;have:=AW.cD (A.set p.block qk) (.cells ((bO.drop p.off).take (n*i.size)++nF) qj i.size)
 simpa using this
 have:((bO.drop p.off).take (n*i.size)++nF).length=(n+m)*i.size:=by rw[Zh,cy,zJ,Nat.add_mul]
 show 0+(n+m)*i.size<=_;omega;have:((bO.drop p.off).take (n*i.size)++nF).length=(n+m)*i.size:=by rw[Zh,cy,zJ,Nat.add_mul]
 exact(kaG (Nat.le_of_eq this)).symm;intro A0 hA0 hl;exact(hl.set Ya qk).trans (AW.le.alloc _ _);intro j hj fL;rw[AW.gJ _ _ Yg,AW.bh (λe=>fL (by simp[dX,e]))]
def gW.pR {A:AW}{size:Nat}{v:qi}{n:Nat}{cs:List qi}(h:gW A size v n cs):iv A size v=qf (n,cs):=by rcases h with ⟨⟨o,rfl⟩,rfl,rfl⟩|⟨p,c,bO,own,u,rfl,hc,hg,_,gb,rfl⟩;cases o<;>simp[iv];by_cases h0:n=0;subst h0;simp[iv];simp[iv,h0,AW.ES hg,gb]
def fW (B:Nat)(A:AW)(k:qD)(v:qi)(l:List Int):Prop:=dW B A 1 v (U l) (l.map (Zl k))
def fW.is {B:Nat}{A:AW}{k:qD}{v:qi}{l:List Int}(h:fW B A k v l):b5 A k v l:=dW.is h
def fW.nil (B:Nat)(A:AW)(k:qD):fW B A k (.slice qk 0 0) []:=dW.nil B A 1
def Gr {P:qp}{A:AW}{t e:qy}{i:qX}{z:qi}{B:Nat}{v x:qi}{k:qD}{l l2:List Int}(hu:P.underlying t=qf (.slice e))(hi:P.info? e=qf i)(hz:i.zero=qf z)(iP:i.size=1)(rR:z.cells.size=1)(jd:fW B A k v l)(hx:b5 A k x l2)(cy:U l+U l2<2 ^ 40)(CH:i.bytes<=8)(hB:B<=A.next)(hw:A.Wf):
 ∃v' A',fD P A t t v x=qf (v',A')/\fW B A' k v' (l++l2)/\(∀A0:AW,A0.next<=B->A0.le A->A0.le A')/\A'.Wf/\A.next<=A'.next:=by
 have hb:(U l+U l2)*i.bytes<=140737488355328:=by have:=ka9 (U l+U l2) CH;omega
 obtain⟨v',A',h1,h2,h3,h4,h5,_⟩:=lD (P:=P) (t:=t) hu hi hz iP rR Ya jd hx.pR (by simp[ZK]) Ya hb hB hw;refine⟨v',A',h1,?_,h3,h4,h5⟩;unfold fW
 simpa using h2
end Go.Stx
namespace Go.Stx
open Go
variable [Gl]
def AW.lS:AW:=⟨Gl.N,λ_=>qk⟩
def Mp.lS:Mp:=λg=>if Gl.ok g=qj then qf ⟨g,0,1,Tf g⟩ else qk
def AW.xg (A:AW):Prop:=∀i o,A.bk i=qf o->o.own=qn
def jN.lS (w:qz)(hl:∀b x,Gl.B b=qf x->w.heap[b]?=qf x):jN Mp.lS AW.lS w:=⟨λi o h=>YD,λi j o o' p p' h=>YD,λi hi=>ar λh=>absurd (Gl.lt i h) (by simp only[AW.lS]at hi;omega),λ_ _=>rfl,hl,λi o p h=>YD,λg hg=>az hg⟩
def AW.xg.lS:AW.lS.xg:=λi o h=>by cases h
def jN.U9 {m:Mp}{A:AW}{w:qz}(hs:jN m A w)(Bp:A.xg)(cs:List qi)(p:Pl){ik:Array qi}{e:qy}{fr:Nat×Nat}(hb:w.heap[p.block]?=qf (.cells ik e fr))(CB:ik.size=p.C7)(yQ:∀(k:Nat)(v:qi),cs[k]?=qf v->∃v',ik[p.base+k]?=qf v'/\bH m v v'):
 jN (m.ext A.next p) (A.alloc (.cells cs qn p.unit)) w/\(A.alloc (.cells cs qn p.unit)).xg:=by
 have gb:=hs.Iz p;have uQ:∀{j},j≠A.next->(m.ext A.next p) j=m j:=λ{j} h=>by simp[Mp.ext,h]
 have vZ:∀{j},j≠A.next->(A.alloc (.cells cs qn p.unit)).bk j=A.bk j:=λ{j} h=>by simp[AW.alloc,h]
 have Cw:(m.ext A.next p) A.next=qf p:=by simp[Mp.ext]
 have WJ:(A.alloc (.cells cs qn p.unit)).bk A.next=qf (.cells cs qn p.unit):=by simp[AW.alloc]
 have SV:(A.alloc (.cells cs qn p.unit)).xg:=by
  intro i o hi;by_cases hn:i=A.next;subst hn;rw[WJ]at hi;injection hi with hi;subst hi;rfl
  rw[vZ hn]at hi;exact Bp i o hi
 refine⟨⟨?_,?_,?_,?_,hs.laid,λi o q hi ho=>(by rw[SV i o hi]at ho;cases ho),hs.w5.mono gb⟩,SV⟩;intro j o hj;by_cases hn:j=A.next;subst hn;rw[WJ]at hj;injection hj with hj;subst hj;exact⟨p,Cw,ik,e,fr,hb,λh=>YD,rfl,CB,λk v hv=>(by obtain⟨v',h1,h2⟩:=yQ k v hv;exact⟨v',h1,h2.mono gb⟩)⟩;rw[vZ hn]at hj;obtain⟨p',h1,h2⟩:=hs.Dv j o hj;exact⟨p',by rw[uQ hn];exact h1,h2.mono gb⟩;intro i j o o' p1 p2 hi AT;have:=SV i o hi;rw[AT]at this;cases this;intro i hi;have:i≠A.next:=by simp at hi;omega
 rw[uQ this];exact hs.nS i (by simp at hi;omega);intro i hi;have:i≠A.next:=by simp at hi;omega
 rw[vZ this];exact hs.tO i (by simp at hi;omega)
def Cz {m:Mp}{A:AW}{w:qz}(hs:jN m A w)(Bp:A.xg){k:qD}{a:Option qM}{len fg:Nat}{zs:List Int}(h:(a=qk/\len=0/\fg=0/\zs=[]) \/
  ∃x,a=qf x/\len<=fg/\fg<=maxLen/\U zs=fg/\(∀i,i<U zs->w.cell? (x.add i)=qf (.int k (zs.getD i 0)))/\∀n∈zs,(Lit.int k n).wf=qj):
 ∃m' A' v,Mp.le m m'/\A.le A'/\jN m' A' w/\A'.xg/\bH m' v (.slice a len fg)/\b5 A' k v (zs.take len)/\len<=maxLen:=by
 rcases h with ⟨rfl,rfl,rfl,rfl⟩|⟨x,rfl,Wv,L3,hzl,hcell,_⟩;exact⟨m,A,.slice qk 0 0,Mp.le_refl m,AW.le.refl A,hs,Bp,.mW,b5.nil A k,Zv _⟩;by_cases hc0:fg=0;subst hc0;have:len=0:=Ya
 subst this;refine⟨m,A,.slice (qf ⟨0,0,qf 0⟩) 0 0,Mp.le_refl m,AW.le.refl A,hs,Bp,.slice (qB ⟨rfl,rfl,qw rfl⟩) (Za _) (Za _),?_,Zv _⟩;rw[List.take_zero];exact qw ⟨⟨_,rfl⟩,rfl,rfl⟩;have h0:=hcell 0 Ya;rw[show x.add 0=x by unfold Addr.add;simp]at h0;have zI:x.spot=qk:=by unfold kaV at h0;split at h0;split at h0;cases h0;rename_i zI;simpa using zI;cases h0
 have IY:∃ik e fr,w.heap[x.block]?=qf (.cells ik e fr):=by unfold kaV at h0;split at h0;rename_i c e fr hh;exact⟨c,e,fr,hh⟩;cases h0
 obtain⟨ik,e,fr,IY⟩:=IY;have NF:∀i,i<fg->ik[x.off+i]?=qf (.int k (zs.getD i 0)):=λi hi=>by
  have h1:=hcell i Ya;rw[pI _ _ zI]at h1
  simpa[kaV,IY]using h1
 obtain⟨CD,SV⟩:=jN.U9 hs Bp (zs.map (Zl k)) ⟨x.block,x.off,1,ik.size⟩ IY rfl (λj v hv=>by rw[Z6,kas]at hv;obtain⟨z,hz,rfl⟩:=hv;have hj:=(List.getElem?_eq_some_iff.1 hz).1;refine⟨_,NF j Ya,?_⟩;rw[List.getD_eq_getElem?_getD,hz];exact .int k z)
 have hlast:=(Zj.1 (NF (fg-1) Ya)).1;refine⟨_,_,.slice (qf ⟨A.next,0,qk⟩) len len,hs.Iz _,AW.le.alloc A _,CD,SV,?_,?_,by omega⟩;refine .slice (qw ⟨rfl,zI,⟨x.block,x.off,1,ik.size⟩,by simp[Mp.ext],rfl,rfl,?_⟩) (Za _) Wv;show x.off+fg*1<=ik.size;omega;refine qB ⟨⟨A.next,0,qk⟩,len,zs.map (Zl k),qn,1,?_,?_,AW.cD _ _,rfl,?_,?_⟩;rw[List.length_take,Nat.min_eq_left Ya];simp;omega;simp;omega;rw[kap,List.length_take,Nat.min_eq_left Ya,ZY,List.map_take]
def Al {P:qp}{f:qN}{args:List qi}{iE:Array qi}{A:AW}{m:Mp}{w:qz}{R:qi->AW->Prop}(h:aE P f args A R)(hR:∀v A',R v A'->v=qt qj)(hs:jN m A w)(Bp:A.xg)(hl:jE m args iE.toList):Calls P f iE w λe w'=>e=.returned (qt qj)/\RowKit.Below w.heap.size w w':=by refine(h.2 m w iE hs hl).mono ?_;rintro e w'⟨v,v',m',A',rfl,ev,hv,hr⟩;have e1:=hR v A' hr;subst e1;cases hv;refine⟨rfl,ev.os,ev.tape,ev.output,ev.size,λk hk=>ev.sD k hk ?_⟩;rintro ⟨i,o,p,hi,AT,_⟩;have:=Bp i o hi;rw[AT]at this;cases this
end Go.Stx
namespace Go.Stx
open Go
variable [Gl]
def xz:∀(l cs:List qi)(off j:Nat),off+U l<=U cs->(dS cs off l)[j]?=if off<=j/\j<off+U l then l[j-off]? else cs[j]?
 |[],cs,off,j,_=>by simp[dS];omega
 |v::l,cs,off,j,h=>by simp only[List.length_cons]at h;rw[dS,xz l _ (off+1) j Yg];by_cases h1:off+1<=j/\j<off+1+U l;rw[az h1,az Yg];rw[show j-off=(j-(off+1))+1 by omega,List.getElem?_cons_succ];rw[ar h1];by_cases h2:off=j;subst h2;rw[az Yb,ZN Ya];simp;rw[ar Yg,ZT h2]
def KP (w:qz)(b:Nat)(f:Array qi->Array qi){ik:Array qi}{e:qy}{fr:Nat×Nat}(h:w.heap[b]?=qf (.cells ik e fr)):
 (kbD w b f).heap[b]?=qf (.cells (f ik) e fr):=by simp[kbD,kbj,h,Go.Sort.onCells]
def Ir (w:qz)(b j:Nat)(f:Array qi->Array qi)(h:j≠b):(kbD w b f).heap[j]?=w.heap[j]?:=by simp[kbD,kbj,Zp h]
def Sb {m:Mp}{A:AW}{w:qz}(hs:jN m A w){i off:Nat}{q:Pl}{bO:List qi}{k:qD}(d:List Int)(hg:A.bk i=qf (.cells bO qj 1))(hm:m i=qf q)(ur:off+U d<=U bO):
 jf m A w m (A.set i (qf (.cells (dS bO off (d.map (Zl k))) qj 1))) (kcn (Zl k) w q.block (q.base+off) d.toArray):=by
 obtain⟨p',SY,ik,e',fr,hw,rx,hu,CB,CG⟩:=hs.Dv _ _ hg;rw[hm]at SY;injection SY with SY;subst SY;obtain rfl:=rx rfl;refine jf.set hs hg hm hu (by simp[kcn,kbD]) rfl rfl rfl (KP w q.block _ hw) (by simpa[kch]using CB) (λj hj=>Ir w _ _ _ hj) ?_;intro j v hv;rw[xz _ _ _ _ YS]at hv;simp only[List.length_map]at hv;by_cases hj:off<=j/\j<off+U d;rw[az hj,Z6,Zf Ya]at hv;injection hv with hv;subst hv;obtain⟨v0,h0,_⟩:=CG j bO[j] (Zf Ya);refine⟨.int k d[j-off],?_,.int _ _⟩;have b9:=(Zj.1 h0).1;simp only[kch,Array.getElem?_mapIdx,h0,kaR,List.size_toArray];rw[az Ya];have e1:q.base+j-(q.base+off)=j-off:=Ya
 rw[e1,getElem!_pos d.toArray (j-off) Yg];simp;rw[ar hj]at hv;obtain⟨v0,h0,h1⟩:=CG j v hv;refine⟨v0,?_,h1⟩;simp only[kch,Array.getElem?_mapIdx,h0,kaR,List.size_toArray];rw[ar Ya]
def jf.ahead {m:Mp}{A:AW}{w:qz}(h:jN m A w)(n:Nat):jf m A w m A (Go.Sort.ahead w n):=
 ⟨Mp.le_refl m,h.G3 rfl,Za _,rfl,rfl,rfl,Za _,λ_ _ _=>rfl,λ_ h=>qw h,λ_ _=>rfl,λ_ h=>qw h⟩
def jf.Qy {m:Mp}{A:AW}{w:qz}(h:jN m A w)(os:Array Obj):jf m A w m A (kb4 w os):=by
 have eD:∀b,b<w.heap.size->(kb4 w os).heap[b]?=w.heap[b]?:=λb hb=>by show (w.heap++os)[b]?=_;rw[Array.getElem?_append_left hb]
 exact⟨Mp.le_refl m,Ext.vL eD h,Za _,rfl,rfl,rfl,by simp[kb4],λb hb _=>eD b hb,λ_ h=>qw h,λ_ _=>rfl,λ_ h=>qw h⟩
def Um {P:qp}{f:qN}(dT:lh P f=qj){n c:Nat}{A:AW}{p:qM}{k:qD}{l d:List Int}{bO:List qi}{rv:qi}{ret:qM->Nat->qi}(hn:n=U l)(h0:0<U l)(hc:n<=c)(hg:A.bk p.block=qf (.cells bO qj 1))(ur:p.off+n<=U bO)(hl:l.map (Zl k)=(bO.drop p.off).take n)(hd:U d=U l)(hret:∀m a' jJ,Fv m p a' jJ->c<=jJ->bH m rv (ret a' jJ))(hcon:∀jj off fg w,Go.Sort.Holds (Zl k) w jj off l.toArray->jj<w.heap.size->U l<=fg->Calls P f #[.slice (qf ⟨jj,off,qk⟩) (U l) fg] w λe w'=>e=.returned (ret ⟨jj,off,qk⟩ fg)/\∃n os,w'=kb4 (kcn (Zl k) (Go.Sort.ahead w n) jj off d.toArray) os):
 aE P f [.slice (qf p) n c] A λu A'=>u=rv/\A'=A.set p.block (qf (.cells (dS bO p.off (d.map (Zl k))) qj 1)):=by
 subst hn;refine⟨dT,λm w iE hs Qg=>?_⟩;obtain⟨v',t',e1,hv,ht⟩:=Qg.nP;have e2:=ht.tt;subst e2;have ec:iE = #[v']:=by apply Array.ext';exact e1
 subst ec;cases hv with
 |slice hh h1 h2=>
   rename_i a' jJ;have Hb:Fv m p a' jJ:=by rcases hh with hh|hh;exact hh;omega
   have hsr0:=Hb;obtain⟨g1,g2,q,g3,g4,g5,g6⟩:=Hb;obtain⟨p',SY,ik,e',fr,hw,rx,hu,CB,CG⟩:=hs.Dv _ _ hg;rw[g3]at SY;injection SY with SY;subst SY;obtain rfl:=rx rfl;have ea:a'=⟨q.block,q.base+p.off,qk⟩:=(by rw[Av a' g2,g4,g5]);subst ea;have hH:Go.Sort.Holds (Zl k) w q.block (q.base+p.off) l.toArray:=by
    intro j hj;have BP:j<U l:=by simpa using hj
    have bP:bO[p.off+j]?=qf (.int k l[j]):=by
     have:(l.map (Zl k))[j]?=qf (.int k l[j]):=by rw[Z6,Zf BP];rfl
     rw[hl,kak BP,kam]at this;exact this
    obtain⟨v0,h3,h4⟩:=CG _ _ bP;cases h4;rw[getElem!_pos l.toArray j hj];simp only[kaV,World.frozen?,hw];rw[Nat.add_assoc];simp[h3]
   refine(hcon q.block (q.base+p.off) jJ w hH (Zj.1 hw).1 Ya).mono ?_;rintro e w'⟨rfl,n,os,rfl⟩;refine⟨rv,_,m,A.set p.block (qf (.cells (dS bO p.off (d.map (Zl k))) qj 1)),rfl,?_,hret m _ jJ hsr0 h2,rfl,rfl⟩;have ev1:=jf.ahead hs n;have NQ:=Sb (k:=k) ev1.vL d hg g3 (off:=p.off) Ya;exact(ev1.trans NQ).trans (jf.Qy NQ.vL os)
def aE.lS {P:qp}{f:qN}(dT:lh P f=qj){o:Option qM}{c:Nat}{A:AW}{rv:qi}{ret:Option qM->Nat->qi}(hret:∀m o' c',bH m (.slice o 0 c) (.slice o' 0 c')->bH m rv (ret o' c'))(hcon:∀o' c' w,Calls P f #[.slice o' 0 c'] w λe w'=>e=.returned (ret o' c')/\w'=w):
 aE P f [.slice o 0 c] A λu A'=>u=rv/\A=A':=by
 refine⟨dT,λm w iE hs Qg=>?_⟩;obtain⟨v',t',e1,hv,ht⟩:=Qg.nP;have e2:=ht.tt;subst e2;have ec:iE = #[v']:=by apply Array.ext';exact e1
 subst ec;have hv':∃o' c',v'=.slice o' 0 c':=by cases hv<;>exact⟨_,_,rfl⟩
 obtain⟨o',c',rfl⟩:=hv';refine(hcon o' c' w).mono ?_;rintro e w'⟨rfl,rfl⟩;exact⟨rv,_,m,A,rfl,jf.refl hs,hret m _ _ hv,rfl,rfl⟩
def fW.cL {B:Nat}{A:AW}{k:qD}{v:qi}{l:List Int}(h:fW B A k v l):
 (∃o c,v=.slice o 0 c/\l=[]/\0<=c)\/∃p c bO,v=.slice (qf p) (U l) c/\0<U l/\U l<=c/\p.spot=qk/\B<=p.block/\A.bk p.block=qf (.cells bO qj 1)/\
  p.off+U l<=U bO/\l.map (Zl k)=(bO.drop p.off).take (U l):=by rcases h with ⟨h1,h2,h3⟩|⟨p,c,bO,h1,h2,hs,hB,h3,h4,h5⟩;exact qw ⟨qk,0,h1,kab h2,Za _⟩;by_cases h0:U l=0;rw[h0]at h1;exact qw ⟨qf p,c,h1,kab h0,Zv _⟩;exact qB ⟨p,c,bO,h1,by omega,h2,hs,hB,h3,by simpa using h4,by simpa using h5⟩
def Ie {B:Nat}{A:AW}{k:qD}{p:qM}{c n:Nat}{bO:List qi}(d z:List Int)(hw:A.Wf)(hB:B<=p.block)(hs:p.spot=qk)(hg:A.bk p.block=qf (.cells bO qj 1))(ur:p.off+U (d++z)<=U bO)(hc:U d<=c)(hn:n=U d):
 fW B (A.set p.block (qf (.cells (dS bO p.off ((d++z).map (Zl k))) qj 1))) k (.slice (qf p) n c) d:=by subst hn;refine qB ⟨p,c,_,rfl,hc,hs,hB,AW.cM,?_,?_⟩;rw[yC];simp at ur;omega;apply kaO;intro j;by_cases hj:j<U d;rw[kak Ya,kam,xz _ _ _ _ YS,az Yg];rw[show p.off+j-p.off=j by omega,kaF,List.getElem?_append_left (by simpa using hj)];rw[ZL Yg,ZL Yg]
end Go.Stx
namespace Go.Stx
open Go
variable [Gl]
def jT (bf:Array qC):Bool:=(Zt bf.size).all λi=>match bf[i]? with
 |some o=>o.after.toList.all λe=>!ZM .any e || ZD (e.on+1) i
 |none=>qj
def mN {bf:Array qC}(pT:jT bf=qj){i:Nat}{o:qC}(ho:bf[i]?=qf o){e:Edge}(he:e∈o.after)(hb:ZM .any e=qj):e.on<i:=by
 have ha:=Zs.1 pT i (Zr.2 (Zj.1 ho).1);rw[ho]at ha;have h2:=Zs.1 ha e (kau.2 he);rw[hb]at h2;have h3:e.on+1<=i:=by simpa[Nat.ble_eq]using h2
 omega
def OC (P:qp)(bf:Array qC)(o:qC)(a:Fr)(A:AW)(k:Fr->AW->Prop):Prop:=
 if iX bf a o=qj then iJ P o.op (gZ a) A (λv A'=>k (d8 a o.dst v) A') else k (d8 a o.dst qE) A
def AH {md:Region.Mode}{bf:Array qC}{listed:Array Bool}{i:Nat}(h:i∈kbH md bf listed):
 ∃o,bf[i]?=qf o/\listed.getD i qj=qn/\∀e∈o.after,ZM md e=qj->listed.getD e.on qn=qj:=by
 simp only[kbH,List.mem_filter,Zr,Zg,kae]at h;obtain⟨hi,h1,h2⟩:=h;refine⟨bf[i],ZQ hi,h1,λe he hb=>?_⟩;rw[ZQ hi]at h2;simp only[kaR,kbC]at h2;have:=kaE.1 h2 e he
 simpa[hb]using this
def yn {bf:Array qC}(pT:jT bf=qj){listed:Array Bool}(uo:listed.size=bf.size)(hr:kbH .any bf listed=[]):
 ∀n i,i<n->i<bf.size->listed.getD i qn=qj
 |0,i,h,_=>by omega
 |n+1,i,h,hi=>by
   by_cases xj:i<n;exact yn pT uo hr n i xj hi;by_cases hl:listed.getD i qn=qj;exact hl;exfalso;have uR:i<listed.size:=Ya;have nA:i∈kbH .any bf listed:=by
    simp only[kbH,List.mem_filter,Zr,Zg,kae];refine⟨hi,?_,?_⟩;rw[Z8,ZQ uR]at hl ⊢
    simpa using hl
    rw[ZQ hi];simp only[kaR,kbC];refine kaE.2 λe he=>?_;cases hb:ZM .any e with
    |false=>simp
    |true=>have b9:=mN pT (ZQ hi) he hb;have:=yn pT uo hr n e.on Ya Ya;simp[this]
   rw[hr]at nA;cases nA
def Vn {P:qp}{n:Nat}{Q:Exit->Fr->AW->Prop}{a:Fr}{A:AW}{id:Nat}{bf:Array qC}(hm:P.follows qI=qj)(pT:jT bf=qj)(J:(Nat->Bool)->Fr->AW->Prop)(h0:J (λ_=>qn) a A)(wU:∀S a A i o,A.Wf->J S a A->bf[i]?=qf o->S i=qn->(∀e∈o.after,ZM .any e=qj->S e.on=qj)->OC P bf o a A (J λj=>if j=i then qj else S j))(ry:∀S a A,A.Wf->J S a A->(∀i,i<bf.size->S i=qj)->Q qG a A):df P n (qS id bf qj) Q a A:=by
 intro ki m w ca hs hf;have Bo:bf.all (ma n)=qj:=ki;refine wp_region_any hm ?_
 have key:∀(fuel:Nat)(listed:Array Bool)(S:Nat->Bool)(a':Fr)(A':AW)(m':Mp)(w':qz)(yK:Act),listed.size=bf.size->(∀i,i<bf.size->listed.getD i qn=S i)->
  (Zt bf.size).countP (λi=>!S i)<=fuel->J S a' A'->jf m A w m' A' w'->sW m' n a' yK->
  wpAny P .any bf (λe yK w'=>∃m' a' A',jf m A w m' A' w'/\sW m' n a' yK/\Q e a' A') fuel listed yK w':=by
  intro fuel
  induction fuel with
  |zero=>
    intro listed S a' A' m' w' yK uo hS hcnt hJ Br rx;have gQ:∀i,i<bf.size->S i=qj:=by
     intro i hi;have:=List.countP_eq_zero.1 (Nat.le_zero.1 hcnt) i (Zr.2 hi)
     exact X9
    refine⟨?_,m',a',A',Br,rx,ry S a' A' Br.vL.tO hJ gQ⟩;rw[List.eq_nil_iff_forall_not_mem];intro i hi;obtain⟨o,ho,hl,_⟩:=AH hi;have ww:=(Zj.1 ho).1;have:=hS i ww;rw[gQ i ww]at this;rw[Z8,ZQ Ya]at this hl;simp only[kbC]at this hl;rw[this]at hl;cases hl
  |succ fuel ih=>
    intro listed S a' A' m' w' yK uo hS hcnt hJ Br rx;refine⟨λhr=>⟨m',a',A',Br,rx,ry S a' A' Br.vL.tO hJ λi hi=>?_⟩,λi hi=>?_⟩;rw[<-hS i hi];exact yn pT uo hr (i+1) i Ya hi;obtain⟨o,ho,hl,ks⟩:=AH hi;have ww:=(Zj.1 ho).1;have rz:S i=qn:=by
     rw[<-hS i ww];rw[Z8,ZQ Ya]at hl ⊢
     simpa using hl
    have Qn:∀e∈o.after,ZM .any e=qj->S e.on=qj:=by intro e he hb;have h1:=ks e he hb;have b9:=mN pT ho he hb;rw[<-hS e.on Ya];exact h1
    have cJ:=wU S a' A' i o Br.vL.tO hJ ho rz Qn;have hoo:=kaE.1 Bo o (kaH ho);have IW:(Zt bf.size).countP (λj=>!(if j=i then qj else S j))<=fuel:=by
     have e1:(Zt bf.size).countP (λj=>!(if j=i then qj else S j))+1<=(Zt bf.size).countP (λj=>!S j):=by
      have nA:i∈Zt bf.size:=Zr.2 ww;have key2:∀l:List Nat,i∈l->l.countP (λj=>!(if j=i then qj else S j))+1<=l.countP (λj=>!S j):=by
       intro l;have mono:∀l:List Nat,l.countP (λj=>!(if j=i then qj else S j))<=l.countP (λj=>!S j):=λl=>by
        refine List.countP_mono_left λx _ hx=>?_;by_cases e:x=i;simp[e]at hx
        simpa[e]using hx
       induction l with
       |nil=>intro h;cases h
       |cons x l ihl=>
         intro hx;rw[List.countP_cons,List.countP_cons];by_cases e:x=i;subst e;have:=mono l;simp[rz]
         simpa using this
         have hx':i∈l:=by rcases List.mem_cons.1 hx with h|h;exact absurd h.symm e;exact h
         have:=ihl hx';simp only[e,if_false];omega
      exact key2 _ nA
     omega
    have sG:∀j,j<bf.size->(listed.setIfInBounds i qj).getD j qn=if j=i then qj else S j:=by intro j hj;by_cases e:j=i;subst e;rw[az rfl,Z8,Array.getElem?_setIfInBounds_self_of_lt Ya];rfl;rw[ar e,<-hS j hj,Z8,Z8,Array.getElem?_setIfInBounds_ne Ya]
    unfold OC at cJ;unfold wpOp;rw[ho];simp only;rw[wZ rx Bo o];split at cJ;rename_i hg;rw[az hg];refine qw (uW Br.vL rx hoo cJ ?_);intro v A2 m2 w2 ca2 hk NQ IT;exact ih _ _ _ A2 m2 w2 ca2 YE sG IW hk (Br.trans NQ) IT;rename_i hg;rw[ar hg];simp only[ma,Zg]at hoo;have hd:∀j,o.dst=qf j->j<n:=λj e=>by have:=hoo.2;rw[e]at this;simpa using this
    exact ih _ _ _ A' m' w' _ YE sG IW cJ Br (rx.put hd (bH.undef m'))
 refine key bf.size _ (λ_=>qn) a A m { w with drawn:=w.drawn+1 } ca Yb (λi hi=>by simp[Z8,hi]) ?_ h0 (jf.drew hs) hf;exact Nat.le_trans (List.countP_le_length) Yb
end Go.Stx
namespace Go.Stx
open Go
variable [Gl]
abbrev Hp:=Nat->Option dt
def Hp.dj (h k:Hp):Prop:=∀i,h i=qk\/k i=qk
def Hp.un (h k:Hp):Hp:=λi=>match h i with|some o=>qf o|none=>k i
def Hp.Vh {h k:Hp}(d:Hp.dj h k):Hp.dj k h:=λi=>(d i).symm
def Hp.Ug {h k:Hp}(d:Hp.dj h k):Hp.un h k=Hp.un k h:=by funext i;simp only[Hp.un];rcases d i with e|e;rw[e];cases k i<;>rfl;rw[e];cases h i<;>rfl
def Hp.OZ (h k l:Hp):Hp.un (Hp.un h k) l=Hp.un h (Hp.un k l):=by funext i;simp only[Hp.un];cases h i<;>rfl
def Hp.AC {h k:Hp}{i:Nat}:Hp.un h k i=qk↔h i=qk/\k i=qk:=by simp only[Hp.un];cases h i<;>simp
structure HP where
 holds:Hp->Prop
@[ext] def HP.ext' {P Q:HP}(h:∀x,P.holds x↔Q.holds x):P=Q:=by obtain⟨p⟩:=P;obtain⟨q⟩:=Q;congr;funext x;exact propext (h x)
def HP.star (P Q:HP):HP:=⟨λh=>∃h1 h2,Hp.dj h1 h2/\h=Hp.un h1 h2/\P.holds h1/\Q.holds h2⟩
instance:Mul HP:=⟨HP.star⟩
def Cg {P Q:HP}{h:Hp}:(P*Q).holds h↔∃h1 h2,Hp.dj h1 h2/\h=Hp.un h1 h2/\P.holds h1/\Q.holds h2:=Iff.rfl
def HP.mul_comm (P Q:HP):P*Q=Q*P:=by ext h;simp only[Cg];constructor;rintro ⟨a,b,d,rfl,p,q⟩;exact⟨b,a,Hp.Vh d,Hp.Ug d,q,p⟩;rintro ⟨a,b,d,rfl,p,q⟩;exact⟨b,a,Hp.Vh d,Hp.Ug d,q,p⟩
def HP.dq (P Q R:HP):P*Q*R=P*(Q*R):=by ext h;simp only[Cg];constructor;rintro ⟨_,c,d,rfl,⟨a,b,d1,rfl,p,q⟩,r⟩;refine⟨a,Hp.un b c,λi=>?_,Hp.OZ _ _ _,p,b,c,λi=>?_,rfl,q,r⟩;rcases d i with e|e;exact qw (Hp.AC.1 e).1;rcases d1 i with e1|e1;exact qw e1;exact qB (Hp.AC.2 ⟨e1,e⟩);rcases d i with e|e;exact qw (Hp.AC.1 e).2;exact qB e;rintro ⟨a,_,d,rfl,p,b,c,d1,rfl,q,r⟩;refine⟨Hp.un a b,c,λi=>?_,(Hp.OZ _ _ _).symm,⟨a,b,λi=>?_,rfl,p,q⟩,r⟩;rcases d1 i with e|e;rcases d i with e1|e1;exact qw (Hp.AC.2 ⟨e1,e⟩);exact qB (Hp.AC.1 e1).2;exact qB e;rcases d i with e1|e1;exact qw e1;exact qB (Hp.AC.1 e1).1
instance:Std.Associative (α:=HP) (·* ·):=⟨HP.dq⟩
instance:Std.Commutative (α:=HP) (·* ·):=⟨HP.mul_comm⟩
def eY:HP:=⟨λh=>h=λ_=>qk⟩
def GL (p:Prop):HP:=⟨λh=>p/\h=λ_=>qk⟩
def ut {α:Type}(P:α->HP):HP:=⟨λh=>∃x,(P x).holds h⟩
def pt (i:Nat)(o:dt):HP:=⟨λh=>h=λj=>if j=i then qf o else qk⟩
def lP (h0:Hp):HP:=⟨λh=>h=h0⟩
def UY {p:Prop}{P:HP}{h:Hp}:(GL p*P).holds h↔p/\P.holds h:=by simp only[Cg];constructor;rintro ⟨a,b,d,rfl,⟨hp,rfl⟩,q⟩;exact⟨hp,q⟩;rintro ⟨hp,q⟩;exact⟨_,h,λ_=>qw rfl,rfl,⟨hp,rfl⟩,q⟩
def hex_mul {α:Type}{P:α->HP}{Q:HP}:ut P*Q=ut λx=>P x*Q:=by ext h;constructor;rintro ⟨a,b,d,rfl,⟨x,p⟩,q⟩;exact⟨x,a,b,d,rfl,p,q⟩;rintro ⟨x,a,b,d,rfl,p,q⟩;exact⟨a,b,d,rfl,⟨x,p⟩,q⟩
def iD (P:HP):eY*P=P:=by ext h;constructor;rintro ⟨a,b,d,rfl,rfl,q⟩;exact q;intro q;exact⟨_,h,λ_=>qw rfl,rfl,rfl,q⟩
def ei (P:HP):P*eY=P:=by rw[HP.mul_comm,iD]
def bD (A:AW)(P:HP):Prop:=∃h,P.holds h/\∀i o,h i=qf o->A.bk i=qf o
def Ent (P Q:HP):Prop:=∀h,P.holds h->Q.holds h
def Ent.refl (P:HP):Ent P P:=λ_ h=>h
def Ent.star {P P' Q Q':HP}(h:Ent P P')(k:Ent Q Q'):Ent (P*Q) (P'*Q'):=λ_ ⟨a,b,d,e,p,q⟩=>⟨a,b,d,e,h a p,k b q⟩
def Ent.left {P P':HP}(Q:HP)(h:Ent P P'):Ent (P*Q) (P'*Q):=Ent.star h (Ent.refl Q)
def bD.bQ {A:AW}{P Q:HP}(h:bD A P)(e:Ent P Q):bD A Q:=⟨h.choose,e _ h.choose_spec.1,h.choose_spec.2⟩
def bD.entl {A:AW}{P Q F:HP}(h:bD A (P*F))(e:Ent P Q):bD A (Q*F):=h.bQ (e.left F)
def bD.dJ {A:AW}{P Q:HP}(h:bD A P)(e:P=Q):bD A Q:=e▸h
def bD.right {A:AW}{P Q:HP}(h:bD A (P*Q)):bD A Q:=by obtain⟨_,⟨a,b,d,rfl,p,q⟩,hs⟩:=h;refine⟨b,q,λi o hi=>hs i o ?_⟩;simp only[Hp.un];rcases d i with e|e;rw[e];exact hi;rw[e]at hi;cases hi
def bD.left {A:AW}{P Q:HP}(h:bD A (P*Q)):bD A P:=(h.dJ (HP.mul_comm P Q)).right
def bD.ex {α:Type}{A:AW}{P:α->HP}{F:HP}:bD A (ut P*F)↔∃x,bD A (P x*F):=by rw[hex_mul];constructor;rintro ⟨h,⟨x,p⟩,hs⟩;exact⟨x,h,p,hs⟩;rintro ⟨x,h,p,hs⟩;exact⟨h,⟨x,p⟩,hs⟩
def bD.pr {A:AW}{p:Prop}{F:HP}:bD A (GL p*F)↔p/\bD A F:=by constructor;rintro ⟨h,hh,hs⟩;rw[UY]at hh;exact⟨hh.1,h,hh.2,hs⟩;rintro ⟨hp,h,hh,hs⟩;exact⟨h,UY.2 ⟨hp,hh⟩,hs⟩
def bD.of_eq {A A':AW}{P:HP}(h:bD A P)(e:∀i o,A.bk i=qf o->A'.bk i=qf o):bD A' P:=
 ⟨h.choose,h.choose_spec.1,λi o hi=>e i o (h.choose_spec.2 i o hi)⟩
def bD.le {A A':AW}{P:HP}(h:bD A P)(hw:A.Wf)(hl:A.le A'):bD A' P:=h.of_eq λi o hi=>hl.jp hw hi
def bD.bk {A:AW}{i:Nat}{o:dt}{F:HP}(h:bD A (pt i o*F)):A.bk i=qf o:=by obtain⟨_,⟨a,b,d,rfl,rfl,q⟩,hs⟩:=h;exact hs i o (by simp[Hp.un])
def bD.ne {A:AW}{i j:Nat}{o o':dt}{F:HP}(h:bD A (pt i o*(pt j o'*F))):i≠j:=by obtain⟨_,⟨a,_,d,rfl,rfl,b,c,d1,rfl,rfl,q⟩,hs⟩:=h;rintro rfl;rcases d i with e|e;simp at e;simp[Hp.un]at e
def bD.Jv {A A':AW}{i:Nat}{o:dt}{F:HP}(h:bD A (pt i o*F))(e:∀j o',j≠i->A.bk j=qf o'->A'.bk j=qf o'):bD A' F:=by
 obtain⟨_,⟨a,b,d,rfl,rfl,q⟩,hs⟩:=h;refine⟨b,q,λj o' hj=>?_⟩;have lm:j≠i:=by rintro rfl;rcases d j with e|e;simp at e;rw[e]at hj;cases hj
 refine e j o' lm (hs j o' ?_);simp[Hp.un,lm,hj]
def bD.cons {A:AW}{i:Nat}{o:dt}{F:HP}(hg:A.bk i=qf o)(h:bD (A.set i qk) F):bD A (pt i o*F):=by
 obtain⟨b,q,hs⟩:=h;have hb:b i=qk:=by
  cases Bs:b i with
  |none=>rfl
  |some x=>have:=hs i x Bs;simp at this
 refine⟨_,⟨_,b,λj=>?_,rfl,rfl,q⟩,λj o' hj=>?_⟩;by_cases e:j=i;subst e;exact qB hb;exact qw (by simp[e]);by_cases e:j=i;subst e;simp[Hp.un]at hj;rw[hg,hj];simp[Hp.un,e]at hj;have:=hs j o' hj;rwa [AW.bh e]at this
def bD.set {A:AW}{i:Nat}{o:dt}{F:HP}(h:bD A (pt i o*F))(o':dt):bD (A.set i (qf o')) (pt i o'*F):=by refine bD.cons AW.cM (h.Jv λj x hj hx=>?_);rw[AW.bh hj,AW.bh hj];exact hx
def bD.PY {A:AW}{i:Nat}{o:dt}{F:HP}(h:bD A (pt i o*F)):bD (A.set i qk) F:=
 h.Jv λj x hj hx=>by rw[AW.bh hj];exact hx
def bD.alloc {A:AW}{F:HP}(h:bD A F)(hw:A.Wf)(o:dt):bD (A.alloc o) (pt A.next o*F):=by refine bD.cons (AW.cD A o) (h.of_eq λj x hx=>?_);have:=hw.lt hx;rw[AW.bh Ya,AW.gJ _ _ Ya];exact hx
def bD.jp {A:AW}{F:HP}(h:bD A F)(hw:A.Wf)(o:dt):bD (A.alloc o) F:=(h.alloc hw o).right
def bD.ne2 {A:AW}{i j:Nat}{o o':dt}{P F:HP}(h:bD A (pt i o*(P*(pt j o'*F)))):i≠j:=
 bD.ne (h.dJ (by ac_rfl:pt i o*(P*(pt j o'*F))=pt i o*(pt j o'*(P*F))))
def AW.bX (A:AW)(o:dt)(i:Nat):(A.alloc o).bk i=if i=A.next then qf o else A.bk i:=rfl
def AW.cU (A:AW)(o:Option dt)(i j:Nat):(A.set i o).bk j=if j=i then o else A.bk j:=rfl
def AW.ab (A:AW)(i:Nat):A.bO i=match A.bk i with|some (.cells cs _ _)=>qf cs|_=>qk:=rfl
def AW.Wf.eD {A:AW}(hw:A.Wf){i:Nat}{o:dt}(hg:A.bk i=qf o):(i=A.next)=False/\∀k,(i=A.next+k)=False:=by have:=hw.lt hg;exact⟨eq_false Ya,λk=>eq_false Ya⟩
def bD.post {A:AW}{p:Prop}{Q F:HP}(hp:p)(h:bD A (Q*F)):bD A (GL p*Q*F):=by rw[HP.dq,bD.pr];exact⟨hp,h⟩
def bD.tS {A:AW}{p:Prop}{Q F:HP}(h:bD A (GL p*Q*F)):p/\bD A (Q*F):=by rw[HP.dq,bD.pr]at h;exact h
def bD.upd1 {A A':AW}{b:Nat}{o o':dt}{F:HP}(h:bD A (pt b o*F))(h1:A'.bk b=qf o')(hk:∀j x,j≠b->A.bk j=qf x->A'.bk j=qf x):bD A' (pt b o'*F):=
 bD.cons h1 (h.Jv λj x hj hx=>by rw[AW.bh hj];exact hk j x hj hx)
def bD.upd2 {A A':AW}{b c:Nat}{o o' p p':dt}{F:HP}(h:bD A (pt b o*(pt c p*F)))(h1:A'.bk b=qf o')(h2:A'.bk c=qf p')(hk:∀j x,j≠b->j≠c->A.bk j=qf x->A'.bk j=qf x):bD A' (pt b o'*(pt c p'*F)):=by
 have hbc:=h.ne;have e1:bD (A'.set b (qf o)) (pt b o*(pt c p'*F)):=by have h':bD A (pt c p*(pt b o*F)):=h.dJ Ye;refine(bD.upd1 h' (by rw[AW.bh (Zp hbc)];exact h2) λj x hj hx=>?_).dJ Ye;by_cases e:j=b;subst e;rw[AW.cM];rw[h.bk]at hx;exact hx;rw[AW.bh e];exact hk j x e hj hx
 exact bD.upd1 e1 h1 λj x hj hx=>by rwa [AW.bh hj]at hx
def bD.upd3 {A A':AW}{b c d:Nat}{o o' p p' q q':dt}{F:HP}(h:bD A (pt b o*(pt c p*(pt d q*F))))(h1:A'.bk b=qf o')(h2:A'.bk c=qf p')(h3:A'.bk d=qf q')(hk:∀j x,j≠b->j≠c->j≠d->A.bk j=qf x->A'.bk j=qf x):bD A' (pt b o'*(pt c p'*(pt d q'*F))):=by
 have hbc:=h.ne;have hbd:=h.ne2;have e1:bD (A'.set b (qf o)) (pt b o*(pt c p'*(pt d q'*F))):=by have h':bD A (pt c p*(pt d q*(pt b o*F))):=h.dJ Ye;refine(bD.upd2 h' (by rw[AW.bh (Zp hbc)];exact h2) (by rw[AW.bh (Zp hbd)];exact h3) λj x hj OJ hx=>?_).dJ Ye;by_cases e:j=b;subst e;rw[AW.cM];rw[h.bk]at hx;exact hx;rw[AW.bh e];exact hk j x e hj OJ hx
 exact bD.upd1 e1 h1 λj x hj hx=>by rwa [AW.bh hj]at hx
def bD.fin11 {A A':AW}{b c:Nat}{o o' p:dt}{F:HP}(h:bD A (pt b o*(pt c p*F)))(h1:A'.bk b=qf o')(hk:∀j x,j≠b->j≠c->A.bk j=qf x->A'.bk j=qf x):bD A' (pt b o'*F):=by
 have hbc:=h.ne;have h':bD A (pt c p*(pt b o*F)):=h.dJ Ye;have e1:bD (A'.set b (qf o)) (pt b o*F):=h'.Jv λj x hj hx=>by by_cases e:j=b;subst e;rw[AW.cM];rw[h.bk]at hx;exact hx;rw[AW.bh e];exact hk j x e hj hx
 exact bD.upd1 e1 h1 λj x hj hx=>by rwa [AW.bh hj]at hx
def bD.QH {A A':AW}{b c d:Nat}{o o' p q:dt}{F:HP}(h:bD A (pt b o*(pt c p*(pt d q*F))))(h1:A'.bk b=qf o')(hk:∀j x,j≠b->j≠c->j≠d->A.bk j=qf x->A'.bk j=qf x):bD A' (pt b o'*F):=by
 have hbc:=h.ne;have hbd:=h.ne2;have RC:=h.right.ne;have e1:bD (A'.set c (qf p)) (pt b o'*(pt c p*F)):=by refine(bD.fin11 (b:=b) (c:=d) (o:=o) (p:=q) (F:=pt c p*F) (h.dJ Ye) (by rw[AW.bh hbc];exact h1) λj x hj OJ hx=>?_);by_cases e:j=c;subst e;rw[AW.cM];rw[h.right.bk]at hx;exact hx;rw[AW.bh e];exact hk j x hj e OJ hx
 have e2:bD (A'.set c (qf p)) (pt c p*(pt b o'*F)):=e1.dJ Ye;exact e2.Jv λj x hj hx=>by rwa [AW.bh hj]at hx
def Eh {P:qp}{n:Nat}{c:Code}{Q:Exit->Fr->AW->Prop}{a:Fr}{A:AW}(J:AW->Prop)(hJ:J A)(h:∀A',J A'->df P n c Q a A'):df P n c Q a A:=h A hJ
def aL (P:qp)(n:Nat)(c:Code)(Q:Exit->Fr->AW->Prop):Nat->Fr->AW->Prop
 |0,_,_=>False
 |k+1,a,A=>df P n c (aT (aL P n c Q k) Q) a A
def i7 {P:qp}{n:Nat}{c:Code}{Q:Exit->Fr->AW->Prop}{a:Fr}{A:AW}(k:Nat)(h:aL P n c Q k a A):df P n (.loop c) Q a A:=by
 refine dO (aL P n c Q) k h ?_;intro k a A h;cases k with
 |zero=>exact h.elim
 |succ k=>exact An h λe a A hh=>by cases e<;>first|exact⟨k,Nat.lt_succ_self k,hh⟩|exact hh
def tc (P:qp)(f:qN)(args:List qi)(tN:HP)(post:qi->HP):Prop:=
 ∀(A:AW)(F:HP),A.Wf->bD A (tN*F)->aE P f args A λv A'=>bD A' (post v*F)
def tc.use {P:qp}{f:qN}{args:List qi}{tN:HP}{post:qi->HP}(h:tc P f args tN post){A:AW}{G F:HP}(hw:A.Wf)(hs:bD A G)(e:G=tN*F){k:qi->AW->Prop}(hk:∀v A',bD A' (post v*F)->A'.Wf->A.next<=A'.next->k v A'):aE P f args A k:=
 bT (h A F hw (hs.dJ e)) hk
end Go.Stx
namespace Go.Stx
open Go
variable [Gl]
def dK (n:Nat)(v:qi):Prop:=∀(m m':Mp)(x:qi),bH m v x->(∀i,i<n->m' i=m i)->bH m' v x
def dK.kZ {n:Nat}{v:qi}(h:fJ v=qj):dK n v:=λm m' x hx _=>by have:=hx.pE h;subst this;exact .kZ h m'
def dK.Do {n:Nat}:dK n (.pointer qk):=λm m' x hx _=>by cases hx;constructor
def dK.mW {n a b:Nat}:dK n (.slice qk a b):=λm m' x hx _=>by cases hx;constructor
def dK.DI {n:Nat}:dK n (.map qk):=λm m' x hx _=>by cases hx;constructor
def dK.nilFunc {n:Nat}:dK n .nilFunc:=λm m' x hx _=>by cases hx;constructor
def dK.nilIface {n:Nat}:dK n .nilIface:=λm m' x hx _=>by cases hx;constructor
def dK.agg {n:Nat}{vs:Array qi}(h:∀v∈vs.toList,dK n v):dK n (.agg vs):=λm m' x hx e=>by
 cases hx with
 |agg h1 h2=>exact .agg h1 λi v v' e1 e2=>h v (kau.2 (kaH e1)) m m' v' (h2 i v v' e1 e2) e
def dK.tuple {n:Nat}{vs:Array qi}(h:∀v∈vs.toList,dK n v):dK n (.tuple vs):=λm m' x hx e=>by
 cases hx with
 |tuple h1 h2=>exact .tuple h1 λi v v' e1 e2=>h v (kau.2 (kaH e1)) m m' v' (h2 i v v' e1 e2) e
@[simp] def dK.int {n:Nat}{k:qD}{x:Int}:dK n (.int k x):=λm m' x hx _=>by cases hx;constructor
@[simp] def dK.bool {n:Nat}{x:Bool}:dK n (qt x):=λm m' x hx _=>by cases hx;constructor
@[simp] def dK.string {n:Nat}{x:ByteArray}:dK n (.string x):=λm m' x hx _=>by cases hx;constructor
attribute [simp] dK.Do dK.mW dK.DI dK.nilFunc dK.nilIface
def sC.H2 {m m':Mp}{a a':qM}(h:sC m a a')(e:∀p,m a.block=qf p->m' a.block=qf p):sC m' a a':=by obtain⟨h1,h2,p,h3,h4⟩:=h;exact⟨h1,h2,p,e p h3,h4⟩
def Fv.H2 {m m':Mp}{a a':qM}{c:Nat}(h:Fv m a a' c)(e:∀p,m a.block=qf p->m' a.block=qf p):Fv m' a a' c:=by obtain⟨h1,h2,p,h3,h4⟩:=h;exact⟨h1,h2,p,e p h3,h4⟩
def bH.Ca {m m1 m2:Mp}(WE:∀i,m i≠qk->m2 i=m1 i){v x:qi}(h:bH m v x):∀y,bH m1 v y->bH m2 v y:=by
 have MW:∀{i:Nat}{p:Pl},m i=qf p->m2 i=m1 i:=λh=>WE _ (by rw[h];exact kbB _)
 induction h with
 |bool b=>intro y hy;cases hy;constructor
 |int k n=>intro y hy;cases hy;constructor
 |float k n=>intro y hy;cases hy;constructor
 |complex k x y=>intro y hy;cases hy;constructor
 |string s=>intro y hy;cases hy;constructor
 |Do=>intro y hy;cases hy;constructor
 |G0 h=>
   intro y hy;obtain⟨_,_,p,hp,_⟩:=h;cases hy with
   |G0 h'=>exact .G0 (h'.H2 λq hq=>by rw[MW hp];exact hq)
 |mW=>intro y hy;cases hy;constructor
 |slice h h1 h2=>
   intro y hy;cases hy with
   |slice h' h1' h2'=>
     rename_i a _ _ _ _ _ _;have key:m2 a.block=m1 a.block\/a.spot.isSome=qj:=by rcases h with ⟨Kb,_,p,hp,_⟩|⟨hl,_,zI|hb⟩;exact qw (MW hp);exact qB zI;exact qw (WE _ hb)
     rcases key with hb|zI;refine .slice ?_ h1' h2';rcases h' with s|⟨e1,e2,e3⟩;exact qw (s.H2 λq hq=>by rw[hb];exact hq);exact qB ⟨e1,e2,e3.imp id λe=>by rw[hb];exact e⟩;refine .slice ?_ h1' h2';rcases h' with s|⟨e1,e2,e3⟩;have:=s.1;rw[this]at zI;cases zI;exact qB ⟨e1,e2,qw zI⟩
 |DI=>intro y hy;cases hy;constructor
 |map h=>
   intro y hy;obtain⟨p,hp,_⟩:=h;cases hy with
   |map h'=>obtain⟨q,hq,e⟩:=h';exact .map ⟨q,by rw[MW hp];exact hq,e⟩
 |Js=>intro y hy;cases hy;constructor
 |func fn hx hy h1 h2 ih1 ih2=>
   intro y hy';rename_i x x' z z';cases hy' with
   |func _ kx ky g1 g2=>refine .func fn kx ky (λi v v' e1 e2=>?_) (λi v v' e1 e2=>?_);have b9:i<x'.size:=Xa;exact ih1 i v _ e1 (ZQ b9) v' (g1 i v v' e1 e2);have b9:i<z'.size:=(by rw[<-hy];exact(Zj.1 e1).1);exact ih2 i v _ e1 (ZQ b9) v' (g2 i v v' e1 e2)
 |nilFunc=>intro y hy;cases hy;constructor
 |iface t _ ih=>intro y hy;cases hy with|iface _ h'=>exact .iface t (ih _ h')
 |nilIface=>intro y hy;cases hy;constructor
 |agg hx _ ih=>
   intro y hy';rename_i x x' _;cases hy' with
   |agg kx g1=>refine .agg kx (λi v v' e1 e2=>?_);have b9:i<x'.size:=Xa;exact ih i v _ e1 (ZQ b9) v' (g1 i v v' e1 e2)
 |tuple hx _ ih=>
   intro y hy';rename_i x x' _;cases hy' with
   |tuple kx g1=>refine .tuple kx (λi v v' e1 e2=>?_);have b9:i<x'.size:=Xa;exact ih i v _ e1 (ZQ b9) v' (g1 i v v' e1 e2)
def OBelow (n:Nat):dt->Prop
 | .cells cs _ _=>∀c∈cs,dK n c
 | .map es _=>∀e∈es,dK n e.1/\dK n e.2
def aE.gc {P:qp}{f:qN}{args:List qi}{A X:AW}{V:qi}(hX:X.next=A.next)(hV:dK A.next V)(hO:∀i o,X.bk i=qf o->i<A.next/\(A.bk i=qf o\/OBelow A.next o))(h:aE P f args A λv A'=>v=V/\∀i o,X.bk i=qf o->A'.bk i=qf o):aE P f args A λv A'=>v=V/\X=A':=by
 refine⟨h.1,λm w iE hs hl=>(h.2 m w iE hs hl).mono ?_⟩;rintro e w'⟨v,v',m',A',rfl,ev,hv,rfl,hg⟩
 let m2:Mp:=λi=>if i<A.next then m' i else qk
 have Wr:∀i,m i≠qk->i<A.next:=λi hi=>by rcases ZX i A.next with h|h;exact h;exact absurd (hs.nS i h) hi
 have h2:∀i,i<A.next->m2 i=m' i:=λi hi=>az hi;have gb:Mp.le m m2:=λi p hi=>by have:=Wr i (by rw[hi];exact kbB _);rw[h2 i this];exact ev.ext i p hi
 have WB:∀{u x:qi},dK A.next u->bH m' u x->bH m2 u x:=λhb hr=>hb m' m2 _ hr h2;have WE:∀i,m i≠qk->m2 i=m' i:=λi hi=>h2 i (Wr i hi);refine⟨v,v',m2,X,rfl,⟨gb,⟨?_,?_,?_,?_,ev.vL.laid,λi o p hi AT E8=>ev.vL.yP i o p (hg i o hi) AT (by rw[<-h2 i (hO i o hi).1];exact E8),hs.w5.mono gb⟩,by omega,ev.os,ev.tape,ev.output,ev.size,ev.sD,?_,λi hi=>(h2 i hi).trans (ev.jp i hi),?_⟩,WB hV hv,rfl,rfl⟩
 . intro i o hi;obtain⟨p,hp,hm⟩:=ev.vL.Dv i o (hg i o hi);obtain⟨b9,vV⟩:=hO i o hi;refine⟨p,by rw[h2 i b9];exact hp,?_⟩;rcases vV with hA|hB
   . obtain⟨p0,Hc,hm0⟩:=hs.Dv i o hA;cases o with
     |cells cs own u=>obtain⟨ik,e1,fr,g1,g2,g3,g4,g5⟩:=hm;obtain⟨_,_,_,_,_,_,_,k5⟩:=hm0;refine⟨ik,e1,fr,g1,g2,g3,g4,λk u hu=>?_⟩;obtain⟨y,hy,hr⟩:=g5 k u hu;obtain⟨x,_,hr0⟩:=k5 k u hu;exact⟨y,hy,hr0.Ca WE y hr⟩
     |map es own=>obtain⟨kw,aC,yg,gp,g1,g2,g3⟩:=hm;obtain⟨ents0,_,es0,kp,_,k2,k3⟩:=hm0;refine⟨kw,aC,yg,gp,g1,g2,λk x e hx he=>?_⟩;obtain⟨k0,U3⟩:=List.mem_iff_getElem?.1 ((kp.mem_iff).1 ((gp.mem_iff).2 (kal hx)));have b9:k0<ents0.size:=Xr;have q:=k3 k0 x _ U3 (ZQ b9);have r:=g3 k x e hx he;exact⟨q.1.Ca WE _ r.1,q.2.Ca WE _ r.2⟩
   cases o with
   |cells cs own u=>obtain⟨ik,e1,fr,g1,g2,g3,g4,g5⟩:=hm;refine⟨ik,e1,fr,g1,g2,g3,g4,λk u hu=>?_⟩;obtain⟨y,hy,hr⟩:=g5 k u hu;exact⟨y,hy,WB (hB u (kal hu)) hr⟩
   |map es own=>obtain⟨kw,aC,yg,gp,g1,g2,g3⟩:=hm;refine⟨kw,aC,yg,gp,g1,g2,λk x e hx he=>?_⟩;have r:=g3 k x e hx he;have b:=hB x ((gp.mem_iff).2 (kal hx));exact⟨WB b.1 r.1,WB b.2 r.2⟩
 intro i j o o' p p' hi ho hj fL hpi hpj;rw[h2 i (hO i o hi).1]at hpi;rw[h2 j (hO j o' hj).1]at hpj;exact ev.vL.inj i j o o' p p' (hg i o hi) ho (hg j o' hj) fL hpi hpj;intro i hi;exact ar Ya
 . intro i hi;cases hx:X.bk i with
   |none=>rfl
   |some o=>have:=(hO i o hx).1;omega
 rintro b⟨i,o,p,hi,ho,hp,hb⟩;rw[h2 i (hO i o hi).1]at hp;exact ev.grow b ⟨i,o,p,hg i o hi,ho,hp,hb⟩;rintro b⟨i,o,p,hi,hp,hb⟩;rw[h2 i (hO i o hi).1]at hp;exact ev.Km b ⟨i,o,p,hg i o hi,hp,hb⟩
def aE.wy {P:qp}{f:qN}{args:List qi}{A:AW}{V:qi}(hV:dK A.next V)(h:A.Wf->aE P f args A λv A'=>v=V/\A.le A')(hc:lh P f=qj):aE P f args A λv A'=>v=V/\A=A':=by
 have key:A.Wf->aE P f args A λv A'=>v=V/\A=A':=λhw=>aE.gc rfl hV (λi o hi=>⟨hw.lt hi,qw hi⟩) ((h hw).mono λv A' ⟨h1,h2⟩=>⟨h1,λi o hi=>h2.jp hw hi⟩)
 exact⟨hc,λm w iE hs hl=>(key hs.tO).2 m w iE hs hl⟩
end Go.Stx
namespace Go.Stx
open Go
variable [Gl]
def dv (size:Nat)(v:qi)(n:Nat)(cs:List qi):HP:=
 ⟨λh=>(v=.slice qk 0 0/\n=0/\cs=[]/\h=λ_=>qk) \/
  ∃b off c bO,v=.slice (qf ⟨b,off,qk⟩) n c/\n<=c/\off+n*size<=U bO/\cs=(bO.drop off).take (n*size)/\
   h=λj=>if j=b then qf (.cells bO qj size) else qk⟩
def ay (k:qD)(v:qi)(l:List Int):HP:=dv 1 v (U l) (l.map (Zl k))
def dv.cases {A:AW}{size n:Nat}{v:qi}{cs:List qi}{F:HP}(h:bD A (dv size v n cs*F)):
 (v=.slice qk 0 0/\n=0/\cs=[]/\bD A F) \/
 ∃b off c bO,v=.slice (qf ⟨b,off,qk⟩) n c/\n<=c/\off+n*size<=U bO/\cs=(bO.drop off).take (n*size)/\bD A (pt b (.cells bO qj size)*F):=by obtain⟨_,⟨a,b,d,rfl,p,q⟩,hs⟩:=h;rcases p with ⟨h1,h2,h3,rfl⟩|⟨b',off,c,bO,h1,h2,h3,h4,rfl⟩;exact qw ⟨h1,h2,h3,b,q,hs⟩;exact qB ⟨b',off,c,bO,h1,h2,h3,h4,_,⟨_,b,d,rfl,rfl,q⟩,hs⟩
def dv.nil {A:AW}{size:Nat}{F:HP}(h:bD A F):bD A (dv size (.slice qk 0 0) 0 []*F):=by obtain⟨x,p,hs⟩:=h;exact⟨x,⟨_,x,λ_=>qw rfl,rfl,qw ⟨rfl,rfl,rfl,rfl⟩,p⟩,hs⟩
def dv.mk {A:AW}{size n b off c:Nat}{bO cs:List qi}{F:HP}(hc:n<=c)(h1:off+n*size<=U bO)(h2:cs=(bO.drop off).take (n*size))(h:bD A (pt b (.cells bO qj size)*F)):bD A (dv size (.slice (qf ⟨b,off,qk⟩) n c) n cs*F):=
 h.entl λx hx=>qB ⟨b,off,c,bO,rfl,hc,h1,h2,hx⟩
def dv.own {A:AW}{size n:Nat}{v:qi}{cs:List qi}{F:HP}(h:bD A (dv size v n cs*F)):dW 0 A size v n cs:=by rcases dv.cases h with ⟨rfl,rfl,rfl,_⟩|⟨b,off,c,bO,rfl,h1,h2,h3,h4⟩;exact qw ⟨rfl,rfl,rfl⟩;exact qB ⟨⟨b,off,qk⟩,c,bO,rfl,h1,rfl,Zv _,h4.bk,h2,h3⟩
def dv.is {A:AW}{size n:Nat}{v:qi}{cs:List qi}{F:HP}(h:bD A (dv size v n cs*F)):gW A size v n cs:=(dv.own h).is
def ay.is {A:AW}{k:qD}{v:qi}{l:List Int}{F:HP}(h:bD A (ay k v l*F)):b5 A k v l:=dv.is h
def ay.nil {A:AW}{k:qD}{F:HP}(h:bD A F):bD A (ay k (.slice qk 0 0) []*F):=dv.nil h
def ay.mk {A:AW}{k:qD}{b off c n:Nat}{bO:List qi}{l:List Int}{F:HP}(hn:n=U l)(hc:U l<=c)(h1:off+U l<=U bO)(h2:l.map (Zl k)=(bO.drop off).take (U l))(h:bD A (pt b (.cells bO qj 1)*F)):bD A (ay k (.slice (qf ⟨b,off,qk⟩) n c) l*F):=by subst hn;exact dv.mk hc YC Yw h
def dv.jh {A A':AW}{size n:Nat}{v:qi}{cs:List qi}{F:HP}(h:bD A F)(hw:A.Wf)(hl:A.le A')(ho:dW A.next A' size v n cs):bD A' (dv size v n cs*F):=by rcases ho with ⟨rfl,rfl,rfl⟩|⟨p,c,bO,rfl,h1,hs,hB,hg,h2,h3⟩;exact dv.nil (h.le hw hl);obtain⟨b,o,s⟩:=p;simp only at hs hB hg h2 h3;subst hs;refine dv.mk h1 h2 h3 (bD.cons hg (h.of_eq λi o hi=>?_));have:=hw.lt hi;rw[AW.bh Ya];exact hl.jp hw hi
def ay.jh {A A':AW}{k:qD}{v:qi}{l:List Int}{F:HP}(h:bD A F)(hw:A.Wf)(hl:A.le A')(ho:fW A.next A' k v l):bD A' (ay k v l*F):=dv.jh h hw hl ho
def ay.at {A:AW}{k:qD}{v:qi}{l:List Int}{F:HP}(h:bD A (ay k v l*F)){j:Nat}(hj:j<U l):
 ∃b off c bO,v=.slice (qf ⟨b,off,qk⟩) (U l) c/\U l<=c/\A.bk b=qf (.cells bO qj 1)/\bO[off+j]?=qf (.int k l[j])/\off+U l<=U bO/\
  ∀y,bD (A.set b (qf (.cells (bO.set (off+j) (.int k y)) qj 1))) (ay k v (l.set j y)*F):=by
 rcases dv.cases h with ⟨_,h0,_⟩|⟨b,off,c,bO,rfl,h1,h2,h3,h4⟩;omega;rw[ZY]at h2 h3;have hcell:∀q,q<U l->bO[off+q]?=(l.map (Zl k))[q]?:=λq hq=>by rw[h3,kak hq,kam]
 refine⟨b,off,c,bO,rfl,h1,h4.bk,by rw[hcell j hj,Z6,Zf hj];rfl,h2,λy=>?_⟩;have:=dv.mk (size:=1) (n:=U l) (off:=off) (c:=c) (cs:=(l.set j y).map (Zl k)) h1 Yw ?_ (h4.set (.cells (bO.set (off+j) (.int k y)) qj 1));unfold ay
 simpa using this
 rw[ZY];apply kaO;intro q;by_cases hq:q<U l;rw[kak hq,kam,Z6];by_cases e:j=q;subst e;rw[ZN hj,ZN Ya];rfl;rw[ZT e,ZT Ya,hcell q hq,Z6];rw[ZL Yg,ZL Yg]
def ay.append {P:qp}{A:AW}{t e:qy}{i:qX}{z:qi}{v:qi}{k:qD}{l:List Int}{F:HP}(y:Int)(hu:P.underlying t=qf (.slice e))(hi:P.info? e=qf i)(hz:i.zero=qf z)(iP:i.size=1)(rR:z.cells.size=1)(h:bD A (ay k v l*F))(cy:U l<2 ^ 40)(CH:i.bytes<=8)(hw:A.Wf):
 ∃v' A',fD P (A.alloc (.cells [.int k y] qj 1)) t t v (.slice (qf ⟨A.next,0,qk⟩) 1 1)=qf (v',A')/\bD A' (ay k v' (l++[y])*F)/\A'.Wf/\A.next<=A'.next:=by
 have j5:iv (A.alloc (.cells [.int k y] qj 1)) 1 (.slice (qf ⟨A.next,0,qk⟩) 1 1)=qf (1,[.int k y]):=by simp[iv,AW.bO]
 have hb:(U l+1)*i.bytes<=140737488355328:=by have:=ka9 (U l+1) CH;omega
 have lW:U l+1<=140737488355328:=Ya
 have nQ:[Zl k y].all ZK=qj:=rfl;have hll:U (l++[y])=U l+1:=Yb
 rcases dv.cases h with ⟨rfl,h0,h1,h2⟩|⟨b,off,c,bO,rfl,h1,h2,h3,h4⟩;have:l=[]:=kab h0;subst this;refine⟨.slice (qf ⟨A.next+1,0,qk⟩) (0+1) (0+1),(A.alloc (.cells [.int k y] qj 1)).alloc (.cells ([]++[.int k y]) qj i.size),?_,?_,(hw.alloc _).alloc _,by simp;omega⟩;simp only[fD,hu,hi,hz,iP,j5,gU];rw[az ⟨rR,by omega,trivial⟩,ar Ya,az ⟨lW,hb,nQ⟩];simp;have:=(h2.jp hw (.cells [.int k y] qj 1)).alloc (hw.alloc _) (.cells ([]++[.int k y]) qj i.size);rw[iP]at this ⊢;have h9:bD ((A.alloc (.cells [.int k y] qj 1)).alloc (.cells ([]++[.int k y]) qj 1)) (pt (A.next+1) (.cells [.int k y] qj 1)*F):=this;exact dv.mk (size:=1) (n:=1) (off:=0) (c:=1) Yb Yb Yb h9;have hg:=h4.bk;have b9:=hw.lt hg;have Ke:(A.alloc (.cells [.int k y] qj 1)).bk b=qf (.cells bO qj 1):=by rw[AW.gJ _ _ Ya];exact hg
 refine⟨.slice (qf ⟨A.next+1,0,qk⟩) (U l+1) (U l+1),((A.alloc (.cells [.int k y] qj 1)).set b qk).alloc (.cells ((bO.drop off).take (U l*1)++[.int k y]) qj i.size),?_,?_,
  ((hw.alloc _).set qk Yg).alloc _,by simp;omega⟩
 simp only[fD,hu,hi,hz,iP,j5,gU,Ke];rw[az ⟨rR,by omega,trivial⟩,ar Yb,az ⟨trivial,h2⟩];simp only;rw[ar Ya,az ⟨lW,hb,nQ⟩];simp;have h5:=((h4.jp hw (.cells [.int k y] qj 1)).PY).alloc ((hw.alloc (.cells [.int k y] qj 1)).set qk Yg) (.cells ((bO.drop off).take (U l*1)++[.int k y]) qj i.size);rw[iP]at h5 ⊢;unfold ay;rw[hll];refine dv.mk (Za _) ?_ ?_ YU;simp at h2 ⊢;omega;rw[ZY]at h2 h3;simp only[ZY,kap];rw[<-h3,kaG Yb];simp
def ay.Ek {P:qp}{A:AW}{t e:qy}{i:qX}{z:qi}{v:qi}{k:qD}{l:List Int}{F:HP}(y:Int)(n:Nat)(hu:P.underlying t=qf (.slice e))(hi:P.info? e=qf i)(hz:i.zero=qf z)(iP:i.size=1)(rR:z.cells.size=1)(hn:A.bk n=qf (.cells [.int k y] qj 1))(h:bD A (ay k v l*F))(cy:U l<2 ^ 40)(CH:i.bytes<=8)(hw:A.Wf):
 ∃v' A',fD P A t t v (.slice (qf ⟨n,0,qk⟩) 1 1)=qf (v',A')/\bD A' (ay k v' (l++[y])*F)/\A'.Wf/\A.next<=A'.next:=by
 have j5:iv A 1 (.slice (qf ⟨n,0,qk⟩) 1 1)=qf (1,[.int k y]):=by simp[iv,AW.bO,hn]
 have hb:(U l+1)*i.bytes<=140737488355328:=by have:=ka9 (U l+1) CH;omega
 have lW:U l+1<=140737488355328:=Ya
 have nQ:[Zl k y].all ZK=qj:=rfl;have hll:U (l++[y])=U l+1:=Yb
 rcases dv.cases h with ⟨rfl,h0,h1,h2⟩|⟨b,off,c,bO,rfl,h1,h2,h3,h4⟩
 . have:l=[]:=kab h0;subst this;refine⟨.slice (qf ⟨A.next,0,qk⟩) (0+1) (0+1),A.alloc (.cells ([]++[.int k y]) qj i.size),?_,?_,hw.alloc _,by simp⟩
   . simp only[fD,hu,hi,hz,iP,j5,gU];rw[az ⟨rR,by omega,trivial⟩,ar Ya,az ⟨lW,hb,nQ⟩]
     try simp
   have:=h2.alloc hw (.cells ([]++[.int k y]) qj i.size);rw[iP]at this ⊢;have h9:bD (A.alloc (.cells [.int k y] qj 1)) (pt A.next (.cells [.int k y] qj 1)*F):=this;exact dv.mk (size:=1) (n:=1) (off:=0) (c:=1) Yb Yb Yb h9
 have hg:=h4.bk;have b9:=hw.lt hg
 refine⟨.slice (qf ⟨A.next,0,qk⟩) (U l+1) (U l+1),(A.set b qk).alloc (.cells ((bO.drop off).take (U l*1)++[.int k y]) qj i.size),?_,?_,
  (hw.set qk b9).alloc _,by simp⟩
 . simp only[fD,hu,hi,hz,iP,j5,gU,hg];rw[az ⟨rR,by omega,trivial⟩,ar Yb,az ⟨trivial,h2⟩];simp only;rw[ar Ya,az ⟨lW,hb,nQ⟩]
   try simp
 have h5:=(h4.PY).alloc (hw.set qk b9) (.cells ((bO.drop off).take (U l*1)++[.int k y]) qj i.size);rw[iP]at h5 ⊢;unfold ay;rw[hll];refine dv.mk (Za _) ?_ ?_ YU;simp at h2 ⊢;omega;rw[ZY]at h2 h3;simp only[ZY,kap];rw[<-h3,kaG Yb];simp
def b5.atg {A:AW}{k:qD}{o:Option qM}{c n:Nat}{l:List Int}(h:b5 A k (.slice o n c) l){i:Nat}(hi:i<U l):
 ∃p bO own,o=qf p/\A.bk p.block=qf (.cells bO own 1)/\bO[p.off+i]?=qf (.int k l[i]):=by rcases h.cases with ⟨h1,rfl⟩|⟨p,c,bO,own,h1,_,hg,_,hr⟩;simp at hi;injection h1 with h1 h2 h3;exact⟨p,bO,own,h1,hg,hr i hi⟩
def ay.make {P:qp}{A:AW}{t e:qy}{i:qX}{k k1 k2:qD}{F:HP}(n:Nat)(hu:P.underlying t=qf (.slice e))(hi:P.info? e=qf i)(hz:i.zero=qf (.int k 0))(iP:i.size=1)(CH:i.bytes<=8)(hn:n<2 ^ 40)(h:bD A F)(hw:A.Wf):
 ∃v' A',mM P A t (.int k1 (n:Int)) (.int k2 (n:Int))=qf (v',A')/\bD A' (ay k v' (q9 n 0)*F)/\A'.Wf/\A.le A':=by
 have hb:(n:Int)*i.bytes<=140737488355328:=by
  have:=ka9 n CH;have h2:((n*i.bytes:Nat):Int)<=((n*8:Nat):Int):=by exact_mod_cast this
  have h3:((n*i.bytes:Nat):Int)=(n:Int)*i.bytes:=by push_cast;rfl
  omega
 refine⟨.slice (qf ⟨A.next,0,qk⟩) n n,A.alloc (.cells (fH [.int k 0] n) qj 1),?_,?_,hw.alloc _,AW.le.alloc _ _⟩;simp only[mM,hu,hi,hz,iP];rw[az ⟨rfl,by omega,rfl,by omega,by omega,by omega,hb⟩];simp[Value.cells];have cy:U (fH [Zl k 0] n)=n:=by simp[kG]
 have hcs:(q9 n (0:Int)).map (Zl k)=fH [Zl k 0] n:=by
  clear hb hn cy
  induction n with
  |zero=>rfl
  |succ n ih=>rw[kbm,Z0,ih];rfl
 exact X3
def ay.appendZ {P:qp}{A:AW}{t u e:qy}{i:qX}{ku:qD}{v:qi}{k kq:qD}{l:List Int}{F:HP}(n:Nat)(hu:P.underlying t=qf (.slice e))(huu:P.underlying u=qf (.int ku))(hi:P.info? e=qf i)(hz:i.zero=qf (.int k 0))(iP:i.size=1)(h:bD A (ay k v l*F))(cy:U l+n<2 ^ 40)(CH:i.bytes<=8)(hw:A.Wf):
 ∃v' A',mP P A t u v (.int kq (n:Int))=qf (v',A')/\bD A' (ay k v' (l++q9 n 0)*F)/\A'.Wf:=by
 have hcs:(q9 n (0:Int)).map (Zl k)=fH [Zl k 0] n:=by
  clear cy
  induction n with
  |zero=>rfl
  |succ n ih=>rw[kbm,Z0,ih];rfl
 have hzl:U (fH [Zl k 0] n)=n:=by simp[kG]
 have hb:(U l+n)*i.bytes<=140737488355328:=by have:=ka9 (U l+n) CH;omega
 rcases dv.cases h with ⟨rfl,h0,h1,h2⟩|⟨b,off,c,bO,rfl,h1,h2,h3,h4⟩;have:l=[]:=kab h0;subst this;by_cases hn:n=0;subst hn;refine⟨.slice qk 0 0,A,?_,by simpa using h,hw⟩;simp only[mP,hu,huu,hi,hz,iP,gU];rw[az ⟨rfl,by omega,rfl,by omega,by simp,by simp⟩];simp;refine⟨.slice (qf ⟨A.next,0,qk⟩) (0+n) (0+n),A.alloc (.cells ([]++fH [.int k 0] n) qj 1),?_,?_,hw.alloc _⟩;simp only[mP,hu,huu,hi,hz,iP,gU,Z5];rw[az ⟨rfl,by omega,rfl,by omega,by simp at cy;omega,by simpa using hb⟩,ar hn];rfl;refine ay.mk Yb Yb (by simp[hzl]) ?_ (h2.alloc hw _);rw[ah,ah,hcs,kap,kaG (by simp[hzl])];have hg:=h4.bk;have b9:=hw.lt hg;by_cases hn:n=0;subst hn;refine⟨.slice (qf ⟨b,off,qk⟩) (U l) c,A,?_,by simpa using h,hw⟩;simp only[mP,hu,huu,hi,hz,iP,gU,hg];rw[ar Yb,az ⟨trivial,h2⟩];simp only;rw[az ⟨rfl,by omega,rfl,by omega,by simp at cy ⊢;omega,by simpa using hb⟩]
 simp;refine⟨.slice (qf ⟨A.next,0,qk⟩) (U l+n) (U l+n),(A.set b qk).alloc (.cells ((bO.drop off).take (U l*1)++fH [.int k 0] n) qj 1),?_,?_,(hw.set qk b9).alloc _⟩;simp only[mP,hu,huu,hi,hz,iP,gU,hg,Z5];rw[ar Yb,az ⟨trivial,h2⟩];simp only;rw[az ⟨rfl,by omega,rfl,by omega,by omega,hb⟩,ar hn];rfl;have h5:=h4.PY.alloc (hw.set qk b9) (.cells ((bO.drop off).take (U l*1)++fH [.int k 0] n) qj 1);rw[ZY]at h2 h3;refine ay.mk Yb Yb ?_ ?_ YU;simp[hzl];omega;rw[kap,<-h3,<-hcs,<-kaF,kaG Yb]
def fI (f:Nat->HP):Nat->HP
 |0=>eY
 |n+1=>fI f n*f n
def oV (f:Nat->HP)(i:Nat)(Q:HP):Nat->HP:=λj=>if j=i then Q else f j
def su {f g:Nat->HP}:∀{n:Nat},(∀i,i<n->f i=g i)->fI f n=fI g n
 |0,_=>rfl
 |n+1,h=>by unfold fI;rw[su (n:=n) (λi hi=>h i Ya),h n Ya]
def CQ (f:Nat->HP){i:Nat}:∀{n:Nat},i<n->fI f n=f i*fI (oV f i eY) n
 |0,h=>by omega
 |n+1,h=>by
   unfold fI;by_cases e:i=n;subst e;rw[su (f:=oV f i eY) (g:=f) (n:=i) (λj hj=>by simp[oV];omega)];simp only[oV,if_true,ei];exact HP.mul_comm _ _;have xj:i<n:=Ya;rw[CQ f xj];have:oV f i eY n=f n:=by simp[oV];omega
   rw[this,HP.dq]
def W6 (f:Nat->HP){i n:Nat}(hi:i<n)(Q:HP):fI (oV f i Q) n=Q*fI (oV f i eY) n:=by rw[CQ _ hi];congr 1;simp[oV];refine su λj _=>?_;simp only[oV];split<;>rfl
def bD.pick {A:AW}{f:Nat->HP}{n i:Nat}{F:HP}(h:bD A (fI f n*F))(hi:i<n):bD A (f i*(fI (oV f i eY) n*F)):=by rw[CQ f hi,HP.dq]at h;exact h
def bD.put {A:AW}{f:Nat->HP}{n i:Nat}{Q F:HP}(h:bD A (Q*(fI (oV f i eY) n*F)))(hi:i<n):bD A (fI (oV f i Q) n*F):=by rw[W6 f hi,HP.dq];exact h
end Go.Stx
namespace Go.Stx
open Go
variable [Gl]
def nD (es:List (Int×qi))(a:Int):Option qi:=(es.find? λe=>e.1 == a).map (·.2)
def uZ (k:qD)(es:List (Int×qi)):List (qi×qi):=es.map λe=>(.int k e.1,e.2)
def gh (k:qD)(r:Nat)(f:Int->Option qi):HP:=ut λes:List (Int×qi)=>GL ((es.map (·.1)).Nodup/\∀a,nD es a=f a)*pt r (.map (uZ k es) qj)
def DF {k0 k:qD}{a:Int}:∀(es:List (Int×qi)),(∀e∈es,¬a=e.1)->r8 (.int k0) (.int k a) (uZ k es)=qj
 |[],_=>rfl
 |e::es,h=>by
   have he:(a == e.1)=qn:=by simpa using h e Yb
   unfold uZ r8;simp only[Z0,FO,he];exact DF es λx hx=>h x Yu
def tD {k0 k:qD}{a:Int}:∀(es:List (Int×qi))(i:Nat),(es.map (·.1)).Nodup->∃q,fy (.int k0) (.int k a) (uZ k es) i=qf q/\q.map (·.2)=nD es a/\
 ∀j v,q=qf (j,v)->∃j',j=i+j'/\j'<U es/\(∀v',(es.set j' (a,v')).map (·.1)=es.map (·.1))/\∀v' b,nD (es.set j' (a,v')) b=if b=a then qf v' else nD es b
 |[],i,_=>⟨qk,rfl,rfl,λj v h=>by cases h⟩
 |e::es,i,hn=>by
   simp only[Z0,List.nodup_cons]at hn;unfold uZ fy;simp only[Z0,FO];by_cases h:a=e.1;subst h;have hns:r8 (.int k0) (.int k e.1) (uZ k es)=qj:=DF es λx hx h=>hn.1 (by rw[h];exact List.mem_map_of_mem hx);unfold uZ at hns;refine⟨qf (i,e.2),by simp[hns],by simp[nD],?_⟩;intro j v hj;injection hj with hj;injection hj with h1 h2;subst h1;refine⟨0,rfl,by simp,λv'=>by simp,λv' b=>?_⟩;simp only[List.set_cons_zero,nD,List.find?_cons];by_cases hb:e.1=b;subst hb;simp;have yb:(e.1 == b)=qn:=by simpa using hb
   simp[yb,Zp hb];have fL:(a == e.1)=qn:=by simpa using h
   rw[fL];obtain⟨q,h1,h2,h3⟩:=tD (k0:=k0) (k:=k) (a:=a) es (i+1) hn.2;refine⟨q,h1,?_,?_⟩;rw[h2];have:¬e.1=a:=λx=>h x.symm;simp[nD,this];intro j v hj;obtain⟨j',g1,g2,g0,g3⟩:=h3 j v hj;refine⟨j'+1,by omega,by simpa using g2,λv'=>by simpa using g0 v',λv' b=>?_⟩;have:=g3 v' b;simp only[List.set_cons_succ,nD,List.find?_cons]at this ⊢;by_cases hb:e.1=b;subst hb;have:¬e.1=a:=λx=>h x.symm;simp[this];have yb:(e.1 == b)=qn:=by simpa using hb
   rw[yb]
   exact X9
def Lh {es:List (Int×qi)}{a:Int}{v:qi}(h:nD es a=qk)(b:Int):nD (es++[(a,v)]) b=if b=a then qf v else nD es b:=by simp only[nD,List.find?_append,Option.map_eq_none_iff]at h ⊢;by_cases hb:b=a;subst hb;simp[h];have:¬a=b:=λx=>hb x.symm;simp[hb,this]
def gh.bk {A:AW}{k:qD}{r:Nat}{f:Int->Option qi}{F:HP}(h:bD A (gh k r f*F)):
 ∃es,A.bk r=qf (.map (uZ k es) qj)/\((es.map (·.1)).Nodup/\∀a,nD es a=f a)/\bD A (pt r (.map (uZ k es) qj)*F):=by unfold gh at h;rw[bD.ex]at h;obtain⟨es,h⟩:=h;rw[HP.dq,bD.pr]at h;exact⟨es,h.2.bk,h.1,h.2⟩
def gh.fm {A:AW}{k:qD}{r:Nat}{f:Int->Option qi}{F:HP}(h:bD A (gh k r f*F)):
 ∃gI,A.bk r=qf (.map gI qj)/\(∀k0 a v,f a=qf v->∃q,fy (.int k0) (.int k a) gI 0=qf (qf (q,v)))/\(∀k0 a,f a=qk->fy (.int k0) (.int k a) gI 0=qf qk)/\
  bD A (pt r (.map gI qj)*F)/\∀{A':AW}{F':HP},bD A' (pt r (.map gI qj)*F')->bD A' (gh k r f*F'):=by
 obtain⟨es,hg,⟨hn,hf⟩,hS⟩:=gh.bk h;refine⟨_,hg,λk0 a v hv=>?_,λk0 a hv=>?_,hS,λ{A' F'} h'=>?_⟩
 . obtain⟨q,h1,h2,_⟩:=tD (k0:=k0) (k:=k) (a:=a) es 0 hn;rw[hf,hv]at h2;cases q with
   |none=>cases h2
   |some q=>obtain⟨j,u⟩:=q;injection h2 with h2;simp only at h2;subst h2;exact⟨j,h1⟩
 . obtain⟨q,h1,h2,_⟩:=tD (k0:=k0) (k:=k) (a:=a) es 0 hn;rw[hf,hv]at h2;cases q with
   |none=>exact h1
   |some q=>cases h2
 unfold gh;rw[bD.ex];refine⟨es,?_⟩;rw[HP.dq,bD.pr];exact⟨⟨hn,hf⟩,h'⟩
def gh.nF {A:AW}{k:qD}{F:HP}(h:bD A F)(hw:A.Wf):bD (A.alloc (.map [] qj)) (gh k A.next (λ_=>qk)*F):=by unfold gh;rw[bD.ex];refine⟨[],?_⟩;rw[HP.dq,bD.pr];exact⟨⟨List.nodup_nil,λa=>rfl⟩,h.alloc hw _⟩
def oh (f:Int->Option qi)(a:Int)(v:qi):Int->Option qi:=λb=>if b=a then qf v else f b
def gh.xu {P:qp}{A:AW}{t kt e:qy}{k0 k:qD}{r:Nat}{f:Int->Option qi}{F:HP}(h:bD A (gh k r f*F))(ht:P.underlying t=qf (.map kt e))(hk:P.underlying kt=qf (.int k0))(a:Int)(v:qi):
 ∃A',fv P A t (.map (qf r)) (.int k a) v=qf A'/\bD A' (gh k r (oh f a v)*F)/\(A.Wf->A'.Wf)/\A'.next=A.next/\∀j,j≠r->A'.bk j=A.bk j:=by
 obtain⟨es,hg,⟨hn,hf⟩,hS⟩:=gh.bk h;obtain⟨q,h1,h2,h3⟩:=tD (k0:=k0) (k:=k) (a:=a) es 0 hn;have bZ:∀yg:List (Int×qi),(yg.map (·.1)).Nodup->(∀b,nD yg b=oh f a v b)->bD (A.set r (qf (.map (uZ k yg) qj))) (gh k r (oh f a v)*F):=λyg RB he=>by unfold gh;rw[bD.ex];refine⟨yg,?_⟩;rw[HP.dq,bD.pr];exact⟨⟨RB,he⟩,hS.set _⟩
 cases q with
 |none=>refine⟨A.set r (qf (.map (uZ k (es++[(a,v)])) qj)),?_,bZ _ ?_ λb=>?_,λhw=>hw.set _ (hw.lt hg),rfl,λj hj=>AW.bh hj⟩;simp only[fv,ht,hk,hg,lU,if_true,h1];simp[uZ];rw[kaF,List.nodup_append];refine⟨hn,by simp,λx hx y hy e=>?_⟩;simp only[Z0,List.map_nil,List.mem_singleton]at hy;subst hy;subst e;have h2':nD es x=qk:=(by rw[<-h2];rfl);simp only[nD,Option.map_eq_none_iff,List.find?_eq_none]at h2';obtain⟨q,hq,rfl⟩:=List.mem_map.1 hx;have:=h2' q hq;simp at this;rw[Lh (by rw[<-h2];rfl)];simp only[oh,hf]
 |some q=>
   obtain⟨j,u⟩:=q;obtain⟨j',g1,g2,g0,g3⟩:=h3 j u rfl;refine⟨A.set r (qf (.map (uZ k (es.set j' (a,v))) qj)),?_,bZ _ (by rw[g0];exact hn) λb=>?_,λhw=>hw.set _ (hw.lt hg),rfl,λj hj=>AW.bh hj⟩;simp only[fv,ht,hk,hg,lU,if_true,h1];have:j=j':=Ya
   subst this;simp[uZ,List.map_set];rw[g3];simp only[oh,hf]
end Go.Stx
namespace Go.Stx
open Go
variable [Gl]
def ym {r r':qA->qi}{ps:Array (Nat×qA)}(h:∀x∈(ps.toList.map (·.2)).toArray,r x=r' x):pH r ps=pH r' ps:=by unfold pH;refine List.map_congr_left λx hx=>?_;rw[h x.2 (by simpa using ⟨x.1,by simpa using hx⟩)]
def xL {r r':qA->qi}{x:Option qA}(h:∀y∈x.toArray,r y=r' y):x.map r=x.map r':=by
 cases x with
 |none=>rfl
 |some y=>simp[h y Yb]
def JE {r r':qA->qi}{x:Array qA}(h:∀y∈x,r y=r' y):x.map r=x.map r':=Array.map_congr_left h
def Ej {P:qp}{A:AW}{r r':qA->qi}{op:Op}(h:∀x∈op.operands,r x=r' x):aq P A r op=aq P A r' op:=by
 cases op<;>simp only[aq,kaX]at h ⊢
 case move x=>rw[h x Yb]
 case assign x=>rw[h x Yb]
 case pick c x y=>rw[h c Yb,h x Yb,h y Yb]
 case build t ps=>rw[ym h]
 case load t x=>rw[h x Yb]
 case nilCheck x=>rw[h x Yb]
 case binOp op t x y u=>rw[h x Yb,h y Yb]
 case unOp op t x=>rw[h x Yb]
 case convert s d x=>rw[h x Yb]
 case makeInterface t x=>rw[h x Yb]
 case slice t x lo hi mx=>
  have e1:r x=r' x:=h x Yb;have e2:lo.map r=lo.map r':=xL λy hy=>h y YB;have e3:hi.map r=hi.map r':=xL λy hy=>h y YB;cases mx with
  |none=>simp only[e1,e2,e3]
  |some q=>simp only[e1,e2,e3,h q Yb]
 case lookup t x ix c=>rw[h x Yb,h ix Yb]
 case fieldAddr s x f=>rw[h x Yb]
 case field t x f=>rw[h x Yb]
 case indexAddr t x ix=>rw[h x Yb,h ix Yb]
 case index t x ix=>rw[h x Yb,h ix Yb]
 case extract t i=>rw[h t Yb]
 case makeFunc fn fs cs=>rw[JE (r:=r) (r':=r') (x:=fs) λy hy=>h y YB,JE (r:=r) (r':=r') (x:=cs) λy hy=>h y YB]
 case call c=>have hk:∀x∈c.args.toList,r x=r' x:=λx hx=>h x Xs;clear h;generalize c.args.toList=l at hk ⊢;generalize c.argTypes.toList=ts;generalize c.callee=ce;split<;>simp_all
def ae_congr {P:qp}{A:AW}{r r':qA->qi}{op:Op}(h:∀x∈op.operands,r x=r' x):ae P A r op=ae P A r' op:=by
 cases op<;>simp only[ae,kaX]at h ⊢
 case box t x=>rw[h x Yb]
 case buildSlice t n ps=>rw[ym h]
 case store t x y=>rw[h x Yb,h y Yb]
 case makeSlice t l c=>rw[h l Yb,h c Yb]
 case makeMap t x=>rw[xL h]
 case mapUpdate t x k v=>rw[h x Yb,h k Yb,h v Yb]
 case insert t x k v=>rw[h x Yb,h k Yb,h v Yb]
 case call c=>have hk:∀x∈c.args.toList,r x=r' x:=λx hx=>h x Xs;clear h;generalize c.args.toList=l at hk ⊢;generalize c.argTypes.toList=ts;generalize c.callee=ce;split<;>simp_all
def OD {P:qp}{A:AW}{r r':qA->qi}{op:Op}{k:qi->AW->Prop}(h:∀x∈op.operands,r x=r' x):AB P op r A k=AB P op r' A k:=by
 cases op<;>try rfl
 case call c=>
  obtain⟨callee,args,ts⟩:=c;cases callee with
  |value x=>have hx:r x=r' x:=h x Yr;have ha:args.toList.map r=args.toList.map r':=List.map_congr_left λy hy=>h y (by simp only[kaX,Call.operands,Array.mem_append];exact qB (kau.1 hy));simp only[AB,hx,ha]
  |invoke _ _=>rfl
  |builtin _=>rfl
def GC {P:qp}{A:AW}{r r':qA->qi}{op:Op}{k:qi->AW->Prop}(h:∀x∈op.operands,r x=r' x):iJ P op r A k=iJ P op r' A k:=by unfold iJ;rw[Ej h,ae_congr h,OD h]
def H1 {A A':AW}(hk:∀i o,A.bk i=qf o->A'.bk i=qf o){i:Nat}{cs:List qi}(h:A.bO i=qf cs):A'.bO i=qf cs:=by unfold AW.bO at *;split at h;rename_i hg;rw[hk _ _ hg];exact h;cases h
def TV {P:qp}{A A':AW}(hk:∀i o,A.bk i=qf o->A'.bk i=qf o){t:qy}{p:qM}{v:qi}(h:ja P A t p=qf v):ja P A' t p=qf v:=by unfold ja at *;split at h;rename_i h1 h2;rw[H1 hk h1,h2];exact h;rename_i h1 h2;rw[H1 hk h1,h2];exact h;cases h
def aq_keep {P:qp}{A A':AW}(hk:∀i o,A.bk i=qf o->A'.bk i=qf o){r:qA->qi}{op:Op}{v:qi}(h:aq P A r op=qf v):aq P A' r op=qf v:=by
 cases op<;>simp only[aq]at h ⊢<;>try exact h
 case convert s d x=>split at h;exact h;unfold JP at h ⊢;split at h;rename_i h1 h2 h3;split at h;rename_i h4 h5;rw[h4,H1 hk h5];exact h;cases h;cases h
 case load t x=>split at h;rename_i p hp;exact TV hk h;cases h
 case slice t x lo hi mx=>
  cases mx with
  |some q=>exact h
  |none=>
    simp only at h ⊢;unfold Ap at *;split at h;rename_i hu _ _;split at h;rename_i e1;split at h;rename_i e2;split at h;rename_i e3;exact h;rename_i e3;split at h;rename_i q hq;have key:∀{e:qy}{p:qM}{l:Nat},fO P A e p l=qf q->fO P A' e p l=qf q:=by intro e p l hq;unfold fO at hq ⊢;split at hq;rename_i hl;rw[az hl];exact hq;rename_i hl;rw[ar hl];split at hq;rename_i g1 g2;rw[g1,hk _ _ g2];exact hq;cases hq
    rw[key hq];exact h;cases h;cases h;cases h;cases h;exact h;cases h
 case lookup t x ix c=>
  unfold Bf at h ⊢;split at h<;>try(cases h;done)
  split at h<;>try(cases h;done)
  split at h
  case' isFalse=>
   rename_i xh;simp only[ *];unfold Em at h ⊢;split at h<;>try(cases h;done)
   split at h<;>try(cases h;done)
   split at h<;>try(cases h;done)
   simp_all;split at h<;>try(cases h;done)
   rename_i hg;have Ke:=hk _ _ hg;simp_all
  rename_i xh;split at h<;>try(cases h;done)
  simp_all;split at h<;>try(cases h;done)
  rename_i hg;have Ke:=hk _ _ hg;simp_all
def tq:Op->Bool
 | .move _ | .assign _ | .pick _ _ _ | .build _ _ | .nilCheck _ | .binOp _ _ _ _ _ | .unOp _ _ _ | .makeInterface _ _ | .fieldAddr _ _ _ | .field _ _ _ | .indexAddr _ _ _ | .index _ _ _ | .extract _ _ | .makeFunc _ _ _=>qj
 | .call c=>match c.callee with
   |qH .len |qH .min |qH .max=>qj
   |_=>qn
 |_=>qn
def quietOp:Op->Bool
 | .load _ _ | .slice _ _ _ _ _ | .lookup _ _ _ _ | .convert _ _ _=>qj
 |op=>tq op
def JA {P:qp}{A A':AW}{r:qA->qi}{op:Op}(hm:tq op=qj):aq P A' r op=aq P A r op:=by cases op<;>first|rfl|(simp[tq]at hm;done)
end Go.Stx
namespace Go.Stx
open Go
variable [Gl]
section
variable {P:qp} {bf:Array qC} {S:AW->Prop} {md:Nat->Nat} {K:Fr->AW->Prop} {nf:List Nat}
def yV (P:qp)(bf:Array qC)(S:AW->Prop)(md:Nat->Nat)(i:Nat)(o:qC)(a:Fr)(A:AW)(k:Fr->AW->Prop):Prop:=
 if iX bf a o=qj then
  if md i<=1 then ∃v,aq P A (gZ a) o.op=qf v/\k (d8 a o.dst v) A
  else iJ P o.op (gZ a) A λv A'=>(if md i=2 then A.le A' else (md i=3->S A'))/\k (d8 a o.dst v) A'
 else k (d8 a o.dst qE) A
def Lq (L:Nat->Bool)(i:Nat)(o:qC):Prop:=L i=qn/\∀e∈o.after,ZM .any e=qj->L e.on=qj
def bF (L:Nat->Bool)(i:Nat):Nat->Bool:=λj=>if j=i then qj else L j
def CZ (P:qp)(bf:Array qC)(S:AW->Prop)(md:Nat->Nat)(K:Fr->AW->Prop):Nat->(Nat->Bool)->Fr->AW->Prop
 |0,L,a,A=>(∀i,i<bf.size->L i=qj)/\K a A
 |n+1,L,a,A=>((∀i,i<bf.size->L i=qj)->K a A)/\(A.Wf->∀i o,bf[i]?=qf o->Lq L i o->yV P bf S md i o a A (CZ P bf S md K n (bF L i)))
def yV.mono {i:Nat}{o:qC}{a:Fr}{A:AW}{k k':Fr->AW->Prop}(h:yV P bf S md i o a A k)(hk:∀v A',(md i<=1->A'=A)->(md i=2->A.le A')->(md i=3->iX bf a o=qj->S A')->(iX bf a o=qn->A'=A)->k (d8 a o.dst v) A'->k' (d8 a o.dst v) A'):yV P bf S md i o a A k':=by
 unfold yV at *;split;rename_i hg;rw[az hg]at h;split;rename_i hm;rw[az hm]at h;obtain⟨v,h1,h2⟩:=h;exact⟨v,h1,hk v A (λ_=>rfl) (λe=>by omega) (λe=>by omega) (λ_=>rfl) h2⟩;rename_i hm;rw[ar hm]at h;refine h.mono λv A' ⟨h1,h2⟩=>⟨h1,hk v A' (λe=>by omega) (λe=>?_) (λe _=>?_) (λe=>?_) h2⟩;rwa [az e]at h1;rw[ar Ya]at h1;exact h1 e;rw[e]at hg;cases hg;rename_i hg;rw[ar hg]at h;have Ke:iX bf a o=qn:=by simpa using hg
 exact hk qE A (λ_=>rfl) (λ_=>AW.le.refl A) (λ_ e=>by rw[e]at Ke;cases Ke) (λ_=>rfl) h
def yV.aop1 {i:Nat}{o:qC}{a:Fr}{A:AW}{k:Fr->AW->Prop}(h:yV P bf S md i o a A k):OC P bf o a A k:=by unfold yV at h;unfold OC;split;rename_i hg;rw[az hg]at h;split at h;obtain⟨v,h1,h2⟩:=h;simp only[iJ,h1];exact h2;exact h.mono λv A' hh=>hh.2;rename_i hg;rw[ar hg]at h;exact h
def Gm {n:Nat}{Q:Exit->Fr->AW->Prop}{a:Fr}{A:AW}{id:Nat}(hm:P.follows qI=qj)(pT:jT bf=qj){k:Nat}(h:CZ P bf S md (Q qG) k (λ_=>qn) a A):df P n (qS id bf qj) Q a A:=by
 refine Vn hm pT (λL a A=>∃k,CZ P bf S md (Q qG) k L a A) ⟨k,h⟩ ?_ ?_
 . rintro L a A i o hw⟨k,hk⟩ho hL ks;cases k with
   |zero=>have:=hk.1 i (Zj.1 ho).1;rw[hL]at this;cases this
   |succ k=>have:=(hk.2 hw i o ho ⟨hL,ks⟩).aop1;unfold OC at this ⊢;split;rename_i hg;rw[az hg]at this;exact this.mono λv A' hh=>⟨k,hh⟩;rename_i hg;rw[ar hg]at this;exact⟨k,this⟩
 rintro L a A _⟨k,hk⟩gQ;cases k with
 |zero=>exact hk.2
 |succ k=>exact hk.1 gQ
def evF_put {a:Fr}{d:Option Tmp}{v:qi}{x:qA}(h:∀t,d=qf t->x≠.tmp t):gZ (d8 a d v) x=gZ a x:=by
 cases d with
 |none=>rfl
 |some t=>
   cases x with
   |tmp q=>have:q≠t:=λe=>h t rfl (by rw[e]);simp[d8,mu,this]
   |_=>rfl
def D1 {a:Fr}{d:Option Tmp}{v:qi}{o:qC}(h:∀t,d=qf t->t∉o.looksAt bf):iX bf (d8 a d v) o=iX bf a o:=by
 unfold iX;cases hg:o.guard with
 |none=>rfl
 |some g=>
   obtain⟨j,w⟩:=g;simp only;cases hj:(bf[j]?).bind (·.dst) with
   |none=>rfl
   |some q=>
     simp only;have fL:∀t,d=qf t->q≠t:=λt ht e=>h t ht (by simp[Oper.looksAt,hg,hj,e]);have:d8 a d v q=a q:=by
      cases d with
      |none=>rfl
      |some t=>simp[d8,mu,fL t rfl]
     rw[this]
def mX {a:Fr}{d:Option Tmp}{v:qi}{o:qC}(h:∀t,d=qf t->t∉o.looksAt bf):∀x∈o.op.operands,gZ (d8 a d v) x=gZ a x:=by intro x hx;refine evF_put λt ht e=>h t ht ?_;subst e;simp only[Oper.looksAt,List.mem_append,List.mem_filterMap];exact qw ⟨.tmp t,kau.2 hx,rfl⟩
def tM {a:Fr}{d e:Option Tmp}{v u:qi}(h:∀t,d=qf t->e≠qf t):d8 (d8 a d v) e u=d8 (d8 a e u) d v:=by
 cases d with
 |none=>rfl
 |some t=>
   cases e with
   |none=>rfl
   |some q=>have:t≠q:=λx=>h t rfl (by rw[x]);funext j;simp only[d8,mu];by_cases h1:j=q;subst h1;have:¬j=t:=λx=>this x.symm;simp[this];simp[h1]
def yV.unput {j:Nat}{oi oj:qC}{a:Fr}{A:AW}{v:qi}{k:Fr->AW->Prop}(Tc:oi.apart bf oj=qj)(h:yV P bf S md j oj (d8 a oi.dst v) A k):
 yV P bf S md j oj a A λa' A'=>k (d8 a' oi.dst v) A':=by obtain⟨h1,h2,h3⟩:=Oper.apart_spec Tc;unfold yV at *;rw[D1 h1]at h;split;rename_i hg;rw[az hg]at h;split;rename_i hm;rw[az hm,Ej (mX h1)]at h;obtain⟨u,h4,h5⟩:=h;exact⟨u,h4,by show k (d8 (d8 a oj.dst u) oi.dst v) A;rw[<-tM h2];exact h5⟩;rename_i hm;rw[ar hm,GC (mX h1)]at h;refine h.mono λu A' ⟨h4,h5⟩=>⟨h4,by show k (d8 (d8 a oj.dst u) oi.dst v) A';rw[<-tM h2];exact h5⟩;rename_i hg;rw[ar hg]at h;rw[<-tM h2];exact h
def mj (bf:Array qC)(L:Nat->Bool):Prop:=∀k o,bf[k]?=qf o->L k=qj->∀e∈o.after,ZM .any e=qj->L e.on=qj
def ancF (nf:List Nat)(m:Nat)(e:Edge):Nat:=if ZM .any e=qj then (m ||| nf.getD e.on 0) ||| 2 ^ e.on else m
def Ra:List qC->List Nat->List Nat
 |[],jq=>jq
 |o::r,jq=>Ra r (jq++[o.after.toList.foldl (ancF jq) 0])
def Aq (bf:Array qC)(nf:List Nat):Bool:=(Zt bf.size).all λi=>match bf[i]? with|some o=>nf.getD i 0 == o.after.toList.foldl (ancF nf) 0|none=>qn
def Rb {nf:List Nat}{q:Nat}:∀(l:List Edge)(m:Nat),(l.foldl (ancF nf) m).testBit q=qj->m.testBit q=qj\/∃e∈l,ZM .any e=qj/\((nf.getD e.on 0).testBit q=qj\/e.on=q)
 |[],m,h=>qw h
 |e::l,m,h=>by rw[List.foldl_cons]at h;rcases Rb l _ h with h1|⟨e',h1,h2⟩;unfold ancF at h1;split at h1;rename_i hb;rw[kbE,kbE,Z9,Z9]at h1;rcases h1 with (h1|h1)|h1;exact qw h1;exact qB ⟨e,by simp,hb,qw h1⟩;rw[kbR]at h1;exact qB ⟨e,by simp,hb,qB YC⟩;exact qw h1;exact qB ⟨e',by simp[h1],h2⟩
def Q9 (ha:Aq bf nf=qj){i q:Nat}{o:qC}(ho:bf[i]?=qf o)(h:(nf.getD i 0).testBit q=qj):
 ∃e∈o.after,ZM .any e=qj/\((nf.getD e.on 0).testBit q=qj\/e.on=q):=by have:=Zs.1 ha i (Zr.2 (Zj.1 ho).1);rw[ho]at this;simp only[beq_iff_eq]at this;rw[this]at h;rcases Rb _ _ h with h1|⟨e,h1,h2⟩;simp at h1;exact⟨e,kau.1 h1,h2⟩
def yi (pT:jT bf=qj)(ha:Aq bf nf=qj){L:Nat->Bool}(hc:mj bf L){q:Nat}:∀n k o,k<n->bf[k]?=qf o->L k=qj->(nf.getD k 0).testBit q=qj->L q=qj
 |0,k,o,h,_,_,_=>by omega
 |n+1,k,o,hk,ho,hL,hb=>by obtain⟨e,he,Tb,h1⟩:=Q9 ha ho hb;have hLe:=hc k o ho hL e he Tb;rcases h1 with h1|h1;have b9:=mN pT ho he Tb;have hks:=(Zj.1 ho).1;exact yi pT ha hc n e.on bf[e.on] Ya (ZQ Ya) hLe h1;rw[<-h1];exact hLe
def ri (pT:jT bf=qj)(ha:Aq bf nf=qj){L:Nat->Bool}(hc:mj bf L){j q:Nat}{o:qC}(ho:bf[j]?=qf o)(hr:Lq L j o)(hb:(nf.getD j 0).testBit q=qj):L q=qj:=by obtain⟨e,he,Tb,h1⟩:=Q9 ha ho hb;have hLe:=hr.2 e he Tb;rcases h1 with h1|h1;have b9:=mN pT ho he Tb;have hks:=(Zj.1 ho).1;exact yi pT ha hc _ e.on bf[e.on] (Nat.lt_succ_self _) (ZQ Ya) hLe h1;rw[<-h1];exact hLe
def mj.set {L:Nat->Bool}(hc:mj bf L){i:Nat}{o:qC}(ho:bf[i]?=qf o)(hr:Lq L i o):mj bf (bF L i):=by intro k o' ho' hk e he hb;unfold bF at hk ⊢;split;rfl;split at hk;rename_i e';subst e';rw[ho]at ho';injection ho' with ho';subst ho';exact hr.2 e he hb;exact hc k o' ho' hk e he hb
def Lq.mono {L:Nat->Bool}{i j:Nat}{o:qC}(h:Lq L i o)(fL:i≠j):Lq (bF L j) i o:=by refine⟨by simp[bF,fL,h.1],λe he hb=>?_⟩;unfold bF;split;rfl;exact h.2 e he hb
def LH (L:Nat->Bool)(i j:Nat):bF (bF L i) j=bF (bF L j) i:=by funext k;simp only[bF];split<;>split<;>rfl
def JS (pT:jT bf=qj)(ha:Aq bf nf=qj){i:Nat}{o:qC}{v:qi}(hi:bf[i]?=qf o)(hmd:md i<=1):∀(n:Nat)(L:Nat->Bool)(a:Fr)(A:AW),mj bf L->
 (∀j oj,bf[j]?=qf oj->j≠i->L j=qn->(∀e∈oj.after,ZM .any e=qj->e.on≠i)->o.apart bf oj=qj)->
 (tq o.op=qj\/(∀j oj,bf[j]?=qf oj->j≠i->3<=md j->L j=qn->(nf.getD j 0).testBit i=qj)\/((∀j oj,bf[j]?=qf oj->j≠i->4<=md j->L j=qn->(nf.getD j 0).testBit i=qj)/\∀A',S A'->iX bf a o=qj->aq P A' (gZ a) o.op=qf v))->
 Lq L i o->((iX bf a o=qj/\aq P A (gZ a) o.op=qf v)\/(iX bf a o=qn/\v=qE))->
 CZ P bf S md K n (bF L i) (d8 a o.dst v) A->CZ P bf S md K (n+1) L a A:=by
 intro n
 induction n with
 |zero=>intro L a A hc wX cJ hr hy H;refine⟨λgQ=>?_,λhw j oj hj Bn=>?_⟩;have:=gQ i (Zj.1 hi).1;rw[hr.1]at this;cases this;by_cases lm:j=i;subst lm;rw[hi]at hj;injection hj with hj;subst hj;unfold yV;rcases hy with ⟨h1,h2⟩|⟨h1,rfl⟩;rw[az h1,az hmd];exact⟨v,h2,H⟩;rw[ar (by simp[h1])];exact H;have:=H.1 j (Zj.1 hj).1;simp[bF,lm,Bn.1]at this
 |succ n ih=>
   intro L a A hc wX cJ hr hy H;refine⟨λgQ=>?_,λhw j oj hj Bn=>?_⟩;have:=gQ i (Zj.1 hi).1;rw[hr.1]at this;cases this;by_cases lm:j=i;subst lm;rw[hi]at hj;injection hj with hj;subst hj;unfold yV;rcases hy with ⟨h1,h2⟩|⟨h1,rfl⟩;rw[az h1,az hmd];exact⟨v,h2,H⟩;rw[ar (by simp[h1])];exact H;have hnot:∀e∈oj.after,ZM .any e=qj->e.on≠i:=λe he hb heq=>by have:=Bn.2 e he hb;rw[heq,hr.1]at this;cases this
   have Tc:=wX j oj hj lm Bn.1 hnot;obtain⟨g1,g2,g3⟩:=Oper.apart_spec Tc;have h1:=H.2 hw j oj hj (Bn.mono lm);refine(yV.unput Tc h1).mono λu A' m1 m2 m3 m4 hk=>?_;have xY:iX bf (d8 a oj.dst u) o=iX bf a o:=D1 g3;have lV:∀A0,aq P A0 (gZ (d8 a oj.dst u)) o.op=aq P A0 (gZ a) o.op:=λA0=>Ej (mX g3);have jv:=hc.set hj Bn;refine ih (bF L j) (d8 a oj.dst u) A' jv ?_ ?_ (hr.mono (Zp lm)) ?_ (by rw[LH];exact hk);intro q oq hq P7 L5 Bp;refine wX q oq hq P7 ?_ Bp;unfold bF at L5;split at L5;cases L5;exact L5;rcases cJ with h|h|h;exact qw h;refine qB (qw λq oq hq P7 h3 L5=>h q oq hq P7 h3 ?_);unfold bF at L5;split at L5;cases L5;exact L5;refine qB (qB ⟨λq oq hq P7 h3 L5=>h.1 q oq hq P7 h3 ?_,λA'' hS hg=>by rw[lV];exact h.2 A'' hS (by rw[<-xY];exact hg)⟩);unfold bF at L5;split at L5;cases L5;exact L5;rw[xY,lV];rcases hy with ⟨h2,h3⟩|h2
   . refine qw ⟨h2,?_⟩;rcases ZX (md j) 2 with Lb|Lb;rw[m1 Ya];exact h3;rcases ZX (md j) 3 with OJ|OJ;have gb:=m2 Ya;exact aq_keep (λi o hi=>gb.jp hw hi) h3;rcases cJ with h|h|h;rw[JA h];exact h3;exfalso;have:=ri pT ha hc hj Bn (h j oj hj lm OJ Bn.1);rw[hr.1]at this;cases this;cases hgj:iX bf a oj with
     |true=>rcases ZX (md j) 4 with hj3|hj3;exact h.2 A' (m3 Ya hgj) h2;exfalso;have:=ri pT ha hc hj Bn (h.1 j oj hj lm hj3 Bn.1);rw[hr.1]at this;cases this
     |false=>rw[m4 hgj];exact h3
   exact qB h2
structure yW where
 dst:Option Tmp
 op:Op
 guard:Option (Option Tmp×Bool)
 pw:Nat
def lop (bf:Array qC)(x:Nat×Nat):Option yW:=(bf[x.1]?).map λo=>⟨o.dst,o.op,ml bf o.guard,x.2⟩
def cY (bf:Array qC)(jg:List (Nat×Nat)):List yW:=jg.filterMap (lop bf)
def Uc (P:qp)(A:AW)(r:qA->qi)(op:Op)(k:qi->Prop):Prop:=
 match aq P A r op with
 |some v=>k v
 |none=>False
def aW (P:qp)(S:AW->Prop)(K:Fr->AW->Prop):List yW->Fr->AW->Prop
 |[],a,A=>K a A
 |o::dE,a,A=>
   if sg a o.guard=qj then
    match o.pw with
    |0=>Uc P A (gZ a) o.op λv=>aW P S K dE (d8 a o.dst v) A
    |1=>Uc P A (gZ a) o.op λv=>(∀A',S A'->aq P A' (gZ a) o.op=qf v)/\aW P S K dE (d8 a o.dst v) A
    |2=>iJ P o.op (gZ a) A λv A'=>A.le A'/\aW P S K dE (d8 a o.dst v) A'
    |3=>iJ P o.op (gZ a) A λv A'=>S A'/\aW P S K dE (d8 a o.dst v) A'
    |_=>iJ P o.op (gZ a) A λv A'=>aW P S K dE (d8 a o.dst v) A'
   else aW P S K dE (d8 a o.dst qE) A
def mY (jg:List (Nat×Nat))(j:Nat):Nat:=((jg.find? λx=>x.1 == j).map (·.2)).getD 3
def zz (M:Nat)(i:Nat)(o:qC):Bool:=!M.testBit i && o.after.all λe=>!ZM .any e || M.testBit e.on
def freeB (bf:Array qC)(M:Nat)(i:Nat)(o:qC):Bool:=(Zt bf.size).all λj=>j == i || M.testBit j || match bf[j]? with
 |some oj=>oj.after.any (λe=>ZM .any e && e.on == i) || o.apart bf oj
 |none=>qj
def forcedB (bf:Array qC)(nf:List Nat)(jg:List (Nat×Nat))(M i:Nat):Bool:=(Zt bf.size).all λj=>j == i || M.testBit j || !(ZD 3 (mY jg j)) || (nf.getD j 0).testBit i
def forced4B (bf:Array qC)(nf:List Nat)(jg:List (Nat×Nat))(M i:Nat):Bool:=(Zt bf.size).all λj=>j == i || M.testBit j || !(ZD 4 (mY jg j)) || (nf.getD j 0).testBit i
def soleB (bf:Array qC)(M i:Nat):Bool:=(Zt bf.size).all λj=>j == i || match bf[j]? with
 |some oj=>!zz M j oj
 |none=>qj
def UR (bf:Array qC)(nf:List Nat)(jg:List (Nat×Nat)):Nat->List (Nat×Nat)->Bool
 |M,[]=>(Zt bf.size).all λj=>M.testBit j
 |M,(i,m)::r=>(match bf[i]? with
  |none=>qn
  |some o=>zz M i o && Nat.beq (mY jg i) m && (if ZD m 1 then freeB bf M i o && ((Nat.beq m 1 && forced4B bf nf jg M i) || tq o.op || forcedB bf nf jg M i) else soleB bf M i)) && UR bf nf jg (M ||| 2 ^ i) r
def SA (bf:Array qC)(jg:List (Nat×Nat)):Bool:=jT bf && (let nf:=Ra bf.toList [];Aq bf nf && (UR bf nf jg 0 jg && jg.all λx=>match bf[x.1]? with|some o=>ZD x.2 1 == quietOp o.op|none=>qn))
def lu {M i:Nat}{o:qC}{L:Nat->Bool}(hi:i<bf.size)(pT:jT bf=qj)(ho:bf[i]?=qf o)(hL:∀j,j<bf.size->L j=M.testBit j):zz M i o=qj↔Lq L i o:=by unfold zz Lq;rw[Zg,kae,<-hL i hi,kaE];refine and_congr Iff.rfl (forall_congr' λe=>forall_congr' λhe=>?_);simp only[Z9,kae];constructor;rintro (h|h) hb;rw[h]at hb;cases hb;have b9:=mN pT ho he hb;rw[hL e.on Ya];exact h;intro h;cases hb:ZM .any e;exact qw rfl;have b9:=mN pT ho he hb;rw[<-hL e.on Ya];exact qB (h hb)
def Ev (pT:jT bf=qj)(ha:Aq bf nf=qj){jg:List (Nat×Nat)}:∀(l:List (Nat×Nat))(M:Nat)(L:Nat->Bool)(a:Fr)(A:AW),(∀j,j<bf.size->L j=M.testBit j)->mj bf L->
 UR bf nf jg M l=qj->aW P S K (cY bf l) a A->CZ P bf S (mY jg) K (U l) L a A
 |[],M,L,a,A,hL,hc,hg,h=>⟨λj hj=>by rw[hL j hj];exact Zs.1 hg j (Zr.2 hj),h⟩
 | (i,m)::r,M,L,a,A,hL,hc,hg,h=>by
   unfold UR at hg;rw[Zg]at hg;obtain⟨zL,Qm⟩:=hg;cases hi:bf[i]? with
   |none=>rw[hi]at zL;cases zL
   |some o=>
     rw[hi]at zL;simp only[Zg]at zL;obtain⟨⟨hr,hmd⟩,ya⟩:=zL;have uR:=(Zj.1 hi).1;have hmd':mY jg i=m:=ZR hmd;have AS:Lq L i o:=(lu uR pT hi hL).1 hr;have hL':∀j,j<bf.size->bF L i j=(M ||| 2 ^ i).testBit j:=λj hj=>by rw[kbE,kbR,<-hL j hj];unfold bF;by_cases e:j=i;subst e;simp;have:¬i=j:=λx=>e x.symm;simp[e,this]
     have hc':=hc.set hi AS;have IH:∀a A,aW P S K (cY bf r) a A->CZ P bf S (mY jg) K (U r) (bF L i) a A:=λa A h=>Ev pT ha r (M ||| 2 ^ i) _ a A hL' hc' Qm h;have hlop:cY bf ((i,m)::r)=⟨o.dst,o.op,ml bf o.guard,m⟩::cY bf r:=(by simp[cY,lop,hi]);rw[hlop]at h;unfold aW at h;simp only[<-Pc]at h;have hsole:¬m<=1->∀j oj,bf[j]?=qf oj->Lq L j oj->j=i:=λF9 j oj hj Bn=>by rw[ar YG]at ya;have h1:=Zs.1 ya j (Zr.2 (Zj.1 hj).1);rw[hj]at h1;simp only[Z9,beq_iff_eq,kae]at h1;rcases h1 with h1|h1;exact h1;rw[(lu (Zj.1 hj).1 pT hj hL).2 Bn]at h1;cases h1
     have hnall:¬∀j,j<bf.size->L j=qj:=λgQ=>by have:=gQ i uR;rw[AS.1]at this;cases this
     by_cases F9:m<=1;rw[az YG]at ya;simp only[Zg]at ya;obtain⟨rx,cJ⟩:=ya;have wX:∀j oj,bf[j]?=qf oj->j≠i->L j=qn->(∀e∈oj.after,ZM .any e=qj->e.on≠i)->o.apart bf oj=qj:=λj oj hj lm Qv Bp=>by have wv:=(Zj.1 hj).1;have h1:=Zs.1 rx j (Zr.2 wv);rw[hj,<-hL j wv,Qv]at h1;simp only[Z9,beq_iff_eq,Zq,or_false]at h1;rcases h1 with h1|h1|h1;exact absurd h1 lm;exfalso;rw[Array.any_eq_true]at h1;obtain⟨q,hq,h2⟩:=h1;simp only[Zg,beq_iff_eq]at h2;exact Bp _ (Array.getElem_mem hq) h2.1 h2.2;exact h1
     have bZ:∀v,((iX bf a o=qj/\aq P A (gZ a) o.op=qf v)\/(iX bf a o=qn/\v=qE))->(m=1->iX bf a o=qj->∀A',S A'->aq P A' (gZ a) o.op=qf v)->
      aW P S K (cY bf r) (d8 a o.dst v) A->CZ P bf S (mY jg) K (U r+1) L a A:=by
      intro v hy hS hk;refine JS pT ha hi Ya (U r) L a A hc wX ?_ AS hy (IH _ _ hk);simp only[Z9]at cJ;rcases cJ with (h1|h1)|h1;rw[Zg]at h1;refine qB (qB ⟨λj oj hj lm h3 Qv=>?_,λA' wY xY=>hS (ZR h1.1) xY A' wY⟩);have wv:=(Zj.1 hj).1;have h2:=Zs.1 h1.2 j (Zr.2 wv);rw[<-hL j wv,Qv]at h2;have xl:ZD 4 (mY jg j)=qj:=kaM h3;rw[xl]at h2
      simpa[lm]using h2
      exact qw h1;refine qB (qw λj oj hj lm h3 Qv=>?_);have wv:=(Zj.1 hj).1;have h2:=Zs.1 h1 j (Zr.2 wv);rw[<-hL j wv,Qv]at h2;have xl:ZD 3 (mY jg j)=qj:=kaM h3;rw[xl]at h2
      simpa[lm]using h2
     split at h;rename_i xY;have:m=0\/m=1:=Ya
     rcases this with rfl|rfl;simp only[Uc]at h;split at h;rename_i v hv;exact bZ v (qw ⟨xY,hv⟩) (λe=>by omega) h;exact h.elim;simp only[Uc]at h;split at h;rename_i v hv;exact bZ v (qw ⟨xY,hv⟩) (λ_ _=>h.1) h.2;exact h.elim;rename_i xY;have Ql:iX bf a o=qn:=by simpa using xY
     exact bZ qE (qB ⟨Ql,rfl⟩) (λ_ e=>by rw[Ql]at e;cases e) h;refine⟨λgQ=>absurd gQ hnall,λhw j oj hj Bn=>?_⟩;have lm:=hsole F9 j oj hj Bn;subst lm;rw[hi]at hj;injection hj with hj;subst hj;unfold yV;split at h
     . rename_i xY;rw[az xY,ar Ya,hmd'];by_cases h2:m=2;subst h2;exact h.mono λv A' hh=>⟨by rw[az rfl];exact hh.1,IH _ _ hh.2⟩;have:∃q,m=q+3:=⟨m-3,by omega⟩;obtain⟨q,rfl⟩:=this;cases q with
       |zero=>exact h.mono λv A' hh=>⟨by rw[ar h2];exact λ_=>hh.1,IH _ _ hh.2⟩
       |succ q=>exact h.mono λv A' hh=>⟨by rw[ar h2];exact λe=>by omega,IH _ _ hh⟩
     rename_i xY;rw[ar xY];exact IH _ _ h
end
def awp_l1 {P:qp}{n:Nat}{Q:Exit->Fr->AW->Prop}{a:Fr}{A:AW}{id:Nat}{bf:Array qC}(S:AW->Prop)(jg:List (Nat×Nat))(hm:P.follows qI=qj)(hB:SA bf jg=qj)(h:∀K:Fr->AW->Prop,(∀a A,Q qG a A->K a A)->aW P S K (cY bf jg) a A):df P n (qS id bf qj) Q a A:=by simp only[SA,Zg]at hB;exact Gm hm hB.1 (Ev hB.1 hB.2.1 jg 0 _ a A (λj _=>by simp) (λk o _ hk=>by cases hk) hB.2.2.1 (h _ λ_ _ h=>h))
def Sv {P:qp}{S:AW->Prop}{K:Fr->AW->Prop}{o:yW}{dE:List yW}{a:Fr}{A:AW}(h:∀R:Fr->AW->Prop,(∀a A,aW P S K dE a A->R a A)->
  if sg a o.guard=qj then
   match o.pw with
   |0=>Uc P A (gZ a) o.op λv=>R (d8 a o.dst v) A
   |1=>Uc P A (gZ a) o.op λv=>(∀A',S A'->aq P A' (gZ a) o.op=qf v)/\R (d8 a o.dst v) A
   |2=>iJ P o.op (gZ a) A λv A'=>A.le A'/\R (d8 a o.dst v) A'
   |3=>iJ P o.op (gZ a) A λv A'=>S A'/\R (d8 a o.dst v) A'
   |_=>iJ P o.op (gZ a) A λv A'=>R (d8 a o.dst v) A'
  else R (d8 a o.dst qE) A):aW P S K (o::dE) a A:=h _ λ_ _ h=>h
attribute [simp] Uc
end Go.Stx
namespace Go.Stx
open Go
variable [Gl]
def cX (val:Nat->qi)(i:Nat)(v:qi):Nat->qi:=λj=>if j=i then v else val j
def UO (bf:Array qC):Bool:=jT bf && (Zt bf.size).all λi=>match bf[i]? with
 |some o=>o.guard.isNone && (Zt bf.size).all λj=>j == i || match bf[j]?,o.dst with
   |some oj,qf d=>!(oj.dst == qf d)
   |_,_=>qj
 |none=>qn
def Iq {bf:Array qC}(h:UO bf=qj):jT bf=qj/\(∀(i:Nat)(o:qC),bf[i]?=qf o->o.guard=qk)/\
 ∀(i j:Nat)(o oj:qC)(d:Tmp),bf[i]?=qf o->bf[j]?=qf oj->i≠j->o.dst=qf d->oj.dst≠qf d:=by
 simp only[UO,Zg]at h;refine⟨h.1,λi o ho=>?_,λi j o oj d ho hoj fL hd hdj=>?_⟩;have:=Zs.1 h.2 i (Zr.2 (Zj.1 ho).1);rw[ho]at this;simp only[Zg]at this
 simpa using this.1
 have:=Zs.1 h.2 i (Zr.2 (Zj.1 ho).1);rw[ho]at this;simp only[Zg]at this;have h2:=Zs.1 this.2 j (Zr.2 (Zj.1 hoj).1);rw[hoj,hd]at h2;simp only[Z9,beq_iff_eq,kae]at h2;rcases h2 with h2|h2;exact fL h2.symm;rw[hdj]at h2;simp at h2
def awp_mix {P:qp}{n:Nat}{Q:Exit->Fr->AW->Prop}{a0:Fr}{A0:AW}{id:Nat}{bf:Array qC}(hm:P.follows qI=qj)(hB:UO bf=qj)(G:(Nat->Bool)->(Nat->qi)->HP)(φ:Nat->(Nat->qi)->Prop)(hG:∀(S:Nat->Bool)(i:Nat)(val:Nat->qi)(v:qi),mj bf S->S i=qn->G S (cX val i v)=G S val)(hφ:∀(S:Nat->Bool)(i j:Nat)(val:Nat->qi)(v:qi),mj bf S->S i=qn->S j=qj->φ j val->φ j (cX val i v))(h0:∀val,bD A0 (G (λ_=>qn) val))(wU:∀(i:Nat)(o:qC),bf[i]?=qf o->∀(S:Nat->Bool)(val:Nat->qi)(a:Fr)(A:AW),S i=qn->(∀e∈o.after,ZM .any e=qj->S e.on=qj)->mj bf S->(∀j,S j=qj->φ j val)->A.Wf->bD A (G S val)->
  (∀(j:Nat)(oj:qC)(d:Tmp),bf[j]?=qf oj->oj.dst=qf d->S j=qj->a d=val j)->(∀d:Tmp,(bf.toList.all λo=>!(o.dst == qf d))=qj->a d=a0 d)->
  iJ P o.op (gZ a) A λv A'=>φ i (cX val i v)/\bD A' (G (bF S i) (cX val i v)))(ry:∀(S:Nat->Bool)(val:Nat->qi)(a:Fr)(A:AW),(∀i,i<bf.size->S i=qj)->(∀j,S j=qj->φ j val)->A.Wf->bD A (G S val)->
  (∀(j:Nat)(oj:qC)(d:Tmp),bf[j]?=qf oj->oj.dst=qf d->S j=qj->a d=val j)->(∀d:Tmp,(bf.toList.all λo=>!(o.dst == qf d))=qj->a d=a0 d)->Q qG a A):
 df P n (qS id bf qj) Q a0 A0:=by
 obtain⟨pT,hgd,hds⟩:=Iq hB;intro ki m w ca hs hf;have OG:A0.Wf:=hs.tO
 refine Vn hm pT (λS a A=>(A.Wf->mj bf S/\∃val,(∀j,S j=qj->φ j val)/\bD A (G S val)/\(∀(j:Nat)(oj:qC)(d:Tmp),bf[j]?=qf oj->oj.dst=qf d->S j=qj->a d=val j)/\
  (∀d:Tmp,(bf.toList.all λo=>!(o.dst == qf d))=qj->a d=a0 d)/\((∀i,i<bf.size->S i=qj)->Q qG a A))) ?_ ?_ ?_ ki m w ca hs hf
 intro hw;refine⟨?_,λ_=>qE,?_,h0 _,?_,?_,λgQ=>?_⟩;intro k o _ h;cases h;intro j h;cases h;intro j oj d _ _ h;cases h;intro d _;rfl;refine ry (λ_=>qn) (λ_=>qE) a0 A0 gQ ?_ OG (h0 _) ?_ ?_;intro j h;cases h;intro j oj d _ _ h;cases h;intro d _;rfl;intro S a A i o hw hJ ho rz ks;obtain⟨jv,val,h1,h2,h3,h4,_⟩:=hJ hw;have hcl':=jv.set ho ⟨rz,ks⟩;have cJ:=wU i o ho S val a A rz ks jv h1 hw h2 h3 h4;unfold OC;have hg:iX bf a o=qj:=by simp[iX,hgd i o ho]
 rw[az hg];refine cJ.mono λv A' ⟨h5,h6⟩ lC=>?_;have hp:∀j,bF S i j=qj->φ j (cX val i v):=λj hj=>by
  by_cases e:j=i;subst e;exact h5;have:S j=qj:=by simpa[bF,e]using hj
  exact hφ S i j val v jv rz this (h1 j this)
 have rx:∀j oj d,bf[j]?=qf oj->oj.dst=qf d->bF S i j=qj->d8 a o.dst v d=cX val i v j:=λj oj d hj hd hSj=>by
  by_cases e:j=i;subst e;rw[ho]at hj;injection hj with hj;subst hj;rw[hd];simp[d8,mu,cX];have hSj':S j=qj:=by simpa[bF,e]using hSj
  have fL:o.dst≠qf d:=λx=>hds i j o oj d ho hj (Zp e) x hd;have:d8 a o.dst v d=a d:=by
   cases hod:o.dst with
   |none=>rfl
   |some q=>have:d≠q:=λx=>fL (by rw[hod,x]);simp[d8,mu,this]
  rw[this,h3 j oj d hj hd hSj'];simp[cX,e]
 have Nz:∀d:Tmp,(bf.toList.all λo=>!(o.dst == qf d))=qj->d8 a o.dst v d=a0 d:=λd hd=>by
  have fL:o.dst≠qf d:=λx=>by have:=Zs.1 hd o (kau.2 (kaH ho));rw[x]at this;simp at this
  have:d8 a o.dst v d=a d:=by
   cases hod:o.dst with
   |none=>rfl
   |some q=>have:d≠q:=λx=>fL (by rw[hod,x]);simp[d8,mu,this]
  rw[this];exact h4 d hd
 exact⟨hcl',cX val i v,hp,h6,rx,Nz,λgQ=>ry _ _ _ _ gQ hp lC h6 rx Nz⟩;intro S a A hw hJ gQ;obtain⟨_,val,_,_,_,_,h⟩:=hJ hw;exact h gQ
def BX (bf:Array qC)(k j:Nat):Bool:=match bf[k]? with
 |some o=>o.after.toList.any λe=>ZM .any e && e.on == j
 |none=>qn
def dstB (bf:Array qC)(j d:Nat):Bool:=match bf[j]? with
 |some o=>o.dst == qf d
 |none=>qn
def undstB (bf:Array qC)(d:Nat):Bool:=bf.toList.all λo=>!(o.dst == qf d)
def nO (bf:Array qC)(i:Nat):Op:=match bf[i]? with
 |some o=>o.op
 |none=>.alloc 0
structure MixSt (bf:Array Oper) (φ:Nat->(Nat->Value)->Prop) (a0:Fr) (S:Nat->Bool) (val:Nat->Value) (a:Fr):Prop where
 N1:∀k j,BX bf k j=true->S k=true->S j=true
 uS:∀j,S j=true->φ j val
 ny:∀j d,dstB bf j d=true->S j=true->a d=val j
 eD:∀d,undstB bf d=true->a d=a0 d
def NU {bf:Array qC}{S:Nat->Bool}(hc:mj bf S)(k j:Nat)(h:BX bf k j=qj)(hk:S k=qj):S j=qj:=by unfold BX at h;split at h;rename_i o ho;obtain⟨e,he,h2⟩:=kbd.1 h;simp only[Zg,beq_iff_eq]at h2;rw[<-h2.2];exact hc k o ho hk e (kau.1 he) h2.1;cases h
def awp_mix' {P:qp}{n:Nat}{Q:Exit->Fr->AW->Prop}{a0:Fr}{A0:AW}{id:Nat}{bf:Array qC}(hm:P.follows qI=qj)(hB:UO bf=qj)(G:(Nat->Bool)->(Nat->qi)->HP)(φ:Nat->(Nat->qi)->Prop)(hG:∀(S:Nat->Bool)(i:Nat)(val:Nat->qi)(v:qi),(∀k j,BX bf k j=qj->S k=qj->S j=qj)->S i=qn->G S (cX val i v)=G S val)(hφ:∀(S:Nat->Bool)(i j:Nat)(val:Nat->qi)(v:qi),(∀k j,BX bf k j=qj->S k=qj->S j=qj)->S i=qn->S j=qj->φ j val->φ j (cX val i v))(h0:∀val,bD A0 (G (λ_=>qn) val))(wU:∀(i:Nat),i<bf.size->∀(S:Nat->Bool)(val:Nat->qi)(a:Fr)(A:AW),S i=qn->(∀j,BX bf i j=qj->S j=qj)->MixSt bf φ a0 S val a->A.Wf->bD A (G S val)->
  iJ P (nO bf i) (gZ a) A λv A'=>φ i (cX val i v)/\bD A' (G (bF S i) (cX val i v)))(ry:∀(S:Nat->Bool)(val:Nat->qi)(a:Fr)(A:AW),(∀i,i<bf.size->S i=qj)->MixSt bf φ a0 S val a->A.Wf->bD A (G S val)->Q qG a A):
 df P n (qS id bf qj) Q a0 A0:=by
 have slots:∀{S:Nat->Bool}{val:Nat->qi}{a:Fr},(∀(j:Nat)(oj:qC)(d:Tmp),bf[j]?=qf oj->oj.dst=qf d->S j=qj->a d=val j)->∀j d,dstB bf j d=qj->S j=qj->a d=val j:=by intro S val a h j d hd hj;unfold dstB at hd;split at hd;rename_i o ho;exact h j o d ho (by simpa using hd) hj;cases hd
 refine awp_mix hm hB G φ (λS i val v hc=>hG S i val v (NU hc)) (λS i j val v hc=>hφ S i j val v (NU hc)) h0 ?_ ?_;intro i o ho S val a A hi ks hc hp hw hs hf h0';have lV:nO bf i=o.op:=by unfold nO;rw[ho]
 have nA:∀j,BX bf i j=qj->S j=qj:=λj hj=>by unfold BX at hj;rw[ho]at hj;obtain⟨e,he,h2⟩:=kbd.1 hj;simp only[Zg,beq_iff_eq]at h2;rw[<-h2.2];exact ks e (kau.1 he) h2.1
 have b9:i<bf.size:=(Zj.1 ho).1;have key:=wU i b9 S val a A hi nA ⟨NU hc,hp,slots hf,h0'⟩ hw hs;rw[lV]at key;exact key;intro S val a A gQ hp hw hs hf h0';refine ry S val a A gQ ⟨?_,hp,slots hf,h0'⟩ hw hs;intro k j h hk;unfold BX at h;split at h;rename_i o ho;obtain⟨e,he,h2⟩:=kbd.1 h;simp only[Zg,beq_iff_eq]at h2;have b9:=mN (Iq hB).1 ho (kau.1 he) h2.1;have hk':=(Zj.1 ho).1;exact gQ j Ya;cases h
end Go.Stx
namespace Go.Stx
open Go
variable [Gl]
def nop (bf:Array qC)(o:qC):yW:=⟨o.dst,o.op,ml bf o.guard,3⟩
def dm (bf:Array qC):List yW:=bf.toList.map (nop bf)
def vS {P:qp}{bf:Array qC}{K:Fr->AW->Prop}:∀(l:List qC)(a:Fr)(A:AW),aW P (λ_=>True) K (l.map (nop bf)) a A->OB P bf K l a A
 |[],a,A,h=>h
 |o::dE,a,A,h=>by simp only[Z0,aW,nop]at h;simp only[OB,Pc];split;rename_i hg;rw[az hg]at h;exact h.mono λv A' hh=>vS dE _ _ hh.2;rename_i hg;rw[ar hg]at h;exact vS dE _ _ h
section
variable {P:qp} {n:Nat} {Q:Exit->Fr->AW->Prop} {a:Fr} {A:AW} {id:Nat}
def wn {bf:Array qC}(h:∀K:Fr->AW->Prop,(∀a A,Q qG a A->K a A)->aW P (λ_=>True) K (dm bf) a A):df P n (qS id bf qn) Q a A:=
 Jx (vS _ _ _ (h _ λ_ _ h=>h))
def wl {bf:Array qC}(hm:P.follows qI=qj)(jg:List (Nat×Nat))(hB:SA bf jg=qj)(h:∀K:Fr->AW->Prop,(∀a A,Q qG a A->K a A)->aW P (λ_=>True) K (cY bf jg) a A):df P n (qS id bf qj) Q a A:=awp_l1 _ jg hm hB h
def wlS {bf:Array qC}(S:AW->Prop)(hm:P.follows qI=qj)(jg:List (Nat×Nat))(hB:SA bf jg=qj)(h:∀K:Fr->AW->Prop,(∀a A,Q qG a A->K a A)->aW P S K (cY bf jg) a A):df P n (qS id bf qj) Q a A:=awp_l1 S jg hm hB h
end
def lz {P:qp}{S:AW->Prop}{K:Fr->AW->Prop}{o:yW}{dE:List yW}{a:Fr}{A:AW}(h:∀R:Fr->AW->Prop,(∀a A,aW P S K dE a A->R a A)->
  if sg a o.guard=qj then
   match o.pw with
   |0=>Uc P A (gZ a) o.op λv=>R (d8 a o.dst v) A
   |1=>Uc P A (gZ a) o.op λv=>(∀A',S A'->aq P A' (gZ a) o.op=qf v)/\R (d8 a o.dst v) A
   |2=>iJ P o.op (gZ a) A λv A'=>A.le A'/\R (d8 a o.dst v) A'
   |3=>iJ P o.op (gZ a) A λv A'=>S A'/\R (d8 a o.dst v) A'
   |_=>iJ P o.op (gZ a) A λv A'=>R (d8 a o.dst v) A'
  else R (d8 a o.dst qE) A):aW P S K (o::dE) a A:=Sv h
def lwn {P:qp}{S:AW->Prop}{K:Fr->AW->Prop}{a:Fr}{A:AW}(h:K a A):aW P S K [] a A:=h
def lr {A:AW}{p:Prop}(h:p):A.le A/\p:=⟨AW.le.refl A,h⟩
def la {A:AW}{o:dt}{p:Prop}(h:p):A.le (A.alloc o)/\p:=⟨AW.le.alloc A o,h⟩
def wb {P:qp}{n:Nat}{Q:Exit->Fr->AW->Prop}{a:Fr}{A:AW}{id:Nat}{c:Code}(h:df P n c (b6 id Q) a A):df P n (.block id c) Q a A:=Me h
def wq {P:qp}{n:Nat}{Q:Exit->Fr->AW->Prop}{a:Fr}{A:AW}{x y:Code}(h:df P n x (aT (df P n y Q) Q) a A):df P n (.seq x y) Q a A:=aU h
def wr {P:qp}{n:Nat}{Q:Exit->Fr->AW->Prop}{a:Fr}{A:AW}(h:Q .ret a A):df P n .ret Q a A:=N7 h
def wk {P:qp}{n:Nat}{Q:Exit->Fr->AW->Prop}{a:Fr}{A:AW}(h:Q qG a A):df P n .skip Q a A:=Q3 h
def we {P:qp}{n:Nat}{Q:Exit->Fr->AW->Prop}{a:Fr}{A:AW}{id:Nat}(h:Q (.exit id) a A):df P n (.exit id) Q a A:=Q5 h
def wc {P:qp}{n:Nat}{Q:Exit->Fr->AW->Prop}{a:Fr}{A:AW}{c:qA}{x y:Code}{b:Bool}(hc:gZ a c=qt b)(h1:b=qj->df P n x Q a A)(h2:b=qn->df P n y Q a A):
 df P n (.cond c x y) Q a A:=Jy hc h1 h2
def ws {P:qp}{n:Nat}{c:Code}{Q:Exit->Fr->AW->Prop}{a:Fr}{A:AW}{k:Nat}(h:df P n c (aT (aL P n c Q k) Q) a A):aL P n c Q (k+1) a A:=h
def ib {c:Prop}[Decidable c]{p q:Prop}(h1:c->p)(h2:¬c->q):if c then p else q:=ite_both h1 h2
def wS:(∀bf:Array qC,dm bf=bf.toList.map (nop bf))/\(∀(bf:Array qC)(o:qC),nop bf o=⟨o.dst,o.op,ml bf o.guard,3⟩)/\
 (∀(bf:Array qC)(l:List (Nat×Nat)),cY bf l=l.filterMap (lop bf))/\(∀(bf:Array qC)(x:Nat×Nat),lop bf x=(bf[x.1]?).map λo=>⟨o.dst,o.op,ml bf o.guard,x.2⟩)/\
 (∀(bf:Array qC)(g:Option (Nat×Bool)),ml bf g=g.map λx=>((bf[x.1]?).bind (·.dst),x.2))/\
 (∀(f:qC->yW)(a:qC)(l:List qC),List.map f (a::l)=f a::List.map f l)/\(∀f:qC->yW,List.map f []=[])/\
 (∀(f:Nat×Nat->Option yW)(a:Nat×Nat)(l:List (Nat×Nat)),kb0 f (a::l)=match f a with|none=>kb0 f l|some b=>b::kb0 f l)/\(∀f:Nat×Nat->Option yW,kb0 f []=[])/\
 (∀f:qC->yW,kb8 f qk=qk)/\(∀(f:qC->yW)(a:qC),kb8 f (qf a)=qf (f a))/\
 (∀f:Nat×Bool->Option Tmp×Bool,kb8 f qk=qk)/\(∀(f:Nat×Bool->Option Tmp×Bool)(a:Nat×Bool),kb8 f (qf a)=qf (f a))/\
 (∀(l:List qC)(i:Nat),l.toArray[i]?=l[i]?)/\(∀(a:qC)(l:List qC),(a::l)[0]?=qf a)/\(∀(a:qC)(l:List qC)(i:Nat),(a::l)[i+1]?=l[i]?)/\
 (∀(a:qC)(f:qC->Option Tmp),(qf a).bind f=f a):=by refine⟨λ_=>rfl,λ_ _=>rfl,λ_ _=>rfl,λ_ _=>rfl,λ_ _=>rfl,λ_ _ _=>rfl,λ_=>rfl,λf a l=>?_,λ_=>rfl,λ_=>rfl,λ_ _=>rfl,λ_=>rfl,λ_ _=>rfl,λl i=>?_,λ_ _=>rfl,λ_ _ _=>rfl,λ_ _=>rfl⟩;rw[List.filterMap_cons];cases f a<;>rfl;simp
attribute [simp] AW.bX AW.cU ZK
end Go.Stx
namespace Go.Stx
open Go
variable [Gl]
inductive Ax where
 | nil
 | aM (i:Nat) (t:Ax)
 | wm (i:Nat) (t:Ax) (j:Nat) (t':Ax)
inductive B7 where
 | nil
 | aM (o:yW) (t:B7)
 | wm (o:yW) (t:B7) (o':yW) (t':B7)
def wD (bf:Array qC)(md:List Nat)(i:Nat):yW:=match bf[i]? with
 |some o=>⟨o.dst,o.op,ml bf o.guard,md.getD i 3⟩
 |none=>⟨qk,.alloc 0,qk,3⟩
def bK (bf:Array qC)(md:List Nat):Ax->B7
 | .nil=>.nil
 | .aM i t=>.aM (wD bf md i) (bK bf md t)
 | .wm i t j t'=>.wm (wD bf md i) (bK bf md t) (wD bf md j) (bK bf md t')
def sB (P:qp)(S:AW->Prop)(o:yW)(a:Fr)(A:AW)(R:Fr->AW->Prop):Prop:=
 if sg a o.guard=qj then
  match o.pw with
  |0=>Uc P A (gZ a) o.op λv=>R (d8 a o.dst v) A
  |1=>Uc P A (gZ a) o.op λv=>(∀A',S A'->aq P A' (gZ a) o.op=qf v)/\R (d8 a o.dst v) A
  |2=>iJ P o.op (gZ a) A λv A'=>A.le A'/\R (d8 a o.dst v) A'
  |3=>iJ P o.op (gZ a) A λv A'=>S A'/\R (d8 a o.dst v) A'
  |_=>iJ P o.op (gZ a) A λv A'=>R (d8 a o.dst v) A'
 else R (d8 a o.dst qE) A
def TW (P:qp)(S:AW->Prop)(K:Fr->AW->Prop):B7->Fr->AW->Prop
 | .nil,a,A=>K a A
 | .aM o t,a,A=>sB P S o a A (TW P S K t)
 | .wm o t o' t',a,A=>sB P S o a A (TW P S K t)/\sB P S o' a A (TW P S K t')
section
variable {P:qp} {bf:Array qC} {S:AW->Prop} {K:Fr->AW->Prop} {nf:List Nat}
def tforcedB (bf:Array qC)(nf md:List Nat)(M i:Nat):Bool:=(Zt bf.size).all λj=>j == i || M.testBit j || !(ZD 3 (md.getD j 3)) || (nf.getD j 0).testBit i
def VG (bf:Array qC)(nf md:List Nat)(M i:Nat):Bool:=(Zt bf.size).all λj=>j == i || M.testBit j || !(ZD 4 (md.getD j 3)) || (nf.getD j 0).testBit i
def onlyB (bf:Array qC)(M i j:Nat):Bool:=(Zt bf.size).all λk=>k == i || k == j || match bf[k]? with
 |some o=>!zz M k o
 |none=>qj
def Ve (bf:Array qC)(md:List Nat)(M i:Nat):Bool:=match bf[i]? with
 |some o=>zz M i o && !(ZD (md.getD i 3) 1)
 |none=>qn
def Cc (bf:Array qC)(nf md:List Nat):Nat->Ax->Bool
 |M,.nil=>(Zt bf.size).all λj=>M.testBit j
 |M,.aM i t=>(match bf[i]? with
  |none=>qn
  |some o=>zz M i o && (if ZD (md.getD i 3) 1 then freeB bf M i o && ((Nat.beq (md.getD i 3) 1 && VG bf nf md M i) || tq o.op || tforcedB bf nf md M i) else onlyB bf M i i)) && Cc bf nf md (M ||| 2 ^ i) t
 |M,.wm i t j t'=>Ve bf md M i && Ve bf md M j && onlyB bf M i j && Cc bf nf md (M ||| 2 ^ i) t && Cc bf nf md (M ||| 2 ^ j) t'
def treeB (bf:Array qC)(md:List Nat)(t:Ax):Bool:=jT bf && (let nf:=Ra bf.toList [];Aq bf nf && Cc bf nf md 0 t)
def depth:Ax->Nat
 | .nil=>0
 | .aM _ t=>depth t+1
 | .wm _ t _ t'=>max (depth t) (depth t')+1
def Mn {md:Nat->Nat}:∀{n:Nat}{L:Nat->Bool}{a:Fr}{A:AW},CZ P bf S md K n L a A->CZ P bf S md K (n+1) L a A
 |0,L,a,A,h=>⟨λ_=>h.2,λ_ i o ho hr=>by have:=h.1 i (Zj.1 ho).1;rw[hr.1]at this;cases this⟩
 |n+1,L,a,A,h=>⟨h.1,λhw i o ho hr=>(h.2 hw i o ho hr).mono λv A' _ _ _ _ hk=>Mn hk⟩
def Vr {md:Nat->Nat}{n m:Nat}(hnm:n<=m){L:Nat->Bool}{a:Fr}{A:AW}(h:CZ P bf S md K n L a A):CZ P bf S md K m L a A:=by
 induction hnm with
 |refl=>exact h
 |step _ ih=>exact Mn ih
def Cy {md:List Nat}{i:Nat}{o:qC}(hi:bf[i]?=qf o)(hm:¬md.getD i 3<=1){a:Fr}{A:AW}{R:Fr->AW->Prop}(h:sB P S (wD bf md i) a A R):yV P bf S (λj=>md.getD j 3) i o a A R:=by
 simp only[sB,wD,hi,<-Pc]at h;unfold yV;split
 . rename_i hg;rw[az hg]at h;by_cases h2:md.getD i 3=2;rw[h2]at h;exact h.mono λv A' hh=>⟨by rw[az h2];exact hh.1,hh.2⟩;have:∃q,md.getD i 3=q+3:=⟨md.getD i 3-3,by omega⟩;obtain⟨q,hq⟩:=this;rw[hq]at h;cases q with
   |zero=>exact h.mono λv A' hh=>⟨by rw[ar h2];exact λ_=>hh.1,hh.2⟩
   |succ q=>exact h.mono λv A' hh=>⟨by rw[ar h2];exact λe=>by(have e':md.getD i 3=3:=e);omega,hh⟩
 rename_i hg;rw[ar hg]at h;exact h
def EP {L:Nat->Bool}{M i:Nat}(hL:∀j,j<bf.size->L j=M.testBit j):∀j,j<bf.size->bF L i j=(M ||| 2 ^ i).testBit j:=λj hj=>by rw[kbE,kbR,<-hL j hj];unfold bF;by_cases e:j=i;subst e;simp;have:¬i=j:=λx=>e x.symm;simp[e,this]
def tF (pT:jT bf=qj)(ha:Aq bf nf=qj){md:List Nat}:∀(t:Ax)(M:Nat)(L:Nat->Bool)(a:Fr)(A:AW),(∀j,j<bf.size->L j=M.testBit j)->mj bf L->
 Cc bf nf md M t=qj->TW P S K (bK bf md t) a A->CZ P bf S (λj=>md.getD j 3) K (depth t) L a A
 | .nil,M,L,a,A,hL,hc,hg,h=>⟨λj hj=>by rw[hL j hj];exact Zs.1 hg j (Zr.2 hj),h⟩
 | .wm i t j t',M,L,a,A,hL,hc,hg,h=>by
   simp only[Cc,Zg]at hg;obtain⟨⟨⟨⟨hei,hej⟩,hon⟩,hgi⟩,hgj⟩:=hg;have eff:∀{k:Nat},Ve bf md M k=qj->∃o,bf[k]?=qf o/\Lq L k o/\¬md.getD k 3<=1:=λ{k} hk=>by
    unfold Ve at hk;cases ho:bf[k]? with
    |none=>rw[ho]at hk;cases hk
    |some o=>rw[ho]at hk;simp only[Zg,kae]at hk;refine⟨o,rfl,(lu (Zj.1 ho).1 pT ho hL).1 hk.1,λgb=>?_⟩;rw[kaM gb]at hk;exact absurd hk.2 Yb
   obtain⟨oi,hi,P4,E8⟩:=eff hei;obtain⟨oj,hj,Bn,oy⟩:=eff hej;refine⟨λgQ=>?_,λhw k ok hk hrk=>?_⟩;have:=gQ i (Zj.1 hi).1;rw[P4.1]at this;cases this;have hkij:k=i\/k=j:=by have h1:=Zs.1 hon k (Zr.2 (Zj.1 hk).1);rw[hk]at h1;simp only[Z9,beq_iff_eq,kae]at h1;rcases h1 with (h1|h1)|h1;exact qw h1;exact qB h1;rw[(lu (Zj.1 hk).1 pT hk hL).2 hrk]at h1;cases h1
   rcases hkij with e|e;subst e;rw[hi]at hk;injection hk with hk;subst hk;exact(Cy hi E8 h.1).mono λv A' _ _ _ _ hh=>Vr (Nat.le_max_left _ _) (tF pT ha t _ _ _ A' (EP hL) (hc.set hi P4) hgi hh);subst e;rw[hj]at hk;injection hk with hk;subst hk;exact(Cy hj oy h.2).mono λv A' _ _ _ _ hh=>Vr (Nat.le_max_right _ _) (tF pT ha t' _ _ _ A' (EP hL) (hc.set hj Bn) hgj hh)
 | .aM i t,M,L,a,A,hL,hc,hg,h=>by
   unfold Cc at hg;rw[Zg]at hg;obtain⟨zL,Qm⟩:=hg;cases hi:bf[i]? with
   |none=>rw[hi]at zL;cases zL
   |some o=>
     rw[hi]at zL;simp only[Zg]at zL;obtain⟨hr,ya⟩:=zL;have uR:=(Zj.1 hi).1;have AS:Lq L i o:=(lu uR pT hi hL).1 hr;have hc':=hc.set hi AS;have IH:∀a A,TW P S K (bK bf md t) a A->CZ P bf S (λj=>md.getD j 3) K (depth t) (bF L i) a A:=λa A h=>tF pT ha t (M ||| 2 ^ i) _ a A (EP hL) hc' Qm h;by_cases F9:md.getD i 3<=1;rw[az YG]at ya;simp only[Zg]at ya;obtain⟨rx,cJ⟩:=ya;have wX:∀j oj,bf[j]?=qf oj->j≠i->L j=qn->(∀e∈oj.after,ZM .any e=qj->e.on≠i)->o.apart bf oj=qj:=λj oj hj lm Qv Bp=>by have wv:=(Zj.1 hj).1;have h1:=Zs.1 rx j (Zr.2 wv);rw[hj,<-hL j wv,Qv]at h1;simp only[Z9,beq_iff_eq,Zq,or_false]at h1;rcases h1 with h1|h1|h1;exact absurd h1 lm;exfalso;rw[Array.any_eq_true]at h1;obtain⟨q,hq,h2⟩:=h1;simp only[Zg,beq_iff_eq]at h2;exact Bp _ (Array.getElem_mem hq) h2.1 h2.2;exact h1
     have bZ:∀v,((iX bf a o=qj/\aq P A (gZ a) o.op=qf v)\/(iX bf a o=qn/\v=qE))->(md.getD i 3=1->iX bf a o=qj->∀A',S A'->aq P A' (gZ a) o.op=qf v)->
      TW P S K (bK bf md t) (d8 a o.dst v) A->CZ P bf S (λj=>md.getD j 3) K (depth t+1) L a A:=by
      intro v hy hS hk;refine JS (md:=λj=>md.getD j 3) pT ha hi F9 (depth t) L a A hc wX ?_ AS hy (IH _ _ hk);simp only[Z9]at cJ;rcases cJ with (h1|h1)|h1;rw[Zg]at h1;refine qB (qB ⟨λj oj hj lm h3 Qv=>?_,λA' wY xY=>hS (ZR h1.1) xY A' wY⟩);have wv:=(Zj.1 hj).1;have h2:=Zs.1 h1.2 j (Zr.2 wv);rw[<-hL j wv,Qv]at h2;have xl:ZD 4 (md.getD j 3)=qj:=kaM h3;rw[xl]at h2
      simpa[lm]using h2
      exact qw h1;refine qB (qw λj oj hj lm h3 Qv=>?_);have wv:=(Zj.1 hj).1;have h2:=Zs.1 h1 j (Zr.2 wv);rw[<-hL j wv,Qv]at h2;have xl:ZD 3 (md.getD j 3)=qj:=kaM h3;rw[xl]at h2
      simpa[lm]using h2
     have h':sB P S (wD bf md i) a A (TW P S K (bK bf md t)):=h;simp only[sB,wD,hi,<-Pc]at h';split at h';rename_i xY;have:md.getD i 3=0\/md.getD i 3=1:=Ya
     rcases this with e|e;rw[e]at h';simp only[Uc]at h';split at h';rename_i v hv;exact bZ v (qw ⟨xY,hv⟩) (λe'=>by omega) h';exact h'.elim;rw[e]at h';simp only[Uc]at h';split at h';rename_i v hv;exact bZ v (qw ⟨xY,hv⟩) (λ_ _=>h'.1) h'.2;exact h'.elim;rename_i xY;have Ql:iX bf a o=qn:=by simpa using xY
     exact bZ qE (qB ⟨Ql,rfl⟩) (λ_ e=>by rw[Ql]at e;cases e) h';rw[ar YG]at ya;refine⟨λgQ=>?_,λhw j oj hj Bn=>?_⟩;have:=gQ i uR;rw[AS.1]at this;cases this;have lm:j=i:=by have h1:=Zs.1 ya j (Zr.2 (Zj.1 hj).1);rw[hj]at h1;simp only[Z9,beq_iff_eq,kae]at h1;rcases h1 with (h1|h1)|h1;exact h1;exact h1;rw[(lu (Zj.1 hj).1 pT hj hL).2 Bn]at h1;cases h1
     subst lm;rw[hi]at hj;injection hj with hj;subst hj;exact(Cy hi F9 h).mono λv A' _ _ _ _ hh=>IH _ _ hh
end
def wt {P:qp}{n:Nat}{Q:Exit->Fr->AW->Prop}{a:Fr}{A:AW}{id:Nat}{bf:Array qC}(S:AW->Prop)(hm:P.follows qI=qj)(md:List Nat)(t:Ax)(hB:treeB bf md t=qj)(h:∀K:Fr->AW->Prop,(∀a A,Q qG a A->K a A)->TW P S K (bK bf md t) a A):df P n (qS id bf qj) Q a A:=by simp only[treeB,Zg]at hB;exact Gm hm hB.1 (tF hB.1 hB.2.1 t 0 _ a A (λj _=>by simp) (λk o _ hk=>by cases hk) hB.2.2 (h _ λ_ _ h=>h))
def VC {P:qp}{S:AW->Prop}{K:Fr->AW->Prop}{o:yW}{t:B7}{a:Fr}{A:AW}(h:∀R:Fr->AW->Prop,(∀a A,TW P S K t a A->R a A)->sB P S o a A R):TW P S K (.aM o t) a A:=h _ λ_ _ h=>h
def Rv {P:qp}{S:AW->Prop}{K:Fr->AW->Prop}{o o':yW}{t t':B7}{a:Fr}{A:AW}(h:∀R:Fr->AW->Prop,(∀a A,TW P S K t a A->R a A)->sB P S o a A R)(h':∀R:Fr->AW->Prop,(∀a A,TW P S K t' a A->R a A)->sB P S o' a A R):TW P S K (.wm o t o' t') a A:=⟨h _ λ_ _ h=>h,h' _ λ_ _ h=>h⟩
def VB {P:qp}{S:AW->Prop}{K:Fr->AW->Prop}{a:Fr}{A:AW}(h:K a A):TW P S K .nil a A:=h
attribute [simp] sB
end Go.Stx
namespace Go.Stx
open Go
variable [Gl]
def iI (A B:AW):Prop:=∀i o,A.bk i=qf o->B.bk i=qf o
def iI.trans {A B C:AW}(h:iI A B)(k:iI B C):iI A C:=λi o hi=>k i o (h i o hi)
def iI.oI {A B:AW}(h:A.le B)(hw:A.Wf):iI A B:=λi o hi=>h.jp hw hi
def iI.Nj {A B:AW}{F:HP}(h:bD B (lP A.bk*F)):iI A B:=by obtain⟨_,⟨a,b,d,rfl,rfl,q⟩,hs⟩:=h;intro i o hi;exact hs i o (by simp[Hp.un,hi])
def gW.keeps {A B:AW}(hk:iI A B){size:Nat}{v:qi}{n:Nat}{cs:List qi}(h:gW A size v n cs):gW B size v n cs:=by rcases h with h|⟨p,c,bO,own,u,h1,h2,h3,h4⟩;exact qw h;exact qB ⟨p,c,bO,own,u,h1,h2,hk _ _ h3,h4⟩
def b5.keeps {A B:AW}(hk:iI A B){k:qD}{v:qi}{l:List Int}(h:b5 A k v l):b5 B k v l:=gW.keeps hk h
def oD (A:AW)(v:qi)(ls:List (List Int)):Prop:=∃us:List qi,gW A 1 v (U ls) us/\∀i (hi:i<U ls),∃u,us[i]?=qf u/\b5 A .i64 u ls[i]
def oD.keeps {A B:AW}(hk:iI A B){v:qi}{ls:List (List Int)}(h:oD A v ls):oD B v ls:=by obtain⟨us,h1,h2⟩:=h;exact⟨us,h1.keeps hk,λi hi=>let ⟨u,h3,h4⟩:=h2 i hi;⟨u,h3,h4.keeps hk⟩⟩
def oD.cL {A:AW}{v:qi}{ls:List (List Int)}(h:oD A v ls):∃o c,v=.slice o (U ls) c/\U ls<=c:=by obtain⟨us,h1,_⟩:=h;exact h1.cL
def oD.at {A:AW}{o:Option qM}{n c:Nat}{ls:List (List Int)}(h:oD A (.slice o n c) ls){i:Nat}(hi:i<U ls):
 ∃p bO own u,o=qf p/\A.bk p.block=qf (.cells bO own 1)/\bO[p.off+i]?=qf u/\b5 A .i64 u ls[i]:=by obtain⟨us,h1,h2⟩:=h;obtain⟨u,h3,h4⟩:=h2 i hi;rcases h1 with ⟨_,e,_⟩|⟨p,c',bO,own,q,e1,e2,e3,e4,e5,e6⟩;omega;injection e1 with e1 e7 e8;subst e4;refine⟨p,bO,own,u,e1,e3,?_,h4⟩;rw[e6,ZY,kak hi,kam]at h3;exact h3
end Go.Stx
namespace Go.Stx
open Go
variable [Gl]
inductive It where
 | at (i:Nat) (o:dt)
 | h (P:HP)
def It.hp:It->HP
 | .at i o=>pt i o
 | .h P=>P
def aP:List It->HP
 |[]=>eY
 |x::L=>x.hp*aP L
def aj (A:AW)(L:List It):Prop:=bD A (aP L)
def gO:∀(L K:List It),aP (L++K)=aP L*aP K
 |[],K=>by show aP K=eY*aP K;rw[iD]
 |x::L,K=>by show x.hp*aP (L++K)=x.hp*aP L*aP K;rw[gO L K,HP.dq]
def LR:List It->Nat->Option (It×List It)
 |[],_=>qk
 |x::L,0=>qf (x,L)
 |x::L,k+1=>(LR L k).map λy=>(y.1,x::y.2)
def FW:∀{L:List It}{k:Nat}{x:It}{K:List It},LR L k=qf (x,K)->aP L=x.hp*aP K
 |[],_,_,_,h=>by cases h
 |y::L,0,x,K,h=>by injection h with h;injection h with h1 h2;subst h1;subst h2;rfl
 |y::L,k+1,x,K,h=>by
   simp only[LR,kas]at h;obtain⟨⟨z,M⟩,h1,h2⟩:=h;injection h2 with h2 h3;subst h2;subst h3;show y.hp*aP L=_;rw[FW h1];show y.hp*(z.hp*aP M)=z.hp*(y.hp*aP M)
   ac_rfl
def aj.aM {A:AW}{L K:List It}{x:It}(h:aj A L)(k:Nat)(e:LR L k=qf (x,K)):bD A (x.hp*aP K):=by unfold aj at h;rwa [FW e]at h
def aj.g {A:AW}{L K:List It}{i:Nat}{o:dt}(h:aj A L)(k:Nat)(e:LR L k=qf (.at i o,K)):A.bk i=qf o:=bD.bk (h.aM k e)
def aj.keeps {A B:AW}{L K:List It}(h:aj B L)(k:Nat)(e:LR L k=qf (.h (lP A.bk),K)):iI A B:=iI.Nj (h.aM k e)
def aj.le {A A':AW}{L:List It}(h:aj A L)(hw:A.Wf)(hl:A.le A'):aj A' L:=bD.le h hw hl
def aj.alloc {A:AW}{L:List It}(h:aj A L)(hw:A.Wf)(o:dt):aj (A.alloc o) (.at A.next o::L):=bD.alloc h hw o
def aj.mk {A:AW}{F:HP}(h:bD A F):aj A [.h F]:=by show bD A (F*eY);rw[ei];exact h
def ba (A:AW):List It->Prop
 |[]=>True
 | .at i o::L=>A.bk i=qf o/\ba A L
 | .h _::L=>ba A L
def bB (A:AW):List It->Prop
 |[]=>True
 | .at i _::L=>((i=A.next)=False/\(A.next=i)=False/\(∀k,(i=A.next+k)=False)/\∀k,(A.next+k=i)=False)/\bB A L
 | .h _::L=>bB A L
def fw (i:Nat):List It->Prop
 |[]=>True
 | .at j _::L=>((i=j)=False/\(j=i)=False)/\fw i L
 | .h _::L=>fw i L
def cd:List It->Prop
 |[]=>True
 | .at i _::L=>fw i L/\cd L
 | .h _::L=>cd L
def aj.tail {A:AW}{x:It}{L:List It}(h:aj A (x::L)):aj A L:=bD.right h
def aj.Th {A:AW}:∀{L:List It},aj A L->ba A L
 |[],_=>trivial
 | .at i o::L,h=>⟨bD.bk h,aj.Th h.tail⟩
 | .h P::L,h=>aj.Th (L:=L) (aj.tail (x:=.h P) h)
def aj.ug {A:AW}(hw:A.Wf):∀{L:List It},aj A L->bB A L
 |[],_=>trivial
 | .at i o::L,h=>by have:=hw.lt (bD.bk h);exact⟨⟨eq_false Ya,eq_false Ya,λk=>eq_false Ya,λk=>eq_false Ya⟩,aj.ug hw h.tail⟩
 | .h P::L,h=>aj.ug hw (L:=L) (aj.tail (x:=.h P) h)
def aj.St {A:AW}{i:Nat}{o:dt}:∀{L:List It},aj A (.at i o::L)->fw i L
 |[],_=>trivial
 | .at j p::L,h=>by have fL:i≠j:=bD.ne h;refine⟨⟨eq_false fL,eq_false (Zp fL)⟩,aj.St (A:=A) (L:=L) (o:=o) ?_⟩;have h1:bD A (pt i o*(pt j p*aP L)):=h;exact bD.right (h1.dJ (by ac_rfl:_=pt j p*(pt i o*aP L)))
 | .h P::L,h=>by have h1:bD A (pt i o*(P*aP L)):=h;exact aj.St (A:=A) (L:=L) (o:=o) (bD.right (h1.dJ (by ac_rfl:_=P*(pt i o*aP L))))
def aj.nes {A:AW}:∀{L:List It},aj A L->cd L
 |[],_=>trivial
 | .at i o::L,h=>⟨aj.St h,aj.nes h.tail⟩
 | .h P::L,h=>aj.nes (L:=L) (aj.tail (x:=.h P) h)
def aj.fm {A:AW}{L:List It}(h:aj A L)(hw:A.Wf):ba A L/\bB A L/\cd L:=⟨h.Th,h.ug hw,h.nes⟩
def bz (P:qp)(f:qN)(args:List qi)(tN:List It)(φ:qi->Prop)(post:qi->List It):Prop:=
 ∀(A:AW)(F:HP),A.Wf->aj A (tN++[.h F])->aE P f args A λv A'=>φ v/\aj A' (post v++[.h F])
def bz.uh {P:qp}{f:qN}{args:List qi}{tN:List It}{φ:qi->Prop}{post:qi->List It}{p:HP}{q:qi->HP}(h:tc P f args p q)(hp:aP tN=p)(hq:∀v,q v=GL (φ v)*aP (post v)):
 bz P f args tN φ post:=by intro A F hw hS;refine(h A F hw (by unfold aj at hS;rw[gO,hp]at hS;have h3:bD A (p*(F*eY)):=hS;rwa [ei]at h3)).mono ?_;intro v A' hs;rw[hq,HP.dq,bD.pr]at hs;refine⟨hs.1,?_⟩;unfold aj;rw[gO];show bD A' (aP (post v)*(F*eY));rw[ei];exact hs.2
section
def Od (l:List (Nat×Nat)):Prop:=True
def od (l:List (Nat×Nat)):Od l:=trivial
structure Ts (S:AW->Prop) (md:List Nat) (t:Ax):Prop
structure Os (S:AW->Prop) (l:List (Nat×Nat)):Prop
class Stp (G:Prop) (H:outParam Prop):Prop where f:H->G
section
variable [Gl] {P:qp} {n:Nat} {Q:Exit->Fr->AW->Prop} {a:Fr} {A:AW} {id k:Nat} {c x y:Code} {S:AW->Prop} {K X:Fr->AW->Prop} {o:dt} {p:Prop}
instance:Stp (df P n (.block id c) Q a A) (df P n c (b6 id Q) a A):=⟨wb⟩
instance:Stp (df P n (.seq x y) Q a A) (df P n x (aT (df P n y Q) Q) a A):=⟨wq⟩
instance:Stp (df P n .ret Q a A) (Q .ret a A):=⟨wr⟩
instance:Stp (df P n .skip Q a A) (Q qG a A):=⟨wk⟩
instance:Stp (df P n (.exit id) Q a A) (Q (.exit id) a A):=⟨we⟩
instance:Stp (aL P n c Q (k+1) a A) (df P n c (aT (aL P n c Q k) Q) a A):=⟨ws⟩
instance:Stp (aW P S K [] a A) (K a A):=⟨lwn⟩
instance:Stp (A.le A/\p) p:=⟨lr⟩
instance:Stp (A.le (A.alloc o)/\p) p:=⟨la⟩
def C5 {bf:Array qC}{jg:List (Nat×Nat)}(q:Od jg)(hm:P.follows qI=qj)(hB:SA bf jg=qj)(h:∀K:Fr->AW->Prop,(∀a A,Q qG a A->K a A)->aW P (λ_=>True) K (cY bf jg) a A):df P n (qS id bf qj) Q a A:=wl hm jg hB h
def Vx {bf:Array qC}{md:List Nat}{t:Ax}(q:Ts S md t)(hm:P.follows qI=qj)(hB:treeB bf md t=qj)(h:∀K:Fr->AW->Prop,(∀a A,Q qG a A->K a A)->TW P S K (bK bf md t) a A):df P n (qS id bf qj) Q a A:=wt S hm md t hB h
def Vy {bf:Array qC}{jg:List (Nat×Nat)}(q:Os S jg)(hm:P.follows qI=qj)(hB:SA bf jg=qj)(h:∀K:Fr->AW->Prop,(∀a A,Q qG a A->K a A)->aW P S K (cY bf jg) a A):df P n (qS id bf qj) Q a A:=wlS S hm jg hB h
def wlG {bf:Array qC}(h:df P n (qS id bf qj) Q a A):df P n (qS id bf qj) Q a A:=h
def acG {f:qN}{args:List qi}{k:qi->AW->Prop}(h:aE P f args A k):aE P f args A k:=h
end
def gR {A:AW}{i:Nat}{o:Option dt}(h:A.bk i=o):A.bk i=o:=h
def twG [Gl]{P:qp}{S:AW->Prop}{K:Fr->AW->Prop}{t:B7}{a:Fr}{A:AW}(h:TW P S K t a A):TW P S K t a A:=h
def nx {G H:Prop}[i:Stp G H](h:H):G:=i.f h
structure Tg (n:Nat) (p:Prop):Prop where h:p
structure Kp (p:Prop):Prop where h:p
inductive Df:Prop->Prop where
 | T:Df True
 | C {p q:Prop}:Df p->Df q->Df (p/\q)
 | A {p:Prop}:Df p
def J1 {a1:Prop}(x1:a1):a1/\True:=⟨x1,trivial⟩
def J2 {a1 a2:Prop}(x1:a1)(x2:a2):a1/\a2/\True:=⟨x1,x2,trivial⟩
def J3 {a1 a2 a3:Prop}(x1:a1)(x2:a2)(x3:a3):a1/\a2/\a3/\True:=⟨x1,x2,x3,trivial⟩
def J4 {a1 a2 a3 a4:Prop}(x1:a1)(x2:a2)(x3:a3)(x4:a4):a1/\a2/\a3/\a4/\True:=⟨x1,x2,x3,x4,trivial⟩
def J5 {a1 a2 a3 a4 a5:Prop}(x1:a1)(x2:a2)(x3:a3)(x4:a4)(x5:a5):a1/\a2/\a3/\a4/\a5/\True:=⟨x1,x2,x3,x4,x5,trivial⟩
def J6 {a1 a2 a3 a4 a5 a6:Prop}(x1:a1)(x2:a2)(x3:a3)(x4:a4)(x5:a5)(x6:a6):a1/\a2/\a3/\a4/\a5/\a6/\True:=⟨x1,x2,x3,x4,x5,x6,trivial⟩
def J7 {a1 a2 a3 a4 a5 a6 a7:Prop}(x1:a1)(x2:a2)(x3:a3)(x4:a4)(x5:a5)(x6:a6)(x7:a7):a1/\a2/\a3/\a4/\a5/\a6/\a7/\True:=⟨x1,x2,x3,x4,x5,x6,x7,trivial⟩
def J8 {a1 a2 a3 a4 a5 a6 a7 a8:Prop}(x1:a1)(x2:a2)(x3:a3)(x4:a4)(x5:a5)(x6:a6)(x7:a7)(x8:a8):a1/\a2/\a3/\a4/\a5/\a6/\a7/\a8/\True:=⟨x1,x2,x3,x4,x5,x6,x7,x8,trivial⟩
def J9 {a1 a2 a3 a4 a5 a6 a7 a8 a9:Prop}(x1:a1)(x2:a2)(x3:a3)(x4:a4)(x5:a5)(x6:a6)(x7:a7)(x8:a8)(x9:a9):a1/\a2/\a3/\a4/\a5/\a6/\a7/\a8/\a9/\True:=⟨x1,x2,x3,x4,x5,x6,x7,x8,x9,trivial⟩
def Hr {a1 a2 a3 a4 a5 a6 a7 a8 a9 Bg:Prop}(x1:a1)(x2:a2)(x3:a3)(x4:a4)(x5:a5)(x6:a6)(x7:a7)(x8:a8)(x9:a9)(Kk:Bg):a1/\a2/\a3/\a4/\a5/\a6/\a7/\a8/\a9/\Bg/\True:=⟨x1,x2,x3,x4,x5,x6,x7,x8,x9,Kk,trivial⟩
def Ls {a1 a2 a3 a4 a5 a6 a7 a8 a9 Bg CX:Prop}(x1:a1)(x2:a2)(x3:a3)(x4:a4)(x5:a5)(x6:a6)(x7:a7)(x8:a8)(x9:a9)(Kk:Bg)(Mu:CX):a1/\a2/\a3/\a4/\a5/\a6/\a7/\a8/\a9/\Bg/\CX/\True:=⟨x1,x2,x3,x4,x5,x6,x7,x8,x9,Kk,Mu,trivial⟩
def Ay {a1 a2 a3 a4 a5 a6 a7 a8 a9 Bg CX GB:Prop}(x1:a1)(x2:a2)(x3:a3)(x4:a4)(x5:a5)(x6:a6)(x7:a7)(x8:a8)(x9:a9)(Kk:Bg)(Mu:CX)(OR:GB):a1/\a2/\a3/\a4/\a5/\a6/\a7/\a8/\a9/\Bg/\CX/\GB/\True:=⟨x1,x2,x3,x4,x5,x6,x7,x8,x9,Kk,Mu,OR,trivial⟩
def oP {a1 a2 a3 a4 a5 a6 a7 a8 a9 Bg CX GB JT:Prop}(x1:a1)(x2:a2)(x3:a3)(x4:a4)(x5:a5)(x6:a6)(x7:a7)(x8:a8)(x9:a9)(Kk:Bg)(Mu:CX)(OR:GB)(RH:JT):a1/\a2/\a3/\a4/\a5/\a6/\a7/\a8/\a9/\Bg/\CX/\GB/\JT/\True:=⟨x1,x2,x3,x4,x5,x6,x7,x8,x9,Kk,Mu,OR,RH,trivial⟩
def y9 {a1 a2 a3 a4 a5 a6 a7 a8 a9 Bg CX GB JT Mo:Prop}(x1:a1)(x2:a2)(x3:a3)(x4:a4)(x5:a5)(x6:a6)(x7:a7)(x8:a8)(x9:a9)(Kk:Bg)(Mu:CX)(OR:GB)(RH:JT)(Vw:Mo):a1/\a2/\a3/\a4/\a5/\a6/\a7/\a8/\a9/\Bg/\CX/\GB/\JT/\Mo/\True:=⟨x1,x2,x3,x4,x5,x6,x7,x8,x9,Kk,Mu,OR,RH,Vw,trivial⟩
def J15 {a1 a2 a3 a4 a5 a6 a7 a8 a9 Bg CX GB JT Mo Rn:Prop}(x1:a1)(x2:a2)(x3:a3)(x4:a4)(x5:a5)(x6:a6)(x7:a7)(x8:a8)(x9:a9)(Kk:Bg)(Mu:CX)(OR:GB)(RH:JT)(Vw:Mo)(x15:Rn):a1/\a2/\a3/\a4/\a5/\a6/\a7/\a8/\a9/\Bg/\CX/\GB/\JT/\Mo/\Rn/\True:=⟨x1,x2,x3,x4,x5,x6,x7,x8,x9,Kk,Mu,OR,RH,Vw,x15,trivial⟩
def Rr {a1 a2 a3 a4 a5 a6 a7 a8 a9 Bg CX GB JT Mo Rn Vs:Prop}(x1:a1)(x2:a2)(x3:a3)(x4:a4)(x5:a5)(x6:a6)(x7:a7)(x8:a8)(x9:a9)(Kk:Bg)(Mu:CX)(OR:GB)(RH:JT)(Vw:Mo)(x15:Rn)(x16:Vs):a1/\a2/\a3/\a4/\a5/\a6/\a7/\a8/\a9/\Bg/\CX/\GB/\JT/\Mo/\Rn/\Vs/\True:=⟨x1,x2,x3,x4,x5,x6,x7,x8,x9,Kk,Mu,OR,RH,Vw,x15,x16,trivial⟩
def J17 {a1 a2 a3 a4 a5 a6 a7 a8 a9 Bg CX GB JT Mo Rn Vs a17:Prop}(x1:a1)(x2:a2)(x3:a3)(x4:a4)(x5:a5)(x6:a6)(x7:a7)(x8:a8)(x9:a9)(Kk:Bg)(Mu:CX)(OR:GB)(RH:JT)(Vw:Mo)(x15:Rn)(x16:Vs)(x17:a17):a1/\a2/\a3/\a4/\a5/\a6/\a7/\a8/\a9/\Bg/\CX/\GB/\JT/\Mo/\Rn/\Vs/\a17/\True:=⟨x1,x2,x3,x4,x5,x6,x7,x8,x9,Kk,Mu,OR,RH,Vw,x15,x16,x17,trivial⟩
def J18 {a1 a2 a3 a4 a5 a6 a7 a8 a9 Bg CX GB JT Mo Rn Vs a17 a18:Prop}(x1:a1)(x2:a2)(x3:a3)(x4:a4)(x5:a5)(x6:a6)(x7:a7)(x8:a8)(x9:a9)(Kk:Bg)(Mu:CX)(OR:GB)(RH:JT)(Vw:Mo)(x15:Rn)(x16:Vs)(x17:a17)(x18:a18):a1/\a2/\a3/\a4/\a5/\a6/\a7/\a8/\a9/\Bg/\CX/\GB/\JT/\Mo/\Rn/\Vs/\a17/\a18/\True:=⟨x1,x2,x3,x4,x5,x6,x7,x8,x9,Kk,Mu,OR,RH,Vw,x15,x16,x17,x18,trivial⟩
def J19 {a1 a2 a3 a4 a5 a6 a7 a8 a9 Bg CX GB JT Mo Rn Vs a17 a18 a19:Prop}(x1:a1)(x2:a2)(x3:a3)(x4:a4)(x5:a5)(x6:a6)(x7:a7)(x8:a8)(x9:a9)(Kk:Bg)(Mu:CX)(OR:GB)(RH:JT)(Vw:Mo)(x15:Rn)(x16:Vs)(x17:a17)(x18:a18)(x19:a19):a1/\a2/\a3/\a4/\a5/\a6/\a7/\a8/\a9/\Bg/\CX/\GB/\JT/\Mo/\Rn/\Vs/\a17/\a18/\a19/\True:=⟨x1,x2,x3,x4,x5,x6,x7,x8,x9,Kk,Mu,OR,RH,Vw,x15,x16,x17,x18,x19,trivial⟩
def J20 {a1 a2 a3 a4 a5 a6 a7 a8 a9 Bg CX GB JT Mo Rn Vs a17 a18 a19 a20:Prop}(x1:a1)(x2:a2)(x3:a3)(x4:a4)(x5:a5)(x6:a6)(x7:a7)(x8:a8)(x9:a9)(Kk:Bg)(Mu:CX)(OR:GB)(RH:JT)(Vw:Mo)(x15:Rn)(x16:Vs)(x17:a17)(x18:a18)(x19:a19)(x20:a20):a1/\a2/\a3/\a4/\a5/\a6/\a7/\a8/\a9/\Bg/\CX/\GB/\JT/\Mo/\Rn/\Vs/\a17/\a18/\a19/\a20/\True:=⟨x1,x2,x3,x4,x5,x6,x7,x8,x9,Kk,Mu,OR,RH,Vw,x15,x16,x17,x18,x19,x20,trivial⟩
def W {G H C X:Prop}(c:C)(x:X)(k:H)(s:(∀(zc:C)(zx:X)(zk:Kp H),G)/\Df H:=by
 constructor
 . unhygienic intros
   (try have z1:=zc.1);(try have z2:=zc.2.1);(try have z3:=zc.2.2.1);(try have z4:=zc.2.2.2.1);(try have z5:=zc.2.2.2.2.1);(try have z6:=zc.2.2.2.2.2.1);(try have z7:=zc.2.2.2.2.2.2.1);(try have z8:=zc.2.2.2.2.2.2.2.1);(try have z9:=zc.2.2.2.2.2.2.2.2.1);(try have z10:=zc.2.2.2.2.2.2.2.2.2.1)
   repeat' (first|(refine lz λR hR=>?_;(first|simp[an,ax,zx,hq]|simp[an,ax,zx]);try simp(disch:=omega)only[az,ar,an,ax])|(refine hR _ _ ?_;try clear hR R)|(refine hK _ _ ?_;try clear hK K)|refine nx ?_|refine wn λK hK=>?_|simp only[wS]|(refine wlG ?_;first|refine C5 z1 Tryz.mx (by decide +kernel) λK hK=>?_|refine C5 z2 Tryz.mx (by decide +kernel) λK hK=>?_|refine C5 z3 Tryz.mx (by decide +kernel) λK hK=>?_|refine C5 z4 Tryz.mx (by decide +kernel) λK hK=>?_|refine C5 z5 Tryz.mx (by decide +kernel) λK hK=>?_|refine C5 z6 Tryz.mx (by decide +kernel) λK hK=>?_|refine C5 z7 Tryz.mx (by decide +kernel) λK hK=>?_|refine C5 z8 Tryz.mx (by decide +kernel) λK hK=>?_|refine C5 z9 Tryz.mx (by decide +kernel) λK hK=>?_|refine C5 z10 Tryz.mx (by decide +kernel) λK hK=>?_)|(refine acG ?_;first|(apply bz.gk;(·(first|apply z1|apply z2|apply z3|apply z4|apply z5|apply z6|apply z7|apply z8|apply z9|apply z10)<;>first|assumption|(simp[hq];done)|(refine gR ?_;simp[hq];rfl)|(simp[hq,zx];done)|omega|decide);(·exact wA);(·exact sA);(·first|exact pA|exact kA);(first|rintro _ zA rfl hS hw zn|rintro zn zA zn hS hw zn);have hS:=lA hS;(try (have hq:=oK hS hw)))|(apply bT;(·(first|apply z1|apply z2|apply z3|apply z4|apply z5|apply z6|apply z7|apply z8|apply z9|apply z10)<;>first|assumption|(simp[hq];done)|(refine gR ?_;simp[hq];rfl)|(simp[hq,zx];done)|omega|decide);(first|rintro _ _⟨rfl,rfl⟩zn zn|rintro _ _⟨⟨zn,rfl⟩,rfl⟩zn zn))|((first|apply @Tg.h 10 _ z1|apply @Tg.h 10 _ z2|apply @Tg.h 10 _ z3|apply @Tg.h 10 _ z4);(·exact wA);(·exact sA);(·first|exact pA|exact kA);)|(apply eL.gk;(·first|apply @Tg.h 32 _ z1|apply @Tg.h 32 _ z2|apply @Tg.h 32 _ z3|apply @Tg.h 32 _ z4);(·exact wA);(·exact sA);(·first|exact pA|exact kA);(first|rintro xw _ zA rfl hS hw zn|rintro xw zn zA zn hS hw zn);(try (have hS:=lA hS));(try (have hq:=oK hS hw))))|refine wb ?_|refine wr ?_|refine wk ?_|refine we ?_|refine ws ?_|refine wq ?_|(refine wc rfl (λhc=>?_) (λhc=>?_)<;>(try simp at hc)<;>(try omega))|(refine ib (λhc=>?_) (λhc=>?_)<;>(try omega)<;>(try simp(disch:=omega)only[az,ar]))|((repeat (first|clear zc|clear zx|clear z1|clear z2|clear z3|clear z4|clear z5|clear z6|clear z7|clear z8|clear z9|clear z10));(try (revert hq;have zq:=zk;clear zq));(repeat clear hq);(try (revert hS;have zq:=zk;clear zq));(repeat clear hS);(try (revert hw;have zq:=zk;clear zq));(repeat clear hw);(repeat (first|(revert hc;have zq:=zk;clear zq)|(revert zn;have zq:=zk;clear zq)|(revert zA;have zq:=zk;clear zq)|(revert xw;have zq:=zk;clear zq)|(revert K;have zq:=zk;clear zq)|(revert hK;have zq:=zk;clear zq)|(revert R;have zq:=zk;clear zq)|(revert hR;have zq:=zk;clear zq)));first|with_reducible refine zk.h|with_reducible refine zk.h.1|with_reducible refine zk.h.2.1|with_reducible refine zk.h.2.2.1|with_reducible refine zk.h.2.2.2.1|with_reducible refine zk.h.2.2.2.2.1|with_reducible refine zk.h.2.2.2.2.2.1|with_reducible refine zk.h.2.2.2.2.2.2.1|with_reducible refine zk.h.2.2.2.2.2.2.2.1|with_reducible refine zk.h.2.2.2.2.2.2.2.2.1|with_reducible refine zk.h.2.2.2.2.2.2.2.2.2.1|with_reducible refine zk.h.2.2.2.2.2.2.2.2.2.2.1))
 . repeat' (first|exact .T|apply Df.C|exact .A)):G:=s.1 c x ⟨k⟩
def Wp {G H C X:Prop}(c:C)(x:X)(k:H)(s:(∀(zc:C)(zx:X)(zk:Kp H),G)/\Df H:=by
 constructor
 . unhygienic intros
   (try have z1:=zc.1);(try have z2:=zc.2.1);(try have z3:=zc.2.2.1);(try have z4:=zc.2.2.2.1);(try have z5:=zc.2.2.2.2.1);(try have z6:=zc.2.2.2.2.2.1)
   repeat' (first|(refine lz λR hR=>?_;(first|simp[an,ax,zx,hq]|simp[an,ax,zx]);try simp(disch:=omega)only[az,ar,an,ax])|(refine hR _ _ ?_;try clear hR R)|(refine hK _ _ ?_;try clear hK K)|refine nx ?_|refine wn λK hK=>?_|simp only[wS]|(refine wlG ?_;first|refine C5 z1 Tryz.mx (by decide +kernel) λK hK=>?_|refine C5 z2 Tryz.mx (by decide +kernel) λK hK=>?_|refine C5 z3 Tryz.mx (by decide +kernel) λK hK=>?_|refine C5 z4 Tryz.mx (by decide +kernel) λK hK=>?_|refine C5 z5 Tryz.mx (by decide +kernel) λK hK=>?_|refine C5 z6 Tryz.mx (by decide +kernel) λK hK=>?_)|(refine acG ?_;first|(apply bz.gk;(·(first|apply z1|apply z2|apply z3|apply z4|apply z5|apply z6)<;>first|assumption|(simp[hq];done)|(refine gR ?_;simp[hq];rfl)|(simp[hq,zx];done)|omega|decide);(·exact wA);(·exact sA);(·first|exact pP|exact kP);(first|rintro _ zA rfl hS hw zn|rintro zn zA zn hS hw zn);have hS:=lA hS;(try (have hq:=oK hS hw)))|(apply bT;(·(first|apply z1|apply z2|apply z3|apply z4|apply z5|apply z6)<;>first|assumption|(simp[hq];done)|(refine gR ?_;simp[hq];rfl)|(simp[hq,zx];done)|omega|decide);(first|rintro _ _⟨rfl,rfl⟩zn zn|rintro _ _⟨⟨zn,rfl⟩,rfl⟩zn zn))|((first|apply @Tg.h 10 _ z1|apply @Tg.h 10 _ z2|apply @Tg.h 10 _ z3|apply @Tg.h 10 _ z4|apply @Tg.h 10 _ z5);(·exact wA);(·exact sA);(·first|exact pP|exact kP);)|((first|apply @Tg.h 11 _ z1|apply @Tg.h 11 _ z2|apply @Tg.h 11 _ z3|apply @Tg.h 11 _ z4|apply @Tg.h 11 _ z5);(·exact wA);(·exact sA);(·first|exact pP|exact kP);(·first|omega|(simp;omega)|(simp[hq];done));((first|rintro zn zn zA hS hw zn|rintro zn zA hS hw zn|rintro zn zA hS hw);(try refine⟨zn,?_⟩);(try (have hS:=lA hS));have hq:=oK hS hw))|((first|apply @Tg.h 12 _ z1|apply @Tg.h 12 _ z2|apply @Tg.h 12 _ z3|apply @Tg.h 12 _ z4|apply @Tg.h 12 _ z5);(·exact wA);(·exact sA);(·first|exact pP|exact kP);(·first|exact pP|exact kP);(·first|omega|(simp;omega)|(simp[hq];done));(·first|omega|(simp;omega)|(simp[hq];done));((first|rintro zn zn zA hS hw zn|rintro zn zA hS hw zn|rintro zn zA hS hw);(try refine⟨zn,?_⟩);(try (have hS:=lA hS));have hq:=oK hS hw))|((first|apply @Tg.h 19 _ z1|apply @Tg.h 19 _ z2|apply @Tg.h 19 _ z3|apply @Tg.h 19 _ z4|apply @Tg.h 19 _ z5);(·exact wA);(·exact sA);((first|rintro zn zn zA hS hw zn|rintro zn zA hS hw zn|rintro zn zA hS hw);(try refine⟨zn,?_⟩);(try (have hS:=lA hS));have hq:=oK hS hw))|(apply bz.lF;(·first|apply @Tg.h 20 _ z1|apply @Tg.h 20 _ z2|apply @Tg.h 20 _ z3|apply @Tg.h 20 _ z4|apply @Tg.h 20 _ z5);(·exact wA);(·exact sA);(·exact fP);(·first|exact pP|exact kP);(first|rintro _ zA rfl hS hw zn|rintro zn zA zn hS hw zn);have hS:=lA hS;(try (have hq:=oK hS hw));all_goals(try (first|exact 0|exact undef)))|(apply bz.useP;(·first|apply @Tg.h 21 _ z1|apply @Tg.h 21 _ z2|apply @Tg.h 21 _ z3|apply @Tg.h 21 _ z4|apply @Tg.h 21 _ z5);(·exact wA);(·exact sA);(·exact fP);(·first|exact pP|exact kP);(first|rintro _ zA rfl hS hw zn|rintro zn zA zn hS hw zn);have hS:=lA hS;(try (have hq:=oK hS hw));all_goals(try (first|exact 0|exact undef)))|(apply bz.useX;(·first|apply @Tg.h 22 _ z1|apply @Tg.h 22 _ z2|apply @Tg.h 22 _ z3|apply @Tg.h 22 _ z4|apply @Tg.h 22 _ z5);(·exact wA);(·exact sA);(·exact fP);(·first|exact pP|exact kP);(first|rintro _ zA rfl hS hw zn|rintro zn zA zn hS hw zn);have hS:=lA hS;(try (have hq:=oK hS hw));all_goals(try (first|exact 0|exact undef)))|((first|apply @Tg.h 31 _ z1|apply @Tg.h 31 _ z2|apply @Tg.h 31 _ z3|apply @Tg.h 31 _ z4|apply @Tg.h 31 _ z5);(·exact wA);(·exact sA);(·exact fP);((first|rintro zn zn zA hS hw|rintro zn zA hS hw);(try dsimp only[de,AW.bn,aa,ah]at hS);have hq:=hqO hS hw);all_goals(try (first|exact 0|exact undef)))|(apply Gj;(·first|apply @Tg.h 30 _ z1|apply @Tg.h 30 _ z2|apply @Tg.h 30 _ z3|apply @Tg.h 30 _ z4|apply @Tg.h 30 _ z5);(·exact wA);(·exact sA);(·exact fP);all_goals(try (first|exact 0|exact undef))))|refine wb ?_|refine wr ?_|refine wk ?_|refine we ?_|refine ws ?_|refine wq ?_|(refine wc rfl (λhc=>?_) (λhc=>?_)<;>(try simp at hc)<;>(try omega)<;>(try (simp[h2]at hc;done))<;>(try (simp[h3]at hc;done))<;>(try (simp[h4]at hc;done)))|(refine ib (λhc=>?_) (λhc=>?_)<;>(try omega)<;>(try simp(disch:=omega)only[az,ar]))|((repeat (first|clear zc|clear zx|clear z1|clear z2|clear z3|clear z4|clear z5|clear z6));(try (revert hq;have zq:=zk;clear zq));(repeat clear hq);(try (revert hS;have zq:=zk;clear zq));(repeat clear hS);(try (revert hw;have zq:=zk;clear zq));(repeat clear hw);(repeat (first|(revert hc;have zq:=zk;clear zq)|(revert zn;have zq:=zk;clear zq)|(revert zA;have zq:=zk;clear zq)|(revert xw;have zq:=zk;clear zq)|(revert K;have zq:=zk;clear zq)|(revert hK;have zq:=zk;clear zq)|(revert R;have zq:=zk;clear zq)|(revert hR;have zq:=zk;clear zq)));first|with_reducible refine zk.h|with_reducible refine zk.h.1))
 . repeat' (first|exact .T|apply Df.C|exact .A)):G:=s.1 c x ⟨k⟩
def Wu {G H C X:Prop}(c:C)(x:X)(k:H)(s:(∀(zc:C)(zx:X)(zk:Kp H),G)/\Df H:=by
 constructor
 . unhygienic intros
   (try have z1:=zc.1);(try have z2:=zc.2.1);(try have z3:=zc.2.2.1);(try have z4:=zc.2.2.2.1);(try have z5:=zc.2.2.2.2.1);(try have z6:=zc.2.2.2.2.2.1);(try have z7:=zc.2.2.2.2.2.2.1);(try have z8:=zc.2.2.2.2.2.2.2.1);(try have z9:=zc.2.2.2.2.2.2.2.2.1);(try have z10:=zc.2.2.2.2.2.2.2.2.2.1);(try have z11:=zc.2.2.2.2.2.2.2.2.2.2.1);(try have z12:=zc.2.2.2.2.2.2.2.2.2.2.2.1);(try have z13:=zc.2.2.2.2.2.2.2.2.2.2.2.2.1)
   repeat' (first|(with_reducible apply lwI;(·first|(simp;done)|(simp;rfl));(·first|(simp;done)|(simp;rfl));(·exact wA);(·exact sA);(·first|exact pP|exact kP|exact pA|exact kA);(·first|(simp;done)|(simp;rfl)|(simp[hq];done)|(simp[hq];rfl));(·first|omega|(simp;omega));(·intro _ _;trivial);rintro zn zn zA hS hw zn;(try have hS:=lA hS);have hq:=oK hS hw)|(with_reducible apply lwU;(·first|(simp;done)|(simp;rfl));(·first|(simp;done)|(simp;rfl));(·exact wA);(·exact sA);(·first|exact pP|exact kP|exact pA|exact kA);(·first|(simp;done)|(simp;rfl)|(simp[hq];done)|(simp[hq];rfl));(·first|omega|(simp;omega));(·intro _ _;trivial);rintro zn zn zA hS hw zn;(try have hS:=lA hS);have hq:=oK hS hw)|(with_reducible apply twI;(·first|(simp;done)|(simp;rfl));(·first|(simp;done)|(simp;rfl));(·exact wA);(·exact sA);(·first|exact pP|exact kP|exact pA|exact kA);(·first|(simp;done)|(simp;rfl)|(simp[hq];done)|(simp[hq];rfl));(·first|omega|(simp;omega));(·intro _ _;trivial);rintro zn zn zA hS hw zn;(try have hS:=lA hS);have hq:=oK hS hw)|(with_reducible apply twU;(·first|(simp;done)|(simp;rfl));(·first|(simp;done)|(simp;rfl));(·exact wA);(·exact sA);(·first|exact pP|exact kP|exact pA|exact kA);(·first|(simp;done)|(simp;rfl)|(simp[hq];done)|(simp[hq];rfl));(·first|omega|(simp;omega));(·intro _ _;trivial);rintro zn zn zA hS hw zn;(try have hS:=lA hS);have hq:=oK hS hw)|(refine VC λR hR=>?_;(first|simp[an,ax,zx,hq]|simp[an,ax,zx]);try simp(disch:=omega)only[az,ar,an,ax])|(refine Rv (λR hR=>?_) (λR hR=>?_)<;>(first|(with_reducible apply lhI;(·first|(simp;done)|(simp;rfl));(·first|(simp;done)|(simp;rfl));(·exact wA);(·exact sA);(·first|exact pP|exact kP|exact pA|exact kA);(·first|(simp;done)|(simp;rfl)|(simp[hq];done)|(simp[hq];rfl));(·first|omega|(simp;omega));(·intro _ _;trivial);rintro zn zn zA hS hw zn;(try have hS:=lA hS);have hq:=oK hS hw)|(with_reducible apply lhU;(·first|(simp;done)|(simp;rfl));(·first|(simp;done)|(simp;rfl));(·exact wA);(·exact sA);(·first|exact pP|exact kP|exact pA|exact kA);(·first|(simp;done)|(simp;rfl)|(simp[hq];done)|(simp[hq];rfl));(·first|omega|(simp;omega));(·intro _ _;trivial);rintro zn zn zA hS hw zn;(try have hS:=lA hS);have hq:=oK hS hw)|((first|simp[an,ax,zx,hq]|simp[an,ax,zx]);try simp(disch:=omega)only[az,ar,an,ax])))|refine VB ?_|(refine wlG ?_;first|refine Vx z1 Tryz.mx (by decide +kernel) λK hK=>?_|refine Vy z1 Tryz.mx (by decide +kernel) λK hK=>?_|refine Vx z2 Tryz.mx (by decide +kernel) λK hK=>?_|refine Vy z2 Tryz.mx (by decide +kernel) λK hK=>?_|refine Vx z3 Tryz.mx (by decide +kernel) λK hK=>?_|refine Vy z3 Tryz.mx (by decide +kernel) λK hK=>?_|refine Vx z4 Tryz.mx (by decide +kernel) λK hK=>?_|refine Vy z4 Tryz.mx (by decide +kernel) λK hK=>?_|refine Vx z5 Tryz.mx (by decide +kernel) λK hK=>?_|refine Vy z5 Tryz.mx (by decide +kernel) λK hK=>?_|refine Vx z6 Tryz.mx (by decide +kernel) λK hK=>?_|refine Vy z6 Tryz.mx (by decide +kernel) λK hK=>?_|refine Vx z7 Tryz.mx (by decide +kernel) λK hK=>?_|refine Vy z7 Tryz.mx (by decide +kernel) λK hK=>?_|refine Vx z8 Tryz.mx (by decide +kernel) λK hK=>?_|refine Vy z8 Tryz.mx (by decide +kernel) λK hK=>?_|refine Vx z9 Tryz.mx (by decide +kernel) λK hK=>?_|refine Vy z9 Tryz.mx (by decide +kernel) λK hK=>?_|refine Vx z10 Tryz.mx (by decide +kernel) λK hK=>?_|refine Vy z10 Tryz.mx (by decide +kernel) λK hK=>?_|refine Vx z11 Tryz.mx (by decide +kernel) λK hK=>?_|refine Vy z11 Tryz.mx (by decide +kernel) λK hK=>?_|refine Vx z12 Tryz.mx (by decide +kernel) λK hK=>?_|refine Vy z12 Tryz.mx (by decide +kernel) λK hK=>?_|refine Vx z13 Tryz.mx (by decide +kernel) λK hK=>?_|refine Vy z13 Tryz.mx (by decide +kernel) λK hK=>?_)|(refine twG ?_;simp only[bK,wD,ml,Option.map_none,Option.map_some,List.getElem?_toArray,List.getElem?_cons_zero,List.getElem?_cons_succ,List.getD_cons_zero,List.getD_cons_succ,Option.bind_some])|(refine ⟨by simp[hq],?_⟩)|(refine ⟨⟨by simp[hq],by simp[hq],by simp[hq]⟩,?_⟩)|(refine ⟨λA' wY=>by simp[AW.ab,wY],?_⟩)|(refine ⟨λA' wY=>by rw[wY]<;>rfl,?_⟩)|(refine ⟨λA' g1 g2 g3=>by simp[AW.ab,g1,g2,g3],?_⟩)|(refine ⟨λA' x g1 g2 g3=>by simp[AW.ab,g1,g2,g3],?_⟩)|(refine lz λR hR=>?_;(first|simp[an,ax,zx,hq]|simp[an,ax,zx]);try simp(disch:=omega)only[az,ar,an,ax])|(refine hR _ _ ?_;try clear hR R)|(refine hK _ _ ?_;try clear hK K)|refine nx ?_|refine wn λK hK=>?_|simp only[wS]|(refine wlG ?_;first|refine C5 z1 Tryz.mx (by decide +kernel) λK hK=>?_|refine C5 z2 Tryz.mx (by decide +kernel) λK hK=>?_|refine C5 z3 Tryz.mx (by decide +kernel) λK hK=>?_|refine C5 z4 Tryz.mx (by decide +kernel) λK hK=>?_|refine C5 z5 Tryz.mx (by decide +kernel) λK hK=>?_|refine C5 z6 Tryz.mx (by decide +kernel) λK hK=>?_|refine C5 z7 Tryz.mx (by decide +kernel) λK hK=>?_|refine C5 z8 Tryz.mx (by decide +kernel) λK hK=>?_|refine C5 z9 Tryz.mx (by decide +kernel) λK hK=>?_|refine C5 z10 Tryz.mx (by decide +kernel) λK hK=>?_|refine C5 z11 Tryz.mx (by decide +kernel) λK hK=>?_|refine C5 z12 Tryz.mx (by decide +kernel) λK hK=>?_|refine C5 z13 Tryz.mx (by decide +kernel) λK hK=>?_)|(refine acG ?_;first|(apply bz.gk;(·(first|apply z1|apply z2|apply z3|apply z4|apply z5|apply z6|apply z7|apply z8|apply z9|apply z10|apply z11|apply z12|apply z13)<;>first|assumption|(simp[hq];done)|(refine gR ?_;simp[hq];rfl)|(simp[hq,zx];done)|omega|decide);(·exact wA);(·exact sA);(·first|exact pP|exact kP|exact pA|exact kA);(first|rintro _ zA rfl hS hw zn|rintro zn zA zn hS hw zn);have hS:=lA hS;(try (have hq:=oK hS hw)))|(apply bT;(·(first|apply z1|apply z2|apply z3|apply z4|apply z5|apply z6|apply z7|apply z8|apply z9|apply z10|apply z11|apply z12|apply z13)<;>first|assumption|(simp[hq];done)|(refine gR ?_;simp[hq];rfl)|(simp[hq,zx];done)|omega|decide);(first|rintro _ _⟨rfl,rfl⟩zn zn|rintro _ _⟨⟨zn,rfl⟩,rfl⟩zn zn))|((first|apply @Tg.h 10 _ z1|apply @Tg.h 10 _ z2|apply @Tg.h 10 _ z3|apply @Tg.h 10 _ z4|apply @Tg.h 10 _ z5);(·exact wA);(·exact sA);(·first|exact pP|exact kP|exact pA|exact kA);)|((first|apply @Tg.h 14 _ z1|apply @Tg.h 14 _ z2|apply @Tg.h 14 _ z3|apply @Tg.h 14 _ z4|apply @Tg.h 14 _ z5);(·exact wA);(·exact sA);(·first|exact pP|exact kP|exact pA|exact kA);(·first|omega|(simp;omega)|(simp[hq];done));)|(apply bz.lF;(·first|apply @Tg.h 20 _ z1|apply @Tg.h 20 _ z2|apply @Tg.h 20 _ z3|apply @Tg.h 20 _ z4|apply @Tg.h 20 _ z5);(·exact wA);(·exact sA);(·exact fP);(·first|exact pP|exact kP|exact pA|exact kA);(first|rintro _ zA rfl hS hw zn|rintro zn zA zn hS hw zn);have hS:=lA hS;(try (have hq:=oK hS hw));all_goals(try (first|exact 0|exact undef)))|(apply bz.useP;(·first|apply @Tg.h 21 _ z1|apply @Tg.h 21 _ z2|apply @Tg.h 21 _ z3|apply @Tg.h 21 _ z4|apply @Tg.h 21 _ z5);(·exact wA);(·exact sA);(·exact fP);(·first|exact pP|exact kP|exact pA|exact kA);(first|rintro _ zA rfl hS hw zn|rintro zn zA zn hS hw zn);have hS:=lA hS;(try (have hq:=oK hS hw));all_goals(try (first|exact 0|exact undef)))|(apply Gj;(·first|apply @Tg.h 30 _ z1|apply @Tg.h 30 _ z2|apply @Tg.h 30 _ z3|apply @Tg.h 30 _ z4|apply @Tg.h 30 _ z5);(·exact wA);(·exact sA);(·exact fP);all_goals(try (first|exact 0|exact undef)))|(apply eL.gk;(·first|apply @Tg.h 32 _ z1|apply @Tg.h 32 _ z2|apply @Tg.h 32 _ z3|apply @Tg.h 32 _ z4|apply @Tg.h 32 _ z5);(·exact wA);(·exact sA);(·first|exact pP|exact kP|exact pA|exact kA);(first|rintro xw _ zA rfl hS hw zn|rintro xw zn zA zn hS hw zn);(try (have hS:=lA hS));(try (have hq:=oK hS hw)))|((first|apply eL.gk (@Tg.h 36 _ z1 _)|apply eL.gk (@Tg.h 36 _ z2 _)|apply eL.gk (@Tg.h 36 _ z3 _)|apply eL.gk (@Tg.h 36 _ z4 _)|apply eL.gk (@Tg.h 36 _ z5 _)|apply eL.gk (@Tg.h 36 _ z1 _ _ _ _ _ _)|apply eL.gk (@Tg.h 36 _ z2 _ _ _ _ _ _)|apply eL.gk (@Tg.h 36 _ z3 _ _ _ _ _ _)|apply eL.gk (@Tg.h 36 _ z4 _ _ _ _ _ _)|apply eL.gk (@Tg.h 36 _ z5 _ _ _ _ _ _)|apply eL.gk (@Tg.h 36 _ z1 _ _ _ _ _ _ _ _ _)|apply eL.gk (@Tg.h 36 _ z2 _ _ _ _ _ _ _ _ _)|apply eL.gk (@Tg.h 36 _ z3 _ _ _ _ _ _ _ _ _)|apply eL.gk (@Tg.h 36 _ z4 _ _ _ _ _ _ _ _ _)|apply eL.gk (@Tg.h 36 _ z5 _ _ _ _ _ _ _ _ _)|apply eL.gk (@Tg.h 36 _ z1 _ _ _ _ _ _ _ _ _ _)|apply eL.gk (@Tg.h 36 _ z2 _ _ _ _ _ _ _ _ _ _)|apply eL.gk (@Tg.h 36 _ z3 _ _ _ _ _ _ _ _ _ _)|apply eL.gk (@Tg.h 36 _ z4 _ _ _ _ _ _ _ _ _ _)|apply eL.gk (@Tg.h 36 _ z5 _ _ _ _ _ _ _ _ _ _));(·exact wA);(·exact sA);(·first|exact pP|exact kP|exact pA|exact kA);(first|rintro xw _ zA rfl hS hw zn|rintro xw zn zA zn hS hw zn);(try (have hS:=lA hS));(try (have hq:=oK hS hw)))|((first|apply bz.gk (@Tg.h 37 _ z1 _)|apply bz.gk (@Tg.h 37 _ z2 _)|apply bz.gk (@Tg.h 37 _ z3 _)|apply bz.gk (@Tg.h 37 _ z4 _)|apply bz.gk (@Tg.h 37 _ z5 _)|apply bz.gk (@Tg.h 37 _ z1 _ _ _ _ _ _)|apply bz.gk (@Tg.h 37 _ z2 _ _ _ _ _ _)|apply bz.gk (@Tg.h 37 _ z3 _ _ _ _ _ _)|apply bz.gk (@Tg.h 37 _ z4 _ _ _ _ _ _)|apply bz.gk (@Tg.h 37 _ z5 _ _ _ _ _ _)|apply bz.gk (@Tg.h 37 _ z1 _ _ _ _ _ _ _ _ _)|apply bz.gk (@Tg.h 37 _ z2 _ _ _ _ _ _ _ _ _)|apply bz.gk (@Tg.h 37 _ z3 _ _ _ _ _ _ _ _ _)|apply bz.gk (@Tg.h 37 _ z4 _ _ _ _ _ _ _ _ _)|apply bz.gk (@Tg.h 37 _ z5 _ _ _ _ _ _ _ _ _));(·exact wA);(·exact sA);(·first|exact pP|exact kP|exact pA|exact kA);(first|rintro _ zA rfl hS hw zn|rintro zn zA zn hS hw zn);have hS:=lA hS;(try (have hq:=oK hS hw)))|(apply bz.useT;(·first|apply @Tg.h 34 _ z1|apply @Tg.h 34 _ z2|apply @Tg.h 34 _ z3|apply @Tg.h 34 _ z4|apply @Tg.h 34 _ z5);(·exact wA);(·exact sA);(·exact fT);(·first|exact pP|exact kP|exact pA|exact kA);(first|rintro _ zA rfl hS hw zn|rintro zn zA zn hS hw zn);(try (have hS:=lA hS));(try (have hq:=oK hS hw));all_goals(try (first|exact 0|exact undef)))|(apply eL.useT;(·first|apply @Tg.h 35 _ z1|apply @Tg.h 35 _ z2|apply @Tg.h 35 _ z3|apply @Tg.h 35 _ z4|apply @Tg.h 35 _ z5);(·exact wA);(·exact sA);(·exact fT);(·first|exact pP|exact kP|exact pA|exact kA);(first|rintro xw _ zA rfl hS hw zn|rintro xw zn zA zn hS hw zn);(try (have hS:=lA hS));(try (have hq:=oK hS hw));all_goals(try (first|exact 0|exact undef))))|refine wb ?_|refine wr ?_|refine wk ?_|refine we ?_|refine ws ?_|refine wq ?_|(refine wc rfl (λhc=>?_) (λhc=>?_)<;>(try simp at hc)<;>(try omega)<;>(try (simp[h2]at hc;done))<;>(try (simp[h3]at hc;done))<;>(try (simp[h4]at hc;done)))|(refine ib (λhc=>?_) (λhc=>?_)<;>(try omega)<;>(try simp(disch:=omega)only[az,ar]))|((repeat (first|clear zc|clear zx|clear z1|clear z2|clear z3|clear z4|clear z5|clear z6|clear z7|clear z8|clear z9|clear z10|clear z11|clear z12|clear z13));(try (revert hq;have zq:=zk;clear zq));(repeat clear hq);(try (revert hS;have zq:=zk;clear zq));(repeat clear hS);(try (revert hw;have zq:=zk;clear zq));(repeat clear hw);(repeat (first|(revert hc;have zq:=zk;clear zq)|(revert zn;have zq:=zk;clear zq)|(revert zA;have zq:=zk;clear zq)|(revert xw;have zq:=zk;clear zq)|(revert K;have zq:=zk;clear zq)|(revert hK;have zq:=zk;clear zq)|(revert R;have zq:=zk;clear zq)|(revert hR;have zq:=zk;clear zq)));first|with_reducible refine zk.h|with_reducible refine zk.h.1|with_reducible refine zk.h.2.1))
 . repeat' (first|exact .T|apply Df.C|exact .A)):G:=s.1 c x ⟨k⟩
end
def db:True:=trivial
def bL [Gl]:(∀(A:AW)(i:Nat),A.bO i=match A.bk i with|some (.cells cs _ _)=>qf cs|_=>qk)/\∀(P:qp)(A:AW)(t:qy)(p:qM)(v:qi),aI P A t p v=match A.bk p.block,P.info? t with|some (.cells cs qj unit),qf i=>if v.cells.size=i.size/\p.off+i.size<=U cs/\v.cells.toList.all ZK then qf (A.set p.block (qf (.cells (dS cs p.off v.cells.toList) qj unit))) else qk|_,_=>qk:=⟨AW.ab,@aI.eq_1⟩
def aO [Gl]{P:Program}{f:FuncId}{fn:Func}{c:Code}{args:List Value}{A:AW}{R:Value->AW->Prop}(hf:P.funcs[f]?=some fn)(h:A.Wf->df P fn.ntmps c (aX P fn R) (DQ args) A)(hb:fn.body=some c:=by rfl)(ki:NJ fn (U args)=true:=by kernel_rfl):aE P f args A R:=Gy hf hb ki h
def C0 {i:Nat}(h:i<9223372036854775807:=by omega):IntKind.i64.wrap ((i:Int)+1)=((i+1:Nat):Int):=an (by omega) (by omega)
end Go.Stx
