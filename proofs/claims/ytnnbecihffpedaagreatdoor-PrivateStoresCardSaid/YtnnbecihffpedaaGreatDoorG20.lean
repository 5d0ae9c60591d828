import Derived.Test.YtnnbecihffpedaaGreatDoorG19
import Derived.Laws.FloatArith
import Derived.Test.YtnnbecihffpedaaGreatDoorG12
set_option linter.all false
set_option maxRecDepth 20000
set_option maxHeartbeats 4000000
open List renaming length->U
open Exists renaming intro->ka3
open Go.Extern.MathFloatBits renaming float64bits->kbO,float64frombits->kbN
open Go.FloatKind renaming f64->kbh
open Go.IntKind renaming u64->Zc
open Go.Oper renaming upon_value->kbX
open Go.Proofs.Tryz renaming prog->qZ
open Go.Result renaming andThen->kb1
open Go.Stx.AW.le renaming alloc->q8
open Go.Value renaming oneCell'->ZK
open Ieee renaming double->kbu
open List renaming drop_eq_getElem_cons->Z3,getElem?_eq_getElem->Zf,getElem?_map->Z6,getElem_mem->ZP,length_append->Zh,length_map->ZF,length_take_le->kce,take_length->kaQ,take_succ_eq_append_getElem->kaY
open Nat renaming le_refl->Za,le_succ->Zx
open Prod renaming fst->ZB,snd->kaj
open Bool renaming true->qj
open Go renaming Value->qi
open Go.Builtin renaming append->qP
open Go.Callee renaming builtin->qH
open Go.IntKind renaming i64->qg,u64->qr
open Go.Stx.dt renaming cells->qm
open Go.Value renaming bool->qt,slice->ql
open Option renaming none->qk,some->qf
open Or renaming inl->qw,inr->qB
namespace Go.Stx
open Go Go.Proofs
attribute [local irreducible] TW bK df aW aE aL cY dm
section
open T7
variable [Gl]
def N2 (v:qi)(n:Nat)(cs:List qi)(A:AW)(h:gW A 9 v n cs)(h1:cs.all ZK=qj)(hl:n<2^30):
 aE qZ 89 [v] A (λu A'=>dW A.next A' 9 u n cs/\A.le A'/\A'.Wf):=by
 refine aO Tryz.func89 λhw=>?_;have hv:(∃c,v=ql qk n c)\/∃q c,v=ql (qf q) n c:=by
  rcases h with ⟨⟨o,rfl⟩,rfl,rfl⟩|⟨p,c,bO,own,u,rfl,_⟩
  . cases o with
    |none=>exact qw ⟨_,rfl⟩
    |some q=>exact qB ⟨_,_,rfl⟩
  exact qB ⟨_,_,rfl⟩
 rcases hv with ⟨c,rfl⟩|⟨q,c,rfl⟩;obtain⟨rfl,rfl,rfl⟩:n=0/\c=0/\cs=[]:=by exact XY
 revert hw;refine W db db ?_<;>(unhygienic intros);exact⟨_,rfl,qw ⟨rfl,rfl,rfl⟩,AW.le.refl A,hw⟩;have h2:=gW.le (q8 A (qm [] qj 9)) hw h;have jd:dW A.next (A.alloc (qm [] qj 9)) 9 (ql (qf ⟨A.next,0,qk⟩) 0 0) 0 []:=qB ⟨⟨A.next,0,qk⟩,0,[],rfl,Za _,rfl,Za _,by simp,by simp,by simp⟩;obtain⟨v',A',e1,e2,e3,e4,e5,e6,e7⟩:=lD (P:=qZ) (size:=9) (t:=67) Tryz.underlying67 Tryz.info53 Tryz.zero53 rfl rfl Ya jd (gW.pR h2) h1 Ya Yg Yb (hw.alloc _);refine W db (J1 e1) ?_<;>intros;refine⟨_,rfl,?_,?_,e4⟩
 simpa using e2
 exact e3 A (Za _) (q8 A _)
def stp_one (l:List bS):(MI l).all ZK=qj:=by rw[List.all_eq_true];intro v hv;obtain⟨x,_,hx⟩:=List.mem_flatMap.1 hv;simp only[bS.cells,List.mem_cons,List.not_mem_nil,or_false]at hx;rcases hx with rfl|rfl|rfl|rfl|rfl|rfl|rfl|rfl|rfl<;>rfl
def MH {A:AW}{L K:List It}{k:qi->AW->Prop}{v:qi}{l:List bS}(hl:U l<2^30)(hw:A.Wf)(hS:aj A L)(hp:aF L (.h (oR v l)) K)(hk:∀o c A',aj A' (.h (oR (ql o (U l) c) l)::L)->A'.Wf->A.le A'->k (ql o (U l) c) A'):aE qZ 89 [v] A k:=by refine bT (N2 v _ _ A (aj.mH hS hp) (stp_one l) hl) ?_;rintro u A'⟨h1,h2,h3⟩_ _;obtain⟨o,c,rfl,_⟩:=h1.is.cL;exact hk o c A' (dv.jh hS hw h2 h1) h3 h2
def O3 (b:Nat)(d:Bh)(w:ThW){A:AW}{L K:List It}{k:qi->AW->Prop}(hw:A.Wf)(hS:aj A L)(hp:aF L (.at b (wo d w)) K)(hk:∀(u:Nat) A',aj A' L->A'.Wf->A.le A'->k (stV d) A'):aE qZ 12 [pv b] A k:=by
 have hg:A.bk b=qf (wo d w):=by exact X8
 have hb:b<A.next:=hw.lt hg;have fL:(b=A.next)=False:=by simp;omega
 refine aO Tryz.func12 λ_=>?_
 repeat' (first|(refine lz λR hR=>?_;simp[hg,fL,AW.ab,aI];try simp(disch:=omega)only[az,ar,an,ax])|(refine hR _ _ ?_;clear hR R)|(refine hK _ _ ?_;clear hK K)|refine nx ?_|refine wn λK hK=>?_|simp only[wS]|(show df _ _ _ _ _ _;refine nx ?_)|(refine wc rfl (λhc=>?_) (λhc=>?_)<;>(try simp at hc)))
 refine⟨stV d,by (simp[stV,R8.cells,AW.ab];done),?_⟩;refine hk 0 _ ?_ ?_ ?_;exact(bD.set (bD.alloc hS hw _) _).right;exact(hw.alloc _).set _ Yb;exact AW.le.mu A _ _
def Bh.stC (d:Bh):List qi:=[.int qg d.pc,.int qr d.dY.r0,.int qr d.dY.r1,.int qr d.dY.r2,.int qr d.dY.r3,.int qr d.dY.r4,.int qr d.dY.r5,.int qr d.dY.r6,.int qr d.dY.r7,.int qg d.mn,qt d.done]
def RN (l:List Bh):List qi:=l.flatMap Bh.stC
def Bw (v:qi)(l:List Bh):HP:=dv 11 v (U l) (RN l)
def ir (q:List (qi×List lq)):HP:=q.foldr (λy P=>jD y.1 y.2*P) eY
def FY (q r:List (qi×List lq)):ir (q++r)=ir q*ir r:=by
 induction q with
 |nil=>show ir r=eY*ir r;rw[iD]
 |cons y q ih=>
   show jD y.1 y.2*ir (q++r)=(jD y.1 y.2*ir q)*ir r;rw[ih]
   ac_rfl
def Sn (v:qi)(q:List (qi×List lq)):List It:=[.h (dv 1 v (U q) (q.map ZB)),.h (ir q)]
def oS (v:qi)(l:List (List lq)):HP:=ut λx:{ q:List (qi×List lq) // q.map kaj=l }=>aP (Sn v x.1)
section
variable {A:AW} {L K:List It} {v:qi}
def oS.open {l:List (List lq)}(h:aj A L)(hp:aF L (.h (oS v l)) K):∃q,q.map kaj=l/\aj A (Sn v q++K):=by obtain⟨⟨q,hq⟩,h⟩:=lb h hp;exact⟨q,hq,h⟩
def oS.eB {l:List (List lq)}{q:List (qi×List lq)}(hq:q.map kaj=l)(h:aj A L)(e:bd L (Sn v q) K):aj A (.h (oS v l)::K):=ju (g:=λx:{ q:List (qi×List lq) // q.map kaj=l }=>Sn v x.1) ⟨q,hq⟩ h e
def aj.nilTst (h:aj A L):aj A (.h (Bw (ql qk 0 0) [])::L):=dv.nil h
def aj.nilObl (h:aj A L):aj A (.h (oS (ql qk 0 0) [])::L):=by have h1:aj A (.h eY::L):=aj.oA h;have h2:aj A (.h (dv 1 (ql qk 0 0) 0 [])::.h eY::L):=dv.nil h1;exact oS.eB (q:=[]) rfl h2 (.s .z (.s .z .z))
end
section
variable {S:AW->Prop} {K:Fr->AW->Prop} {dE:List yW} {a:Fr} {A:AW} {d:Option Tmp} {x y:Operand} {n:Nat} {v:qi} {L K':List It}
def lwTst {l:List Bh}{t:Bh}(e1:gZ a x=v)(e2:gZ a y=ql (qf ⟨n,0,qk⟩) 1 1)(hw:A.Wf)(hS:aj A L)(hp:aF L (.h (Bw v l)) K')(hn:A.bk n=qf (qm [.int qg t.pc,.int qr t.dY.r0,.int qr t.dY.r1,.int qr t.dY.r2,.int qr t.dY.r3,.int qr t.dY.r4,.int qr t.dY.r5,.int qr t.dY.r6,.int qr t.dY.r7,.int qg t.mn,qt t.done] qj 11))(cy:U l<2 ^ 30)(hs:∀A',aj A' K'->S A')(hk:∀o c A',aj A' (.h (Bw (ql o (U l+1) c) (l++[t]))::K')->A'.Wf->A.next<=A'.next->aW qZ S K dE (d8 a d (ql o (U l+1) c)) A'):
 aW qZ S K (⟨d,.call ⟨qH qP,#[x,y],#[66,66]⟩,qk,3⟩::dE) a A:=by
 refine F0 (P:=qZ) (size:=11) (m:=U l) (cs:=RN l) Tryz.underlying66 Tryz.info48 Tryz.zero48 rfl rfl Ya Yd e1 e2 hw hS hp hn rfl rfl cy hs λo c A' h1 h2 h3=>hk o c A' ?_ h2 h3;have e:Bw (ql o (U l+1) c) (l++[t])=dv 11 (ql o (U l+1) c) (U l+1) (RN l++t.stC):=by unfold Bw;rw[Zh,show RN (l++[t])=RN l++t.stC by simp[RN]];rfl
 rw[e];exact h1
def lwOblM {l:List (List lq)}{os:List lq}{u:qi}{K1 K2:List It}(e1:gZ a x=v)(e2:gZ a y=ql (qf ⟨n,0,qk⟩) 1 1)(hw:A.Wf)(hS:aj A L)(hp:aF L (.h (oS v l)) K1)(yY:aF K1 (.h (jD u os)) K2)(hn:A.bk n=qf (qm [u] qj 1))(cy:U l<2 ^ 30)(hs:∀A',aj A' K2->S A')(hk:∀o c A',aj A' (.h (oS (ql o (U l+1) c) (l++[os]))::K2)->A'.Wf->A.next<=A'.next->aW qZ S K dE (d8 a d (ql o (U l+1) c)) A'):
 aW qZ S K (⟨d,.call ⟨qH qP,#[x,y],#[68,68]⟩,qk,3⟩::dE) a A:=by
 obtain⟨q,hq,h1⟩:=oS.open hS hp;have hl:U q=U l:=by rw[<-hq,ZF]
 dsimp only[Sn,aa,ah]at h1;have bZ:∀o c A',aj A' (.h (dv 1 (ql o (U l+1) c) (U q+1) (q.map ZB++[u]))::.h (ir q)::K1)->aj A' (.h (oS (ql o (U l+1) c) (l++[os]))::K2):=λo c A' h=>by
  have h2:aj A' (.h (dv 1 (ql o (U l+1) c) (U (q++[(u,os)])) ((q++[(u,os)]).map ZB))::.h (ir (q++[(u,os)]))::K2):=by
   have e6:ir (q++[(u,os)])=ir q*jD u os:=by rw[FY];show _*(jD u os*eY)=_;rw[ei]
   rw[e6,Zh,List.map_append];refine bD.dJ h ?_;show dv 1 _ _ _*(ir q*aP K1)=dv 1 _ _ _*((ir q*jD u os)*aP K2);rw[yY.aP];show dv 1 (ql o (U l+1) c) (U q+1) _*(ir q*(jD u os*aP K2))=_
   ac_rfl
  exact oS.eB (q:=q++[(u,os)]) Xl h2 (.s .z (.s .z .z))
 rw[<-hl]at hk bZ;have nQ:([u]:List qi).all ZK=qj:=by obtain⟨o1,c1,e1,_⟩:=gW.cL (aj.mH h1 (.s (.s yY)));rw[e1];rfl
 refine F0 (P:=qZ) (size:=1) (m:=U q) (cs:=q.map ZB) Tryz.underlying68 Tryz.info80 Tryz.zero80 rfl rfl Ya Yd e1 e2 hw h1 .z hn rfl nQ Ya (λA' h=>hs A' ?_) λo c A' h1 h2 h3=>hk o c A' (bZ o c A' h1) h2 h3;have h3:aj A' K1:=h.tail;unfold aj at h3;rw[yY.aP]at h3;exact bD.right h3
def lwObl {l:List (List lq)}{os:List lq}{u:qi}{K2:List It}(e1:gZ a x=v)(e2:gZ a y=ql (qf ⟨n,0,qk⟩) 1 1)(hw:A.Wf)(hS:aj A L)(hp:bd L [.h (oS v l),.h (jD u os)] K2)(hn:A.bk n=qf (qm [u] qj 1))(cy:U l<2 ^ 30)(hs:∀A',aj A' K2->S A')(hk:∀o c A',aj A' (.h (oS (ql o (U l+1) c) (l++[os]))::K2)->A'.Wf->A.next<=A'.next->aW qZ S K dE (d8 a d (ql o (U l+1) c)) A'):
 aW qZ S K (⟨d,.call ⟨qH qP,#[x,y],#[68,68]⟩,qk,3⟩::dE) a A:=by
 have h1:aj A (.h (oS v l)::.h (jD u os)::K2):=by
  unfold aj at hS ⊢;rw[hp.aP]at hS;refine bD.dJ hS ?_;show (oS v l*(jD u os*eY))*aP K2=oS v l*(jD u os*aP K2);rw[ei]
  ac_rfl
 exact lwOblM e1 e2 hw h1 .z .z hn cy hs hk
end
def Tq {q:List Ey}{i:Nat}(hi:i<U q):∃R:HP,ff q=Fg q[i]*R:=by
 refine⟨ff (q.take i)*ff (q.drop (i+1)),?_⟩;have e:q=q.take i++(q[i]::q.drop (i+1)):=by rw[<-Z3 hi,List.take_append_drop]
 have h:=congrArg ff e;rw[Gf]at h;rw[h];show ff (q.take i)*(Fg q[i]*ff (q.drop (i+1)))=_
 ac_rfl
def NP {A:AW}{L K:List It}{q:List Ey}{i:Nat}(hi:i<U q)(hS:aj A L)(hp:aF L (.h (ff q)) K):b5 A qg q[i].2.1 q[i].1.reads/\b5 A qg q[i].2.2 q[i].1.b8:=by obtain⟨R,e⟩:=Tq hi;unfold aj at hS;rw[hp.aP]at hS;have h2:bD A (ff q*aP K):=hS;rw[e]at h2;unfold Fg at h2;exact⟨xM h2 (Q:=ay qg q[i].2.2 q[i].1.b8*R*aP K) Ye,xM h2 (Q:=ay qg q[i].2.1 q[i].1.reads*R*aP K) Ye⟩
def evR_use {q:List Ey}{i:Nat}{e:JX}{r w:qi}(hi:i<U q)(hx:q[i]=(e,r,w))(hl:U e.reads<2^38){A:AW}{L K:List It}{k:qi->AW->Prop}(hw:A.Wf)(hS:aj A L)(hp:aF L (.h (ff q)) K)(hk:∀o c A',aj A' (.h (ay qg (ql o (U e.reads) c) e.reads)::L)->A'.Wf->A.le A'->k (ql o (U e.reads) c) A'):aE qZ 90 [r] A k:=by have h:=(NP hi hS hp).1;rw[hx]at h;refine bT (kJ r e.reads A h Ya) ?_;rintro u A'⟨h1,h2⟩lC _;exact XP
def evW_use {q:List Ey}{i:Nat}{e:JX}{r w:qi}(hi:i<U q)(hx:q[i]=(e,r,w))(hl:U e.b8<2^38){A:AW}{L K:List It}{k:qi->AW->Prop}(hw:A.Wf)(hS:aj A L)(hp:aF L (.h (ff q)) K)(hk:∀o c A',aj A' (.h (ay qg (ql o (U e.b8) c) e.b8)::L)->A'.Wf->A.le A'->k (ql o (U e.b8) c) A'):aE qZ 90 [w] A k:=by have h:=(NP hi hS hp).2;rw[hx]at h;refine bT (kJ w e.b8 A h Ya) ?_;rintro u A'⟨h1,h2⟩lC _;exact XP
def QM (q:List Ey){i:Nat}(hi:i<U q):((iq q).drop (i*6)).take 6=CK q[i].1 q[i].2.1 q[i].2.2:=xH _ 6 (λ_=>rfl) q i hi
structure ResF where
 f:ImgF
 t:Option Addr×Nat
 s:Option Addr×Nat
 e:Option Addr×Nat
 o:Option Addr×Nat
def M5 (m:sy)(z:ResF):List qi:=[kD z.f.v0 (m.M 0),kD z.f.v1 (m.M 1),.int qr ((m.M 2).getD 0 0),.int qr ((m.M 3).getD 0 0),.int qr ((m.M 4).getD 0 0),kD z.f.v5 (m.M 5),kD z.f.v6 (m.M 6),kD z.f.v7 (m.M 7),ql z.t.1 (U m.fG) z.t.2,ql z.s.1 (U m.bg) z.s.2,ql z.e.1 (U m.vE) z.e.2,ql z.o.1 (U m.fG) z.o.2]
def resI (m:sy)(z:ResF):List It:=[.h (yw m.M z.f),.h (Bw (ql z.t.1 (U m.fG) z.t.2) (m.fG.map aV.d)),.h (oR (ql z.s.1 (U m.bg) z.s.2) m.bg),.h (gK (ql z.e.1 (U m.vE) z.e.2) m.vE),.h (oS (ql z.o.1 (U m.fG) z.o.2) (m.fG.map aV.iA))]
end
section
abbrev rP:List (Nat×Nat):=[(0,0),(1,0),(2,0),(3,2),(4,2),(5,3),(6,0),(7,3)]
abbrev rO:List (Nat×Nat):=[(0,0),(1,0),(3,0),(4,0),(2,2),(6,0),(5,2),(7,3),(8,0),(9,3)]
open T2
variable [Gl]
variable [AF]
def W7 {P:Program}{n:Nat}{Q:Exit->Fr->AW->Prop}{a:Fr}{A:AW}{x:Code}{K:Fr->AW->Prop}(J:Fr->AW->Prop)(h1:df P n x (aT J Q) a A)(h2:∀a A,J a A->K a A):df P n x (aT K Q) a A:=
 An h1 λe a A h=>by cases e<;>first|exact h2 a A h|exact h
def Pi (b:Nat)(m:sy)(cy:∀k,k<8->U (m.M k)<2^39)(hm2:0<U (m.M 2))(U2:0<U (m.M 3))(hm4:0<U (m.M 4))(hl:U m.fG<=16)(OH:U m.bg<2^30)(hel:U m.vE<2^30)(uO:∀t∈m.fG,U t.iA<2^30)(Br:∀e∈m.vE,U e.reads<2^38/\U e.b8<2^38):
 eL qZ 43 [pv b] [.h (Kj b m)] (λz v=>v=.agg (M5 m z).toArray) (λz=>.h (Kj b m)::resI m z):=by
 intro A F hw dU;refine aO Tryz.func43 λ_=>?_;dsimp only[aa,ah]at dU;obtain⟨⟨pb,vt,vs,ve⟩,q,DT,hS⟩:=Kj.open dU .z;have hql:U q=U m.fG:=by rw[<-DT,ZF]
 have mT:U (q.map ZB)=U m.fG:=by rw[ZF,hql]
 clear dU;dsimp only[mcI,aa,ah]at hS;have himg:=λ{A:AW}{L K:List It}{k:qi->AW->Prop}=>SM pb m.M cy hm2 U2 hm4 (A:=A) (L:=L) (K:=K) (k:=k);generalize hM0:m.M=M0 at hS himg;obtain⟨ot,ct,rfl,_⟩:=gW.cL (aj.mH hS (.s (.s .z)));obtain⟨os,cs,rfl,_⟩:=gW.cL (aj.mH hS (.s (.s (.s (.s .z)))));obtain⟨q2,L0,jK⟩:=gK.open hS (.s (.s (.s (.s (.s .z)))));have hq2l:U q2=U m.vE:=by rw[<-L0,ZF]
 dsimp only[Jb,aa,ah]at jK;obtain⟨oe,ce,rfl,_⟩:=gW.cL (aj.mH jK .z);clear hS;have hS:=jK;clear jK;rw[mT]at hS;have hq:=gP hS hw;revert hq hS hw;refine W (J2 (od rP) (od rO)) (J1 bL) ?_<;>(unhygienic intros);refine W7 (λfr A'=>A'.Wf/\fr 0=pv b/\fr 2=pv A.next/\∃rb f o cz,fr 3=pv rb/\aj A' [.h (yw M0 f),.h (oR (ql o (U m.bg) cz) m.bg),.at rb (qm [kD f.v0 (M0 0),kD f.v1 (M0 1),.int qr ((M0 2).getD 0 0),.int qr ((M0 3).getD 0 0),.int qr ((M0 4).getD 0 0),kD f.v5 (M0 5),kD f.v6 (M0 6),kD f.v7 (M0 7),ql qk 0 0,ql o (U m.bg) cz,ql qk 0 0,ql qk 0 0] qj 1),.h (dv 6 (ql oe (U q2) ce) (U q2) (iq q2)),.h (ff q2),.at b (qm [pv pb,ql ot (U m.fG) ct,ql os (U m.bg) cs,ql oe (U q2) ce] qj 1),eA pb M0,.h (oC (ql ot (U m.fG) ct) (q.map ZB)),.h (mQ q),.h (oR (ql os (U m.bg) cs) m.bg),.at A.next (qm [ql qk 0 0,ql qk 0 0,.int qr 0,.int qr 0,.int qr 0,ql qk 0 0,ql qk 0 0,ql qk 0 0,ql qk 0 0,ql qk 0 0,ql qk 0 0,ql qk 0 0] qj 1),.h F]) ?_ ?_
 . repeat' (first|(refine hR _ _ ?_;clear hR R)|(refine hK _ _ ?_;clear hK K)|refine nx ?_|(refine VC λR hR=>?_;simp[hq,AW.ab,aI];try simp(disch:=omega)only[az,ar,an,ax])|(refine Rv (λR hR=>?_) (λR hR=>?_)<;>(simp[];try simp(disch:=omega)only[az,ar,an,ax]))|refine VB ?_|simp only[bK,wD,ml,Option.map_none,List.getElem?_toArray,List.getElem?_cons_zero,List.getElem?_cons_succ,List.getD_cons_zero,List.getD_cons_succ]|(refine wt (λ_=>True) Tryz.mx [0,0,0,0,2,0,0,0,0,2,0,2,3] (.aM 0 (.aM 1 (.aM 2 (.aM 3 (.aM 5 (.aM 6 (.aM 7 (.aM 8 (.wm 4 (.wm 9 (.aM 10 (.aM 11 (.aM 12 .nil))) 11 (.aM 9 (.aM 10 (.aM 12 .nil)))) 11 (.aM 4 (.aM 9 (.aM 10 (.aM 12 .nil))))))))))))) Yc λK hK=>?_)|(apply himg;(·exact wA);(·exact sA);(·exact kA);((rintro _ _ hS hw gb);(try refine⟨gb,?_⟩);have hq:=gP hS hw))|(apply MH OH;(·exact wA);(·exact sA);(·exact kA);((rintro _ _ _ hS hw gb);(try refine⟨gb,?_⟩);have hq:=gP hS hw)))
   all_goals(
    simp only[aT];refine⟨?_,by simp,by simp,?_⟩;exact wA;apply ka3;apply ka3;apply ka3;apply ka3;refine And.intro (by simp;rfl) ?_;apply aj.bZ
    (·exact sA)
    (·exact sH))
 clear hS hw hq himg;rintro fr A1⟨hw,h0,h2,rb,f,o,cz,h3,hS⟩;generalize A.next=N at hS h2;have hq:=gP hS hw;revert hq hS hw;(repeat revert hc);refine W (J2 (od rP) (od rO)) (J4 h0 h2 h3 bL) ?_<;>(unhygienic intros)
 refine dO (λk fr A'=>A'.Wf/\∃(i:Nat)(vtt voo:qi),k=U m.fG-i/\i<=U m.fG/\fr 0=pv b/\fr 2=pv N/\fr 3=pv rb/\fr 25=ql ot (U m.fG) ct/\fr 26=.int qg (U m.fG)/\fr 27=.int qg i/\
  aj A' [.h (oC (ql ot (U m.fG) ct) (q.map ZB)),.h (mQ q),.h (Bw vtt ((m.fG.take i).map aV.d)),.h (oS voo ((m.fG.take i).map aV.iA)),.h (yw M0 f),.h (oR (ql o (U m.bg) cz) m.bg),.at rb (qm [kD f.v0 (M0 0),kD f.v1 (M0 1),.int qr ((M0 2).getD 0 0),.int qr ((M0 3).getD 0 0),.int qr ((M0 4).getD 0 0),kD f.v5 (M0 5),kD f.v6 (M0 6),kD f.v7 (M0 7),vtt,ql o (U m.bg) cz,ql qk 0 0,voo] qj 1),.h (dv 6 (ql oe (U q2) ce) (U q2) (iq q2)),.h (ff q2),.at b (qm [pv pb,ql ot (U m.fG) ct,ql os (U m.bg) cs,ql oe (U q2) ce] qj 1),eA pb M0,.h (oR (ql os (U m.bg) cs) m.bg),.at N (qm [ql qk 0 0,ql qk 0 0,.int qr 0,.int qr 0,.int qr 0,ql qk 0 0,ql qk 0 0,ql qk 0 0,ql qk 0 0,ql qk 0 0,ql qk 0 0,ql qk 0 0] qj 1),.h F]) (U m.fG) ?_ ?_
 refine⟨hw,0,ql qk 0 0,ql qk 0 0,by omega,by omega,by simp[h0],by simp[h2],by simp[h3],by simp,by simp,by simp,?_⟩;have h1:=aj.nilTst (aj.nilObl hS);apply aj.bZ;exact h1
 (·exact sH)
 clear hS hw hq h0 h2 h3;rintro k fr A2⟨hw,i,vtt,voo,rfl,hi,h0,h2,h3,h25,h26,h27,hS⟩;have hlim:U ((m.fG.take i).map aV.d)<2^30:=by rw[ZF];have:=kce i m.fG;omega
 have hlim2:U ((m.fG.take i).map aV.iA)<2^30:=by rw[ZF];have:=kce i m.fG;omega
 by_cases b9:i<U m.fG
 . have gf:(i:Int)<U m.fG:=Ya;have ij:=C0 (i:=i);have hiq:i<U q:=Ya;obtain⟨tb,off,cc,bO,e25,bP,Qb,jH,jv⟩:=aj.ptrI hS .z (i:=i) Ya;injection e25 with e1 e2 e3;subst e1 e3;obtain⟨R,jK,ru⟩:=aj.thsAt hiq jH (.s .z);have Ry:m.fG[i]=q[i].2:=by
    have:m.fG[i]?=qf q[i].2:=by rw[<-DT,Z6,Zf hiq];rfl
    rw[Zf b9]at this;injection this
   have hobt:=uO m.fG[i] (ZP b9);rw[List.getElem_map]at bP;have jM:∀y,q[i]=y->q.set i y=q:=λy e=>by rw[<-e,List.set_getElem_self]
   generalize hx:q[i]=x at *;obtain⟨bt,t⟩:=x;dsimp only at Ry bP jK ru;have jM:=jM _ rfl;rw[Ry]at hobt;clear hS jH;obtain⟨⟨⟨du,fj,lM,fZ,FA,vo'⟩,vc⟩,hS⟩:=wz.open jK .z;clear jK;dsimp only[HD,aa,ah]at hS;rw[mT]at jv;have hir:off+i<U bO:=Ya;obtain⟨hir2,BM⟩:=List.getElem?_eq_some_iff.1 bP
   have bZ:∀(vtt' voo':qi)(lt:List Bh)(lo:List (List lq))(A':AW)(L' K1 K2 K3 K8:List It),aj A' L'->bd L' (HD bt t ⟨du,fj,lM,fZ,FA,vo'⟩ vc) K1->aF K1 (.h R) K2->aF K2 (.at tb (qm bO qj 1)) K3->
    bd K3 [.h (Bw vtt' lt),.h (oS voo' lo),.h (yw M0 f),.h (oR (ql o (U m.bg) cz) m.bg),.at rb (qm [kD f.v0 (M0 0),kD f.v1 (M0 1),.int qr ((M0 2).getD 0 0),.int qr ((M0 3).getD 0 0),.int qr ((M0 4).getD 0 0),kD f.v5 (M0 5),kD f.v6 (M0 6),kD f.v7 (M0 7),vtt',ql o (U m.bg) cz,ql qk 0 0,voo'] qj 1),.h (dv 6 (ql oe (U q2) ce) (U q2) (iq q2)),.h (ff q2),.at b (qm [pv pb,ql (qf ⟨tb,off,qk⟩) (U m.fG) ct,ql os (U m.bg) cs,ql oe (U q2) ce] qj 1),eA pb M0,.h (oR (ql os (U m.bg) cs) m.bg),.at N (qm [ql qk 0 0,ql qk 0 0,.int qr 0,.int qr 0,.int qr 0,ql qk 0 0,ql qk 0 0,ql qk 0 0,ql qk 0 0,ql qk 0 0,ql qk 0 0,ql qk 0 0] qj 1),.h F] K8->aj A' [.h (oC (ql (qf ⟨tb,off,qk⟩) (U m.fG) ct) (q.map ZB)),.h (mQ q),.h (Bw vtt' lt),.h (oS voo' lo),.h (yw M0 f),.h (oR (ql o (U m.bg) cz) m.bg),.at rb (qm [kD f.v0 (M0 0),kD f.v1 (M0 1),.int qr ((M0 2).getD 0 0),.int qr ((M0 3).getD 0 0),.int qr ((M0 4).getD 0 0),kD f.v5 (M0 5),kD f.v6 (M0 6),kD f.v7 (M0 7),vtt',ql o (U m.bg) cz,ql qk 0 0,voo'] qj 1),.h (dv 6 (ql oe (U q2) ce) (U q2) (iq q2)),.h (ff q2),.at b (qm [pv pb,ql (qf ⟨tb,off,qk⟩) (U m.fG) ct,ql os (U m.bg) cs,ql oe (U q2) ce] qj 1),eA pb M0,.h (oR (ql os (U m.bg) cs) m.bg),.at N (qm [ql qk 0 0,ql qk 0 0,.int qr 0,.int qr 0,.int qr 0,ql qk 0 0,ql qk 0 0,ql qk 0 0,ql qk 0 0,ql qk 0 0,ql qk 0 0,ql qk 0 0] qj 1),.h F]:=λvtt' voo' lt lo A' L' K1 K2 K3 K8 h e1 e2 e3 e4=>by have g1:=wz.eB (b:=bt) (t:=t) h e1;have g2:=ru A' _ _ _ t g1 .z e2;rw[jM]at g2;exact aj.bZ (jv A' _ _ g2 (.s e3)) (.s .z (.s .z e4))
   have ed:(m.fG.take (i+1)).map aV.d=(m.fG.take i).map aV.d++[t.d]:=XF;have eo:(m.fG.take (i+1)).map aV.iA=(m.fG.take i).map aV.iA++[t.iA]:=XF;generalize (m.fG.take i).map aV.d=lt at *;generalize (m.fG.take i).map aV.iA=lo at *;obtain⟨ott2,ctt2,rfl,_⟩:=gW.cL (aj.mH hS (.s (.s (.s (.s (.s (.s (.s (.s (.s (.s .z)))))))))));have hq:=gP hS hw;refine aU ?_
   repeat' (first|(with_reducible apply lwTst (t:=t.d);(·(simp;rfl));(·(simp;rfl));(·exact wA);(·exact sA);(·exact kA);(·exact AW.cD _ _);(·omega);(·intro _ _;trivial);rintro _ _ _ hS hw _;have hq:=gP hS hw)|(with_reducible apply lwObl;(·(simp;rfl));(·(simp;rfl));(·exact wA);(·exact sA);(·exact pA);(·exact AW.cD _ _);(·omega);(·intro _ _;trivial);rintro _ _ _ hS hw _;have hq:=gP hS hw)|(refine lz λR hR=>?_;simp[hq,h3,h25,h26,h27,gf,ij,hir,BM,stV,R8.cells,AW.ab,aI];try simp(disch:=omega)only[az,ar,an,ax])|(refine hR _ _ ?_;clear hR R)|(refine hK _ _ ?_;clear hK K)|refine nx ?_|refine wn λK hK=>?_|simp only[wS,rP]|refine wl Tryz.mx rP Yc λK hK=>?_|(apply O3 bt t.d _;(·exact wA);(·exact sA);(·exact kA);((rintro _ _ hS hw gb);(try refine⟨gb,?_⟩);have hq:=gP hS hw))|(apply VF bt t.d _ t.iA hobt;(·exact wA);(·exact sA);(·exact pA);((rintro _ _ _ hS hw gb);(try refine⟨gb,?_⟩);have hq:=gP hS hw))|(show df _ _ _ _ _ _;refine nx ?_)|(refine wc rfl (λhc=>?_) (λhc=>?_)<;>(try simp at hc)))
   refine⟨U m.fG-(i+1),by omega,?_,i+1,?_⟩;exact wA;rw[ed,eo];apply ka3;apply ka3;refine⟨rfl,by omega,by simp[h0],by simp[h2],by simp[h3],by simp[h25],by simp[h26],by simp,?_⟩;apply bZ
   (·exact sA)
   unfold HD;dsimp only
   (·exact sH)
   (·exact sO)
   (·exact sO)
   (·exact sH)
 have uR:i=U m.fG:=Ya
 subst uR;have gf:¬((U m.fG:Int)<U m.fG):=Ya
 rw[kaQ]at hS;clear hlim hlim2;have hq:=gP hS hw;refine aU ?_;revert hq hS hw;(repeat revert hc);refine W (J2 (od rP) (od rO)) (J8 h0 h2 h3 h25 h26 h27 gf bL) ?_<;>(unhygienic intros)
 refine dO (λk fr A'=>A'.Wf/\∃(i:Nat)(vee:qi),k=U q2-i/\i<=U q2/\fr 0=pv b/\fr 2=pv N/\fr 3=pv rb/\fr 49=ql oe (U q2) ce/\fr 50=.int qg (U q2)/\fr 51=.int qg i/\
  aj A' [.h (gK vee (m.vE.take i)),.h (oC (ql ot (U m.fG) ct) (q.map ZB)),.h (mQ q),.h (Bw vtt (m.fG.map aV.d)),.h (oS voo (m.fG.map aV.iA)),.h (yw M0 f),.h (oR (ql o (U m.bg) cz) m.bg),.at rb (qm [kD f.v0 (M0 0),kD f.v1 (M0 1),.int qr ((M0 2).getD 0 0),.int qr ((M0 3).getD 0 0),.int qr ((M0 4).getD 0 0),kD f.v5 (M0 5),kD f.v6 (M0 6),kD f.v7 (M0 7),vtt,ql o (U m.bg) cz,vee,voo] qj 1),.h (dv 6 (ql oe (U q2) ce) (U q2) (iq q2)),.h (ff q2),.at b (qm [pv pb,ql ot (U m.fG) ct,ql os (U m.bg) cs,ql oe (U q2) ce] qj 1),eA pb M0,.h (oR (ql os (U m.bg) cs) m.bg),.at N (qm [ql qk 0 0,ql qk 0 0,.int qr 0,.int qr 0,.int qr 0,ql qk 0 0,ql qk 0 0,ql qk 0 0,ql qk 0 0,ql qk 0 0,ql qk 0 0,ql qk 0 0] qj 1),.h F]) (U q2) ?_ ?_
 refine⟨hw,0,ql qk 0 0,by omega,by omega,by simp[h0],by simp[h2],by simp[h3],by simp,by simp,by simp,?_⟩;exact gK.nil hS;clear hS hw hq h0 h2 h3 h25 h26 h27;rintro k fr A3⟨hw,i,vee,rfl,hi,h0,h2,h3,h49,h50,h51,hS⟩;by_cases b9:i<U q2
 . have gf:(i:Int)<U q2:=Ya;have ij:=C0 (i:=i);obtain⟨p,bO,rfl,bP,gb,hcell⟩:=gW.recAt (aj.mH hS (.s (.s (.s (.s (.s (.s (.s (.s .z))))))))) b9 (QM q2 b9);have hevi:=Br q2[i].1 (by rw[<-L0];exact List.mem_map_of_mem (ZP b9));have Ry:m.vE.take (i+1)=m.vE.take i++[q2[i].1]:=by
    rw[kaY Ya];congr 2;have:m.vE[i]?=qf q2[i].1:=by rw[<-L0,Z6,Zf b9];rfl
    rw[Zf Ya]at this;injection this
   have hlen2:U (m.vE.take i)<2^30:=by have:=kce i m.vE;simp;omega
   obtain⟨h5,h6⟩:=NP b9 hS (.s (.s (.s (.s (.s (.s (.s (.s (.s .z)))))))));generalize m.vE.take i=le at *;generalize hx:q2[i]=x at *;obtain⟨⟨ea,et,ek,ew,er,ewr⟩,r,w⟩:=x;dsimp only[CK]at hcell hevi h5 h6;obtain⟨o1,c1,rfl,_⟩:=h5.cL;obtain⟨o2,c2,rfl,_⟩:=h6.cL;have heR:=λ{A:AW}{L K:List It}{k:qi->AW->Prop}=>evR_use b9 hx hevi.1 (A:=A) (L:=L) (K:=K) (k:=k);have heW:=λ{A:AW}{L K:List It}{k:qi->AW->Prop}=>evW_use b9 hx hevi.2 (A:=A) (L:=L) (K:=K) (k:=k);dsimp only at heR heW;clear hx h5 h6;have hq:=gP hS hw;refine aU ?_
   repeat' (first|(with_reducible apply lwEvm (e:=⟨ea,et,ek,ew,er,ewr⟩);(·(simp;rfl));(·(simp;rfl));(·exact wA);(·exact sA);(·exact pA);(·(simp;(repeat' (first|rfl|refine⟨rfl,?_⟩));done));(·omega);(·intro _ _;trivial);rintro _ _ _ hS hw _;have hq:=gP hS hw)|(refine lz λR hR=>?_;simp[hq,h3,h49,h50,h51,gf,ij,gb,bP,hcell,AW.ab,aI];try simp(disch:=omega)only[az,ar,an,ax])|(refine hR _ _ ?_;clear hR R)|(refine hK _ _ ?_;clear hK K)|refine nx ?_|refine wn λK hK=>?_|simp only[wS,rO]|refine wl Tryz.mx rO Yc λK hK=>?_|(apply heR;(·exact wA);(·exact sA);(·exact kA);((rintro _ _ _ hS hw gb);(try refine⟨gb,?_⟩);have hq:=gP hS hw))|(apply heW;(·exact wA);(·exact sA);(·exact kA);((rintro _ _ _ hS hw gb);(try refine⟨gb,?_⟩);have hq:=gP hS hw))|(show df _ _ _ _ _ _;refine nx ?_)|(refine wc rfl (λhc=>?_) (λhc=>?_)<;>(try simp at hc)))
   dsimp only at Ry;refine⟨U q2-(i+1),by omega,?_,i+1,?_⟩;exact wA;rw[Ry];apply ka3;refine⟨rfl,by omega,by simp[h0],by simp[h2],by simp[h3],by simp[h49],by simp[h50],by simp,?_⟩;exact XX
 have uR:i=U q2:=Ya
 subst uR;have gf:¬((U q2:Int)<U q2):=Ya
 have e:m.vE.take (U q2)=m.vE:=by rw[hq2l,kaQ]
 rw[e]at hS;clear e;obtain⟨ott,ctt,rfl,_⟩:=gW.cL (aj.mH hS (.s (.s (.s .z))));simp only[ZF]at hS;obtain⟨qe,RA,yG⟩:=gK.open hS .z;have hqel:U qe=U m.vE:=by rw[<-RA,ZF]
 dsimp only[Jb,aa,ah]at yG;obtain⟨oee,cee,rfl,_⟩:=gW.cL (aj.mH yG .z);clear yG;rw[hqel]at hS;obtain⟨qo,hqo,yG⟩:=oS.open hS (.s (.s (.s (.s .z))));have hqol:U qo=U m.fG:=by rw[<-ZF (f:=aV.iA),<-hqo,ZF]
 dsimp only[Sn,aa,ah]at yG;obtain⟨oo,co,rfl,_⟩:=gW.cL (aj.mH yG .z);clear yG;rw[hqol]at hS;have hq:=gP hS hw;refine aU ?_;revert hq hS hw;(repeat revert hc);refine W (J2 (od rP) (od rO)) (J9 h0 h2 h3 h49 h50 h51 gf @kD.eq_1 bL) ?_<;>(unhygienic intros);subst hM0;have fin2:∀(B:AW)(o1 o2:dt),aj B [.h (gK (ql oee (U m.vE) cee) m.vE),.h (oC (ql ot (U m.fG) ct) (q.map ZB)),.h (mQ q),.h (Bw (ql ott (U m.fG) ctt) (m.fG.map aV.d)),.h (oS (ql oo (U m.fG) co) (m.fG.map aV.iA)),.h (yw m.M f),.h (oR (ql o (U m.bg) cz) m.bg),.at rb o1,.h (dv 6 (ql oe (U q2) ce) (U q2) (iq q2)),.h (ff q2),.at b (qm [pv pb,ql ot (U m.fG) ct,ql os (U m.bg) cs,ql oe (U q2) ce] qj 1),eA pb m.M,.h (oR (ql os (U m.bg) cs) m.bg),.at N o2,.h F]->aj B [.h (Kj b m),.h (yw m.M f),.h (Bw (ql ott (U m.fG) ctt) (m.fG.map aV.d)),.h (oR (ql o (U m.bg) cz) m.bg),.h (gK (ql oee (U m.vE) cee) m.vE),.h (oS (ql oo (U m.fG) co) (m.fG.map aV.iA)),.h F]:=λB o1 o2 h=>by
  have h1:aj B (.h (gK (ql oe (U q2) ce) m.vE)::[.h (gK (ql oee (U m.vE) cee) m.vE),.h (oC (ql ot (U m.fG) ct) (q.map ZB)),.h (mQ q),.h (Bw (ql ott (U m.fG) ctt) (m.fG.map aV.d)),.h (oS (ql oo (U m.fG) co) (m.fG.map aV.iA)),.h (yw m.M f),.h (oR (ql o (U m.bg) cz) m.bg),.at rb o1,.at b (qm [pv pb,ql ot (U m.fG) ct,ql os (U m.bg) cs,ql oe (U q2) ce] qj 1),eA pb m.M,.h (oR (ql os (U m.bg) cs) m.bg),.at N o2,.h F]):=gK.eB (q:=q2) L0 h (by unfold Jb;(exact pA));have h2:aj B (.h (Kj b m)::[.h (gK (ql oee (U m.vE) cee) m.vE),.h (Bw (ql ott (U m.fG) ctt) (m.fG.map aV.d)),.h (oS (ql oo (U m.fG) co) (m.fG.map aV.iA)),.h (yw m.M f),.h (oR (ql o (U m.bg) cz) m.bg),.at rb o1,.at N o2,.h F]):=Kj.eB (m:=m) (f:=⟨pb,ql ot (U m.fG) ct,ql os (U m.bg) cs,ql oe (U q2) ce⟩) (q:=q) DT h1 Xo
  apply aj.bZ;exact h2
  (·exact sH)
 refine⟨_,by(simp[h2,AW.ab];rfl),?_⟩;refine⟨⟨f,(ott,ctt),(o,cz),(oee,cee),(oo,co)⟩,by simp[M5,kD],?_⟩;show aj _ [.h (Kj b m),.h (yw m.M f),.h (Bw (ql ott (U m.fG) ctt) (m.fG.map aV.d)),.h (oR (ql o (U m.bg) cz) m.bg),.h (gK (ql oee (U m.vE) cee) m.vE),.h (oS (ql oo (U m.fG) co) (m.fG.map aV.iA)),.h F];apply fin2;exact XX
end
section
open T2
variable [Gl]
variable [AF]
def Oy (l:List JX):Prop:=∀e∈l,U e.reads<2^38/\U e.b8<2^38
def Oy.nil:Oy []:=λe he=>by cases he
def Oy.aM {e:JX}(h1:U e.reads<2^38)(h2:U e.b8<2^38):Oy [e]:=λe' he=>by rw[List.mem_singleton]at he;subst he;exact⟨h1,h2⟩
def Er {t:aV}{s:aJ}{M:Mm}(h:JY t s M):Oy (t.yU M s).2.1:=by have h1:=h.hC.kS;have h2:=h.hC.len;unfold aV.yU;dsimp only;split;exact Oy.aM Yb Yb;split;refine Oy.aM Yz ?_;dsimp only;split;have:=List.length_filter_le (λa=>decide (a<(aY s M).2.2.1.cf.bm)) (aY s M).2.2.1.bJ.bU;omega;decide;exact Oy.nil
def V2 {t:aV}{M:Mm}{i:bp}(h:t.cf.aZ=qj->JY ({ t with aZ:=qj,gt:=0 }:aV).sX (gE (fq t.cf t.id)).2 M):Oy (t.plain M i).2.1:=by unfold aV.plain;dsimp only;split;exact Oy.nil;split;rename_i h1;exact Er (h h1);split<;>exact Oy.aM Yb Yb
def step_evb {eu:Int->Int->Int->Int}(hA:yx eu){c:bu}{nt k:Nat}(hc:dl c)(hk:k+1<2^24){t:aV}{M:Mm}(hM:mr c nt k M)(h:mR c nt k t)(sh:EC t.aD):Oy (t.step eu M).2.2.1:=by
 unfold aV.step;split;exact Oy.nil;rename_i hd;have hd:t.done=false:=by simpa using hd
 show Oy (t.nJ eu M).2.1;unfold aV.nJ;split;exact Oy.nil;rename_i eh;split;rename_i s dI;split;rename_i hb;exact Er (busy_H hc hk hM h hd dI hb);rename_i hb;have hb:s.kQ=false:=by simpa using hb
 split;rename_i hs;exact Er (ask_H hc hk hM h hd dI hs);rename_i hs;have hx:=exS_of hA hc hk hM h hd dI hb (by simpa using hs) sh;unfold aV.my;rw[ar hx.xj.1,dI];dsimp only;split;rename_i hr;exact Er (hx.hr hr);exact Oy.nil;rename_i dI;have hx:=exN_of hA hc hk hM h hd dI eh sh;unfold aV.my;split;rename_i h7;exact Er (hx.hb h7);rw[dI];dsimp only;split;rename_i hp;exact V2 λhs=>hx.hp hs hp;split<;>exact Oy.nil
structure yt (c:bu) (nt k:Nat) (m:sy):Prop where
 M:mr c nt k m.M
 T:∀t∈m.fG,mR c nt k t/\EC t.aD
 n:m.fG.length=nt
 s:m.bg.length<=k
 e:m.vE.length<=k
 b:Oy m.vE
def yt.mono {c:bu}{nt k k':Nat}{m:sy}(h:yt c nt k m)(hk:k<=k'):yt c nt k' m:=
 ⟨h.M.mono hk,λt ht=>⟨(h.T t ht).1.mono hk,(h.T t ht).2⟩,h.n,Nat.le_trans h.s hk,Nat.le_trans h.e hk,h.b⟩
def yt.pick {eu:Int->Int->Int->Int}(hA:yx eu){c:bu}{nt k:Nat}(hc:dl c)(hk:k+1<2^24){m:sy}(h:yt c nt k m)(id:Int):yt c nt (k+1) (m.pick eu id):=by unfold sy.pick;split;split;exact h.mono (Zx k);rename_i t ht;obtain⟨ki,sh⟩:=h.T t (List.mem_of_getElem? ht);dsimp only;split;obtain⟨g1,g2⟩:=step_ok (eu:=eu) hc Ya h.M ki;have g3:=step_evb hA hc hk h.M ki sh;have g4:=O9 (eu:=eu) (t:=t) (M:=m.M);refine⟨g2,λt' ht'=>?_,by rw[List.length_set];exact h.n,by rw[Zh];have:=h.s;simp only[List.length_singleton];omega,?_,?_⟩;rcases List.mem_or_eq_of_mem_set ht' with h1|h1;exact⟨(h.T t' h1).1.mono (Zx k),(h.T t' h1).2⟩;subst h1;exact⟨g1,by rw[EI];exact sh⟩;have:=h.e;rw[Zh,ZF];rcases g4 with g4|⟨e,g4⟩<;>rw[g4]<;>simp<;>omega;intro e he;rcases List.mem_append.1 he with h1|h1;exact h.b e h1;obtain⟨e',h2,rfl⟩:=List.mem_map.1 h1;exact g3 e' h2;exact h.mono (Zx k);exact h.mono (Zx k)
def nL (eu:Int->Int->Int->Int)(m:sy)(pk:List Int):sy:=pk.foldl (sy.pick eu) m
def xB (eu:Int->Int->Int->Int)(m:sy)(pk:List Int)(x:Int):nL eu m (pk++[x])=(nL eu m pk).pick eu x:=by unfold nL;rw[List.foldl_append];rfl
def yt.run {eu:Int->Int->Int->Int}(hA:yx eu){c:bu}{nt:Nat}(hc:dl c):∀(pk:List Int){k:Nat}{m:sy},yt c nt k m->k+U pk<2^24->yt c nt (k+U pk) (nL eu m pk)
 |[],k,m,h,_=>h
 |x::pk,k,m,h,hk=>by rw[List.length_cons]at hk ⊢;have:=yt.run hA hc pk (h.pick hA hc Ya x) Ya;rw[show k+(U pk+1)=k+1+U pk by omega];exact this
def Il {c:bu}(vX:re c){zs:List Int}{ps:List (List bp)}(hz:(U zs:Int)=c.bm)(hn:U ps<=16)(lj:∀i (hi:i<U ps),(b7 ps[i]).2=0)(sh:∀p∈ps,EC p):yt c (U ps) 0 (oJ c zs ps):=by refine⟨VQ vX (U ps) hz,λt ht=>?_,?_,Za _,Za _,Oy.nil⟩;obtain⟨i,hi,rfl⟩:=List.mem_mapIdx.1 ht;exact⟨V7 ⟨by omega,by omega,hn⟩ (lj i hi),sh _ (ZP hi)⟩;show U (ps.mapIdx _)=_;rw[List.length_mapIdx]
def IS {A:AW}(hw:A.Wf)(o:dt):lP (A.alloc o).bk=pt A.next o*lP A.bk:=by
 have hn:A.bk A.next=qk:=by
  cases h:A.bk A.next with
  |none=>rfl
  |some x=>exact absurd (hw.lt h) (Nat.lt_irrefl _)
 have e:(A.alloc o).bk=Hp.un (λj=>if j=A.next then qf o else qk) A.bk:=by funext i;rw[AW.bX];unfold Hp.un;by_cases h:i=A.next<;>simp[h]
 have d:Hp.dj (λj=>if j=A.next then qf o else qk) A.bk:=by intro i;by_cases h:i=A.next;subst h;exact qB hn;exact qw (ar h)
 ext h;constructor;intro h1;exact⟨_,_,d,(show h=_ from h1).trans e,rfl,rfl⟩;rintro ⟨h1,h2,g1,g2,g3,g4⟩;show h=_;have g3':h1=_:=g3;have g4':h2=_:=g4;rw[g2,g3',g4',e]
def yt.len {c:bu}{nt k:Nat}{m:sy}(hc:dl c)(hn:nt<=16)(h:yt c nt k m):∀k,k<8->U (m.M k)<2^39:=by
 have h0:=h.M.l0;have h1:=h.M.l1;have h2:=h.M.l2;have h3:=h.M.l3;have h4:=h.M.l4;have h5:=h.M.l5;have h6:=h.M.l6;have h7:=h.M.l7;have hb:=hc.nb;have hw:=hc.bm;have ho:=hc.au;intro k hk;have:k=0\/k=1\/k=2\/k=3\/k=4\/k=5\/k=6\/k=7:=Ya
 rcases this with rfl|rfl|rfl|rfl|rfl|rfl|rfl|rfl<;>omega
def run_call {eu:Int->Int->Int->Int}(hA:yx eu)(hF:FOK){c:bu}(vX:re c)(vi vp vk:qi)(zs:List Int)(ps:List (List bp))(pk:List Int)(A:AW)(hvi:b5 A qr vi zs)(hp:jU A vp ps)(hk:b5 A qg vk pk)(he:(kh c (U zs) ps pk).2.2=0)(hpk:U pk<2^20)(sh:∀p∈ps,EC p):
 aE qZ 16 [MZ c vi vp vk] A (λu A'=>∃z,u=.tuple #[.agg (M5 (nL eu (oJ c zs ps) pk) z).toArray,.int qg 0,.int qg 0,.int qg 0]/\aj A' (resI (nL eu (oJ c zs ps) pk) z++[.h (lP A.bk)])):=by
 refine aO Tryz.func16 λhw=>?_;obtain⟨hr,hce,Hd,BO,Kc,lj⟩:=wF he;obtain⟨oi,ci,rfl,_⟩:=hvi.cL;obtain⟨op,cp,rfl,_⟩:=hp.cL;obtain⟨ok,ck,rfl,_⟩:=hk.cL;have hcC:=vX.ok;have hok0:=Il vX Kc BO lj sh;have cN:=λB (gb:A.le B)=>V8 hF vX (ql oi (U zs) ci) (ql op (U ps) cp) (ql ok (U pk) ck) zs ps pk B (hvi.le gb hw) (hp.le gb hw) (hk.le gb hw) he;generalize hm0:oJ c zs ps=m0 at *;obtain⟨mB,gq,mh,c0,c1,c2,c3,kS,lZ,mi,mf,jC,nE⟩:=c;unfold MZ kj bu.cells at cN ⊢;simp only[aa,ah]at cN ⊢;revert hw;refine W db (J1 bL) ?_<;>(unhygienic intros);refine bT (cN _ ((q8 A _).trans (q8 _ _))) ?_;rintro _ A2⟨b,rfl,dU⟩jG _;rw[IS (hw.alloc _),IS hw]at dU;have hS:aj A2 [.h (Kj b m0),.at (A.next+1) (qm [ql qk 0 0,ql qk 0 0,.int qr 0,.int qr 0,.int qr 0,ql qk 0 0,ql qk 0 0,ql qk 0 0,ql qk 0 0,ql qk 0 0,ql qk 0 0,ql qk 0 0] qj 1),.at A.next (qm [.int qg mB,.int qg gq,.int qg mh,.int qg c0,.int qg c1,.int qg c2,.int qg c3,.int qg kS,.int qg lZ,.int qg mi,.int qg mf,.int qg jC,qt nE,ql oi (U zs) ci,ql op (U ps) cp,ql ok (U pk) ck] qj 1),.h (lP A.bk)]:=by
  have e:∀P Q R H:HP,P*((Q*(R*H))*eY)=P*(Q*(R*(H*eY))):=λP Q R H=>by ac_rfl
  exact bD.dJ dU (e _ _ _ _)
 clear dU;have OG:=hw;replace hw:=jG;clear jG;have hq:=gP hS hw;revert hq hS hw;(repeat first|revert R|revert K);refine W db (J1 bL) ?_<;>(unhygienic intros)
 refine dO (λk fr A'=>A'.Wf/\∃(i:Nat),k=U pk-i/\i<=U pk/\fr 2=pv (A.next+1)/\fr 6=pv b/\fr 23=ql ok (U pk) ck/\fr 24=.int qg (U pk)/\fr 25=.int qg i/\
  aj A' [.h (Kj b (nL eu m0 (pk.take i))),.at (A.next+1) (qm [ql qk 0 0,ql qk 0 0,.int qr 0,.int qr 0,.int qr 0,ql qk 0 0,ql qk 0 0,ql qk 0 0,ql qk 0 0,ql qk 0 0,ql qk 0 0,ql qk 0 0] qj 1),.at A.next (qm [.int qg mB,.int qg gq,.int qg mh,.int qg c0,.int qg c1,.int qg c2,.int qg c3,.int qg kS,.int qg lZ,.int qg mi,.int qg mf,.int qg jC,qt nE,ql oi (U zs) ci,ql op (U ps) cp,ql ok (U pk) ck] qj 1),.h (lP A.bk)]) (U pk) ?_ ?_
 exact⟨hw,0,by omega,by omega,by simp,by simp,by simp,by simp,by simp,hS⟩;clear hS hw hq;rintro k fr A3⟨hw,i,rfl,hi,h2,h6,h23,h24,h25,hS⟩;have hkp:iI A A3:=hS.keeps 3 rfl;have Ry:U (pk.take i)=i:=by rw[List.length_take];omega
 have E8:=yt.run hA hcC (pk.take i) hok0 Ya;rw[Ry,Nat.zero_add]at E8;by_cases b9:i<U pk
 . have gf:(i:Int)<U pk:=Ya;have ij:=C0 (i:=i);obtain⟨pp,bO,rfl,bP,hcell⟩:=b5.at (gW.keeps hkp hk) b9;have e1:pk.take (i+1)=pk.take i++[pk[i]]:=kaY b9;have hpick:=V4 hA hF hcC (k:=i) Ya b (nL eu m0 (pk.take i)) E8.M E8.T (by rw[E8.n];exact BO) (by have:=E8.s;omega) (by have:=E8.e;omega) pk[i];rw[<-xB,<-e1]at hpick;clear e1;generalize pk[i]=id at *;generalize (nL eu m0 (pk.take i)).did eu id=dd at hpick;have hq:=gP hS hw;refine aU ?_;revert hq hS hw;(repeat revert hc);refine W (J1 @hpick) (Hr h2 h6 h23 h24 h25 gf ij bP hcell bL) ?_<;>(unhygienic intros);refine⟨U pk-(i+1),by omega,?_,i+1,rfl,by omega,by simp[h2],by simp[h6],by simp[h23],by simp[h24],by simp,?_⟩;exact wA;exact XX
 have uR:i=U pk:=Ya
 subst uR;have gf:¬((U pk:Int)<U pk):=Ya
 rw[kaQ]at hS E8;generalize nL eu m0 pk=m at *;have hres:=Pi b m (E8.len hcC BO) (by rw[E8.M.l2];decide) (by rw[E8.M.l3];decide) (by rw[E8.M.l4];decide) (by rw[E8.n];exact BO) (by have:=E8.s;omega) (by have:=E8.e;omega) (λt ht=>by have:=(E8.T t ht).1.co.iA;omega) E8.b;dsimp only[resI]at hres;have hq:=gP hS hw;refine aU ?_;revert hq hS hw;(repeat revert hc);refine W (J1 (Tg.mk (n:=32) @hres)) (J9 h2 h6 h23 h24 h25 gf @M5.eq_1 @kD.eq_1 bL) ?_<;>(unhygienic intros);refine⟨.tuple #[.agg (M5 m xw).toArray,.int qg 0,.int qg 0,.int qg 0],?_,xw,rfl,?_⟩;simp[h2,M5,kD,AW.ab,bA,aR,aS];show aj _ [.h (yw m.M xw.f),.h (Bw (ql xw.t.1 (U m.fG) xw.t.2) (m.fG.map aV.d)),.h (oR (ql xw.s.1 (U m.bg) xw.s.2) m.bg),.h (gK (ql xw.e.1 (U m.vE) xw.e.2) m.vE),.h (oS (ql xw.o.1 (U m.fG) xw.o.2) (m.fG.map aV.iA)),.h (lP A.bk)]
 exact XX
end
section
open Go.Proofs Go
def V9 {b:Nat}(h:0x7ff0000000000000<b % 2^63):kbh.format.order b b=qk:=by
 show (kbu.read b).order (kbu.read b)=qk;have e:∃s t,kbu.read b=.nan s t:=by
  unfold Ieee.Format.read;have e1:kbu.signWeight=2^63:=rfl;have e2:kbu.binade=2^52:=rfl;have e3:kbu.infRung=0x7ff0000000000000:=Yd
  rw[e1,e2,e3];dsimp only;rw[ar Ya,ar Ya,ar Ya];exact⟨_,_,rfl⟩
 obtain⟨s,t,e⟩:=e;rw[e];rfl
def Ib (b:Nat):Int:=if kbh.format.order b b=qf .eq then b else 9221120237041090560
def Va (x y:Nat):Int:=match kbh.format.add x y with
 |some r=>Ib r
 |none=>9221120237041090560
def D4 (x y:Nat)(w:World):Calls qZ 235 #[.int qg 12,.float .f64 x,.float .f64 y] w λe w'=>e=.returned (.int qr (Va x y))/\(w'=w\/w'=w.drew):=by
 unfold Va;cases hadd:kbh.format.add x y with
 |some r=>
   have hr:=λw=>run_float_arith (P:=qZ) w .add 312 .f64 x y r hadd
   go_enter Tryz.func235,Tryz.ntmps235
   go_wp2
   all_goals first
    | (go_ret;refine⟨?_,qw rfl⟩;simp_all[Ib];done)
    | (rw[run_callFunc_extern Tryz.func232 Yf Yf Yf (e:=kbO) Yf]
       rw[show ∀w,(kbO #[Value.float kbh r]).run qZ w=.ok (.int qr r) w from λw=>rfl];simp only[kb1];rw[kbX]
       go_wp2
       go_ret
       refine⟨?_,qw rfl⟩;simp_all[Ib];done)
 |none=>
   obtain⟨r,h1,hr⟩:∃r,0x7ff0000000000000<r % 2^63/\(binOp .add 312 (.float .f64 x) (.float .f64 y)).run qZ w=.ok (.float .f64 r) w.drew:=by refine⟨(Question.nanBits .f64 x y).cut (w.tape w.drawn (.nanBits .f64 x y)),?_,?_⟩;simp only[Question.cut];generalize w.tape w.drawn (Question.nanBits kbh x y)=t;have hu:t / 2 % (2 ^ 52-1)<2 ^ 52-1:=Nat.mod_lt _ Yd;generalize t / 2 % (2 ^ 52-1)=u at hu ⊢;have hq:t % 2=0\/t % 2=1:=Ya;rcases hq with hq|hq<;>rw[hq]<;>omega;simp[binOp,Op.floatArith,hadd,Question.forced]
   have h2:=V9 h1
   go_enter Tryz.func235,Tryz.ntmps235
   go_wp2
   all_goals first
    | (go_ret;refine⟨?_,qB rfl⟩;simp_all;done)
    | (rw[run_callFunc_extern Tryz.func232 Yf Yf Yf (e:=kbO) Yf]
       rw[show ∀w,(kbO #[Value.float kbh r]).run qZ w=.ok (.int qr r) w from λw=>rfl];simp only[kb1];rw[kbX]
       go_wp2
       go_ret
       refine⟨?_,qB rfl⟩;simp_all[Ib];done)
def Q8 (x y:Int)(w:World):Calls qZ 147 #[.int qg 12,.int qr x,.int qr y] w λe w'=>e=.returned (.tuple #[.int qr (Va x.toNat y.toNat),.int qg 0])/\(w'=w\/w'=w.drew):=by
 have hf:=λx y w=>D4 x y w
 go_enter Tryz.func147,Tryz.ntmps147
 go_wp2
 all_goals rw[run_callFunc_extern Tryz.func234 Yf Yf Yf (e:=kbN) Yf]
 all_goals rw[show ∀w,(kbN #[Value.int qr x]).run qZ w=.ok (.float .f64 x.toNat) w from λw=>rfl]
 all_goals simp only[kb1]
 all_goals rw[kbX]
 all_goals go_wp2
 all_goals rw[run_callFunc_extern Tryz.func234 Yf Yf Yf (e:=kbN) Yf]
 all_goals rw[show ∀w,(kbN #[Value.int qr y]).run qZ w=.ok (.float .f64 y.toNat) w from λw=>rfl]
 all_goals simp only[kb1]
 all_goals rw[kbX]
 all_goals go_wp2_with (go_at_call 235;refine(D4 _ _ _).mono ?_;rintro e w'⟨rfl,lC⟩)
 go_ret2
 exact⟨rfl,lC⟩
def wordV {m:Mp}{l l':List qi}(h:jE m l l')(hp:∀v∈l,∃k n,v=.int k n):l'=l:=by
 induction l generalizing l' with
 |nil=>exact h.tt
 |cons v l ih=>
   obtain⟨v',t',rfl,hv,ht⟩:=h.nP;obtain⟨k,n,rfl⟩:=hp v Yb;have e:v'=.int k n:=by cases hv;rfl
   rw[e,ih ht λx hx=>hp x Yu]
def Ic [Gl]{f:FuncId}{args:List qi}{x y:Int}(A:AW)(hc:lh qZ f=qj)(ha:∀v∈args,∃k n,v=.int k n)(h:∀w:World,Calls qZ f args.toArray w λe w'=>e=.returned (.tuple #[.int qr x,.int qg y])/\(w'=w\/w'=w.drew)):fQ f args A (.tuple #[.int qr x,.int qg y]):=by
 show aE _ _ _ _ _;unfold aE;refine⟨hc,λm w iE hs hl=>?_⟩;have e:=wordV hl ha;have e2:iE=args.toArray:=by apply Array.ext';simpa using e
 subst e2;refine(h w).mono ?_;rintro e w'⟨rfl,hw⟩;refine⟨_,_,m,A,rfl,?_,?_,rfl,rfl⟩;rcases hw with rfl|rfl;exact(Lr.refl _).evo hs;exact(Lr.drew _).evo hs;refine .tuple rfl λi v v' h1 h2=>?_;rw[h1]at h2;injection h2 with h2;subst h2
 match i,h1 with
 |0,h1=>injection h1 with h1;subst h1;exact .int _ _
 |1,h1=>injection h1 with h1;subst h1;exact .int _ _
end
section
open T7
variable [Gl]
def xorF (x y:Int):Int:=Zc.wrap (BitVec.ofInt 64 x ^^^ BitVec.ofInt 64 y).toNat
def TU (fn x y:Int):Int:=if fn=0 then Zc.wrap (x+y) else if fn=1 then Zc.wrap (x-y) else if fn=5 then xorF x y else if fn=8 then (if x=y then 1 else 0) else if fn=11 then (if x<y then 1 else 0) else Va x.toNat y.toNat
def Lm (b:Bool)(A:AW):fQ 260 [qt b] A (.int qr (if b=qj then 1 else 0)):=by refine aO Tryz.func260 λhw=>?_;cases b;refine W db db ?_<;>intros;exact⟨_,rfl,rfl,rfl⟩;refine W db db ?_<;>intros;exact XU
def Og (fn x y:Int)(h:fn=0\/fn=1\/fn=5\/fn=8\/fn=11)(A:AW):fQ 236 [.int qg fn,.int qr x,.int qr y] A (.int qr (TU fn x y)):=by
 refine aO Tryz.func236 λhw=>?_;have ht:=λb A=>Lm b A;rcases h with rfl|rfl|rfl|rfl|rfl
 all_goals
  all_goals(revert hw;refine W (J1 @ht) trivial ?_<;>unhygienic intros)
  refine⟨_,rfl,?_,rfl⟩
  first|(simp[TU,xorF];done)|(simp[TU,xorF];rfl)
def xd (fn x y:Int)(h:fn=0\/fn=1\/fn=5\/fn=8\/fn=11)(A:AW):fQ 147 [.int qg fn,.int qr x,.int qr y] A (.tuple #[.int qr (TU fn x y),.int qg 0]):=by
 refine aO Tryz.func147 λhw=>?_;have hi:=λA=>Og fn x y h A;generalize TU fn x y=v at hi;rcases h with rfl|rfl|rfl|rfl|rfl
 all_goals
  all_goals(revert hw;refine W (J1 @hi) trivial ?_<;>unhygienic intros)
  exact XU
instance madeAF:AF:=⟨ke⟩
def xf:yx TU:=λfn x y h A=>by rcases h with rfl|rfl|rfl|rfl|rfl|rfl;exact xd 0 x y Yb A;exact xd 1 x y Yb A;exact xd 5 x y Yb A;exact xd 8 x y Yb A;exact xd 11 x y Yb A;exact Ic A Yf Yb λw=>Q8 x y w
end
section
open T7
variable [Gl]
variable [AF]
def rec_at {A:AW}{v:qi}{α:Type}{f:α->List qi}{k:Nat}{l:List α}(hf:∀x,U (f x)=k)(h:gW A k v (U l) (l.flatMap f)){i:Nat}(hi:i<U l):
 ∃p c bO own,v=ql (qf p) (U l) c/\A.bk p.block=qf (qm bO own k)/\p.off+i*k+k<=U bO/\(bO.drop (p.off+i*k)).take k=f l[i]:=by
 rcases h with ⟨_,h0,_⟩|⟨p,c,bO,own,u,e1,e2,e3,e4,e5,e6⟩;omega;have e3':A.bk p.block=qf (qm bO own k):=e4▸e3;have h7:i*k+k<=U l*k:=by have:=Nat.mul_le_mul_right k (show i+1<=U l by omega);rwa [Nat.add_mul,Nat.one_mul]at this
 refine⟨p,c,bO,own,e1,e3',by omega,?_⟩;have:=xH f k hf l i hi;rw[e6,List.drop_take,List.drop_drop,List.take_take,Nat.min_eq_left Ya]at this;exact this
def IsEvts (A:AW)(v:qi)(l:List JX):Prop:=∃q:List Ey,q.map ZB=l/\gW A 6 v (U q) (iq q)/\∀i (hi:i<U q),b5 A qg q[i].2.1 q[i].1.reads/\b5 A qg q[i].2.2 q[i].1.b8
def IsObl (A:AW)(v:qi)(l:List (List lq)):Prop:=∃q:List (qi×List lq),q.map kaj=l/\gW A 1 v (U q) (q.map ZB)/\∀i (hi:i<U q),gW A 3 q[i].1 q[i].2.length (xN q[i].2)
structure IsRes (A:AW) (m:sy) (z:ResF):Prop where
 im:Vu A (.agg #[kD z.f.v0 (m.M 0),kD z.f.v1 (m.M 1),.int .u64 ((m.M 2).getD 0 0),.int .u64 ((m.M 3).getD 0 0),.int .u64 ((m.M 4).getD 0 0),kD z.f.v5 (m.M 5),kD z.f.v6 (m.M 6),kD z.f.v7 (m.M 7)]) m.M
 th:gW A 11 (.slice z.t.1 m.fG.length z.t.2) (m.fG.map aV.d).length (RN (m.fG.map aV.d))
 st:gW A 9 (.slice z.s.1 m.bg.length z.s.2) m.bg.length (MI m.bg)
 ev:IsEvts A (.slice z.e.1 m.vE.length z.e.2) m.vE
 ob:IsObl A (.slice z.o.1 m.fG.length z.o.2) (m.fG.map aV.iA)
def aj.isEvt {A:AW}{L K:List It}{v:qi}{l:List JX}(h:aj A L)(hp:aF L (.h (gK v l)) K):IsEvts A v l:=by obtain⟨q,h1,h2⟩:=gK.open h hp;dsimp only[Jb,aa,ah]at h2;exact⟨q,h1,aj.mH h2 .z,λi hi=>NP hi h2 (.s .z)⟩
def Sm {A:AW}{L K:List It}{q:List (qi×List lq)}{i:Nat}(hi:i<U q)(hS:aj A L)(hp:aF L (.h (ir q)) K):gW A 3 q[i].1 q[i].2.length (xN q[i].2):=by
 have e:q=q.take i++(q[i]::q.drop (i+1)):=by rw[<-Z3 hi,List.take_append_drop]
 have h:=congrArg ir e;rw[FY]at h;unfold aj at hS;rw[hp.aP]at hS;have h2:bD A (ir q*aP K):=hS;rw[h]at h2;have h3:bD A (dv 3 q[i].1 q[i].2.length (xN q[i].2)*(ir (q.take i)*ir (q.drop (i+1))*aP K)):=by
  refine bD.dJ h2 ?_;show ir (q.take i)*(jD q[i].1 q[i].2*ir (q.drop (i+1)))*aP K=jD q[i].1 q[i].2*(ir (q.take i)*ir (q.drop (i+1))*aP K)
  ac_rfl
 exact dv.is h3
def aj.isObl {A:AW}{L K:List It}{v:qi}{l:List (List lq)}(h:aj A L)(hp:aF L (.h (oS v l)) K):IsObl A v l:=by obtain⟨q,h1,h2⟩:=oS.open h hp;dsimp only[Sn,aa,ah]at h2;exact⟨q,h1,aj.mH h2 .z,λi hi=>Sm hi h2 (.s .z)⟩
def aj.isRes {A:AW}{L:List It}{m:sy}{z:ResF}(h:aj A (resI m z++L)):IsRes A m z:=by dsimp only[resI,aa,ah]at h;exact⟨yw.is h .z,aj.mH h (.s .z),aj.mH h (.s (.s .z)),aj.isEvt h (.s (.s (.s .z))),aj.isObl h (.s (.s (.s (.s .z))))⟩
end
section
open T2
variable [Gl]
variable [AF]
def aj.kp {A0 A:AW}{L K:List It}(hS:aj A L)(hp:aF L (.h (lP A0.bk)) K):iI A0 A:=by unfold aj at hS;rw[hp.aP]at hS;exact iI.Nj hS
end
section
open T7
variable [Gl]
def jU.kps {A B:AW}(hk:iI A B){v:qi}{ps:List (List bp)}(h:jU A v ps):jU B v ps:=by obtain⟨us,h1,h2⟩:=h;exact⟨us,gW.keeps hk h1,λi hi=>let ⟨u,h3,h4⟩:=h2 i hi;⟨u,h3,gW.keeps hk h4⟩⟩
def scM (c:bu)(zs:List Int)(ps:List (List bp))(pk:List Int):sy:=nL TU (oJ c zs ps) pk
def scM_ok {A:AW}{c:bu}{vi vp vk:qi}{zs:List Int}{ps:List (List bp)}{kl pk:List Int}(h:ScrG A c vi vp vk zs ps kl)(hs:∀x∈pk,x∈kl)(hl:U pk<=U kl):yt c (U ps) (U pk) (scM c zs ps pk):=by obtain⟨_,_,_,BO,Kc,lj⟩:=wF (h.e pk hs hl);have:=yt.run xf h.few.ok pk (Il h.few Kc BO lj h.al) YR;rw[Nat.zero_add]at this;exact this
def runG {A0:AW}{c:bu}{vi0 vp0 vk0:qi}{zs:List Int}{ps:List (List bp)}{kl pk:List Int}(hF:FOK)(h:ScrG A0 c vi0 vp0 vk0 zs ps kl)(hs:∀x∈pk,x∈kl)(hl:U pk<=U kl)(vi vp vk:qi)(A:AW)(hi:b5 A qr vi zs)(hp:jU A vp ps)(hk:b5 A qg vk pk):
 aE qZ 16 [MZ c vi vp vk] A (λu A'=>∃z,u=.tuple #[.agg (M5 (scM c zs ps pk) z).toArray,.int qg 0,.int qg 0,.int qg 0]/\iI A A'/\IsRes A' (scM c zs ps pk) z):=by refine(run_call xf hF h.few vi vp vk zs ps pk A hi hp hk (h.e pk hs hl) YR h.al).mono ?_;rintro u A'⟨z,rfl,hS⟩;have jK:aj A' [_,_,_,_,_,.h (lP A.bk)]:=hS;exact⟨z,rfl,jK.kp (.s (.s (.s (.s (.s .z))))),hS.isRes⟩
end
end Go.Stx
