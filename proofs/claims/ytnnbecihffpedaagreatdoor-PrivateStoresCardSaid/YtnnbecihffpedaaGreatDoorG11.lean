import Derived.Test.YtnnbecihffpedaaGreatDoorG10
import Derived.Test.YtnnbecihffpedaaGreatDoorG04
set_option linter.all false
set_option maxRecDepth 20000
set_option maxHeartbeats 4000000
open List renaming length->U
open Go.IntKind renaming i64->Zb,u64->Zc
open Go.Proofs.Tryz renaming prog->qZ
open Go.Stx.AW.le renaming alloc->q8
open Go.Value renaming int->Zl
open List renaming drop_eq_getElem_cons->Z3,getElem?_eq_some_iff->Zy,getElem?_map->Z6,getElem?_set_ne->ZT,getElem?_set_self->ZN,length_append->Zh,length_cons->ZI,length_nil->kay,length_set->ZZ,mem_append->ZG,mem_singleton->ZV
open Nat renaming le_trans->ZE,lt_of_lt_of_le->kaq,mul_le_mul_left->ka9,zero_add->kag,zero_le->Zv
open Option.some renaming inj->ZC
open Bool renaming true->qj
open Go renaming Addr->qM,Value->qi
open Go.IntKind renaming i64->qg,u64->qr
open Go.Stx.dt renaming cells->qm
open Go.Value renaming bool->qt,int->qh,pointer->qs,tuple->qF
open Option renaming none->qk,some->qf
namespace Go.Stx
open Go Go.Proofs
attribute [local irreducible] TW bK df aW aE aL cY dm
section
namespace TLawK
def oK [Gl]{A:AW}{L:List It}{T:Prop}(hS:aj A L)(hw:A.Wf)(h':(ba A L/\bB A L/\cd L)=T:=by first|(dsimp only[aa,ah,ba,bB,cd,fw];done)|exact rfl):T:=h'▸hS.fm hw
end TLawK
open TLawK
variable [Gl]
end
section
variable [Gl]
def Bu:bp:=⟨16,0,0,0,0⟩
section
variable {p:List bp} {k:Nat} {x:bp}
def set_op (hx:p[k]?=qf x)(y:bp)(j:Nat):d9 (p.set k y) j=if j=k then y.op else d9 p j:=by have hk:k<U p:=(Zy.1 hx).1;unfold d9;by_cases e:j=k;subst e;rw[ZN hk,az rfl];rfl;rw[ZT (λh=>e h.symm),ar e]
def R0 (hx:p[k]?=qf x)(xm:x.op=12){n:Int}(h1:n≠12)(h2:n≠16)(j:Nat):d9 (p.set k Bu) j=n↔d9 p j=n:=by
 rw[set_op hx];by_cases e:j=k;subst e;rw[az rfl];have:d9 p j=12:=by unfold d9;rw[hx];exact xm
 rw[this];show (16:Int)=n↔_;omega;rw[ar e]
def HU (hx:p[k]?=qf x)(xm:x.op=12):∀j,bY (p.set k Bu) j=bY p j
 |0=>rfl
 |j+1=>by unfold bY;rw[HU hx xm j];simp only[R0 hx xm (n:=7) Yd Yd,R0 hx xm (n:=8) Yd Yd]
def yd {α:Type}(f:α->Bool):∀l:List α,l.findIdx f=(l.map f).findIdx id
 |[]=>rfl
 |a::l=>by rw[List.map_cons,List.findIdx_cons,List.findIdx_cons,yd f l];rfl
def lN (hx:p[k]?=qf x)(xm:x.op=12)(m:Nat):ly (p.set k Bu) m=ly p m:=by
 unfold ly;rw[yd,yd _ (p.drop m),List.map_drop,List.map_drop];have:(p.set k Bu).map (λi=>i.op == 8)=p.map (λi=>i.op == 8):=by apply List.ext_getElem?;intro j;rw[Z6,Z6];by_cases e:j=k;subst e;rw[ZN (Zy.1 hx).1,hx];simp only[Option.map_some,xm];rfl;rw[ZT (λh=>e h.symm)]
 rw[this]
def RZ (hx:p[k]?=qf x)(xm:x.op=12)(j:Nat)(b:Option Nat)(n:Int):fz (p.set k Bu) j b n=fz p j b n:=by
 unfold fz;rw[ZZ];have e1:∀b,dH (p.set k Bu) b=dH p b:=λb=>lN hx xm _;have e2:∀t,gY (p.set k Bu) j t=gY p j t:=λt=>by unfold gY;simp only[e1,ZZ,R0 hx xm (n:=7) Yd Yd]
 simp only[e1,e2]
def QZ (h:(b7 p).2=0)(hx:p[k]?=qf x)(xm:x.op=12):(b7 (p.set k Bu)).2=0:=by
 obtain⟨h1,h2,h3⟩:=gA h;unfold b7;rw[ar (by rw[ZZ];omega)];refine CO (λj y hy=>?_) (by rw[ZZ,HU hx xm];exact h3) (p.set k Bu) 0 rfl (Zv _);rw[HU hx xm];by_cases e:j=k;subst e;rw[ZN (Zy.1 hx).1]at hy;obtain rfl:=ZC hy;have h4:=h2 j x hx;unfold vQ at h4 ⊢;have e0:cQ x=0:=by by_cases e:cQ x=0;exact e;rw[ar e]at h4;exact absurd h4 e
 rw[az e0]at h4;have e2:bE x=2:=by unfold bE;rw[az e0,ar Ya,az Ya]
 have hs:(bY p j).isSome=false:=by
  cases hb:(bY p j).isSome with
  |false=>rfl
  |true=>rw[hb]at h4;rw[ar Ya,az (.inr ⟨e2,rfl⟩)]at h4;cases h4
 rw[hs,az (show cQ Bu=0 by decide),ar Yd,ar Yd];rfl;rw[ZT (λh=>e h.symm)]at hy;have h4:=h2 j y hy;unfold vQ at h4 ⊢;simp only[RZ hx xm];exact h4
def aad (h:∀y∈p,y.op=3->ke y.cg):∀y∈p.set k Bu,y.op=3->ke y.cg:=λy hy h3=>by rcases List.mem_or_eq_of_mem_set hy with h1|h1;exact h y h1 h3;subst h1;cases h3
end
end
section
open T7
abbrev yJ (c:bu):Prop:=(0<=c.c0/\c.c0<=64)/\(0<=c.c1/\c.c1<=64)/\(0<=c.c2/\c.c2<=64)/\(0<=c.c3/\c.c3<=64)
def lL (c:bu):Int:=
 if ¬((1<=c.bm/\c.bm<=64)/\(1<=c.au/\c.au<=64)) then 50
 else if ¬(yJ c/\c.nb<=64/\(0<=c.base/\c.base<=c.bm)/\c.hw<=c.bm-c.base) then 51
 else if ¬((1<=c.reads/\c.reads<=32)/\(1<=c.b8/\c.b8<=32)/\(0<=c.ao/\c.ao<=8)/\(0<=c.aB/\c.aB<=8)) then 52
 else if ¬(0<=c.aC/\c.aC<=1099511627776) then 53 else 0
def L1 (c:bu):qi:=if yJ c then qF #[qh qg c.nb,qh qg c.hw,qt (decide (c.nb<=64))]else qF #[qh qg 0,qh qg 0,qt false]
variable [Gl]
def eZ (n lo hi:Int)(A:AW):aE qZ 58 [qh qg n,qh qg lo,qh qg hi] A (λv A'=>v=qt (decide (lo<=n/\n<=hi))/\A=A'):=by
 refine aO Tryz.func58 λ_=>?_;refine W db db (J2 ?_ ?_)<;>intros
 all_goals(simp_all<;>omega)
def jx (n lo hi:Int)(A:AW):aE qZ 154 [qh qg n,qh qg lo,qh qg hi] A (λv A'=>v=qt (decide (lo<=n/\n<=hi))/\A=A'):=by
 refine aO Tryz.func154 λ_=>?_;refine W db db (J2 ?_ ?_)<;>intros
 all_goals(simp_all<;>omega)
def Wx (c:bu)(A:AW):aE qZ 57 [c.v] A (λv A'=>v=L1 c/\A=A'):=by
 refine aE.wy (V:=L1 c) (by unfold L1;split<;>exact dK.tuple Yb) (λhw=>?_) Yf;refine aO Tryz.func57 λ_=>?_;obtain⟨V,hV⟩:∃V,L1 c=V:=⟨_,rfl⟩;rw[hV];unfold L1 yJ bu.nb bu.hw at hV;obtain⟨mB,gq,mh,c0,c1,c2,c3,kS,lZ,mi,mf,jC,nE⟩:=c;dsimp only[bu.v,bu.cells]at hV ⊢;revert hw;refine W db (J1 bL) ?_<;>(unhygienic intros);refine i7 5 ?_;by_cases h0:0<=c0/\c0<=64
 . obtain⟨k0,KU⟩:=h0;by_cases h1:0<=c1/\c1<=64
   . obtain⟨k1,OF⟩:=h1;by_cases h2:0<=c2/\c2<=64
     . obtain⟨k2,SG⟩:=h2;by_cases h3:0<=c3/\c3<=64
       . obtain⟨k3,k3'⟩:=h3;rw[az Ya]at hV;subst hV;refine W db (J9 k0 KU k1 OF k2 SG k3 k3' bL) ?_<;>intros
         all_goals(
          refine⟨_,by (simp;rfl),?_,q8 _ _⟩;simp only[Value.tuple.injEq,Array.mk.injEq,List.cons.injEq,Value.int.injEq,true_and,and_true];rw[pw1,pw2,pw3];simp(disch:=omega)only[an]
          try simp)
       rw[ar Ya]at hV;subst hV;by_cases U7:c3<0
       . refine W db (J8 k0 KU k1 OF k2 SG U7 bL) ?_<;>intros
         all_goals exact⟨_,by (simp;done),rfl,q8 _ _⟩
       have Te:64<c3:=Ya;refine W db (J9 k0 KU k1 OF k2 SG U7 Te bL) ?_<;>intros
       all_goals exact⟨_,by (simp;done),rfl,q8 _ _⟩
     rw[ar Ya]at hV;subst hV;by_cases U7:c2<0
     . refine W db (J6 k0 KU k1 OF U7 bL) ?_<;>intros
       all_goals exact⟨_,by (simp;done),rfl,q8 _ _⟩
     have Te:64<c2:=Ya;refine W db (J7 k0 KU k1 OF U7 Te bL) ?_<;>intros
     all_goals exact⟨_,by (simp;done),rfl,q8 _ _⟩
   rw[ar Ya]at hV;subst hV;by_cases U7:c1<0
   . refine W db (J4 k0 KU U7 bL) ?_<;>intros
     all_goals exact⟨_,by (simp;done),rfl,q8 _ _⟩
   have Te:64<c1:=Ya;refine W db (J5 k0 KU U7 Te bL) ?_<;>intros
   all_goals exact⟨_,by (simp;done),rfl,q8 _ _⟩
 rw[ar Ya]at hV;subst hV;by_cases U7:c0<0
 . refine W db (J2 U7 bL) ?_<;>intros
   all_goals exact⟨_,by (simp;done),rfl,q8 _ _⟩
 have Te:64<c0:=Ya
 refine W db (J3 U7 Te bL) ?_<;>intros
 all_goals exact⟨_,by (simp;done),rfl,q8 _ _⟩
def Lf (c:bu)(A:AW):aE qZ 28 [c.v] A (λv A'=>v=qh qg (lL c)/\A=A'):=by
 refine aE.wy (V:=qh qg (lL c)) Yb (λhw=>?_) Yf;refine aO Tryz.func28 λ_=>?_;have hh:=Wx c;unfold L1 at hh;have eN:c.nb=c.c0+c.c1+c.c2+c.c3:=rfl;have eW:c.hw=c.c0+c.c1*2+c.c2*4+c.c3*8:=rfl;have hW:yJ c->0<=c.hw/\c.hw<=1000:=λh=>by unfold yJ at h;omega
 obtain⟨V,hV⟩:∃V,lL c=V:=⟨_,rfl⟩;rw[hV];unfold lL at hV;by_cases q0:yJ c
 . rw[az q0]at hh;obtain⟨q1,q2⟩:=hW q0;simp only[show yJ c=True from eq_true q0,true_and]at hV;generalize c.nb=nb at *;generalize c.hw=lC at *;clear eN eW hW q0;obtain⟨mB,gq,mh,c0,c1,c2,c3,kS,lZ,mi,mf,jC,nE⟩:=c;dsimp only[bu.v,bu.cells]at hV hh ⊢;refine W (J2 @hh @eZ) (J1 bL) (Ls ?_ ?_ ?_ ?_ ?_ ?_ ?_ ?_ ?_ ?_ ?_)<;>intros
   all_goals(
    refine⟨_,by (simp;rfl),?_,q8 _ _⟩;rw[<-hV];congr 1
    repeat (first|rw[az Ya]|rw[ar Ya])
    done)
 rw[ar q0]at hh;simp only[show yJ c=False from eq_false q0,false_and,not_false_eq_true,if_true]at hV;clear eN eW hW q0;obtain⟨mB,gq,mh,c0,c1,c2,c3,kS,lZ,mi,mf,jC,nE⟩:=c;dsimp only[bu.v,bu.cells]at hV hh ⊢;refine W (J2 @hh @eZ) (J1 bL) (J3 ?_ ?_ ?_)<;>intros
 all_goals(
  refine⟨_,by (simp;rfl),?_,q8 _ _⟩;rw[<-hV];congr 1
  repeat (first|rw[az Ya]|rw[ar Ya])
  done)
end
section
open T7
variable [Gl]
set_option maxHeartbeats 8000000 in
def EV (c:bu)(A:AW):aE qZ 86 [c.v] A (λv A'=>v=qh qg (lL c)/\A=A'):=by
 refine aE.wy (V:=qh qg (lL c)) Yb (λhw=>?_) Yf;refine aO Tryz.func86 λ_=>?_;obtain⟨V,hV⟩:∃V,lL c=V:=⟨_,rfl⟩;rw[hV];unfold lL yJ bu.nb bu.hw at hV;obtain⟨mB,gq,mh,c0,c1,c2,c3,kS,lZ,mi,mf,jC,nE⟩:=c;dsimp only[bu.v,bu.cells]at hV ⊢;by_cases jt:(1<=mB/\mB<=64)/\(1<=gq/\gq<=64)
 rotate_left
 . rw[az jt]at hV;subst hV;refine W (J1 @jx) (J1 bL) (J2 ?_ ?_)<;>intros
   all_goals exact⟨_,by (simp;done),rfl,q8 _ _⟩
 rw[ar Ya]at hV;obtain⟨⟨w1,w2⟩,w3,w4⟩:=jt;revert hw;refine W (J1 @jx) (J5 w1 w2 w3 w4 bL) ?_<;>(unhygienic intros);refine i7 5 ?_;by_cases h0:0<=c0/\c0<=64
 rotate_left
 . rw[az Ya]at hV;subst hV;refine W (J1 @jx) (J2 h0 bL) ?_<;>intros
   all_goals exact⟨_,by (simp;done),rfl,q8 _ _⟩
 obtain⟨k0,KU⟩:=h0;by_cases h1:0<=c1/\c1<=64
 rotate_left
 . rw[az Ya]at hV;subst hV;refine W (J1 @jx) (J4 k0 KU h1 bL) ?_<;>intros
   all_goals exact⟨_,by (simp;done),rfl,q8 _ _⟩
 obtain⟨k1,OF⟩:=h1;by_cases h2:0<=c2/\c2<=64
 rotate_left
 . rw[az Ya]at hV;subst hV;refine W (J1 @jx) (J6 k0 KU k1 OF h2 bL) ?_<;>intros
   all_goals exact⟨_,by (simp;done),rfl,q8 _ _⟩
 obtain⟨k2,SG⟩:=h2;by_cases h3:0<=c3/\c3<=64
 rotate_left
 . rw[az Ya]at hV;subst hV;refine W (J1 @jx) (J8 k0 KU k1 OF k2 SG h3 bL) ?_<;>intros
   all_goals exact⟨_,by (simp;done),rfl,q8 _ _⟩
 obtain⟨k3,k3'⟩:=h3;refine W (J1 @jx) (J17 w1 w2 w3 w4 k0 KU k1 OF k2 SG k3 k3' bL @pw1 @pw2 @pw3 @pw0) (J9 ?_ ?_ ?_ ?_ ?_ ?_ ?_ ?_ ?_)<;>intros
 all_goals(
  refine⟨_,by (simp;rfl),?_,q8 _ _⟩;rw[<-hV];congr 1
  repeat (first|rw[az Ya]|rw[ar Ya])
  done)
def Ho (c:bu):Int:=if lL c=0 then c.nb else 0
def TE {c:bu}(h:lL c=0):yJ c/\c.nb<=64:=by unfold lL at h;split at h;cases h;split at h;cases h;rename_i h1;rw[Decidable.not_not]at h1;exact⟨h1.1,h1.2.1⟩
def H4 (c:bu)(A:AW):aE qZ 40 [c.v] A (λv A'=>v=qh qg (Ho c)/\A=A'):=by
 refine aE.wy (V:=qh qg (Ho c)) Yb (λhw=>?_) Yf;refine aO Tryz.func40 λ_=>?_;have He:=EV c;unfold Ho;by_cases h0:lL c=0
 . rw[h0]at He;rw[az h0];have hc:=(TE h0).1;unfold yJ at hc;unfold bu.nb;obtain⟨mB,gq,mh,c0,c1,c2,c3,kS,lZ,mi,mf,jC,nE⟩:=c;dsimp only[bu.v,bu.cells]at He hc ⊢;obtain⟨⟨k0,KU⟩,⟨k1,OF⟩,⟨k2,SG⟩,k3,k3'⟩:=hc;refine W (J1 @He) (J1 bL) ?_<;>intros
   all_goals exact⟨_,by (simp;rfl),by rfl,q8 _ _⟩
 rw[ar h0];dsimp only[bu.v,bu.cells]at He ⊢;refine W (J1 @He) (J2 h0 bL) ?_<;>intros
 all_goals exact⟨_,by (simp;done),rfl,q8 _ _⟩
end
section
open T7
def mm:List (List bp)->Nat->Option (Nat×Nat×Int)
 |[],_=>qk
 |p::l,t=>if (b7 p).2=0 then mm l (t+1) else qf (t,(b7 p).1,(b7 p).2)
def vP (n:Nat):List Int->Nat->Option Nat
 |[],_=>qk
 |x::l,k=>if x<0\/(n:Int)<=x then qf k else vP n l (k+1)
def kh (c:bu)(ni:Nat)(ps:List (List bp))(pk:List Int):Nat×Nat×Int:=
 if lL c≠0 then (0,0,lL c)
 else if U ps<1\/16<U ps then (0,0,54)
 else if ¬(ni:Int)=c.bm then (0,0,55)
 else match mm ps 0 with
 |some r=>r
 |none=>if 65536<U pk then (0,0,56) else match vP (U ps) pk 0 with
   |some k=>(0,k,56)
   |none=>(0,0,0)
def w7 (x:Nat×Nat×Int):qi:=qF #[qh qg x.1,qh qg x.2.1,qh qg x.2.2]
variable [Gl]
def jU (A:AW)(v:qi)(ps:List (List bp)):Prop:=∃us:List qi,gW A 1 v (U ps) us/\∀i (hi:i<U ps),∃u,us[i]?=qf u/\lE A u ps[i]
def jU.le {A B:AW}(hl:A.le B)(hw:A.Wf){v:qi}{ps:List (List bp)}(h:jU A v ps):jU B v ps:=by obtain⟨us,h1,h2⟩:=h;exact⟨us,h1.le hl hw,λi hi=>let ⟨u,h3,h4⟩:=h2 i hi;⟨u,h3,h4.le hl hw⟩⟩
def jU.cL {A:AW}{v:qi}{ls:List (List bp)}(h:jU A v ls):∃o c,v=.slice o (U ls) c/\U ls<=c:=by obtain⟨us,h1,_⟩:=h;exact h1.cL
def jU.at {A:AW}{o:Option qM}{n c:Nat}{ls:List (List bp)}(h:jU A (.slice o n c) ls){i:Nat}(hi:i<U ls):
 ∃p bO u,o=qf p/\A.bO p.block=qf bO/\bO[p.off+i]?=qf u/\lE A u ls[i]:=by obtain⟨us,h1,h2⟩:=h;obtain⟨u,h3,h4⟩:=h2 i hi;rcases h1 with ⟨_,e,_⟩|⟨p,c',bO,own,q,e1,e2,e3,e4,e5,e6⟩;omega;injection e1 with e1 e7 e8;subst e4;refine⟨p,bO,u,e1,AW.ES e3,?_,h4⟩;rw[e6,Nat.mul_one,List.getElem?_take_of_lt hi,List.getElem?_drop]at h3;exact h3
def kj (c:bu)(vi vp vk:qi):List qi:=c.cells++[vi,vp,vk]
def MZ (c:bu)(vi vp vk:qi):qi:=.agg (kj c vi vp vk).toArray
def vM:List qi:=[qh qg 0,qh qg 0,qh qg 0,qh qg 0,qh qg 0,qh qg 0,qh qg 0,qh qg 0,qh qg 0,qh qg 0,qh qg 0,qh qg 0,qt false,.slice qk 0 0,.slice qk 0 0,.slice qk 0 0]
set_option maxHeartbeats 8000000 in
def Pf (hF:FOK)(c:bu)(vi vp vk:qi)(ni ci:Nat)(oi:Option qM)(ps:List (List bp))(pk:List Int)(A:AW)(hvi:vi=.slice oi ni ci)(hp:jU A vp ps)(hk:b5 A qg vk pk):
 aE qZ 87 [MZ c vi vp vk] A (λu A'=>u=w7 (kh c ni ps pk)/\A=A'):=by
 refine aE.wy (V:=w7 (kh c ni ps pk)) (dK.tuple Yb) (λhw=>?_) Yf;refine aO Tryz.func87 λ_=>?_;subst hvi;obtain⟨op,cp,rfl,_⟩:=hp.cL;obtain⟨ok,ck,rfl,_⟩:=hk.cL;have mz:=Lf c;unfold kh;generalize lL c=ce at mz ⊢;obtain⟨mB,gq,mh,c0,c1,c2,c3,kS,lZ,mi,mf,jC,nE⟩:=c;unfold MZ kj;simp only[bu.v,bu.cells,aa,ah]at mz ⊢;obtain⟨O,hO⟩:∃O,(dt.cells [qh qg mB,qh qg gq,qh qg mh,qh qg c0,qh qg c1,qh qg c2,qh qg c3,qh qg kS,qh qg lZ,qh qg mi,qh qg mf,qh qg jC,qt nE,.slice oi ni ci,.slice op (U ps) cp,.slice ok (U pk) ck] qj 1)=O:=⟨_,rfl⟩;by_cases e0:ce=0
 rotate_left
 . rw[az e0];refine W (J2 @mz @eZ) (J2 e0 bL) ?_<;>intros
   all_goals (simp[aT,aX,bA,aR,aS,w7]<;>exact q8 A _)
 subst e0;rw[ar Yb];by_cases e1:U ps<1\/16<U ps
 . rw[az e1];by_cases e2:U ps<1
   . have e2':U ps=0:=Ya;refine W (J2 @mz @eZ) (J3 e2 e2' bL) ?_<;>intros
     all_goals (simp[aT,aX,bA,aR,aS,w7]<;>exact q8 A _)
   have e3:16<U ps:=Ya;have e4:¬(U ps:Int)<=16:=Ya;have e5:1<=(U ps:Int):=Ya;refine W (J2 @mz @eZ) (J5 e2 e3 e4 e5 bL) ?_<;>intros
   all_goals (simp[aT,aX,bA,aR,aS,w7]<;>exact q8 A _)
 rw[ar e1];have e2:¬U ps<1:=Ya
 have e3:¬16<U ps:=Ya
 have e4:(U ps:Int)<=16:=Ya
 have e5:1<=(U ps:Int):=Ya
 by_cases e6:(ni:Int)=mB
 rotate_left
 . rw[az e6];refine W (J2 @mz @eZ) (J6 e2 e3 e4 e5 e6 bL) ?_<;>intros
   all_goals (simp[aT,aX,bA,aR,aS,w7]<;>exact q8 A _)
 subst e6;rw[ar Yb];obtain⟨Rp,hRp⟩:∃Rp,mm ps 0=Rp:=⟨_,rfl⟩;obtain⟨Rk,hRk⟩:∃Rk,vP (U ps) pk 0=Rk:=⟨_,rfl⟩;have hR0:Rp=mm (ps.drop 0) 0:=hRp.symm;have hK0:Rk=vP (U ps) (pk.drop 0) 0:=hRk.symm;rw[hRp,hRk];clear hRp hRk;obtain⟨V,hV⟩:∃V,w7 (match Rp with
  |some r=>r
  |none=>if 65536<U pk then (0,0,56) else match Rk with
    |some k=>(0,k,56)
    |none=>(0,0,0))=V:=⟨_,rfl⟩
 rw[hV];revert hw;refine W (J2 @mz @eZ) (J5 e2 e3 e4 e5 bL) ?_<;>(unhygienic intros);rw[hO];have E9:A.le (A.alloc O):=q8 A O;have hgO:(A.alloc O).bk A.next=qf O:=Yb
 have hwO:=hw.alloc O;generalize A.alloc O=A1 at E9 hgO hwO ⊢;subst hO;have hrO:=AW.ES hgO;refine dO (λk fr A'=>A1=A'/\∃i:Nat,k=U ps-i/\i<=U ps/\fr 1=qs (qf ⟨A.next,0,qk⟩)/\fr 31=.slice op (U ps) cp/\fr 32=qh qg (U ps)/\fr 33=qh qg i/\Rp=mm (ps.drop i) i) (U ps) ?_ ?_;exact⟨rfl,0,rfl,Zv _,rfl,rfl,rfl,rfl,hR0⟩;rintro k fr A'⟨rfl,i,rfl,hi,g1,g31,g32,g33,he⟩;by_cases b9:i<U ps
 . obtain⟨q,bO,u,pS,bP,hcell,hu⟩:=(hp.le E9 hw).at b9;subst pS;have ij:=C0 (i:=i);have fM:ps.drop i=ps[i]::ps.drop (i+1):=Z3 b9;rw[fM]at he;unfold mm at he;have cC:=uf hF u ps[i] _ hu;unfold sj at cC;by_cases z:(b7 ps[i]).2=0;rw[az z]at he;rw[z]at cC;refine aU ?_;refine W (J2 @cC @eZ) (J9 hrO g1 g31 g32 g33 b9 ij bP hcell) ?_<;>intros;refine⟨U ps-(i+1),by omega,rfl,i+1,rfl,by omega,?_,?_,?_,?_,he⟩<;>simp[g1,g31,g32];rw[ar z]at he;rw[he]at hV;simp only at hV;refine aU ?_;refine W (J2 @cC @eZ) (Hr hrO g1 g31 g32 g33 b9 ij bP hcell z) ?_<;>intros
   all_goals (simp[b6,aT,aX,bA,aR,aS,<-hV,w7]<;>exact E9)
 have uR:i=U ps:=Ya
 subst uR;rw[List.drop_length]at he;rw[he]at hV;simp only[mm]at hV;by_cases f1:65536<U pk
 . rw[az f1]at hV;refine aU ?_;refine W (J1 @eZ) (J7 hrO g1 g31 g32 g33 b9 f1) ?_<;>intros
   all_goals (simp[aT,aX,bA,aR,aS,<-hV,w7]<;>exact E9)
 rw[ar f1]at hV;refine aU ?_;revert hw;(repeat revert hc);refine W (J1 @eZ) (J7 hrO g1 g31 g32 g33 b9 f1) ?_<;>(unhygienic intros);refine dO (λk fr2 A'=>A1=A'/\∃i:Nat,k=U pk-i/\i<=U pk/\fr2 1=qs (qf ⟨A.next,0,qk⟩)/\fr2 54=.slice ok (U pk) ck/\fr2 55=qh qg (U pk)/\fr2 56=qh qg i/\Rk=vP (U ps) (pk.drop i) i) (U pk) ?_ ?_;refine⟨rfl,0,rfl,Zv _,?_,?_,?_,?_,hK0⟩<;>simp[g1];rintro k fr2 A'⟨rfl,i,rfl,OL,j1,j54,j55,j56,hf⟩;by_cases se:i<U pk
 . obtain⟨q,bO,pS,bP,hcell⟩:=(hk.le E9 hw).at se;subst pS;have ij:=C0 (i:=i);have fM:pk.drop i=pk[i]::pk.drop (i+1):=Z3 se;rw[fM]at hf;unfold vP at hf;generalize pk[i]=x at hcell hf;by_cases b1:x<0
   . rw[az (.inl b1)]at hf;rw[hf]at hV;simp only at hV;refine aU ?_;refine W (J1 @eZ) (Hr hrO j1 j54 j55 j56 se ij bP hcell b1) ?_<;>intros
     all_goals (simp[b6,aT,aX,bA,aR,aS,<-hV,w7]<;>exact E9)
   by_cases b2:(U ps:Int)<=x
   . rw[az (.inr b2)]at hf;rw[hf]at hV;simp only at hV;refine aU ?_;refine W (J1 @eZ) (Ls hrO j1 j54 j55 j56 se ij bP hcell b1 b2) ?_<;>intros
     all_goals (simp[b6,aT,aX,bA,aR,aS,<-hV,w7]<;>exact E9)
   rw[ar Ya]at hf;refine aU ?_;refine W (J1 @eZ) (Ls hrO j1 j54 j55 j56 se ij bP hcell b1 b2) ?_<;>intros;refine⟨U pk-(i+1),by omega,rfl,i+1,rfl,by omega,?_,?_,?_,?_,hf⟩<;>simp[j1,j54,j55]
 have hil2:i=U pk:=Ya
 subst hil2;rw[List.drop_length]at hf;rw[hf]at hV;simp only[vP]at hV;refine aU ?_;refine W (J1 @eZ) (J6 hrO j1 j54 j55 j56 se) ?_<;>intros
 all_goals (simp[aX,bA,aR,aS,<-hV,w7]<;>exact E9)
end
section
variable [Gl]
def Vp {P:Program}{t e:TypeId}{i:TypeInfo}{z:qi}{A:AW}{B:Nat}{v:qi}{n:Nat}{cs:List qi}(x:qi)(hu:P.underlying t=qf (.slice e))(hi:P.info? e=qf i)(hz:i.zero=qf z)(hs:i.size=1)(rR:z.cells.size=1)(CH:i.bytes<=24)(hx:x.oneCell'=qj)(jd:dW B A 1 v n cs)(hn:n<2 ^ 30)(hB:B<=A.next)(hw:A.Wf):
 ∃v' A',fD P (A.alloc (qm [x] qj 1)) t t v (.slice (qf ⟨A.next,0,qk⟩) 1 1)=qf (v',A')/\dW B A' 1 v' (n+1) (cs++[x])/\AppK B A A' v v':=by
 have IN:=dW.le (q8 A (qm [x] qj 1)) hw jd;have j5:iv (A.alloc (qm [x] qj 1)) 1 (.slice (qf ⟨A.next,0,qk⟩) 1 1)=qf (1,[x]):=by simp[iv,AW.bO]
 have hb:(n+1)*i.bytes<=140737488355328:=by have:=ka9 (n+1) CH;omega
 obtain⟨v',A',h1,h2,h3,h4,h5,h6,h7⟩:=lD (P:=P) (size:=1) (t:=t) hu hi hz hs rR Ya IN j5 (by rw[List.all_cons,hx];rfl) Ya hb YX (hw.alloc _);exact XO
structure PS (B:Nat) (A:AW) (vp:Value) (us:List Value) (ps:List (List bp)):Prop where
 own:dW B A 1 vp us.length us
 len:us.length=ps.length
 el:∀i (hi:i<ps.length),∃u,us[i]? = some u/\dW B A 5 u ps[i].length (ps[i].flatMap aA)/\∀j,dX vp=some j->dX u≠some j
def dW.tO {B C:Nat}(hc:C<=B){A:AW}{size:Nat}{v:qi}{n:Nat}{cs:List qi}(h:dW B A size v n cs):dW C A size v n cs:=by rcases h with h|⟨p,c,bO,h1,h2,hs,h3,h4,h5⟩;exact .inl h;exact .inr ⟨p,c,bO,h1,h2,hs,by omega,h4,h5⟩
def PS.le {B:Nat}{A A':AW}{vp:qi}{us:List qi}{ps:List (List bp)}(h:PS B A vp us ps)(hl:A.le A')(hw:A.Wf):PS B A' vp us ps:=
 ⟨h.own.le hl hw,h.len,λi hi=>let ⟨u,h1,h2,h3⟩:=h.el i hi;⟨u,h1,h2.le hl hw,h3⟩⟩
def PS.km {B:Nat}{A A':AW}{vp:qi}{us:List qi}{ps:List (List bp)}(h:PS B A vp us ps)(he:∀j,B<=j->j<A.next->A'.bk j=A.bk j)(hw:A.Wf):PS B A' vp us ps:=
 ⟨h.own.km λj hj=>he j (h.own.lt hw hj).1 (h.own.lt hw hj).2,h.len,λi hi=>let ⟨u,h1,h2,h3⟩:=h.el i hi;⟨u,h1,h2.km λj hj=>he j (h2.lt hw hj).1 (h2.lt hw hj).2,h3⟩⟩
def PS.nil (B:Nat)(A:AW):PS B A (.slice qk 0 0) [] []:=⟨dW.nil _ _ _,rfl,λi hi=>by simp at hi⟩
def dW.aM {B:Nat}{A:AW}{size:Nat}{v:qi}{n:Nat}{cs:List qi}(h:dW B A size v n cs):v.oneCell'=qj:=by rcases h with ⟨rfl,_⟩|⟨p,c,bO,rfl,_⟩<;>rfl
def PS.progs {B:Nat}{A:AW}{vp:qi}{us:List qi}{ps:List (List bp)}(h:PS B A vp us ps):jU A vp ps:=by refine⟨us,?_,λi hi=>?_⟩;rw[<-h.len];exact h.own.is;obtain⟨u,h1,h2,h3⟩:=h.el i hi;exact⟨u,h1,h2.is⟩
def PS.add {B:Nat}{A:AW}{vp:qi}{us:List qi}{ps:List (List bp)}(h:PS B A vp us ps){u:qi}{p:List bp}(hu:dW B A 5 u (U p) (p.flatMap aA))(fL:∀j,dX vp=qf j->dX u≠qf j)(hn:U us<2 ^ 30)(hB:B<=A.next)(hw:A.Wf):
 ∃v' A',fD qZ (A.alloc (qm [u] qj 1)) 60 60 vp (.slice (qf ⟨A.next,0,qk⟩) 1 1)=qf (v',A')/\PS B A' v' (us++[u]) (ps++[p])/\AppK B A A' vp v':=by
 obtain⟨v',A',e,h2,k⟩:=Vp (P:=qZ) u Tryz.underlying60 Tryz.info30 Tryz.zero30 rfl rfl Yb hu.aM h.own hn hB hw;have IO:∀{x:qi}{n cs},dW B A 5 x n cs->(∀j,dX vp=qf j->dX x≠qf j)->dW B A' 5 x n cs/\∀j,dX v'=qf j->dX x≠qf j:=λ{x n cs} hx hd=>by refine⟨hx.km λj hj=>k.bk j (hx.lt hw hj).2 λe2=>hd j e2 hj,λj hj BP=>?_⟩;rcases k.nF j hj with e2|e2;exact hd j e2 BP;have:=(hx.lt hw BP).2;omega
 refine⟨v',A',e,⟨by rw[Zh];exact h2,by simp[h.len],λi hi=>?_⟩,k⟩;by_cases b9:i<U ps;obtain⟨x,h3,h4,h5⟩:=h.el i b9;obtain⟨h6,h7⟩:=IO h4 h5;refine⟨x,?_,?_,h7⟩;rw[List.getElem?_append_left (by rw[h.len];exact b9),h3];rw[List.getElem_append_left b9];exact h6;have OL:i=U ps:=by simp at hi;omega
 subst OL;obtain⟨h6,h7⟩:=IO hu fL;refine⟨u,?_,?_,h7⟩;rw[<-h.len];simp
 simpa using h6
end
section
open T7
variable [Gl]
def rB (a n:Int):Int:=Zc.wrap a % n
def yH (a n:Int)(hn:0<n):0<=rB a n/\rB a n<n:=⟨Int.emod_nonneg _ Ya,Int.emod_lt_of_pos _ hn⟩
def Le (a n:Int)(A:AW)(hn:0<n)(BO:n<=9223372036854775807):
 aE qZ 8 [qh qg a,qh qg n] A (λv A'=>v=qh qg (rB a n)/\A=A'):=by
 refine aO Tryz.func8 λhw=>?_;have jt:Zc.wrap n=n:=ax Ya Ya;have fL:n≠0:=Ya
 obtain⟨h1,h2⟩:=kV a;obtain⟨h3,h4⟩:=yH a n hn;have hr:(Zc.wrap a).tmod n=rB a n:=Int.tmod_eq_emod_of_nonneg h1;have jG:Zb.wrap (rB a n)=rB a n:=an Ya Ya;refine W db (J4 jt fL hr jG) ?_<;>intros;simp
end
section
abbrev me:List (Nat×Nat):=[(0,0),(1,0),(2,0),(3,0),(4,0),(5,0),(6,0),(10,0),(7,2),(8,0),(9,0),(11,2),(12,2),(13,3),(14,0),(15,3)]
abbrev mc:List (Nat×Nat):=[(0,0),(1,0),(2,0),(3,0),(4,0),(5,0),(6,0),(7,2),(8,2),(9,3),(10,0),(11,3)]
open T7
variable [Gl]
structure SB (A:AW) (b:Nat) (A':AW):Prop where
 next:A.next<=A'.next
 bk:∀i,i<A.next->i≠b->A'.bk i=A.bk i
def SB.refl (A:AW)(b:Nat):SB A b A:=⟨Nat.le_refl _,λ_ _ _=>rfl⟩
def SB.trans {A B C:AW}{b:Nat}(h:SB A b B)(k:SB B b C):SB A b C:=⟨ZE h.next k.next,λi hi hb=>(k.bk i (kaq hi h.next) hb).trans (h.bk i hi hb)⟩
def SB.oI {A B:AW}{b:Nat}(h:A.le B):SB A b B:=⟨h.next,λi hi _=>h.bk i hi⟩
def SB.set {A B:AW}{b:Nat}(h:SB A b B)(o:Option dt):SB A b (B.set b o):=⟨h.next,λi hi hb=>(AW.bh hb).trans (h.bk i hi hb)⟩
def SB.le {A0 A B:AW}{b:Nat}(h:A0.le A)(hb:A0.next<=b)(k:SB A b B):A0.le B:=⟨ZE h.next k.next,λi hi=>(k.bk i (kaq hi h.next) Ya).trans (h.bk i hi)⟩
def SB.app {A1 A A':AW}{b:Nat}{v v':qi}(h:SB A1 b A)(hv:∀j,dX v=qf j->A1.next<=j)(k:AppK A1.next A A' v v'):SB A1 b A':=
 ⟨ZE h.next k.next,λi hi hb=>(k.bk i (kaq hi h.next) λe=>by have:=hv i e;omega).trans (h.bk i hi hb)⟩
def app_one8 {P:Program}{t e:TypeId}{i:TypeInfo}{z:qi}{A:AW}{B:Nat}{v:qi}{n:Nat}{cs:List qi}(x:qi)(hu:P.underlying t=qf (.slice e))(hi:P.info? e=qf i)(hz:i.zero=qf z)(hs:i.size=1)(rR:z.cells.size=1)(CH:i.bytes<=8)(hx:x.oneCell'=qj)(jd:dW B A 1 v n cs)(hn:n<17592186044415)(hB:B<=A.next)(hw:A.Wf):
 ∃v' A',fD P (A.alloc (qm [x] qj 1)) t t v (.slice (qf ⟨A.next,0,qk⟩) 1 1)=qf (v',A')/\dW B A' 1 v' (n+1) (cs++[x])/\AppK B A A' v v':=by
 have IN:=dW.le (q8 A (qm [x] qj 1)) hw jd;have j5:iv (A.alloc (qm [x] qj 1)) 1 (.slice (qf ⟨A.next,0,qk⟩) 1 1)=qf (1,[x]):=by simp[iv,AW.bO]
 have hb:(n+1)*i.bytes<=140737488355328:=by have:=ka9 (n+1) CH;omega
 obtain⟨v',A',h1,h2,h3,h4,h5,h6,h7⟩:=lD (P:=P) (size:=1) (t:=t) hu hi hz hs rR Ya IN j5 (by rw[List.all_cons,hx];rfl) Ya hb YX (hw.alloc _);exact XO
def QP (kr:Int)(q:List bp):Prop:=U q<=1001/\(kr<=64->(b7 q).2=0)/\GU q
def UsD (us:List qi):Prop:=us.Pairwise λx y=>∀j,dX x=qf j->dX y≠qf j
def UsD.nil:UsD []:=List.Pairwise.nil
def UsD.oZ {us:List qi}{u:qi}(h:UsD us)(hn:∀x∈us,∀j,dX x=qf j->dX u≠qf j):UsD (us++[u]):=
 List.pairwise_append.2 ⟨h,List.pairwise_singleton _ _,λx hx y hy=>by rw[ZV.1 hy];exact hn x hx⟩
def UsD.ne {us:List qi}(h:UsD us){i k:Nat}{u w:qi}(hi:us[i]?=qf u)(hk:us[k]?=qf w)(fL:i≠k){j:Nat}(hj:dX u=qf j):dX w≠qf j:=by obtain⟨h1,rfl⟩:=Zy.1 hi;obtain⟨h2,rfl⟩:=Zy.1 hk;have hp:=List.pairwise_iff_getElem.1 h;rcases Nat.lt_or_gt_of_ne fL with h3|h3;exact hp i k h1 h2 h3 j hj;exact λe=>hp k i h2 h1 h3 j e hj
def PS.Q1 {B:Nat}{A:AW}{vp:qi}{us:List qi}{ps:List (List bp)}(h:PS B A vp us ps)(hw:A.Wf):∀x∈us,∀j,dX x=qf j->j<A.next:=λx hx j hj=>by obtain⟨i,hi,rfl⟩:=List.getElem_of_mem hx;obtain⟨u,h1,h2,_⟩:=h.el i (by rw[<-h.len];exact hi);rw[List.getElem?_eq_getElem hi]at h1;obtain rfl:=ZC h1;exact(h2.lt hw hj).2
def FM (hn:Gl.N=4)(c:bu)(WA:0<=c.bm/\c.bm<=64)(n:Nat)(hn16:n<=16)(vl vk:qi)(ls:List (List Int))(pk:List Int)(kr:Int)(heap plain:Bool)(A:AW)(hL:oD A vl ls)(hm:0<=kr/\kr<=1000)(hk:b5 A qg vk pk)(hkl:U pk<=17592186044415)(hnp:pk=[]\/1<=n):
 aE qZ 15 [c.v,qh qg n,vl,qh qg kr,qt heap,qt plain,vk] A (λu A'=>∃(oi:Option qM)(ni ci:Nat)(vp:qi)(ok:Option qM)(ck:Nat)(us:List qi)(ps:List (List bp))(kl zs:List Int)(Z:Nat),
  u=MZ c (.slice oi ni ci) vp (.slice ok (U kl) ck)/\A.next<=Z/\PS Z A' vp us ps/\A.le A'/\A'.Wf/\dW Z A' 1 (.slice ok (U kl) ck) (U kl) (kl.map (Zl qg))/\U kl=U pk/\U us=n/\UsD us/\(∀q∈ps,QP kr q/\ON plain q)/\(∀j o,dX (.slice ok (U kl) ck)=qf j->PS Z (A'.set j o) vp us ps)/\
  (ni:Int)=c.bm/\(∀x∈kl,0<=x/\x<(n:Int))/\U zs=ni/\dW A.next A' 1 (.slice oi ni ci) ni (zs.map (Zl qr))/\∀j,dX (.slice oi ni ci)=qf j->j<Z):=by
 refine aO Tryz.func15 λhw=>?_;obtain⟨ol,cl,rfl,_⟩:=hL.cL;obtain⟨Uw,Vk,rfl,_⟩:=hk.cL;have cB:=λB=>H4 c B;generalize Ho c=bl at cB;have CG:c.v=.agg c.cells.toArray:=rfl;obtain⟨mB,gq,mh,c0,c1,c2,c3,kS,lZ,mi,mf,jC,nE⟩:=c;simp only at WA;obtain⟨Lv,rfl⟩:∃Lv:Nat,mB=Lv:=⟨mB.toNat,by omega⟩;have hwsz:Lv<=64:=Ya
 unfold MZ kj;simp only[bu.v,bu.cells,aa,ah]at cB ⊢;revert hw;refine W (J2 (od me) (od mc)) (J1 bL) ?_<;>(unhygienic intros)
 refine Eh (λA1=>A.le A1/\A1.Wf/\A1.next=A.next+3/\A1.bk A.next=qf (qm [qh qg (Lv:Int),qh qg gq,qh qg mh,qh qg c0,qh qg c1,qh qg c2,qh qg c3,qh qg kS,qh qg lZ,qh qg mi,qh qg mf,qh qg jC,qt nE] qj 1)/\
  A1.bk (A.next+1)=qf (qm vM qj 1)/\
  A1.bk (A.next+2)=qf (qm [qh qg (Lv:Int),qh qg gq,qh qg mh,qh qg c0,qh qg c1,qh qg c2,qh qg c3,qh qg kS,qh qg lZ,qh qg mi,qh qg mf,qh qg jC,qt nE,.slice qk 0 0,.slice qk 0 0,.slice qk 0 0] qj 1)) ?_ ?_
 have e1:¬A.next=A.next+1+1:=Ya
 have e2:¬A.next=A.next+1:=Ya
 have e3:¬A.next+1=A.next:=Ya
 have e4:¬A.next+1+1=A.next:=Ya
 refine⟨(((q8 A _).trans (q8 _ _)).trans (q8 _ _)).set Ya _,(((hw.alloc _).alloc _).alloc _).set _ (by simp only[AW.bn];omega),by simp,?_,?_,?_⟩;simp[AW.cU,AW.bX,e1];simp[AW.cU,AW.bX,vM];simp[];rintro A1⟨DV,jt,Hd,hb7,hb14,hb15⟩
 refine lY (λfr A'=>∃(vi:qi)(ni:Nat)(zs:List Int),ni=Lv/\U zs=ni/\fr 1=qh qg n/\fr 2=.slice ol (U ls) cl/\fr 3=qh qg kr/\fr 4=qt heap/\fr 5=qt plain/\fr 6=.slice Uw (U pk) Vk/\fr 7=qs (qf ⟨A.next,0,qk⟩)/\fr 14=qs (qf ⟨A.next+1,0,qk⟩)/\fr 15=qs (qf ⟨A.next+2,0,qk⟩)/\
  SB A1 (A.next+2) A'/\A'.Wf/\A'.bk (A.next+2)=qf (qm [qh qg (Lv:Int),qh qg gq,qh qg mh,qh qg c0,qh qg c1,qh qg c2,qh qg c3,qh qg kS,qh qg lZ,qh qg mi,qh qg mf,qh qg jC,qt nE,vi,.slice qk 0 0,.slice qk 0 0] qj 1)/\dW A1.next A' 1 vi ni (zs.map (Zl qr))) ?_ ?_
 . refine dO (λk fr A'=>∃(i:Nat)(vi:qi)(zs:List Int),k=Lv-i/\i<=Lv/\U zs=i/\fr 1=qh qg n/\fr 2=.slice ol (U ls) cl/\fr 3=qh qg kr/\fr 4=qt heap/\fr 5=qt plain/\fr 6=.slice Uw (U pk) Vk/\fr 7=qs (qf ⟨A.next,0,qk⟩)/\fr 14=qs (qf ⟨A.next+1,0,qk⟩)/\fr 15=qs (qf ⟨A.next+2,0,qk⟩)/\fr 16=qh qg i/\
    SB A1 (A.next+2) A'/\A'.Wf/\A'.bk (A.next+2)=qf (qm [qh qg (Lv:Int),qh qg gq,qh qg mh,qh qg c0,qh qg c1,qh qg c2,qh qg c3,qh qg kS,qh qg lZ,qh qg mi,qh qg mf,qh qg jC,qt nE,vi,.slice qk 0 0,.slice qk 0 0] qj 1)/\dW A1.next A' 1 vi i (zs.map (Zl qr))) Lv ?_ ?_
   exact⟨0,_,[],rfl,Zv _,rfl,rfl,rfl,rfl,rfl,rfl,rfl,rfl,rfl,rfl,rfl,SB.refl _ _,jt,hb15,dW.nil _ _ _⟩;rintro k fr A'⟨i,vi,zs,rfl,hi,hzl,g1,g2,g3,g4,g5,g6,g7,oL,rA,RF,hS,lC,hb,jd⟩;have Qp:=(hS.bk A.next Ya Ya).trans hb7;have se:=lC.lt hb;by_cases b9:i<Lv
   . obtain⟨qv,hqv⟩:∃qv,Zc.wrap ((i:Int).tmod 4)=qv:=⟨_,rfl⟩;have ij:=C0 (i:=i);obtain⟨vi',A4,e4,BN,k4⟩:=Vp (P:=qZ) (qh qr qv) Tryz.underlying59 Tryz.info45 Tryz.zero45 rfl rfl Yb rfl jd Ya hS.next lC;have BN:dW A1.next A4 1 vi' (i+1) ((zs++[qv]).map (Zl qr)):=by simpa using BN
     have fL:dX vi≠qf (A.next+2):=λe=>by have:=(jd.lt lC e).1;omega
     have AY:=(k4.bk (A.next+2) se fL).trans hb;have hlt4:=k4.wf.lt AY;have zM:=hS.app (λj hj=>(jd.lt lC hj).1) k4;have cJ:Lv-i=(Lv-(i+1))+1:=Ya;have hv1:=jd.aM;have hv2:=BN.aM;refine aU ?_;revert hS hw;refine W (J2 (od me) (od mc)) (J18 g1 g2 g3 g4 g5 g6 g7 oL rA RF b9 ij hqv hb Qp AY e4 bL) ?_<;>(unhygienic intros);obtain⟨oi',ci',rfl,_⟩:=BN.is.cL;refine W (J2 (od me) (od mc)) (J18 g1 g2 g3 g4 g5 g6 g7 oL rA RF b9 ij hqv hb Qp AY e4 bL) ?_<;>intros;refine⟨Lv-(i+1),by omega,i+1,_,zs++[qv],rfl,by omega,by simp[hzl],?_,?_,?_,?_,?_,?_,?_,?_,?_,?_,zM.set _,k4.wf.set _ hlt4,AW.cM,BN.km λj hj=>AW.bh (λe=>by have:=(BN.lt k4.wf hj).1;omega)⟩<;>simp[g1,g2,g3,g4,g5,g6,g7,oL,rA]
   refine aU ?_;revert hS hw;refine W (J2 (od me) (od mc)) (y9 g1 g2 g3 g4 g5 g6 g7 oL rA RF b9 hb Qp @AW.ab) ?_<;>(unhygienic intros);refine⟨vi,_,zs,by omega,hzl,?_,?_,?_,?_,?_,?_,?_,?_,?_,hS,lC,hb,jd⟩<;>simp[g1,g2,g3,g4,g5,g6,g7,oL,rA]
 rintro fr A2⟨vi,ni,zs,Kc,hzl,g1,g2,g3,g4,g5,g6,g7,oL,rA,jH,jG,lW,P9⟩;have NB:=jH.le DV Ya;have BO:A.next+3<=A2.next:=by rw[<-Hd];exact jH.next
 have hb7:=(jH.bk A.next Ya Ya).trans hb7;have hb14:=(jH.bk (A.next+1) Ya Ya).trans hb14;obtain⟨oi,cpi,rfl,_⟩:=P9.is.cL;have hI2:∀j,dX (.slice oi ni cpi)=qf j->A.next+3<=j/\j<A2.next:=λj hj=>⟨by have:=(P9.lt jG hj).1;omega,(P9.lt jG hj).2⟩;have hI:∀A',SB A2 (A.next+2) A'->dW A1.next A' 1 (.slice oi ni cpi) ni (zs.map (Zl qr)):=λA' h=>P9.km λj hj=>h.bk j (hI2 j hj).2 (by have:=(hI2 j hj).1;omega);clear hb15 P9 jH jt DV;refine aU ?_;revert hw;refine W (J2 (od me) (od mc)) (J9 g1 g2 g3 g4 g5 g6 g7 oL rA) ?_<;>(unhygienic intros)
 refine lY (λfr A'=>∃(vp:qi)(us:List qi)(ps:List (List bp)),U us=n/\UsD us/\(∀q∈ps,QP kr q/\ON plain q)/\fr 1=qh qg n/\fr 2=.slice ol (U ls) cl/\fr 3=qh qg kr/\fr 4=qt heap/\fr 5=qt plain/\fr 6=.slice Uw (U pk) Vk/\fr 7=qs (qf ⟨A.next,0,qk⟩)/\fr 14=qs (qf ⟨A.next+1,0,qk⟩)/\fr 15=qs (qf ⟨A.next+2,0,qk⟩)/\
  SB A2 (A.next+2) A'/\A'.Wf/\A'.bk (A.next+2)=qf (qm [qh qg (Lv:Int),qh qg gq,qh qg mh,qh qg c0,qh qg c1,qh qg c2,qh qg c3,qh qg kS,qh qg lZ,qh qg mi,qh qg mf,qh qg jC,qt nE,.slice oi ni cpi,vp,.slice qk 0 0] qj 1)/\PS A2.next A' vp us ps) ?_ ?_
 . refine dO (λk fr A'=>∃(t:Nat)(vp:qi)(us:List qi)(ps:List (List bp)),k=n-t/\t<=n/\U us=t/\UsD us/\(∀q∈ps,QP kr q/\ON plain q)/\fr 1=qh qg n/\fr 2=.slice ol (U ls) cl/\fr 3=qh qg kr/\fr 4=qt heap/\fr 5=qt plain/\fr 6=.slice Uw (U pk) Vk/\fr 7=qs (qf ⟨A.next,0,qk⟩)/\fr 14=qs (qf ⟨A.next+1,0,qk⟩)/\fr 15=qs (qf ⟨A.next+2,0,qk⟩)/\fr 17=qh qg t/\
    SB A2 (A.next+2) A'/\A'.Wf/\A'.bk (A.next+2)=qf (qm [qh qg (Lv:Int),qh qg gq,qh qg mh,qh qg c0,qh qg c1,qh qg c2,qh qg c3,qh qg kS,qh qg lZ,qh qg mi,qh qg mf,qh qg jC,qt nE,.slice oi ni cpi,vp,.slice qk 0 0] qj 1)/\PS A2.next A' vp us ps) n ?_ ?_
   exact⟨0,_,[],[],rfl,Zv _,rfl,UsD.nil,by simp,by simp[g1],by simp[g2],by simp[g3],by simp[g4],by simp[g5],by simp[g6],by simp[g7],by simp[oL],by simp[rA],rfl,SB.refl _ _,jG,lW,PS.nil _ _⟩;clear g1 g2 g3 g4 g5 g6 g7 oL rA;rintro k fr A'⟨t,vp,us,ps,rfl,ht,hut,hud,mT,g1,g2,g3,g4,g5,g6,g7,oL,rA,OM,hS,lC,hb,hP⟩;have Qp:=(hS.bk A.next Ya Ya).trans hb7;have se:=lC.lt hb;have hleA:=hS.le NB Ya;have hL':=hL.keeps (iI.oI hleA hw);obtain⟨op',cp',yE,_⟩:=hP.own.is.cL;subst yE;by_cases b9:t<n
   . have ij:Zb.wrap ((t:Int)+1)=((t+1:Nat):Int):=an Ya Ya;have cJ:n-t=(n-(t+1))+1:=Ya;by_cases hlt3:t<U ls
     . obtain⟨q,bO,own,u,pS,bP,hcell,hu⟩:=hL'.at hlt3;subst pS;cases heap with
       |true=>
         refine aU ?_;revert hS hw;refine W (J3 (od me) (od mc) @cB) (J18 g1 g2 g3 g4 g5 g6 g7 oL rA OM b9 hlt3 ij bP hcell hb Qp @AW.ab) ?_<;>(unhygienic intros);refine(pe hn _ _ kr _ plain _ hu hm).mono ?_;rintro u2 A4⟨p,up,KY,pz,rS,hpv,hpa,hpn⟩
         refine⟨pz,?_⟩
         obtain⟨ou,cu,SQ,_⟩:=KY.is.cL;subst SQ;have Qt:=hP.le pz lC;obtain⟨JZ,A5,e5,Qs,k5⟩:=Qt.add (KY.tO hS.next) (λj h1 h2=>by have:=(hP.own.lt lC h1).2;have:=(KY.lt rS h2).1;omega) Ya (ZE hS.next pz.next) rS;have AY:=pz.jp lC hb;have hb5:=(k5.bk (A.next+2) (rS.lt AY) (λe=>by have:=(Qt.own.lt rS e).1;omega)).trans AY;have Bt:=(hS.trans (SB.oI pz)).app (λj hj=>(Qt.own.lt rS hj).1) k5;obtain⟨op2,cp2,SP,_⟩:=Qs.own.is.cL;subst SP;simp only[Zh,ZI,kay,kag]at Qs e5;have NA:=k5.wf.lt hb5;revert hS hw;(repeat first|revert hc|revert R|revert K);refine W (J2 (od me) (od mc)) (J17 g1 g2 g3 g4 g5 g6 g7 oL rA OM b9 hlt3 ij AY hb5 e5 bL) ?_<;>(unhygienic intros);refine⟨n-(t+1),by omega,t+1,_,us++[.slice ou (U p) cu],ps++[p],rfl,by omega,by rw[Zh,hut];rfl,hud.oZ λx hx j h1 h2=>by have:=hP.Q1 lC x hx j h1;have:=(KY.lt rS h2).1;omega,λq hq=>by rcases ZG.1 hq with h|h;exact mT q h;rw[ZV.1 h];exact⟨⟨up,hpv,hpa⟩,hpn⟩,?_,?_,?_,?_,?_,?_,?_,?_,?_,?_,Bt.set _,k5.wf.set _ NA,AW.cM,Qs.km (λj h1 _=>AW.bh (show j≠A.next+2 by omega)) k5.wf⟩<;>simp[g1,g2,g3,g4,g5,g6,g7,oL,rA]
       |false=>
         refine aU ?_;revert hS hw;refine W (J3 (od me) (od mc) @cB) (J18 g1 g2 g3 g4 g5 g6 g7 oL rA OM b9 hlt3 ij bP hcell hb Qp @AW.ab) ?_<;>(unhygienic intros);refine(pe hn _ _ kr _ plain _ hu hm).mono ?_;rintro u2 A4⟨p,up,KY,pz,rS,hpv,hpa,hpn⟩
         refine⟨pz,?_⟩
         obtain⟨ou,cu,SQ,_⟩:=KY.is.cL;subst SQ;have Qt:=hP.le pz lC;obtain⟨JZ,A5,e5,Qs,k5⟩:=Qt.add (KY.tO hS.next) (λj h1 h2=>by have:=(hP.own.lt lC h1).2;have:=(KY.lt rS h2).1;omega) Ya (ZE hS.next pz.next) rS;have AY:=pz.jp lC hb;have hb5:=(k5.bk (A.next+2) (rS.lt AY) (λe=>by have:=(Qt.own.lt rS e).1;omega)).trans AY;have Bt:=(hS.trans (SB.oI pz)).app (λj hj=>(Qt.own.lt rS hj).1) k5;obtain⟨op2,cp2,SP,_⟩:=Qs.own.is.cL;subst SP;simp only[Zh,ZI,kay,kag]at Qs e5;have NA:=k5.wf.lt hb5;revert hS hw;(repeat first|revert hc|revert R|revert K);refine W (J2 (od me) (od mc)) (J17 g1 g2 g3 g4 g5 g6 g7 oL rA OM b9 hlt3 ij AY hb5 e5 bL) ?_<;>(unhygienic intros);refine⟨n-(t+1),by omega,t+1,_,us++[.slice ou (U p) cu],ps++[p],rfl,by omega,by rw[Zh,hut];rfl,hud.oZ λx hx j h1 h2=>by have:=hP.Q1 lC x hx j h1;have:=(KY.lt rS h2).1;omega,λq hq=>by rcases ZG.1 hq with h|h;exact mT q h;rw[ZV.1 h];exact⟨⟨up,hpv,hpa⟩,hpn⟩,?_,?_,?_,?_,?_,?_,?_,?_,?_,?_,Bt.set _,k5.wf.set _ NA,AW.cM,Qs.km (λj h1 _=>AW.bh (show j≠A.next+2 by omega)) k5.wf⟩<;>simp[g1,g2,g3,g4,g5,g6,g7,oL,rA]
     have hu:b5 A' qg (.slice qk 0 0) []:=b5.nil _ _;cases heap with
     |true=>
       refine aU ?_;revert hS hw;refine W (J3 (od me) (od mc) @cB) (Rr g1 g2 g3 g4 g5 g6 g7 oL rA OM b9 hlt3 ij hb Qp @AW.ab) ?_<;>(unhygienic intros);refine(pe hn _ _ kr _ plain _ hu hm).mono ?_;rintro u2 A4⟨p,up,KY,pz,rS,hpv,hpa,hpn⟩
       refine⟨pz,?_⟩
       obtain⟨ou,cu,SQ,_⟩:=KY.is.cL;subst SQ;have Qt:=hP.le pz lC;obtain⟨JZ,A5,e5,Qs,k5⟩:=Qt.add (KY.tO hS.next) (λj h1 h2=>by have:=(hP.own.lt lC h1).2;have:=(KY.lt rS h2).1;omega) Ya (ZE hS.next pz.next) rS;have AY:=pz.jp lC hb;have hb5:=(k5.bk (A.next+2) (rS.lt AY) (λe=>by have:=(Qt.own.lt rS e).1;omega)).trans AY;have Bt:=(hS.trans (SB.oI pz)).app (λj hj=>(Qt.own.lt rS hj).1) k5;obtain⟨op2,cp2,SP,_⟩:=Qs.own.is.cL;subst SP;simp only[Zh,ZI,kay,kag]at Qs e5;have NA:=k5.wf.lt hb5;revert hS hw;(repeat first|revert hc|revert R|revert K);refine W (J2 (od me) (od mc)) (J17 g1 g2 g3 g4 g5 g6 g7 oL rA OM b9 hlt3 ij AY hb5 e5 bL) ?_<;>(unhygienic intros);refine⟨n-(t+1),by omega,t+1,_,us++[.slice ou (U p) cu],ps++[p],rfl,by omega,by rw[Zh,hut];rfl,hud.oZ λx hx j h1 h2=>by have:=hP.Q1 lC x hx j h1;have:=(KY.lt rS h2).1;omega,λq hq=>by rcases ZG.1 hq with h|h;exact mT q h;rw[ZV.1 h];exact⟨⟨up,hpv,hpa⟩,hpn⟩,?_,?_,?_,?_,?_,?_,?_,?_,?_,?_,Bt.set _,k5.wf.set _ NA,AW.cM,Qs.km (λj h1 _=>AW.bh (show j≠A.next+2 by omega)) k5.wf⟩<;>simp[g1,g2,g3,g4,g5,g6,g7,oL,rA]
     |false=>
       refine aU ?_;revert hS hw;refine W (J3 (od me) (od mc) @cB) (Rr g1 g2 g3 g4 g5 g6 g7 oL rA OM b9 hlt3 ij hb Qp @AW.ab) ?_<;>(unhygienic intros);refine(pe hn _ _ kr _ plain _ hu hm).mono ?_;rintro u2 A4⟨p,up,KY,pz,rS,hpv,hpa,hpn⟩
       refine⟨pz,?_⟩
       obtain⟨ou,cu,SQ,_⟩:=KY.is.cL;subst SQ;have Qt:=hP.le pz lC;obtain⟨JZ,A5,e5,Qs,k5⟩:=Qt.add (KY.tO hS.next) (λj h1 h2=>by have:=(hP.own.lt lC h1).2;have:=(KY.lt rS h2).1;omega) Ya (ZE hS.next pz.next) rS;have AY:=pz.jp lC hb;have hb5:=(k5.bk (A.next+2) (rS.lt AY) (λe=>by have:=(Qt.own.lt rS e).1;omega)).trans AY;have Bt:=(hS.trans (SB.oI pz)).app (λj hj=>(Qt.own.lt rS hj).1) k5;obtain⟨op2,cp2,SP,_⟩:=Qs.own.is.cL;subst SP;simp only[Zh,ZI,kay,kag]at Qs e5;have NA:=k5.wf.lt hb5;revert hS hw;(repeat first|revert hc|revert R|revert K);refine W (J2 (od me) (od mc)) (J17 g1 g2 g3 g4 g5 g6 g7 oL rA OM b9 hlt3 ij AY hb5 e5 bL) ?_<;>(unhygienic intros);refine⟨n-(t+1),by omega,t+1,_,us++[.slice ou (U p) cu],ps++[p],rfl,by omega,by rw[Zh,hut];rfl,hud.oZ λx hx j h1 h2=>by have:=hP.Q1 lC x hx j h1;have:=(KY.lt rS h2).1;omega,λq hq=>by rcases ZG.1 hq with h|h;exact mT q h;rw[ZV.1 h];exact⟨⟨up,hpv,hpa⟩,hpn⟩,?_,?_,?_,?_,?_,?_,?_,?_,?_,?_,Bt.set _,k5.wf.set _ NA,AW.cM,Qs.km (λj h1 _=>AW.bh (show j≠A.next+2 by omega)) k5.wf⟩<;>simp[g1,g2,g3,g4,g5,g6,g7,oL,rA]
   refine aU ?_;revert hS hw;refine W (J2 (od me) (od mc)) (Ls g1 g2 g3 g4 g5 g6 g7 oL rA OM b9) ?_<;>(unhygienic intros);refine⟨_,us,ps,by omega,hud,mT,?_,?_,?_,?_,?_,?_,?_,?_,?_,hS,lC,hb,hP⟩<;>simp[g1,g2,g3,g4,g5,g6,g7,oL,rA]
 clear g1 g2 g3 g4 g5 g6 g7 oL rA;rintro fr A3⟨vp,us,ps,hun,hud,mT,g1,g2,g3,g4,g5,g6,g7,oL,rA,jK,E6,xl,hP⟩;have Wt:=jK.le NB Ya;have hn3:A.next+3<=A3.next:=ZE BO jK.next;obtain⟨op',cp',yE,_⟩:=hP.own.is.cL;subst yE;have hb14:=(jK.bk (A.next+1) Ya Ya).trans hb14;have hP3:∀A',SB A3 (A.next+2) A'->PS A2.next A' (.slice op' (U us) cp') us ps:=λA' h=>hP.km (λj h1 h2=>h.bk j h2 Ya) E6;have hI3:∀A',SB A3 (A.next+2) A'->dW A1.next A' 1 (.slice oi ni cpi) ni (zs.map (Zl qr)):=λA' h=>hI A' (jK.trans h);have hn23:=jK.next;clear jK hP hI;refine aU ?_;revert hw;refine W (J2 (od me) (od mc)) (J4 g1 g6 oL rA) ?_<;>(unhygienic intros)
 refine lY (λfr A'=>∃(vk:qi)(kl:List Int),(∀x∈kl,0<=x/\x<(n:Int))/\U kl=U pk/\fr 1=qh qg n/\fr 6=.slice Uw (U pk) Vk/\fr 14=qs (qf ⟨A.next+1,0,qk⟩)/\fr 15=qs (qf ⟨A.next+2,0,qk⟩)/\
  SB A3 (A.next+2) A'/\A'.Wf/\A'.bk (A.next+2)=qf (qm [qh qg (Lv:Int),qh qg gq,qh qg mh,qh qg c0,qh qg c1,qh qg c2,qh qg c3,qh qg kS,qh qg lZ,qh qg mi,qh qg mf,qh qg jC,qt nE,.slice oi ni cpi,.slice op' (U us) cp',vk] qj 1)/\dW A3.next A' 1 vk (U kl) (kl.map (Zl qg))) ?_ ?_
 . refine dO (λk fr A'=>∃(i:Nat)(vk:qi)(kl:List Int),(∀x∈kl,0<=x/\x<(n:Int))/\k=U pk-i/\i<=U pk/\U kl=i/\fr 1=qh qg n/\fr 6=.slice Uw (U pk) Vk/\fr 14=qs (qf ⟨A.next+1,0,qk⟩)/\fr 15=qs (qf ⟨A.next+2,0,qk⟩)/\fr 19=qh qg i/\
    SB A3 (A.next+2) A'/\A'.Wf/\A'.bk (A.next+2)=qf (qm [qh qg (Lv:Int),qh qg gq,qh qg mh,qh qg c0,qh qg c1,qh qg c2,qh qg c3,qh qg kS,qh qg lZ,qh qg mi,qh qg mf,qh qg jC,qt nE,.slice oi ni cpi,.slice op' (U us) cp',vk] qj 1)/\dW A3.next A' 1 vk (U kl) (kl.map (Zl qg))) (U pk) ?_ ?_
   exact⟨0,_,[],by simp,rfl,Zv _,rfl,by simp[g1],by simp[g6],by simp[oL],by simp[rA],rfl,SB.refl _ _,E6,xl,dW.nil _ _ _⟩;clear g1 g2 g3 g4 g5 g6 g7 oL rA;rintro k fr A'⟨i,vk,kl,hkr,rfl,hi,hkli,g1,g6,oL,rA,g19,hS,lC,hb,jd⟩;have se:=lC.lt hb;obtain⟨ovk,cvk,hvk,_⟩:=jd.is.cL;subst hvk;by_cases b9:i<U pk
   . have Hd:1<=n:=by rcases hnp with rfl|h;simp at b9;exact h
     obtain⟨q,bO,pS,bP,hcell⟩:=(hk.le (hS.le Wt Ya) hw).at b9;subst pS;have cP:=λB=>Le pk[i] (n:Int) B Ya Ya;have GL:=yH pk[i] n Ya;generalize rB pk[i] n=pv at cP GL;generalize pk[i]=px at hcell cP;have ij:=C0 (i:=i);obtain⟨vk',A4,e4,BN,k4⟩:=app_one8 (P:=qZ) (qh qg pv) Tryz.underlying23 Tryz.info3 Tryz.zero3 rfl rfl Yb rfl jd Ya hS.next lC;have fL:dX (.slice ovk (U kl) cvk)≠qf (A.next+2):=λe=>by have:=(jd.lt lC e).1;omega
     have AY:=(k4.bk (A.next+2) se fL).trans hb;have hlt4:=k4.wf.lt AY;have zM:=hS.app (λj hj=>(jd.lt lC hj).1) k4;have cJ:U pk-i=(U pk-(i+1))+1:=Ya;obtain⟨ok4,ck4,hvk4,_⟩:=BN.is.cL;subst hvk4;refine aU ?_;refine W (J3 (od me) (od mc) @cP) (oP g1 g6 oL rA g19 b9 ij bP hcell hb AY e4 bL) ?_<;>intros;refine⟨U pk-(i+1),by omega,i+1,.slice ok4 (U kl+1) ck4,kl++[pv],λx hx=>by rcases ZG.1 hx with h|h;exact hkr x h;rw[ZV.1 h];exact GL,rfl,by omega,by simp[hkli],?_,?_,?_,?_,?_,zM.set _,k4.wf.set _ hlt4,AW.cM,?_⟩
     rotate_right
     have h:=BN.km (A':=A4.set (A.next+2) (qf (qm [qh qg (Lv:Int),qh qg gq,qh qg mh,qh qg c0,qh qg c1,qh qg c2,qh qg c3,qh qg kS,qh qg lZ,qh qg mi,qh qg mf,qh qg jC,qt nE,.slice oi ni cpi,.slice op' (U us) cp',.slice ok4 (U kl+1) ck4] qj 1))) λj hj=>AW.bh (λe=>by have:=(BN.lt k4.wf hj).1;omega)
     simpa using h
     all_goals simp[g1,g6,oL,rA]
   refine aU ?_;revert hS hw;refine W (J2 (od me) (od mc)) (J6 g1 g6 oL rA g19 b9) ?_<;>(unhygienic intros);refine⟨_,kl,hkr,by omega,?_,?_,?_,?_,hS,lC,hb,jd⟩<;>simp[g1,g6,oL,rA]
 clear g1 g2 g3 g4 g5 g6 g7 oL rA;rintro fr A4⟨vk,kl,hkr,hkl',g1,g6,oL,rA,hS,rS,AY,jd⟩;have hb14':=(hS.bk (A.next+1) Ya Ya).trans hb14;obtain⟨ok4,ck4,hvk4,_⟩:=jd.is.cL;subst hvk4;have Qt:=hP3 A4 hS;have hlt14:=rS.lt hb14';have hA4:A3.next<=A4.next:=hS.next;have pz:=hS.le Wt Ya;have fL:¬A.next+2=A.next+1:=Ya
 have hne2:¬A.next+1=A.next+2:=Ya
 unfold vM at hb14';revert hS hw;refine W (J2 (od me) (od mc)) (J9 g1 g6 oL rA hb14' AY fL hne2 bL) ?_<;>(unhygienic intros);refine⟨_,by (simp[bA,aR,aS,oL,ja,AW.ab];done),oi,ni,cpi,_,ok4,ck4,us,ps,kl,zs,A2.next,rfl,by omega,Qt.km (λj h1 _=>AW.bh (show j≠A.next+1 by omega)) rS,pz.set Ya _,rS.set _ hlt14,(jd.km λj hj=>AW.bh (λe=>by have:=(jd.lt rS hj).1;omega)).tO hn23,hkl',hun,hud,mT,λj o hj=>?_,by rw[Kc],hkr,hzl,?_,λj hj=>(hI2 j hj).2⟩
 rotate_left
 exact((hI3 A4 hS).km λj hj=>AW.bh (λe=>by have:=(hI2 j hj).1;omega)).tO Ya;have hj3:=(jd.lt rS hj).1;refine((hP3 (A4.set j o) ⟨hS.next,λi h1 h2=>by rw[AW.bh Ya];exact hS.bk i h1 h2⟩).km (λi h1 h2=>?_) (rS.set _ (jd.lt rS hj).2));by_cases e:i=j;subst e;rw[AW.cM,AW.cM];rw[AW.bh e,AW.bh Ya,AW.bh e]
end
end Go.Stx
