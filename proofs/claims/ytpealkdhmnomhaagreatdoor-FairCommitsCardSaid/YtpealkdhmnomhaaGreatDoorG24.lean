/-
 The program's fences.
-/
import Derived.Test.YtpealkdhmnomhaaGreatDoorG23
set_option linter.unusedVariables false
set_option linter.unusedSimpArgs false
set_option linter.unusedSectionVars false
set_option maxRecDepth 20000
set_option maxHeartbeats 4000000
open Go.IntKind renaming i64->qY,u64->q8
open Go.Proofs.Tryz renaming func134->kax,prog->qV
open Int renaming add_zero->kaH
open List renaming drop_drop->kaG,filter_append->kbh,flatMap_cons->ka1,getElem_mem->ZR,length_append->Zc,length_filter_le->kaB,length_map->Zs,map_cons->ZY,take_succ_eq_append_getElem->kav
open Prod renaming fst->Zq,snd->Z2
open Bool renaming false->qk,true->qg
open Go renaming Value->qd
open Go.IntKind renaming i64->qa,u64->qj
open Go.Stx.eh renaming cells->qi
open Go.Value renaming bool->qn,int->qb,pointer->qm,slice->qf
open Option renaming none->qh,some->qc
open Or renaming inr->qt
namespace Go.Stx
open Go Go.Proofs
attribute [local irreducible] TW bI cM aV aB aL cU dh
section
abbrev Rq:List (Nat×Nat):=[(0,0),(1,0),(2,0),(3,0),(4,0),(5,0),(6,0),(7,0),(8,0),(9,0),(10,0),(11,0),(12,0),(13,0),(14,0),(15,0)]
abbrev Ro:List (Nat×Nat):=[(0,0),(1,0),(2,0),(3,0),(4,0),(5,0),(6,0),(7,0),(8,0)]
open T24
variable [Gl]
theorem nM {f:FuncId} {args:List qd} {V:qd} {b:Nat} {o:eh} (hC:∀A:AW,A.bk b=qc o->fD f args A V) {A:AW} {L K:List It} {k:qd->AW->Prop} (hw:A.Wf) (hS:aj A L) (hp:aE L (.at b o) K) (hk:k V A):aB qV f args A k:=by
 have hg:A.bk b=qc o:=by
  unfold aj at hS;rw [hp.aO] at hS;exact bB.bk hS
 refine bD (hC A hg) ?_;rintro _ _ ⟨rfl,rfl⟩ _ _;exact hk
def vM (f:ko):eh:=qi [qb qa f.am,qb qa f.og,qn f.fZ,qb qj f.Cu,qb qa f.next] qg 1
theorem IE (t n:Int) (A:AW):aB qV 133 [qb qa t,qb qa n] A (λv A'=>v=qm (qc ⟨A.next,0,qh⟩)/\A'=A.alloc (vM ⟨t,n,qk,0,0⟩)):=by
 refine aK Tryz.func133 λ_=>?_;refine W cx cx ?_<;>intros;exact⟨_,rfl,rfl,rfl⟩
theorem oL (b:Nat) (s:ko) (A:AW) (hg:A.bk b=qc (vM s)):fD 113 [qm (qc ⟨b,0,qh⟩)] A (qn s.done):=by
 refine aK Tryz.func113 λ_=>?_;dsimp only [vM] at hg;unfold ko.done;cases h:s.fZ;refine W (J1 (od Rq)) (J3 hg h @AW.ab) ?_<;>intros;exact⟨_,rfl,by simp,rfl⟩;refine W (J1 (od Rq)) (J3 hg h @AW.ab) ?_<;>intros;exact⟨_,rfl,by simp,rfl⟩
theorem IY (b:Nat) (s:ko) (A:AW) (hg:A.bk b=qc (vM s)):fD 115 [qm (qc ⟨b,0,qh⟩)] A (qb qa s.pn):=by
 refine aK Tryz.func115 λ_=>?_;dsimp only [vM] at hg;unfold ko.pn;cases h:s.fZ;refine W cx (J3 hg h @AW.ab) ?_<;>intros;exact⟨_,rfl,by simp,rfl⟩;refine W cx (J3 hg h @AW.ab) ?_<;>intros;exact⟨_,rfl,by simp,rfl⟩
theorem xU (x:Int) (A:AW):fD 107 [qb qj x] A (qb qa (if x=0 then 0 else if x=1 then 1 else 2)):=by
 refine aK Tryz.func107 λ_=>?_;refine W cx cx (J3 ?_ ?_ ?_)<;>intros
 all_goals exact⟨_,rfl,by simp_all,rfl⟩
theorem yI (b:Nat) (s:ko) (x:Int) (A:AW) (hg:A.bk b=qc (vM s)):fD 146 [qm (qc ⟨b,0,qh⟩),qb qj x] A (qn (s.Dr x)):=by
 refine aK Tryz.func146 λ_=>?_;dsimp only [vM] at hg;unfold ko.Dr;by_cases h0:x=0;have dw:=xU x;rw [ay h0] at dw;refine W (J1 @dw) (J2 hg @AW.ab) ?_<;>intros;exact⟨_,rfl,by simp [h0],rfl⟩;by_cases h1:x=1;have dw:=xU x;rw [aw h0,ay h1] at dw;refine W (J1 @dw) (J2 hg @AW.ab) ?_<;>intros;exact⟨_,rfl,by simp [h1],rfl⟩;have dw:=xU x;rw [aw h0,aw h1] at dw;refine W (J1 @dw) (J2 hg @AW.ab) ?_<;>intros;exact⟨_,rfl,by simp [h0,h1],rfl⟩
theorem CF (b:Nat) (f:ko) (hn:0<=f.next/\f.next<2^40):bx qV 145 [qm (qc ⟨b,0,qh⟩)] [.at b (vM f)] (λ_=>True) (λ_=>[.at b (vM f.skip)]):=by
 intro A F hw hS;refine aK Tryz.func145 λ_=>?_;dsimp only [aa,ah] at hS;have hq:=rV hS hw;have RG:qY.wrap (f.next+1)=f.next+1:=af Ya Ya;unfold ko.skip;by_cases h:f.next=f.am
 . have e:(if f.next=f.am then ({ f with next:=f.next+1 }:ko) else f)={ f with next:=f.next+1 }:=ay h;rw [<-h] at hq;revert hq hS hw;refine W (J1 (od Ro)) (J2 RG bC) ?_<;>(unhygienic intros)
   all_goals(
    try rw [e]
    refine⟨_,by simp [];rfl,by trivial,?_⟩;apply aj.bX
    (·exact sA)
    (·repeat' (first|apply bf.z|apply bf.s|apply aE.z|(apply aE.Ml;simp [vM,h];done))))
 have e:(if f.next=f.am then ({ f with next:=f.next+1 }:ko) else f)=f:=aw h;revert hq hS hw;refine W (J1 (od Ro)) (J2 h bC) ?_<;>(unhygienic intros)
 all_goals(
  try rw [e]
  refine⟨_,by simp [];rfl,by trivial,?_⟩;apply aj.bX
  (·exact sA)
  (·repeat' (first|apply bf.z|apply bf.s|apply aE.z)))
theorem TE (f:ko) (M:Mm):(f.done=qg/\gy f M=(bh.zero,f)) \/
 ((f.done=qk/\f.fZ=qk)/\gy f M=(iL M 3 0,({ f with fZ:=qg,Cu:=(iL M 3 0).eY }:ko).skip)) \/
 ((f.done=qk/\f.fZ=qg/\f.Dr (iL M 6 f.next).eY=qg)/\gy f M=(iL M 6 f.next,({ f with next:=f.next+1 }:ko).skip)) \/
 ((f.done=qk/\f.fZ=qg/\f.Dr (iL M 6 f.next).eY=qk)/\gy f M=(iL M 6 f.next,f)):=by
 unfold gy;cases h0:f.done<;>cases h1:f.fZ<;>cases h2:f.Dr (iL M 6 f.next).eY<;>simp
theorem LA (b pb:Nat) (f:ko) (M:Mm) (hn:0<=f.next/\f.next<2^39) :
 bx qV 112 [qm (qc ⟨b,0,qh⟩),qm (qc ⟨pb,0,qh⟩)] [.at b (vM f),ei pb M]
  (λv=>v=(gy f M).1.v) (λ_=>[.at b (vM (gy f M).2),ei pb M]):=by
 intro A F hw hS;refine aK Tryz.func112 λ_=>?_;dsimp only [aa,ah] at hS;have hq:=rV hS hw;have RG:qY.wrap (f.next+1)=f.next+1:=af Ya Ya;have yt:0<=f.next/\f.next<2^40:=Ya
 have hn3:0<=f.next+1/\f.next+1<2^40:=Ya
 rcases TE f M with ⟨h,e⟩|⟨h,e⟩|⟨h,e⟩|⟨h,e⟩
 . have hd:=λA hg=>oL b f A hg;rw [h] at hd;revert hq hS hw;refine W (J1 (Tg.mk (n:=10) (λ{A L K k}=>nM (A:=A) (L:=L) (K:=K) (k:=k) hd))) (J4 h bC @bn.eq_1 @bh.v.eq_1) ?_<;>(unhygienic intros)
   all_goals(
    try rw [e]
    refine⟨_,by simp [AW.ab];rfl,by trivial,?_⟩;apply aj.bX
    (·exact sA)
    (·repeat' (first|apply bf.z|apply bf.s|apply aE.z|apply aE.s)))
 . have hd:=λA hg=>oL b f A hg;rw [h.1] at hd;revert hq hS hw;refine Wu (J4 (Tg.mk (n:=10) (λ{A L K k}=>nM (A:=A) (L:=L) (K:=K) (k:=k) hd)) (⟨⟩:Os (λA'=>A'.bk (A.next+1)=qc (qi (accC (iL M 3 0)) qg 1)) [(0,0),(1,0),(2,0),(3,1),(4,0),(5,0),(6,3),(7,0),(8,0),(9,3)]) (VT pb) (CF b { f with fZ:=qg,Cu:=(iL M 3 0).eY } yt)) (J4 h bC @bn.eq_1 @bh.v.eq_1) ?_<;>(unhygienic intros)
   all_goals(
    try rw [e]
    refine⟨_,by simp [AW.ab];rfl,by trivial,?_⟩;apply aj.bX
    (·exact sA)
    (·repeat' (first|apply bf.z|apply bf.s|apply aE.z|apply aE.s)))
 . have hd:=λA hg=>oL b f A hg;have hp:=λA hg=>yI b f (iL M 6 f.next).eY A hg;rw [h.1] at hd;rw [h.2.2] at hp;have e2:({ f with next:=f.next+1 }:ko)=⟨f.am,f.og,qg,f.Cu,f.next+1⟩:=(by rw [<-h.2.1]);rw [e2] at e;revert hq hS hw;refine W (J4 (Tg.mk (n:=10) (λ{A L K k}=>nM (A:=A) (L:=L) (K:=K) (k:=k) hd)) (Tg.mk (n:=10) (λ{A L K k}=>nM (A:=A) (L:=L) (K:=K) (k:=k) hp)) (VT pb) (CF b ⟨f.am,f.og,qg,f.Cu,f.next+1⟩ hn3)) (J5 h RG bC @bn.eq_1 @bh.v.eq_1) ?_<;>(unhygienic intros)
   all_goals(
    try rw [e]
    refine⟨_,by simp [AW.ab];rfl,by trivial,?_⟩;apply aj.bX
    (·exact sA)
    (·repeat' (first|apply bf.z|apply bf.s|apply aE.z|apply aE.s)))
 have hd:=λA hg=>oL b f A hg;have hp:=λA hg=>yI b f (iL M 6 f.next).eY A hg;rw [h.1] at hd;rw [h.2.2] at hp;revert hq hS hw;refine W (J3 (Tg.mk (n:=10) (λ{A L K k}=>nM (A:=A) (L:=L) (K:=K) (k:=k) hd)) (Tg.mk (n:=10) (λ{A L K k}=>nM (A:=A) (L:=L) (K:=K) (k:=k) hp)) (VT pb)) (J4 h bC @bn.eq_1 @bh.v.eq_1) ?_<;>(unhygienic intros)
 all_goals(
  try rw [e]
  refine⟨_,by simp [AW.ab];rfl,by trivial,?_⟩;apply aj.bX
  (·exact sA)
  (·repeat' (first|apply bf.z|apply bf.s|apply aE.z|apply aE.s)))
end
section
open Go.Proofs Go
variable [Gl]
def TH (l:List (Int×Int)):List qd:=l.flatMap λx=>[qb qa x.1,qb qa x.2]
def LmE (v:qd) (l:List (Int×Int)):HP:=dK 2 v l.length (TH l)
def lJ (v:qd) (l:List Nat):HP:=dK 1 v l.length (l.map pv)
theorem fL.recAt {A:AW} {o:Option Addr} {c n m size:Nat} {cs x:List qd} (h:fL A size (qf o n c) m cs) {i:Nat} (hi:i<m) (hx:(cs.drop (i*size)).take size=x) :
 ∃p bS,o=qc p/\A.bS p.block=qc bS/\p.off+i*size+size<=bS.length/\(bS.drop (p.off+i*size)).take size=x:=by
 rcases h with ⟨⟨o,h1⟩,h2,_⟩|⟨p,c,bS,own,u,h1,h2,h3,h4,h5,h6⟩;omega;injection h1 with h1 _ _;have h7:i*size+size<=m*size:=by
  have:=Nat.mul_le_mul_right size (show i+1<=m by omega);rwa [Nat.add_mul,Nat.one_mul] at this
 refine⟨p,bS,h1,AW.yc h3,by omega,?_⟩;rw [<-hx,h6,<-kaG,List.drop_take,List.take_take];congr 1;omega
theorem wC {α:Type} (f:α->List qd) (k:Nat) (hf:∀x,(f x).length=k):∀(l:List α) (i:Nat) (hi:i<l.length),((l.flatMap f).drop (i*k)).take k=f l[i]
 | [],i,hi=>by simp at hi
 | x::l,0,hi=>by
   simp only [ka1,Nat.zero_mul,List.drop_zero,List.getElem_cons_zero];rw [<-hf x,List.take_left'];rfl
 | x::l,i+1,hi=>by
   rw [ka1,Nat.add_mul,Nat.one_mul,Nat.add_comm,<-kaG,List.drop_left' (hf x)];exact wC f k hf l i YQ
theorem aj.entAt {A:AW} {L K:List It} {o:Option Addr} {n c:Nat} {l:List (Int×Int)} (hS:aj A L) (hp:aE L (.h (LmE (qf o n c) l)) K) {i:Nat} (hi:i<l.length) :
 ∃p bS,o=qc p/\A.bS p.block=qc bS/\p.off+i*2+2<=bS.length/\(bS.drop (p.off+i*2)).take 2=[qb qa l[i].1,qb qa l[i].2]:=
 fL.recAt (aj.lX hS hp) hi (wC _ 2 (λ_=>rfl) l i hi)
section
variable {S:AW->Prop} {K:Fr->AW->Prop} {fE:List BB} {a:Fr} {A:AW} {d:Option Tmp} {x y:Operand} {n:Nat} {v:qd} {L K':List It}
theorem lwEnt {l:List (Int×Int)} {y1 y2:Int} (e1:jt a x=v) (e2:jt a y=qf (qc ⟨n,0,qh⟩) 1 1) (hw:A.Wf) (hS:aj A L) (hp:aE L (.h (LmE v l)) K') (hn:A.bk n=qc (qi [qb qa y1,qb qa y2] qg 2)) (bW:l.length<2 ^ 30)
 (hs:∀A',aj A' K'->S A')
 (hk:∀o c A',aj A' (.h (LmE (qf o (l.length+1) c) (l++[(y1,y2)]))::K')->A'.Wf->A.next<=A'.next->aV qV S K fE (fk a d (qf o (l.length+1) c)) A') :
 aV qV S K (⟨d,.call ⟨.builtin .append,#[x,y],#[239,239]⟩,qh,3⟩::fE) a A:=by
 refine Co (P:=qV) (size:=2) (m:=l.length) (cs:=TH l) Tryz.underlying239 Tryz.info289 Tryz.zero289 rfl rfl Ya Yf e1 e2 hw hS hp hn rfl rfl bW hs λo c A' h1 h2 h3=>hk o c A' ?_ h2 h3;have e:LmE (qf o (l.length+1) c) (l++[(y1,y2)])=dK 2 (qf o (l.length+1) c) (l.length+1) (TH l++[qb qa y1,qb qa y2]):=by
  unfold LmE;rw [Zc,show TH (l++[(y1,y2)])=TH l++[qb qa y1,qb qa y2] by simp [TH]];rfl
 rw [e];exact h1
theorem lwPush {l:List Nat} {q:Nat} (e1:jt a x=v) (e2:jt a y=qf (qc ⟨n,0,qh⟩) 1 1) (hw:A.Wf) (hS:aj A L) (hp:aE L (.h (lJ v l)) K') (hn:A.bk n=qc (qi [pv q] qg 1)) (bW:l.length<2 ^ 30)
 (hs:∀A',aj A' K'->S A')
 (hk:∀o c A',aj A' (.h (lJ (qf o (l.length+1) c) (l++[q]))::K')->A'.Wf->A.next<=A'.next->aV qV S K fE (fk a d (qf o (l.length+1) c)) A') :
 aV qV S K (⟨d,.call ⟨.builtin .append,#[x,y],#[285,285]⟩,qh,3⟩::fE) a A:=by
 refine Co (P:=qV) (size:=1) (m:=l.length) (cs:=l.map pv) Tryz.underlying285 Tryz.info259 Tryz.zero259 rfl rfl Ya Yf e1 e2 hw hS hp hn rfl rfl bW hs λo c A' h1 h2 h3=>hk o c A' ?_ h2 h3;have e:lJ (qf o (l.length+1) c) (l++[q])=dK 1 (qf o (l.length+1) c) (l.length+1) (l.map pv++[pv q]):=by
  unfold lJ;rw [Zc,List.map_append];rfl
 rw [e];exact h1
end
def VR (c:aY) (v:qd):eh:=qi [qb qa c.bg,qb qa c.av,qb qa c.base,qb qa c.c0,qb qa c.c1,qb qa c.c2,qb qa c.c3,qb qa c.reads,qb qa c.bU,qb qa c.ar,qb qa c.aA,qb qa c.aC,qn c.bd,v] qg 1
def Tb (p:Nat) (c:aY) (l:List (Int×Int)) (v:qd):List It:=[.at p (VR c v),.h (LmE v l)]
def rN (p:Nat) (c:aY) (l:List (Int×Int)):HP:=td λv:qd=>aO (Tb p c l v)
def re (q:List (Nat×gs)):HP:=q.foldr (λx P=>pt x.1 (iR x.2)*P) fl
theorem Pk (q:List (Nat×gs)) (x:Nat×gs):re (q++[x])=pt x.1 (iR x.2)*re q:=by
 induction q with
 | nil=>rfl
 | cons y q ih=>
   show pt y.1 (iR y.2)*re (q++[x])=pt x.1 (iR x.2)*(pt y.1 (iR y.2)*re q);rw [ih]
   ac_rfl
theorem aj.pushH {A:AW} {L K:List It} {n:Nat} {p:gs} {q:List (Nat×gs)} (h:aj A L) (h1:aE L (.h (re ((n,p)::q))) K):aj A (.at n (iR p)::.h (re q)::K):=by
 unfold aj at h ⊢;rw [h1.aO] at h;exact h.dD (by show (pt n (iR p)*re q)*aO K=pt n (iR p)*(re q*aO K);ac_rfl)
theorem aj.pushB {A:AW} {L K K2:List It} {n:Nat} {p:gs} {q:List (Nat×gs)} (h:aj A L) (h1:aE L (.at n (iR p)) K) (h2:aE K (.h (re q)) K2):aj A (.h (re ((n,p)::q))::K2):=by
 unfold aj at h ⊢;rw [h1.aO,h2.aO] at h;exact h.dD (by show pt n (iR p)*(re q*aO K2)=(pt n (iR p)*re q)*aO K2;ac_rfl)
def drI (p:Nat) (x:qd×List (Nat×gs)):List It:=[.at p (qi [x.1] qg 1),.h (lJ x.1 (x.2.map Zq)),.h (re x.2)]
def C5 (p:Nat) (l:List gs):HP:=td λx:qd×{ q:List (Nat×gs) // q.map Z2=l }=>aO (drI p (x.1,x.2.1))
section
variable {A:AW} {L K:List It} {p:Nat}
theorem rN.open {c:aY} {l:List (Int×Int)} (h:aj A L) (hp:aE L (.h (rN p c l)) K):∃v,aj A (Tb p c l v++K):=kT h hp
theorem rN.dJ {c:aY} {l:List (Int×Int)} {v:qd} (h:aj A L) (e:bf L (Tb p c l v) K):aj A (.h (rN p c l)::K):=jp v h e
theorem C5.open {l:List gs} (h:aj A L) (hp:aE L (.h (C5 p l)) K):∃v q,q.map Z2=l/\aj A (drI p (v,q)++K):=by
 obtain⟨⟨v,q,hq⟩,h⟩:=kT h hp;exact⟨v,q,hq,h⟩
theorem C5.dJ {l:List gs} {v:qd} {q:List (Nat×gs)} (hq:q.map Z2=l) (h:aj A L) (e:bf L (drI p (v,q)) K):aj A (.h (C5 p l)::K):=jp (g:=λx:qd×{ q:List (Nat×gs) // q.map Z2=l }=>drI p (x.1,x.2.1)) (v,⟨q,hq⟩) h e
theorem C5.nil (h:aj A L) (h1:aE L (.at p (qi [qf qh 0 0] qg 1)) K):aj A (.h (C5 p [])::K):=by
 have h2:aj A (.at p (qi [qf qh 0 0] qg 1)::K):=by
  unfold aj at h ⊢;rw [h1.aO] at h;exact h
 have h3:aj A (.h fl::.at p (qi [qf qh 0 0] qg 1)::K):=aj.nF h2;have h4:aj A (.h (lJ (qf qh 0 0) [])::.h fl::.at p (qi [qf qh 0 0] qg 1)::K):=dK.nil h3;exact C5.dJ (v:=qf qh 0 0) (q:=[]) rfl h4 (.s (.s (.s .z)) (.s .z (.s .z .z)))
theorem C5.zM {K1 K2 K3:List It} {n:Nat} {v:qd} {q:List (Nat×gs)} {x:gs} {l:List gs} (hq:q.map Z2=l) (h:aj A L) (h1:aE L (.at p (qi [v] qg 1)) K) (h2:aE K (.h (lJ v (q.map Zq++[n]))) K1) (h3:aE K1 (.h (re q)) K2) (h4:aE K2 (.at n (iR x)) K3) :
 aj A (.h (C5 p (l++[x]))::K3):=by
 have h5:aj A (.h (re (q++[(n,x)]))::.at p (qi [v] qg 1)::.h (lJ v ((q++[(n,x)]).map Zq))::K3):=by
  unfold aj at h ⊢;rw [h1.aO,h2.aO,h3.aO,h4.aO] at h;show bB A (re (q++[(n,x)])*(pt p (qi [v] qg 1)*(lJ v ((q++[(n,x)]).map Zq)*aO K3)));rw [Pk,List.map_append];exact h.dD (by show pt p (qi [v] qg 1)*(lJ v (q.map Zq++[n])*(re q*(pt n (iR x)*aO K3)))=_;ac_rfl)
 exact C5.dJ (v:=v) (q:=q++[(n,x)]) Xj h5 (.s (.s .z) (.s (.s .z) (.s .z .z)))
theorem aj.ptrOpen {v:qd} {n:Nat} {ns:List Nat} (h:aj A L) (hp:aE L (.h (lJ v (n::ns))) K) :
 ∃b off c bS,v=qf (qc ⟨b,off,qh⟩) (ns.length+1) c/\ns.length+1<=c/\off+(ns.length+1)<=bS.length/\bS[off]? = qc (pv n)/\aj A (.at b (qi bS qg 1)::K)/\
  (∀(A':AW) (L' K':List It),aj A' L'->aE L' (.at b (qi bS qg 1)) K'->aj A' (.h (lJ (qf (qc ⟨b,off,qh⟩) (ns.length+1) c) (n::ns))::K')/\aj A' (.h (lJ (qf (qc ⟨b,off+1,qh⟩) ns.length (c-1)) ns)::K')):=by
 unfold aj at h;rw [hp.aO] at h;rcases dK.cases h with ⟨_,h0,_⟩|⟨b,off,c,bS,rfl,h1,h2,h3,h4⟩;simp at h0;simp only [List.length_cons,Nat.mul_one] at h1 h2 h3;have RV:=h3;rw [List.drop_eq_getElem_cons Ya,ZY,List.take_succ_cons] at RV;obtain⟨h5,h6⟩:=List.cons.inj RV;refine⟨b,off,c,bS,by simp,h1,h2,?_,h4,λA' L' K' hS hq=>?_⟩;rw [List.getElem?_eq_getElem Ya,<-h5];unfold aj at hS;rw [hq.aO] at hS;refine⟨dK.mk YC Yu (by simpa using h3) hS,?_⟩;exact dK.mk Ya Ya (by simpa using h6) hS
theorem aj.nilE (h:aj A L):aj A (.h (LmE (qf qh 0 0) [])::L):=dK.nil h
end
end
section
abbrev zt:List (Nat×Nat):=[(0,0),(1,0),(2,0),(3,0),(4,0),(5,0),(6,0),(7,0),(8,0),(9,0),(10,0),(12,0),(13,0),(11,2),(14,2),(15,2),(16,3),(17,0),(18,0),(19,3)]
open T26
variable [Gl]
theorem EB (c:aY) (l:List (Int×Int)) (oX:Int) (bs:List Int) (b:Int):oQ c l oX (bs++[b])=if 0<=dN c b then oQ c l oX bs++[(b,oX)] else oQ c l oX bs:=by
 unfold oQ;rw [kbh];by_cases h:0<=dN c b;simp [h];simp [h]
theorem Q0 (c:aY) (l:List (Int×Int)) (oX:Int) (bs:List Int):(oQ c l oX bs).length<=l.length+bs.length:=by
 unfold oQ;have:=kaB (λb=>decide (0<=dN c b)) bs;rw [Zc,Zs];omega
theorem NB (p:Nat) (c:aY) (rH:da c) (l:List (Int×Int)) (oX:Int) (vb:qd) (bs:List Int) (hb:∀b∈bs,b<2^62) (hl:l.length<2^28) (Qe:bs.length<2^28) :
 bx qV 238 [pv p,qb qa oX,vb] [.h (rN p c l),.h (au qa vb bs)] (λ_=>True) (λ_=>[.h (rN p c (oQ c l oX bs)),.h (au qa vb bs)]):=by
 intro A F hw hS;refine aK Tryz.func238 λ_=>?_;obtain⟨v0,hS⟩:=rN.open hS .z;dsimp only [Tb,aa,ah] at hS;have hI:=aj.tC hS (.s (.s .z));obtain⟨ob,cb,rfl,_⟩:=hI.bR;have hq:=Cv hS hw;revert hq hS hw;clear hS;refine W cx (J1 bC) ?_<;>(unhygienic intros)
 refine df (λk fr A'=>A'.Wf/\∃(i:Nat),k=bs.length-i/\i<=bs.length/\fr 0=pv p/\fr 1=qb qa oX/\fr 10=qf ob bs.length cb/\fr 11=qb qa bs.length/\fr 12=qb qa i/\
  aj A' [.h (rN p c (oQ c l oX (bs.take i))),.h (au qa (qf ob bs.length cb) bs),.h F]) bs.length ?_ ?_
 refine⟨hw,0,by simp,by simp,by simp,by simp,by simp,by simp,by simp,?_⟩;have e:oQ c l oX (bs.take 0)=l:=by simp [oQ]
 rw [e];exact rN.dJ (v:=v0) hS (.s .z (.s .z .z));clear hq hI hS hw;rintro k fr A' ⟨hw,i,rfl,hi,h0,h1,Qi,H4,JR,hS⟩;obtain⟨v,hS⟩:=rN.open hS .z;dsimp only [Tb,aa,ah] at hS;have hI:=aj.tC hS (.s (.s .z));have rj:=Q0 c l oX (bs.take i);have htl:(bs.take i).length<=bs.length:=by simp;omega
 have hq:=Cv hS hw;refine aT ?_;by_cases bY:i<bs.length
 . have fo:(i:Int)<bs.length:=Ya;have gC:=zd (i:=i);obtain⟨pp,bS,rfl,bO,hcell⟩:=hI.at bY;have xP:bs.take (i+1)=bs.take i++[bs[i]]:=kav bY;have lh:=xd c rH bs[i] (hb _ (ZR bY));dsimp only [aY.v] at lh;by_cases h:0<=dN c bs[i]
   . repeat' (first|(with_reducible apply lwEnt;(·(simp;rfl));(·(simp;rfl));(·exact wA);(·exact sA);(·exact kA);(·exact AW.bN _ _);(·omega);(·intro _ _;trivial);rintro _ _ _ hS hw _;have hq:=Cv hS hw)|(refine iT λR hR=>?_;simp [h0,h1,Qi,H4,JR,hq,bO,hcell,h,fo,gC,AW.ab,aG];try simp (disch:=omega) only [ay,aw,af,an])|(refine hR _ _ ?_;clear hR R)|(refine hK _ _ ?_;clear hK K)|refine nx ?_|refine wn λK hK=>?_|simp only [wS]|(refine bD (lh _) ?_;rintro _ _ ⟨rfl,rfl⟩ _ _)|(show cM _ _ _ _ _ _;refine nx ?_)|(refine wc rfl (λhc=>?_) (λhc=>?_)<;>(try simp at hc)))
     refine⟨bs.length-(i+1),by omega,?_,i+1,rfl,by omega,by simp [h0],by simp [h1],by simp [Qi],by simp [H4],by simp,?_⟩
     exact hw.set _ (hw.lt (hS.g 2 rfl))
     rw [xP,EB,ay h];apply aj.bX;apply rN.dJ
     (·exact sA)
     (·exact pA)
     (·exact pA)
   revert hq hS hw;(repeat first|clear hS|revert hc);refine W (J1 @lh) (vZ h0 h1 Qi H4 JR bO hcell h bY fo gC bC) ?_<;>(unhygienic intros);refine⟨bs.length-(i+1),by omega,hw,i+1,rfl,by omega,by simp [h0],by simp [h1],by simp [Qi],by simp [H4],by simp,?_⟩;rw [xP,EB,aw h];apply aj.bX;apply rN.dJ
   (·exact sA)
   (·exact pA)
   (·exact pA)
 have Lu:i=bs.length:=Ya
 subst Lu;rw [List.take_length] at hS;revert hq hS hw;(repeat first|clear hS|revert hc);refine W cx (J6 h0 h1 Qi H4 JR bC) ?_<;>(unhygienic intros);refine⟨_,by rfl,trivial,?_⟩;exact rN.dJ (v:=v) hS (.s .z (.s .z .z))
theorem BS (l:List (Int×Int)) (pn:Int) (x:Int×Int):lm (l++[x]) pn=if pn<x.2 then lm l pn++[x] else lm l pn:=by
 unfold lm;rw [kbh];by_cases h:pn<x.2<;>simp [h]
theorem BY (c:aY) (l:List (Int×Int)) (pn:Int) (x:Int×Int):nv c (l++[x]) pn=if pn<x.2 then nv c l pn else nv c l pn++[⟨dN c x.1,x.1,0,0⟩]:=by
 unfold nv;rw [kbh];by_cases h:pn<x.2<;>simp [h]
theorem Ar (p:Nat) (c:aY) (rH:da c) (l:List (Int×Int)) (pn:Int) (hb:∀x∈l,x.1<2^62) (hl:l.length<2^28) :
 eI qV 114 [pv p,qb qa pn] [.h (rN p c l)] (λdp v=>v=pv dp) (λdp=>[.h (rN p c (lm l pn)),.h (C5 dp (nv c l pn))]):=by
 intro A F hw hS;refine aK Tryz.func114 λ_=>?_;obtain⟨v0,hS⟩:=rN.open hS .z;dsimp only [Tb,aa,ah] at hS;have hI:=aj.lX hS (.s .z);obtain⟨ob,cb,rfl,_⟩:=hI.bR;have hq:=Cv hS hw;revert hq hS hw;clear hS;refine W (J1 (od zt)) (J1 bC) ?_<;>(unhygienic intros)
 refine df (λk fr A'=>A'.Wf/\∃(i:Nat),k=l.length-i/\i<=l.length/\fr 0=pv p/\fr 1=qb qa pn/\fr 5=pv A.next/\fr 17=qf ob l.length cb/\fr 18=qb qa l.length/\fr 19=qb qa i/\
  aj A' [.h (LmE (fr 6) (lm (l.take i) pn)),.h (C5 A.next (nv c (l.take i) pn)),.at p (VR c (qf ob l.length cb)),.h (LmE (qf ob l.length cb) l),.h F]) l.length ?_ ?_
 have h1:=hS.alloc hw (qi [qf qh 0 0] qg 1);have h2:=aj.nilE (C5.nil h1 .z);refine⟨hw.alloc _,0,by simp,by simp,by simp,by simp,by simp,by simp,by simp,by simp,?_⟩;exact h2;clear hq hI hS;rintro k fr A' ⟨jN,i,rfl,hi,h0,h1,h5,h17,h18,h19,hS⟩;obtain⟨vl,q,Uk,hS⟩:=C5.open hS (.s .z);dsimp only [drI,aa,ah] at hS;have rj:(lm (l.take i) pn).length<=l.length:=by
  have e1:=kaB (λx:Int×Int=>decide (pn<x.2)) (l.take i);have e2:(l.take i).length<=l.length:=by simp;omega
  unfold lm;omega
 have hal2:(q.map Zq).length<=l.length:=by
  have e0:q.length=(nv c (l.take i) pn).length:=by rw [<-Uk,Zs]
  have e1:=kaB (λx:Int×Int=>!decide (pn<x.2)) (l.take i);have e2:(l.take i).length<=l.length:=by simp;omega
  unfold nv at e0;rw [Zs] at e0 ⊢;omega
 replace hw:=jN;refine aT ?_;by_cases bY:i<l.length
 . have fo:(i:Int)<l.length:=Ya;have gC:=zd (i:=i);obtain⟨pp,bS,rfl,bO,fA,hcell⟩:=aj.entAt hS (.s (.s (.s (.s (.s .z))))) bY;have xP:l.take (i+1)=l.take i++[l[i]]:=kav bY;have lh:=xd c rH l[i].1 (hb _ (ZR bY));dsimp only [aY.v] at lh;have hq:=Cv hS hw;by_cases h:pn<l[i].2
   . repeat' (first|(with_reducible apply lwEnt;(·(simp;rfl));(·(simp;rfl));(·exact wA);(·exact sA);(·exact kA);(·(simp;(repeat' (first|rfl|refine⟨rfl,?_⟩));done));(·omega);(·intro _ _;trivial);rintro _ _ _ hS hw _;have hq:=Cv hS hw)|(refine iT λR hR=>?_;simp [h1,h17,h18,h19,bO,fA,hcell,h,fo,gC,AW.ab,aG];try simp (disch:=omega) only [ay,aw,af,an])|(refine hR _ _ ?_;clear hR R)|(refine hK _ _ ?_;clear hK K)|refine nx ?_|refine wn λK hK=>?_|simp only [wS]|(show cM _ _ _ _ _ _;refine nx ?_)|(refine wc rfl (λhc=>?_) (λhc=>?_)<;>(try simp at hc)))
     refine⟨l.length-(i+1),by omega,hw,i+1,rfl,by omega,by simp [h0],by simp [h1],by simp [h5],by simp [h17],by simp [h18],by simp,?_⟩;rw [xP,BS,ay h,BY,ay h];simp;apply aj.bX;apply C5.dJ Uk
     (·exact sA)
     (·exact pA)
     (·exact pA)
   . repeat' (first|(with_reducible apply lwPush;(·(simp;rfl));(·(simp;rfl));(·exact wA);(·exact sA);(·exact kA);(·(simp;(repeat' (rfl));done));(·omega);(·intro _ _;trivial);rintro _ _ _ hS hw _;have hq:=Cv hS hw)|(refine iT λR hR=>?_;simp [h0,h1,h5,h17,h18,h19,hq,bO,fA,hcell,h,fo,gC,AW.ab,aG];try simp (disch:=omega) only [ay,aw,af,an])|(refine hR _ _ ?_;clear hR R)|(refine hK _ _ ?_;clear hK K)|refine nx ?_|refine wn λK hK=>?_|simp only [wS,zt]|refine wl Tryz.mx zt Yc λK hK=>?_|(refine bD (lh _) ?_;rintro _ _ ⟨rfl,rfl⟩ _ _)|(refine bD (Cl _ _ _) ?_;rintro _ _ ⟨rfl,rfl⟩ _ _)|(show cM _ _ _ _ _ _;refine nx ?_)|(refine wc rfl (λhc=>?_) (λhc=>?_)<;>(try simp at hc)))
     simp only [Zs] at hS;refine⟨l.length-(i+1),by omega,?_,i+1,rfl,by omega,by simp [h0],by simp [h1],by simp [h5],by simp [h17],by simp [h18],by simp,?_⟩;exact wA;rw [xP,BS,aw h,BY,aw h];simp;apply aj.bX;apply C5.zM Uk
     (·exact sA)
     (·exact kA)
     (·exact kA)
     (·exact kA)
     (·exact kA)
     (·exact pA)
 have Lu:i=l.length:=Ya
 subst Lu;rw [List.take_length] at hS Uk;obtain⟨o6,c6,h6,_⟩:=(aj.lX hS (.s (.s (.s .z)))).bR;rw [h6] at hS;have hq:=Cv hS hw;revert hq hS hw;(repeat first|clear hS|revert hc);refine W (J1 (od zt)) (J8 h0 h1 h5 h6 h17 h18 h19 bC) ?_<;>(unhygienic intros);refine⟨_,by rfl,?_⟩;apply Ay
 (·rfl)
 apply aj.bX;apply rN.dJ;apply C5.dJ Uk
 (·exact sA)
 (·exact pA)
 (·exact pA)
 (·exact pA)
theorem R2 (p:Nat) (o:Option Addr) (n c:Nat) (A:AW) (hg:A.bk p=qc (qi [qf o n c] qg 1)):fD 118 [pv p] A (qn (decide (n=0))):=by
 refine aK Tryz.func118 λ_=>?_;refine W cx (J2 hg @AW.ab) ?_<;>intros;exact⟨_,by rfl,by simp,rfl⟩
theorem Oi (p:Nat) (l:List gs):bx qV 118 [pv p] [.h (C5 p l)] (λv=>v=qn (decide (l.length=0))) (λ_=>[.h (C5 p l)]):=by
 intro A F hw hS;obtain⟨vl,q,Uk,hS⟩:=C5.open hS .z;dsimp only [drI,aa,ah] at hS;obtain⟨o,c,rfl,_⟩:=(aj.lX hS (.s .z)).bR;have hln:q.length=l.length:=by rw [<-Uk,Zs]
 refine(R2 p o _ c A (hS.g 0 rfl)).mono ?_;rintro _ _ ⟨rfl,rfl⟩;exact⟨by simp [hln],C5.dJ Uk hS (.s .z (.s .z (.s .z .z)))⟩
theorem Oh (p pb:Nat) (x:gs) (l:List gs) (M:Mm) (hl:l.length<2^29) :
 bx qV 116 [pv p,pv pb] [.h (C5 p (x::l)),ei pb M] (λv=>v=(Br (x::l) M).1.v) (λ_=>[.h (C5 p (Br (x::l) M).2.1),ei pb (Br (x::l) M).2.2]):=by
 intro A F hw dU;refine aK Tryz.func116 λ_=>?_;dsimp only [aa,ah] at dU;obtain⟨vl,q,Uk,hS⟩:=C5.open dU .z;clear dU;dsimp only [drI,aa,ah] at hS;cases q with
 | nil=>cases Uk
 | cons y q=>
   obtain⟨n,x'⟩:=y;obtain⟨h1,hqn⟩:=List.cons.inj Uk;clear Uk;dsimp only at h1;subst h1;rw [ZY] at hS;dsimp only at hS;have js:=aj.pushH hS (.s (.s .z));clear hS;obtain⟨bb,off,c,bS,rfl,JP,yx,bO,hS,lh⟩:=aj.ptrOpen js (.s (.s (.s .z)));clear js;have hd:=λA hg=>R2 p (qc ⟨bb,off,qh⟩) ((q.map Zq).length+1) c A hg;rw [decide_eq_false Ya] at hd;have hlq:(q.map Zq).length=l.length:=(by rw [<-hqn,Zs,Zs]);rw [hlq] at hS hd lh JP yx;have hc3:off<bS.length:=Ya;have e1:(1:Int)<=(l.length:Int)+1:=Ya;have e0:(0:Int)<(l.length:Int)+1:=Ya;have hpd:=λA hg=>An n (dR x' M).2.1 A hg;have hcl1:=λA' L' K' h1 h2=>(lh A' L' K' h1 h2).1;have hcl2:=λA' L' K' h1 h2=>(lh A' L' K' h1 h2).2;unfold Br;have hq:=Cv hS hw;by_cases h:(dR x' M).2.1.cr=3
   . rw [decide_eq_true h] at hpd;revert hq hS hw;refine W (J3 (Tg.mk (n:=10) (λ{A L K k}=>nM (A:=A) (L:=L) (K:=K) (k:=k) hd)) (Tg.mk (n:=10) (λ{A L K k}=>nM (A:=A) (L:=L) (K:=K) (k:=k) hpd)) (uC n pb x' M)) (J9 bO JP e1 e0 @Bx.eq_1 @fC.eq_1 bC @bn.eq_1 @bh.v.eq_1) ?_<;>(unhygienic intros);refine⟨_,by (simp [AW.ab];rfl),by rfl,?_⟩;rw [ay h];apply aj.bX;apply C5.dJ hqn;apply hcl2
     (·exact sA)
     (·exact kA)
     dsimp only [drI]
     (·exact pA)
     (·exact pA)
   rw [decide_eq_false h] at hpd;revert hq hS hw;refine W (J3 (Tg.mk (n:=10) (λ{A L K k}=>nM (A:=A) (L:=L) (K:=K) (k:=k) hd)) (Tg.mk (n:=10) (λ{A L K k}=>nM (A:=A) (L:=L) (K:=K) (k:=k) hpd)) (uC n pb x' M)) (J9 bO JP e1 e0 @Bx.eq_1 @fC.eq_1 bC @bn.eq_1 @bh.v.eq_1) ?_<;>(unhygienic intros);refine⟨_,by (simp [AW.ab];rfl),by rfl,?_⟩;rw [aw h];apply aj.bX;apply C5.dJ (q:=(n,(dR x' M).2.1)::q) (by rw [ZY,hqn]);apply aj.pushB (n:=n) (p:=(dR x' M).2.1) (q:=q);apply hcl1
   (·exact sA)
   (·exact kA)
   (·exact kA)
   (·exact kA)
   dsimp only [drI,ZY]
   (·exact pA)
   (·exact pA)
end
section
abbrev oD:List (Nat×Nat):=[(0,0),(1,0),(2,0),(3,0),(4,0),(5,0),(6,0),(7,0),(8,3)]
abbrev oC:List (Nat×Nat):=[(0,0),(1,0),(2,0),(3,0),(4,0),(5,0),(6,0),(7,0),(8,0),(9,0),(10,0),(11,3)]
abbrev oB:List (Nat×Nat):=[(0,0),(1,0),(2,0),(3,0),(4,0),(5,0),(6,0),(7,0),(8,0),(9,0),(10,0),(11,0),(12,0),(13,0),(14,0),(15,0),(16,0),(21,0),(17,2),(18,0),(19,0),(20,0),(22,0),(23,3)]
abbrev oA:List (Nat×Nat):=[(0,0),(1,0),(2,0),(3,0),(4,0),(5,0),(6,0)]
open T7
variable [Gl]
theorem PV {i:bq} (h:cW i=0) (ho:i.op=4\/i.op=5\/i.op=6):0<=i.cy/\i.cy<=64:=by
 unfold cW at h;split at h;cases h;split at h;rename_i h1;simp only [Bool.and_eq_true,fG] at h1;obtain⟨_,h5⟩:=h1;rw [aw Ya,aw Ya,ay ho] at h5
 simpa using h5
 cases h
class AF where
 ok:Int->Prop
section
variable [AF]
def HJ (fn:Int):Prop:=AF.ok fn
def xN (ez:Int->Int->Int->Int):Prop:=∀fn x y:Int,HJ fn->∀A,fD 189 [qb qa fn,qb qj x,qb qj y] A (.tuple #[qb qj (ez fn x y),qb qa 0])
def DY (l:List bq):Prop:=∀i∈l,i.op=3->HJ i.cy
theorem apE {ez:Int->Int->Int->Int} (hA:xN ez) (fn x y:Int) (h:HJ fn) {A:AW} {k:qd->AW->Prop} (hk:k (.tuple #[qb qj (ez fn x y),qb qa 0]) A):aB qV 189 [qb qa fn,qb qj x,qb qj y] A k:=by
 refine bD (hA fn x y h A) ?_;rintro _ _ ⟨rfl,rfl⟩ _ _;exact hk
theorem GC {ez:Int->Int->Int->Int} (hA:xN ez) (b:Nat) (t:aU) (va vs vf vd vl vo:qd) (o:Option Addr) (cc:Nat) (i:bq) (nq:(0<=i.op/\i.op<=6)\/i.op=17) (hi:cW i=0) (rj:i.op=3->HJ i.cy) (lp:0<=t.pc/\t.pc<2^40) :
 bx qV 134 [pv b,k8 i] [.at b (uX t.d ⟨va,vs,vf,vd,qf o t.aD.length cc,vl,vo⟩)] (λ_=>True) (λ_=>[.at b (uX (t.je ez i).d ⟨va,vs,vf,vd,qf o t.aD.length cc,vl,vo⟩)]):=by
 obtain⟨r1,r2,r3,_⟩:=ox hi;have iZ:qY.wrap (t.d.pc+1)=t.d.pc+1:=af (by show -9223372036854775808<=t.pc+1;omega) (by show t.pc+1<=9223372036854775807;omega);have ho:i.op=0\/i.op=1\/i.op=2\/i.op=3\/i.op=4\/i.op=5\/i.op=6\/i.op=17:=Ya
 have hto:=fun(d:xK) pc=>AO b d va vs vf vd vl vo o t.aD.length cc pc;unfold k8;rcases ho with h|h|h|h|h|h|h|h
 . have e:t.je ez i=t.to (t.pc+1):=by
    unfold aU.je;rw [aw Ya,aw Ya,aw Ya,aw Ya,aw Ya,kaH]
   rw [e];intro A F hw hS;refine aK kax λ_=>?_;dsimp only [aa,ah] at hS;have hq:=gh hS hw;revert hq hS hw;refine W (J5 (od oD) (od oC) (od oB) (od oA) (hto t.d (t.d.pc+1))) (J3 h iZ bC) ?_<;>(unhygienic intros);refine⟨_,by rfl,by trivial,?_⟩;apply aj.bX
   (·exact sA)
   (·exact pA)
 . have ha:=r1 Ys;have Fg:=λx=>AP (d:=t.d) (w:=⟨va,vs,vf,vd,qf o t.aD.length cc,vl,vo⟩) (x:=x) ha;have e:t.je ez i=(t.gX i.a (q8.wrap i.cy)).to (t.pc+1):=by
    unfold aU.je;rw [ay h,aw Ya,kaH]
   rw [e];intro A F hw hS;refine aK kax λ_=>?_;dsimp only [aa,ah] at hS;have hq:=gh hS hw;revert hq hS hw;refine W (J5 (od oD) (od oC) (od oB) (od oA) (hto { t.d with dX:=t.d.dX.set i.a (q8.wrap i.cy) } (t.d.pc+1))) (J6 h iZ Fg ha.1 ha.2 bC) ?_<;>(unhygienic intros);refine⟨_,by rfl,by trivial,?_⟩;apply aj.bX
   (·exact sA)
   (·exact pA)
 . have ha:=r1 Ys;have hb:=r2 Ys;have Fg:=λx=>AP (d:=t.d) (w:=⟨va,vs,vf,vd,qf o t.aD.length cc,vl,vo⟩) (x:=x) ha;have zY:=sR (d:=t.d) (w:=⟨va,vs,vf,vd,qf o t.aD.length cc,vl,vo⟩) hb;have e:t.je ez i=(t.gX i.a (t.dX.bk i.b)).to (t.pc+1):=by
    unfold aU.je;rw [aw Ya,ay h,aw Ya,kaH]
   rw [e];intro A F hw hS;refine aK kax λ_=>?_;dsimp only [aa,ah] at hS;have hq:=gh hS hw;revert hq hS hw;refine W (J5 (od oD) (od oC) (od oB) (od oA) (hto { t.d with dX:=t.d.dX.set i.a (t.d.dX.bk i.b) } (t.d.pc+1))) (J9 h iZ Fg zY ha.1 ha.2 hb.1 hb.2 bC) ?_<;>(unhygienic intros);refine⟨_,by rfl,by trivial,?_⟩;apply aj.bX
   (·exact sA)
   (·exact pA)
 . have ha:=r1 Ys;have hb:=r2 Ys;have hcc:=r3 Ys;have Fg:=λx=>AP (d:=t.d) (w:=⟨va,vs,vf,vd,qf o t.aD.length cc,vl,vo⟩) (x:=x) ha;have zY:=sR (d:=t.d) (w:=⟨va,vs,vf,vd,qf o t.aD.length cc,vl,vo⟩) hb;have hgr2:=sR (d:=t.d) (w:=⟨va,vs,vf,vd,qf o t.aD.length cc,vl,vo⟩) hcc;have e:t.je ez i=(t.gX i.a (ez i.cy (t.dX.bk i.b) (t.dX.bk i.c))).to (t.pc+1):=by
    unfold aU.je;rw [aw Ya,aw Ya,ay h,aw Ya,kaH]
   have hap:=rj h;rw [e];intro A F hw hS;refine aK kax λ_=>?_;dsimp only [aa,ah] at hS;have hq:=gh hS hw
   repeat' (first|(refine iT λR hR=>?_;simp [hq,h,iZ,Fg,zY,hgr2,ha.1,ha.2,hb.1,hb.2,hcc.1,hcc.2,AW.ab,aG];try simp (disch:=omega) only [ay])|(refine hR _ _ ?_;clear hR R)|(refine hK _ _ ?_;clear hK K)|refine nx ?_|refine wn λK hK=>?_|simp only [wS,oB]|refine wl Tryz.mx oB Yc λK hK=>?_|(refine apE hA _ _ _ hap ?_)|(apply bx.fM (hto { t.d with dX:=t.d.dX.set i.a (ez i.cy (t.d.dX.bk i.b) (t.d.dX.bk i.c)) } (t.d.pc+1));(·exact wA);(·exact sA);(·exact pA);rintro _ _ _ hS hw _;have hS:=lA hS;have hq:=gh hS hw)|(show cM _ _ _ _ _ _;refine nx ?_)|(refine wc rfl (λhc=>?_) (λhc=>?_)<;>(try simp at hc)))
   refine⟨_,by rfl,by trivial,?_⟩;apply aj.bX
   (·exact sA)
   (·exact pA)
 . have him:=PV hi (.inl h);have jE:qY.wrap (t.d.pc+1+i.cy)=t.d.pc+1+i.cy:=af Xk Xl;have e:t.je ez i=t.to (t.pc+1+i.cy):=by
    unfold aU.je;rw [aw Ya,aw Ya,aw Ya,aw Ya,ay (.inl h)]
   rw [e];intro A F hw hS;refine aK kax λ_=>?_;dsimp only [aa,ah] at hS;have hq:=gh hS hw;revert hq hS hw;refine W (J5 (od oD) (od oC) (od oB) (od oA) (hto t.d (t.d.pc+1+i.cy))) (J4 h iZ jE bC) ?_<;>(unhygienic intros);refine⟨_,by rfl,by trivial,?_⟩;apply aj.bX
   (·exact sA)
   (·exact pA)
 . have ha:=r1 Ys;have zY:=sR (d:=t.d) (w:=⟨va,vs,vf,vd,qf o t.aD.length cc,vl,vo⟩) ha;have him:=PV hi (qt (.inl h));have jE:qY.wrap (t.d.pc+1+i.cy)=t.d.pc+1+i.cy:=af Xk Xl;by_cases hz:t.d.dX.bk i.a=0
   . have e:t.je ez i=t.to (t.pc+1+i.cy):=by
      unfold aU.je;rw [aw Ya,aw Ya,aw Ya,aw Ya,ay (qt (.inl ⟨h,hz⟩))]
     rw [e];intro A F hw hS;refine aK kax λ_=>?_;dsimp only [aa,ah] at hS;have hq:=gh hS hw;revert hq hS hw;refine W (J5 (od oD) (od oC) (od oB) (od oA) (hto t.d (t.d.pc+1+i.cy))) (J8 h iZ jE zY hz ha.1 ha.2 bC) ?_<;>(unhygienic intros);refine⟨_,by rfl,by trivial,?_⟩;apply aj.bX
     (·exact sA)
     (·exact pA)
   have rA:¬t.dX.bk i.a=0:=hz;have e:t.je ez i=t.to (t.pc+1):=by
    unfold aU.je;rw [aw Ya,aw Ya,aw Ya,aw Ya,aw (λhh=>by rcases hh with hh|⟨_,hh⟩|⟨hh,_⟩<;>first|exact rA hh|omega),kaH]
   rw [e];intro A F hw hS;refine aK kax λ_=>?_;dsimp only [aa,ah] at hS;have hq:=gh hS hw;revert hq hS hw;refine W (J5 (od oD) (od oC) (od oB) (od oA) (hto t.d (t.d.pc+1))) (J7 h iZ zY hz ha.1 ha.2 bC) ?_<;>(unhygienic intros);refine⟨_,by rfl,by trivial,?_⟩;apply aj.bX
   (·exact sA)
   (·exact pA)
 . have ha:=r1 Ys;have zY:=sR (d:=t.d) (w:=⟨va,vs,vf,vd,qf o t.aD.length cc,vl,vo⟩) ha;have him:=PV hi (qt (qt h));have jE:qY.wrap (t.d.pc+1+i.cy)=t.d.pc+1+i.cy:=af Xk Xl;by_cases hz:t.d.dX.bk i.a=0
   . have rA:t.dX.bk i.a=0:=hz;have e:t.je ez i=t.to (t.pc+1):=by
      unfold aU.je;rw [aw Ya,aw Ya,aw Ya,aw Ya,aw (λhh=>by rcases hh with hh|⟨hh,_⟩|⟨_,hh⟩<;>first|exact hh rA|omega),kaH]
     rw [e];intro A F hw hS;refine aK kax λ_=>?_;dsimp only [aa,ah] at hS;have hq:=gh hS hw;revert hq hS hw;refine W (J5 (od oD) (od oC) (od oB) (od oA) (hto t.d (t.d.pc+1))) (J7 h iZ zY hz ha.1 ha.2 bC) ?_<;>(unhygienic intros);refine⟨_,by rfl,by trivial,?_⟩;apply aj.bX
     (·exact sA)
     (·exact pA)
   have rA:t.dX.bk i.a≠0:=hz;have e:t.je ez i=t.to (t.pc+1+i.cy):=by
    unfold aU.je;rw [aw Ya,aw Ya,aw Ya,aw Ya,ay (qt (qt ⟨h,rA⟩))]
   rw [e];intro A F hw hS;refine aK kax λ_=>?_;dsimp only [aa,ah] at hS;have hq:=gh hS hw;revert hq hS hw;refine W (J5 (od oD) (od oC) (od oB) (od oA) (hto t.d (t.d.pc+1+i.cy))) (J8 h iZ jE zY hz ha.1 ha.2 bC) ?_<;>(unhygienic intros);refine⟨_,by rfl,by trivial,?_⟩;apply aj.bX
   (·exact sA)
   (·exact pA)
 have ha:=r1 Ys;have Fg:=λx=>AP (d:=t.d) (w:=⟨va,vs,vf,vd,qf o t.aD.length cc,vl,vo⟩) (x:=x) ha;have e:t.je ez i=(t.gX i.a (q8.wrap t.lW)).to (t.pc+1):=by
  unfold aU.je;rw [aw Ya,aw Ya,aw Ya,ay h,aw Ya,kaH]
 rw [e];intro A F hw hS;refine aK kax λ_=>?_;dsimp only [aa,ah] at hS;have hq:=gh hS hw;revert hq hS hw;refine W (J5 (od oD) (od oC) (od oB) (od oA) (hto { t.d with dX:=t.d.dX.set i.a (q8.wrap t.d.lW) } (t.d.pc+1))) (J6 h iZ Fg ha.1 ha.2 bC) ?_<;>(unhygienic intros);refine⟨_,by rfl,by trivial,?_⟩;apply aj.bX
 (·exact sA)
 (·exact pA)
end
structure ThF where
 di:Nat
 fe:Nat
 ly:Nat
 fK:Nat
 vs:Value
 vo:Value
def gM:Option aI->Nat->qd|none,_=>qm qh|some _,n=>pv n
def gJ:Option ko->Nat->qd|none,_=>qm qh|some _,n=>pv n
def mG:Option (List gs)->Nat->qd|none,_=>qm qh|some _,n=>pv n
def eG:Option aI->Nat->HP|none,_=>fl|some s,n=>bp n s
def eF:Option ko->Nat->HP|none,_=>fl|some f,n=>pt n (vM f)
def gO:Option (List gs)->Nat->HP|none,_=>fl|some l,n=>C5 n l
structure pI where
 bb:Nat
 off:Nat
 eV:Nat
 bS:List Value
abbrev pI.o (k:pI):eh:=qi k.bS qg 5
structure CR (k:pI) (l:List bq):Prop where
 len:l.length<=k.eV
 le:k.off+l.length*5<=k.bS.length
 eq:l.flatMap az=(k.bS.drop k.off).take (l.length*5)
theorem CR.is {k:pI} {l:List bq} (h:CR k l) {A:AW} (hg:A.bk k.bb=qc k.o):li A (qf (qc ⟨k.bb,k.off,qh⟩) l.length k.eV) l:=
 qt ⟨⟨k.bb,k.off,qh⟩,k.eV,k.bS,qg,5,rfl,h.len,hg,rfl,h.le,h.eq⟩
theorem CR.at {k:pI} {l:List bq} (h:CR k l) {i:Nat} (hi:i<l.length):k.off+i*5+5<=k.bS.length/\(k.bS.drop (k.off+i*5)).take 5=az l[i]:=by
 have h1:=h.le;refine⟨by omega,?_⟩;rw [<-GJ l i hi,h.eq,<-kaG,List.drop_take,List.take_take];congr 1;omega
theorem W1 {A:AW} {L K:List It} {v:qd} {l:List bq} (h:aj A L) (hp:aE L (.h (Ke v l)) K) (hl:0<l.length) :
 ∃k,v=qf (qc ⟨k.bb,k.off,qh⟩) l.length k.eV/\CR k l/\aj A (.at k.bb k.o::K):=by
 unfold aj at h;rw [hp.aO] at h;rcases dK.cases h with ⟨_,h0,_⟩|⟨b,off,c,bS,rfl,h1,h2,h3,h4⟩;omega;exact⟨⟨b,off,c,bS⟩,rfl,⟨h1,h2,h3⟩,h4⟩
theorem TN {k:pI} {l:List bq} (hR:CR k l) {A:AW} {L K:List It} (h:aj A L) (hp:aE L (.at k.bb k.o) K):aj A (.h (Ke (qf (qc ⟨k.bb,k.off,qh⟩) l.length k.eV) l)::K):=by
 unfold aj at h;rw [hp.aO] at h;exact dK.mk hR.len hR.le hR.eq h
def jP (q:pI) (b:Nat) (t:aU) (f:ThF):List It:=[.at b (uX t.d ⟨gM t.fR f.di,f.vs,gJ t.ee f.fe,mG t.dY f.ly,qf (qc ⟨q.bb,q.off,qh⟩) t.aD.length q.eV,pv f.fK,f.vo⟩),.h (eG t.fR f.di),.h (jA f.vs t.dM),.h (eF t.ee f.fe),.h (gO t.dY f.ly),
 .at q.bb q.o,.h (rN f.fK t.cf t.ii),.h (jA f.vo t.io)]
def ik (q:pI) (b:Nat) (t:aU):HP:=td λf:ThF=>aO (jP q b t f)
theorem ik.open {A:AW} {L K:List It} {q:pI} {b:Nat} {t:aU} (h:aj A L) (hp:aE L (.h (ik q b t)) K):∃f,aj A (jP q b t f++K):=kT h hp
theorem ik.dJ {A:AW} {L K:List It} {q:pI} {b:Nat} {t:aU} {di fe ly fK:Nat} {vs vo:qd} (h:aj A L) (e:bf L (jP q b t ⟨di,fe,ly,fK,vs,vo⟩) K):aj A (.h (ik q b t)::K):=jp ⟨di,fe,ly,fK,vs,vo⟩ h e
theorem ik.bX {A:AW} {L K G K2:List It} {q:pI} {b:Nat} {t:aU} {di fe ly fK:Nat} {vs vo:qd} (h:aj A L) (e:bf L (jP q b t ⟨di,fe,ly,fK,vs,vo⟩) K) (e2:bf K G K2):aj A (.h (ik q b t)::G):=aj.bX (ik.dJ h e) (.s .z e2)
theorem bx.useT {P:Program} {f:FuncId} {args:List qd} {q:pI} {b:Nat} {t:aU} {sG:List It} {φ:qd->Prop} {post:qd->List It} (hc:bx P f args (.h (ik q b t)::sG) φ post) {di fe ly fK:Nat} {vs vo:qd} {A:AW} {L K K0:List It} {k:qd->AW->Prop} (hw:A.Wf) (hS:aj A L)
 (e:bf L (jP q b t ⟨di,fe,ly,fK,vs,vo⟩) K0) (e2:bf K0 sG K) (hk:∀v A',φ v->aj A' (post v++K)->A'.Wf->A.next<=A'.next->k v A'):aB P f args A k:=
 bx.fM hc hw (ik.dJ hS e) (.s .z e2) hk
theorem eI.useT {ι:Type} {P:Program} {f:FuncId} {args:List qd} {q:pI} {b:Nat} {t:aU} {sG:List It} {φ:ι->qd->Prop} {post:ι->List It} (hc:eI P f args (.h (ik q b t)::sG) φ post) {di fe ly fK:Nat} {vs vo:qd} {A:AW} {L K K0:List It} {k:qd->AW->Prop} (hw:A.Wf) (hS:aj A L)
 (e:bf L (jP q b t ⟨di,fe,ly,fK,vs,vo⟩) K0) (e2:bf K0 sG K) (hk:∀x v A',φ x v->aj A' (post x++K)->A'.Wf->A.next<=A'.next->k v A'):aB P f args A k:=
 eI.fM hc hw (ik.dJ hS e) (.s .z e2) hk
theorem fT {L G K:List It} (h':bf L G K:=by first|(((try simp only [dO,ef,fz]);dsimp only [jP,aU.tS,aU.d,eG,gM,eF,gJ,gO,mG,aa,ah];(try simp only [dO,ef,fz]);(try dsimp only [eG,gM,eF,gJ,gO,mG]));(repeat' (first|apply bf.z|apply bf.s|apply aE.z|apply aE.pt|apply aE.s));done)|fail):bf L G K:=h'
end
end Go.Stx
