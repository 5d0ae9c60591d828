import Derived.Test.YtnnbecihffpedaaGreatDoorF1
import Derived.Test.YtnnbecihffpedaaGreatDoorF2
set_option linter.all false
set_option maxRecDepth 20000
set_option maxHeartbeats 4000000
open List renaming length->U
open Bool renaming and_eq_true->Zg,false_eq_true->Zq
open Go.IntKind renaming i64->Zb,u64->Zc
open Go.Proofs.Tryz renaming prog->qZ
open Go.Stx.AW renaming le->Zw
open Go.Stx.AW.le renaming alloc->q8
open Int renaming toNat_natCast->Z5
open List renaming all_eq_true->Zs,drop_drop->kaT,drop_eq_getElem_cons->Z3,getElem?_eq_getElem->Zf,getElem?_eq_some_iff->Zy,mem_range->Zr,range->Zt
open Nat renaming le_refl->Za,lt_or_ge->ZX,zero_le->Zv
open Bool renaming false->qn,true->qj
open Go renaming Value->qi
open Go.IntKind renaming i64->qg,u64->qr
open Go.Value renaming bool->qt,int->qh,slice->ql,string->qO,tuple->qF
open Option renaming none->qk,some->qf
namespace Go.Stx
open Go Go.Proofs
attribute [local irreducible] TW bK df aW aE aL cY dm
section
namespace TWord
def oK [Gl]{A:AW}{L:List It}{T:Prop}(hS:aj A L)(hw:A.Wf)(h':(ba A L/\bB A L/\cd L)=T:=by first|(dsimp only[aa,ah,ba,bB,cd,fw];done)|exact rfl):T:=h'▸hS.fm hw
end TWord
open TWord
variable [Gl]
def lR (v:Int):Int:=if 0<=v/\v<=1099511627776 then v*64 else 0
def jO (o:Int):Int:=Zb.wrap (Zc.wrap (o.tdiv 64))
def mo (o:Int):Int:=Zb.wrap (Zb.wrap (o.tmod 64)-1)
def uu (tag VE:Int):Int:=if 0<=tag/\tag<281474976710656/\-1<=VE/\VE<64 then tag*65536+(VE+1) else 0
def tagF (h:Int):Int:=Zb.wrap (Zc.wrap (h.tdiv 65536))
def j7 (h:Int):Int:=Zb.wrap (Zb.wrap (h.tmod 65536)-1)
def sr (h VE:Int):Int:=uu ((Zb.wrap (tagF h+1)).tmod 281474976710656) VE
def LN (v:Int)(A:AW):aE qZ 251 [qh qg v] A (λu A'=>u=qt (decide (0<=v/\v<=1099511627776))/\A=A'):=by
 refine aO Tryz.func251 λhw=>?_;refine W db db (J2 ?_ ?_)<;>intros
 all_goals(simp_all<;>omega)
def Sj (v:Int)(A:AW):aE qZ 205 [qh qg v] A (λu A'=>(∃e,u=qF #[qh qr (lR v),qh qg e])/\A=A'):=by
 refine aO Tryz.func205 λhw=>?_;by_cases h1:0<=v/\v<=1099511627776
 . refine W (J1 @LN) (J1 h1) ?_<;>intros
   all_goals exact⟨_,by (simp;rfl),⟨_,by simp[lR,h1];rfl⟩,rfl⟩
 refine W (J1 @LN) (J1 h1) ?_<;>intros
 all_goals exact⟨_,by (simp;rfl),⟨_,by simp[lR,h1];rfl⟩,rfl⟩
def BH (o:Int)(A:AW):aE qZ 245 [qh qr o] A (λv A'=>v=qh qg (jO o)/\A=A'):=by refine aO Tryz.func245 λhw=>?_;refine W db db ?_<;>intros;simp[jO]
def Dr (o:Int)(A:AW):aE qZ 244 [qh qr o] A (λv A'=>v=qh qg (mo o)/\A=A'):=by refine aO Tryz.func244 λhw=>?_;refine W db db ?_<;>intros;simp[mo]
def rj (tag VE:Int)(A:AW):aE qZ 98 [qh qg tag,qh qg VE] A (λu A'=>(∃e,u=qF #[qh qr (uu tag VE),qh qg e])/\A=A'):=by
 refine aO Tryz.func98 λhw=>?_;by_cases h1:0<=tag<;>by_cases h2:tag<281474976710656<;>by_cases h3:-1<=VE<;>by_cases h4:VE<64
 all_goals
  all_goals(revert hw;refine W db (J4 h1 h2 h3 h4) (J9 ?_ ?_ ?_ ?_ ?_ ?_ ?_ ?_ ?_)<;>(try exact trivial)<;>unhygienic intros)
  all_goals exact⟨_,by (simp;rfl),⟨_,by simp[uu,h1,h2,h3,h4];rfl⟩,rfl⟩
def VY (h:Int)(A:AW):aE qZ 242 [qh qr h] A (λv A'=>v=qh qg (tagF h)/\A=A'):=by refine aO Tryz.func242 λhw=>?_;refine W db db ?_<;>intros;simp[tagF]
def LO (h:Int)(A:AW):aE qZ 162 [qh qr h] A (λv A'=>v=qh qg (j7 h)/\A=A'):=by refine aO Tryz.func162 λhw=>?_;refine W db db ?_<;>intros;simp[j7]
def Id (h VE:Int)(A:AW):aE qZ 172 [qh qr h,qh qg VE] A (λu A'=>(∃e,u=qF #[qh qr (sr h VE),qh qg e])/\A=A'):=by refine aO Tryz.func172 λhw=>?_;revert hw;refine W (J1 @VY) trivial ?_<;>(unhygienic intros);refine bT (rj _ _ _) ?_;rintro _ _⟨⟨e,rfl⟩,rfl⟩_ _;refine W db db ?_<;>intros;exact⟨_,by (simp;rfl),⟨e,by simp[sr]⟩,rfl⟩
end
structure bp where
 op:Int
 a:Int
 b:Int
 c:Int
 cg:Int
deriving DecidableEq
def nI (op:Int):Bool:=op == 1 || op == 2 || op == 3 || op == 5 || op == 6 || op == 10 || op == 11 || op == 12 || op == 13 || op == 14 || op == 15 || op == 17
def lF (op:Int):Bool:=op == 2 || op == 3 || op == 10 || op == 11 || op == 12 || op == 13
def nH (op:Int):Bool:=op == 3
def iB (r:Int)(is:Bool):Bool:=if is then decide (0<=r) && decide (r<8) else decide (r=0)
def fV (op cg:Int):Bool:=
 if op=1\/op=10\/op=11\/op=12\/op=13 then qj
 else if op=3 then decide (0<=cg) && decide (cg<22)
 else if op=4\/op=5\/op=6 then decide (0<=cg) && decide (cg<=64)
 else if op=7 then decide (1<=cg) && decide (cg<=8)
 else if op=14 then decide (0<=cg) && decide (cg<4)
 else decide (cg=0)
def cQ (i:bp):Int:=
 if i.op<0\/18<=i.op then 10
 else if (iB i.a (nI i.op) && iB i.b (lF i.op) && iB i.c (nH i.op)) && fV i.op i.cg then 0 else 11
def bE (i:bp):Int:=
 if cQ i=0 then
  if i.op=8\/i.op=9\/i.op=10\/i.op=11\/i.op=14\/i.op=15 then 1
  else if i.op=7\/i.op=12\/i.op=13\/i.op=16\/i.op=17 then 2 else 0
 else 0
def eS (i:bp):Option Int:=if cQ i=0/\(i.op=4\/i.op=5\/i.op=6) then qf i.cg else qk
def d9 (p:List bp)(k:Nat):Int:=(p[k]?.map (·.op)).getD (-1)
def ly (p:List bp)(k:Nat):Nat:=k+(p.drop k).findIdx λi=>i.op == 8
def dH (p:List bp)(b:Nat):Nat:=ly p (b+1)
def bY (p:List bp):Nat->Option Nat
 |0=>qk
 |k+1=>match bY p k with
   |none=>if d9 p k=7 then qf k else qk
   |some b=>if d9 p k=8 then qk else qf b
def lG {p:List bp}:∀{t b:Nat},bY p t=qf b->b<t/\d9 p b=7/\∀j,b<j->j<t->d9 p j≠8
 |0,b,h=>by cases h
 |t+1,b,h=>by unfold bY at h;split at h;split at h;rename_i h7;injection h with h;subst h;exact⟨Nat.lt_succ_self _,h7,λj h1 h2=>by omega⟩;cases h;rename_i b' hb;split at h;cases h;rename_i h8;injection h with h;subst h;obtain⟨h1,h2,h3⟩:=lG hb;refine⟨by omega,h2,λj h4 h5=>?_⟩;by_cases e:j=t;subst e;exact h8;exact h3 j h4 Ya
def Ch {p:List bp}{b:Nat}(hb:d9 p b=7):∀{t:Nat},b<t->(∀j,b<j->j<t->d9 p j≠8)->∃b',bY p t=qf b'
 |0,h,_=>by omega
 |t+1,h,hn=>by
   unfold bY;by_cases e:b=t
   . subst e;cases hs:bY p b with
     |none=>exact⟨b,by simp[hb]⟩
     |some b'=>exact⟨b',by simp[hb]⟩
   obtain⟨b',h'⟩:=Ch hb (t:=t) Ya (λj h1 h2=>hn j h1 Ya);rw[h'];have:=hn t Ya Ya;exact⟨b',by simp[this]⟩
def HW {p:List bp}{k:Nat}(hk:bY p k=qk):∀{t b:Nat},k<=t->bY p t=qf b->k<=b
 |t,b,hkt,h=>by obtain⟨h1,h2,h3⟩:=lG h;rcases ZX b k with h4|h4;obtain⟨b',h'⟩:=Ch h2 h4 (λj h5 h6=>h3 j h5 Ya);rw[hk]at h';cases h';exact h4
def um {p:List bp}{k:Nat}(h:0<=d9 p k):k<U p:=by rcases ZX k (U p) with h1|h1;exact h1;unfold d9 at h;rw[List.getElem?_eq_none h1]at h;simp at h
def xS {p:List bp}{k:Nat}(h:k<U p):ly p k=if d9 p k=8 then k else ly p (k+1):=by
 unfold ly;have e:p.drop k=p[k]::p.drop (k+1):=Z3 h;have e2:d9 p k=p[k].op:=by simp[d9,Zf h]
 rw[e,List.findIdx_cons,e2];by_cases h8:p[k].op=8;simp[h8];have e3:(p[k].op == 8)=qn:=by simpa using h8
 rw[ar h8,e3];simp only[cond_false];omega
def E5 {p:List bp}{k:Nat}(h:U p<=k):ly p k=k:=by unfold ly;rw[List.drop_eq_nil_of_le h];rfl
def om {p:List bp}{k:Nat}(h:k<=U p):k<=ly p k/\ly p k<=U p/\(∀j,k<=j->j<ly p k->d9 p j≠8)/\(ly p k<U p->d9 p (ly p k)=8):=by
 induction hn:U p-k generalizing k with
 |zero=>
   have:k=U p:=Ya
   rw[E5 Ya];exact⟨Za _,h,λj h1 h2=>by omega,λh1=>by omega⟩
 |succ n ih=>rw[xS Ya];split;rename_i h8;exact⟨Za _,h,λj h1 h2=>by omega,λ_=>h8⟩;rename_i h8;obtain⟨h1,h2,h3,h4⟩:=ih (k:=k+1) Ya Ya;refine⟨by omega,h2,λj h5 h6=>?_,h4⟩;by_cases e:j=k;subst e;exact h8;exact h3 j Ya h6
def gY (p:List bp)(k t:Nat):Bool:=(Zt t).any λb=>decide (k<b) && decide (d9 p b=7) && decide (t<=min (dH p b) (U p-1))
def fz (p:List bp)(k:Nat)(b:Option Nat)(n:Int):Bool:=
 let t:Nat:=k+1+n.toNat
 if U p<t then qn else match b with
 |some b=>decide (t<=dH p b)
 |none=>!gY p k t
def kX (p:List bp)(t:Nat):Nat->Nat->Option Nat->Option (Nat×Nat)
 |0,_,b=>match b with
   |some b=>if b<=t/\t<U p then qf (b,U p) else qk
   |none=>qk
 |n+1,k,b=>match b with
   |none=>kX p t n (k+1) (if d9 p k=7 then qf k else qk)
   |some b=>if d9 p k=8 then (if b<=t/\t<=k then qf (b,k) else kX p t n (k+1) qk) else kX p t n (k+1) (qf b)
def FH (p:List bp)(t:Nat):Option (Nat×Nat):=kX p t (U p) 0 qk
def Uk {p:List bp}{t:Nat}:∀{k n:Nat},k+n=U p->k<=t->FH p t=kX p t n k (bY p k)
 |0,n,h,_=>by
   have:n=U p:=Ya
   subst this;rfl
 |k+1,n,h,hk=>by
   rw[Uk (k:=k) (n:=n+1) Ya Ya]
   conv=>lhs;unfold kX
   conv=>rhs;rw[bY]
   cases hb:bY p k with
   |none=>rfl
   |some b=>simp only;by_cases h8:d9 p k=8;rw[az h8,az h8,ar Ya];rw[ar h8,ar h8]
def EO {p:List bp}{t:Nat}:∀{n k:Nat},t<k->kX p t n k qk=qk
 |0,k,_=>rfl
 |n+1,k,h=>by unfold kX;by_cases h7:d9 p k=7;rw[az h7];exact LF h Ya;rw[ar h7];exact EO Ya
where
 LF {p:List bp} {t:Nat}:∀{n k b:Nat},t<b->b<k->kX p t n k (qf b)=qk
 | 0,k,b,h,_=>by unfold kX;simp;omega
 | n+1,k,b,h,hk=>by
   unfold kX;simp only;split;rw [ar (by omega)];exact EO (by omega);exact LF h (by omega)
def EN {p:List bp}{t b:Nat}(hb:b<=t):∀{n k:Nat},k+n=U p->t<=k->t<U p->kX p t n k (qf b)=qf (b,ly p k)
 |0,k,h,_,ht=>by unfold kX;rw[E5 Ya];simp only;rw[az ⟨hb,ht⟩];rw[show k=U p by omega]
 |n+1,k,h,hk,ht=>by unfold kX;rw[xS Ya];simp only;by_cases h8:d9 p k=8;rw[az h8,az h8,az ⟨hb,hk⟩];rw[ar h8,ar h8];exact EN hb Ya Ya ht
def Pa {p:List bp}{t:Nat}(ht:t<=U p):FH p t=match bY p t with
 |some b=>if t<U p then qf (b,ly p t) else qk
 |none=>if d9 p t=7 then qf (t,dH p t) else qk:=by
 rw[Uk (k:=t) (n:=U p-t) Ya (Za t)];cases hb:bY p t with
 |some b=>
   obtain⟨h1,h2,h3⟩:=lG hb;simp only;split;exact EN Ya Ya (Za t) (by assumption);have:U p-t=0:=Ya
   rw[this];unfold kX;simp only;rw[ar Ya]
 |none=>
   simp only;cases hn:U p-t with
   |zero=>
     have h7:d9 p t≠7:=λh=>by have:=um (p:=p) (k:=t) Ya;omega
     rw[ar h7];rfl
   |succ n=>unfold kX;simp only;by_cases h7:d9 p t=7;rw[az h7,az h7];have:=um (p:=p) (k:=t) Ya;by_cases hl:t+1<=U p;exact RW Ya Ya this;omega;rw[ar h7,ar h7];exact EO Ya
where
 RW {p:List bp} {t:Nat}:∀{n k:Nat},k+n=p.length->t<k->t<p.length->kX p t n k (qf t)=qf (t,ly p k)
 | n,k,h,hk,ht=>EN (Za t) h (by omega) ht
def iK (p:List bp)(k t:Nat):Bool:=
 if U p<t then qn else match FH p k with
 |some (_,c)=>decide (t<=c)
 |none=>match FH p t with
   |some (b,_)=>decide (b=t)
   |none=>qj
def into_iff {p:List bp}{k t:Nat}(hk:bY p k=qk)(h7:d9 p k≠7)(hkt:k<t)(ht:t<=U p):gY p k t=qj↔t<U p/\∃b,bY p t=qf b:=by
 unfold gY;rw[List.any_eq_true];constructor;rintro ⟨b,hb,h⟩;simp only[Zg,decide_eq_true_eq]at h;have hbt:=Zr.1 hb;obtain⟨⟨h1,h2⟩,h3⟩:=h;have h4:t<=dH p b:=Ya
 have RE:=um (p:=p) (k:=b) Ya;refine⟨by omega,Ch h2 hbt λj h5 h6=>?_⟩;exact(om (p:=p) (k:=b+1) Ya).2.2.1 j Ya (by unfold dH at h4;omega);rintro ⟨h1,b,hb⟩;obtain⟨h2,h3,h4⟩:=lG hb;have h5:=HW hk Ya hb;have h6:b≠k:=λe=>h7 (by rw[<-e];exact h3);refine⟨b,Zr.2 h2,?_⟩;simp only[Zg,decide_eq_true_eq];refine⟨⟨by omega,h3⟩,?_⟩;have h7:t<=dH p b:=by rcases ZX (dH p b) t with h8|h8;obtain⟨g1,g2,g3,g4⟩:=om (p:=p) (k:=b+1) Ya;unfold dH at h8;exact absurd (g4 Ya) (h4 _ Ya h8);exact h8
 omega
def VH {p:List bp}{k:Nat}(hk:k<U p)(h7:d9 p k≠7)(h8:d9 p k≠8){n:Int}:iK p k (k+1+n.toNat)=fz p k (bY p k) n:=by
 unfold iK fz;simp only;generalize ht:k+1+n.toNat=t;by_cases hl:U p<t;rw[az hl,az hl];rw[ar hl,ar hl,Pa (by omega:k<=U p)];cases hb:bY p k with
 |some b=>
   simp only;rw[az hk];obtain⟨h1,h2,h3⟩:=lG hb;have e:dH p b=ly p k:=by
    have:∀d,b+1+d=k->ly p (b+1)=ly p (b+1+d):=by
     intro d
     induction d with
     |zero=>intro _;rfl
     |succ d ih=>
       intro hd;have key:∀q,b<q->q<=k->ly p (b+1)=ly p q:=by
        intro q
        induction q with
        |zero=>intro h;omega
        |succ q ihq=>intro h5 h6;by_cases e:b=q;subst e;rfl;rw[ihq Ya Ya,xS Ya,ar (h3 q Ya Ya)]
       exact key _ Ya Ya
    have h9:=this (k-(b+1)) Ya;rw[show b+1+(k-(b+1))=k by omega]at h9;exact h9
   rw[e]
 |none=>
   simp only;rw[ar h7,Pa Ya];have hi:=into_iff hb h7 (t:=t) Ya Ya;cases hs:bY p t with
   |some b=>
     obtain⟨h1,_,_⟩:=lG hs;simp only;by_cases b9:t<U p;have:gY p k t=qj:=hi.2 ⟨b9,b,hs⟩;rw[az b9,this];have:¬b=t:=Ya
     simp[this];have:gY p k t=qn:=by
      cases hp:gY p k t with
      |false=>rfl
      |true=>exact absurd (hi.1 hp).1 b9
     rw[ar b9,this];rfl
   |none=>
     have:gY p k t=qn:=by
      cases hp:gY p k t with
      |false=>rfl
      |true=>obtain⟨b,yb⟩:=(hi.1 hp).2;rw[hs]at yb;cases yb
     rw[this];simp only;by_cases h9:d9 p t=7;simp[h9];simp[h9]
def vQ (LC:Nat->Option Nat->Int->Bool)(k:Nat)(b:Option Nat)(x:bp):Int:=
 if cQ x=0 then
  if (x.op=7/\b.isSome=qj)\/(x.op=8/\b.isSome=qn) then 40
  else if (bE x=1/\b.isSome=qn)\/(bE x=2/\b.isSome=qj) then 41
  else match eS x with
   |some n=>if LC k b n=qj then 0 else 42
   |none=>0
 else cQ x
def Ik (k:Nat)(b:Option Nat)(x:bp):Option Nat:=if x.op=7 then qf k else if x.op=8 then qk else b
def jI (LC:Nat->Option Nat->Int->Bool):List bp->Nat->Option Nat->Nat×Int
 |[],_,b=>match b with
   |some q=>(q,43)
   |none=>(0,0)
 |x::l,k,b=>if vQ LC k b x=0 then jI LC l (k+1) (Ik k b x) else (k,vQ LC k b x)
def b7 (p:List bp):Nat×Int:=if 64<U p then (0,3) else jI (fz p) p 0 qk
def nN (p:List bp):Nat×Int:=if 64<U p then (0,3) else jI (λk _ n=>iK p k (k+1+n.toNat)) p 0 qk
def xv {x:bp}{n:Int}(h:eS x=qf n):n=x.cg/\cQ x=0/\(x.op=4\/x.op=5\/x.op=6):=by unfold eS at h;split at h;rename_i h1;injection h with h;exact⟨h.symm,h1.1,h1.2⟩;cases h
def m8 {p:List bp}{k:Nat}{x:bp}(h:p[k]?=qf x):d9 p k=x.op:=by simp[d9,h]
def Cr {LC:Nat->Option Nat->Int->Bool}{p:List bp}{k:Nat}{x:bp}(hx:p[k]?=qf x)(h:vQ LC k (bY p k) x=0):Ik k (bY p k) x=bY p (k+1):=by
 have e:=m8 hx;unfold Ik;rw[bY];cases hb:bY p k with
 |none=>simp only;rw[e];by_cases h7:x.op=7;rw[az h7,az h7];rw[ar h7,ar h7];split<;>rfl
 |some b=>
   simp only;rw[e];have h7:x.op≠7:=λh7=>by rw[hb]at h;unfold vQ at h;split at h;rw[az (.inl ⟨h7,rfl⟩)]at h;cases h;rename_i h0;exact h0 h
   rw[ar h7]
def oneE_eq {p:List bp}{k:Nat}{x:bp}(hx:p[k]?=qf x):vQ (λk _ n=>iK p k (k+1+n.toNat)) k (bY p k) x=vQ (fz p) k (bY p k) x:=by
 unfold vQ;split
 . split;rfl;split;rfl;cases hs:eS x with
   |none=>rfl
   |some n=>obtain⟨rfl,_,h3⟩:=xv hs;have e:=m8 hx;have ht:=VH (n:=x.cg) (Zy.1 hx).1 (show d9 p k≠7 by rw[e];omega) (show d9 p k≠8 by rw[e];omega);simp only[ht]
 rfl
def Jr {p:List bp}:∀(l:List bp)(k:Nat),p.drop k=l->jI (λk _ n=>iK p k (k+1+n.toNat)) l k (bY p k)=jI (fz p) l k (bY p k)
 |[],k,_=>rfl
 |x::l,k,h=>by
   have hx:p[k]?=qf x:=by
    have:=congrArg (λq=>q[0]?) h
    exact X9
   unfold jI;rw[oneE_eq hx];split;rename_i h0;rw[Cr hx h0];exact Jr l (k+1) (by rw[<-kaT,h];rfl);rfl
def check_eq (p:List bp):nN p=b7 p:=by unfold nN b7;split;rfl;exact Jr p 0 rfl
def Jq {LC:Nat->Option Nat->Int->Bool}{p:List bp}:∀(l:List bp)(k:Nat),p.drop k=l->(jI LC l k (bY p k)).2=0->
 (∀j x,k<=j->p[j]?=qf x->vQ LC j (bY p j) x=0)/\bY p (k+U l)=qk
 |[],k,h,h0=>by
   refine⟨λj x hj hx=>?_,?_⟩;have h1:=(Zy.1 hx).1;have h2:U p<=k:=by rcases ZX k (U p) with h3|h3;rw[Z3 h3]at h;cases h;exact h3
   omega;unfold jI at h0;show bY p k=qk;cases hb:bY p k with
   |none=>rfl
   |some b=>rw[hb]at h0;cases h0
 |x::l,k,h,h0=>by
   have hx:p[k]?=qf x:=by
    have:=congrArg (λq=>q[0]?) h
    exact X9
   unfold jI at h0;split at h0;rename_i h1;rw[Cr hx h1]at h0;obtain⟨h2,h3⟩:=Jq l (k+1) (by rw[<-kaT,h];rfl) h0;refine⟨λj y hj hy=>?_,by rw[List.length_cons,show k+(U l+1)=k+1+U l by omega];exact h3⟩;by_cases e:j=k;subst e;rw[hx]at hy;injection hy with hy;subst hy;exact h1;exact h2 j y Ya hy;rename_i h1;exact absurd h0 h1
def gA {p:List bp}(h:(b7 p).2=0):U p<=64/\(∀j x,p[j]?=qf x->vQ (fz p) j (bY p j) x=0)/\bY p (U p)=qk:=by unfold b7 at h;split at h;cases h;rename_i hl;obtain⟨h1,h2⟩:=Jq p 0 rfl h;rw[Nat.zero_add]at h2;exact⟨by omega,λj x hx=>h1 j x (Zv _) hx,h2⟩
def IG {x:bp}(h:cQ x=0)(ho:x.op=4\/x.op=5\/x.op=6):0<=x.cg/\x.cg<=64:=by
 unfold cQ at h;split at h;cases h;split at h;rename_i h1;rw[Zg]at h1;have h2:=h1.2;unfold fV at h2;rw[ar Ya,ar Ya,az ho]at h2
 simpa using h2
 cases h
section
namespace TGFbA
def oK [Gl]{A:AW}{L:List It}{T:Prop}(hS:aj A L)(hw:A.Wf)(h':(ba A L/\bB A L/\cd L)=T:=by first|(dsimp only[aa,ah,ba,bB,cd,fw];done)|exact rfl):T:=h'▸hS.fm hw
end TGFbA
open TGFbA
variable [Gl]
def aA (i:bp):List qi:=[qh qg i.op,qh qg i.a,qh qg i.b,qh qg i.c,qh qg i.cg]
def lE (A:AW)(v:qi)(p:List bp):Prop:=gW A 5 v (U p) (p.flatMap aA)
def DP:∀(l:List bp)(j:Nat)(hj:j<U l),((l.flatMap aA).drop (j*5)).take 5=aA l[j]
 |x::l,0,_=>by simp[aA]
 |x::l,j+1,h=>by
   have:=DP l j YV;have e:(j+1)*5=U (aA x)+j*5:=(by simp[aA];omega);rw[List.flatMap_cons,e,<-kaT,List.drop_left]
   exact X9
def lE.cL {A:AW}{v:qi}{l:List bp}(h:lE A v l):∃o c,v=ql o (U l) c/\U l<=c:=gW.cL h
def lE.le {A B:AW}(hl:A.le B)(hw:A.Wf){v:qi}{l:List bp}(h:lE A v l):lE B v l:=gW.le hl hw h
def lE.at {A:AW}{o:Option Addr}{c n:Nat}{l:List bp}(h:lE A (ql o n c) l){i:Nat}(hi:i<U l):
 ∃p bO,o=qf p/\A.bO p.block=qf bO/\p.off+i*5+5<=U bO/\(bO.drop (p.off+i*5)).take 5=aA l[i]:=by rcases h with ⟨⟨o,h1⟩,h2,_⟩|⟨p,c,bO,own,u,h1,h2,h3,h4,h5,h6⟩;omega;injection h1 with h1 _ _;refine⟨p,bO,h1,AW.ES h3,by omega,?_⟩;rw[<-DP l i hi,h6,<-kaT,List.drop_take,List.take_take];congr 1;omega
def PZ {bO:List qi}{b:Nat}{x:bp}(h:(bO.drop b).take 5=aA x)(q:Nat)(hq:q<5):bO[b+q]?=(aA x)[q]?:=by rw[<-h,List.getElem?_take_of_lt hq,List.getElem?_drop]
def zG {bO:List qi}{b:Nat}{x:bp}(h:(bO.drop b).take 5=aA x):bO[b]?=qf (qh qg x.op):=PZ h 0 Ya
def Ab (v:qi)(p:List bp)(b:Nat)(A:AW)(h:lE A v p)(hl:U p<2^30)(hb:b<U p):
 aE qZ 166 [v,qh qg b] A (λu A'=>u=qh qg (dH p b)/\A=A'):=by
 refine aO Tryz.func166 λhw=>?_;obtain⟨o,c,rfl,_⟩:=h.cL;have OG:Zb.wrap ((b:Int)+1)=((b+1:Nat):Int):=an Ya Ya;revert hw;refine W db (J1 OG) ?_<;>(unhygienic intros);refine dO (λk fr A'=>A=A'/\∃i:Nat,k=U p-i/\i<=U p/\fr 0=ql o (U p) c/\fr 5=qh qg i/\dH p b=ly p i) (U p-(b+1)) ?_ ?_;exact⟨rfl,b+1,rfl,by omega,rfl,rfl,rfl⟩;rintro k fr A'⟨rfl,i,rfl,hi,h0,h5,he⟩;by_cases b9:i<U p;obtain⟨q,bO,rfl,bP,gb,hcell⟩:=h.at b9;have lV:=zG hcell;have ij:=C0 (i:=i);have cJ:=xS b9;have ho:d9 p i=p[i].op:=m8 (Zf b9);rw[ho]at cJ;by_cases h8:p[i].op=8;rw[az h8]at cJ;refine aU ?_;refine W db (J8 h0 h5 bP lV gb b9 ij h8) ?_<;>intros;simp[he,cJ];rw[ar h8]at cJ;refine aU ?_;refine W db (J8 h0 h5 bP lV gb b9 ij h8) ?_<;>intros;refine⟨U p-(i+1),by omega,rfl,i+1,rfl,by omega,?_,?_,?_⟩;simp[h0];simp;rw[he,cJ];have uR:i=U p:=Ya
 refine aU ?_;refine W db (J3 h0 h5 b9) ?_<;>intros;subst uR;simp[he,E5 (Za _)]
def Wg (v:qi)(p:List bp)(k t:Nat)(A:AW)(h:lE A v p)(hl:U p<2^30)(hk:k<U p)(ht:t<=U p):
 aE qZ 167 [v,qh qg k,qh qg t] A (λu A'=>u=qt (gY p k t)/\A=A'):=by
 refine aO Tryz.func167 λhw=>?_;obtain⟨o,c,rfl,_⟩:=h.cL;have OG:Zb.wrap ((k:Int)+1)=((k+1:Nat):Int):=an Ya Ya;have hwl:Zb.wrap ((U p:Int)-1)=((U p-1:Nat):Int):=by rw[an Ya Ya];omega
 revert hw;refine W db (J1 OG) ?_<;>(unhygienic intros)
 refine dO (λn fr A'=>A=A'/\∃i:Nat,n=t-i/\k+1<=i/\fr 0=ql o (U p) c/\fr 2=qh qg t/\fr 7=qh qg i/\
  (gY p k t=qj↔∃b,i<=b/\b<t/\d9 p b=7/\t<=min (dH p b) (U p-1))) (t-(k+1)) ?_ ?_
 refine⟨rfl,k+1,rfl,Za _,rfl,rfl,rfl,?_⟩;rw[gY,List.any_eq_true];constructor;rintro ⟨b,hb,hh⟩;simp only[Zg,decide_eq_true_eq]at hh;exact⟨b,by omega,Zr.1 hb,hh.1.2,hh.2⟩;rintro ⟨b,h1,h2,h3,h4⟩;exact⟨b,Zr.2 h2,by simp only[Zg,decide_eq_true_eq];exact⟨⟨by omega,h3⟩,h4⟩⟩;rintro n fr A'⟨rfl,i,rfl,hi,h0,h2,h7,he⟩;by_cases b9:i<t;have uR:i<U p:=Ya
 obtain⟨q,bO,rfl,bP,gb,hcell⟩:=h.at uR;have lV:=zG hcell;have ij:=C0 (i:=i);have ho:d9 p i=p[i].op:=m8 (Zf uR);by_cases h7':p[i].op=7;have ry:=Ab _ p i A h hl uR;by_cases hcc:t<=min (dH p i) (U p-1);have e:gY p k t=qj:=he.2 ⟨i,Za _,b9,by rw[ho];exact h7',hcc⟩;have AV:((t:Int)<=if U p-1<dH p i then ((U p-1:Nat):Int) else (dH p i:Int)):=by split<;>omega
 refine aU ?_;refine W (J1 @ry) (oP h0 h2 h7 bP lV gb b9 uR ij hwl h7' AV e) ?_<;>intros;simp[b6,aT,aX,bA,aR,aS,e];have AV:¬((t:Int)<=if U p-1<dH p i then ((U p-1:Nat):Int) else (dH p i:Int)):=by split<;>omega
 refine aU ?_;refine W (J1 @ry) (Ay h0 h2 h7 bP lV gb b9 uR ij hwl h7' AV) ?_<;>intros;refine⟨t-(i+1),by omega,rfl,i+1,rfl,by omega,?_,?_,?_,?_⟩;simp[h0];simp[h2];simp;rw[he];constructor;rintro ⟨b,g1,g2,g3,g4⟩;have:b≠i:=λe=>hcc (by rw[<-e];exact g4);exact⟨b,by omega,g2,g3,g4⟩;rintro ⟨b,g1,g2,g3,g4⟩;exact⟨b,by omega,g2,g3,g4⟩;refine aU ?_;refine W db (Ls h0 h2 h7 bP lV gb b9 uR ij hwl h7') ?_<;>intros;refine⟨t-(i+1),by omega,rfl,i+1,rfl,by omega,?_,?_,?_,?_⟩;simp[h0];simp[h2];simp;rw[he];constructor;rintro ⟨b,g1,g2,g3,g4⟩;have:b≠i:=λe=>h7' (by rw[<-ho,<-e];exact g3);exact⟨b,by omega,g2,g3,g4⟩;rintro ⟨b,g1,g2,g3,g4⟩;exact⟨b,by omega,g2,g3,g4⟩;have e:gY p k t=qn:=by
  cases hp:gY p k t with
  |false=>rfl
  |true=>obtain⟨b,g1,g2,_⟩:=he.1 hp;omega
 refine aU ?_;refine W db (J5 h0 h2 h7 b9 e) ?_<;>intros;simp[aX,bA,aR,aS,e]
end
section
namespace TGFbB
def oK [Gl]{A:AW}{L:List It}{T:Prop}(hS:aj A L)(hw:A.Wf)(h':(ba A L/\bB A L/\cd L)=T:=by first|(dsimp only[aa,ah,ba,bB,cd,fw];done)|exact rfl):T:=h'▸hS.fm hw
end TGFbB
open TGFbB
variable [Gl]
def bs (l:List UInt8):ByteArray:=⟨l.toArray⟩
def Hn (l:List UInt8):(bs l).size=U l:=by simp[bs,ByteArray.size]
def Vm (s:List UInt8)(i:Nat)(h:i<(bs s).size):(bs s)[i]'h=s[i]'(by rw[Hn]at h;exact h):=rfl
def pB (s:List UInt8)(x:UInt8)(A:AW)(hl:U s<2^30):
 aE qZ 96 [qO (bs s),qh .u8 x.toNat] A (λu A'=>u=qt (decide (x∈s))/\A=A'):=by
 refine aO Tryz.func96 λhw=>?_;revert hw;refine W db db ?_<;>(unhygienic intros);refine dO (λk fr A'=>A=A'/\∃i:Nat,k=U s-i/\i<=U s/\fr 0=qO (bs s)/\fr 1=qh .u8 x.toNat/\fr 5=qh qg i/\(x∈s↔x∈s.drop i)) (U s) ?_ ?_;exact⟨rfl,0,rfl,Zv _,rfl,rfl,rfl,by simp⟩;rintro k fr A'⟨rfl,i,rfl,hi,h0,h1,h5,he⟩;by_cases b9:i<U s
 . have ij:=C0 (i:=i);have hd:s.drop i=s[i]::s.drop (i+1):=Z3 b9;by_cases hx:s[i]=x;have hxn:((s[i].toNat:Int)=x.toNat):=(by rw[hx]);have xj:x∈s:=he.2 (by rw[hd,hx];simp);refine aU ?_;refine W db (J8 h0 h1 h5 b9 ij hxn @Hn @Vm) ?_<;>intros;simp[b6,aT,aX,bA,aR,aS,xj];have hxn:¬((s[i].toNat:Int)=x.toNat):=λe=>hx (UInt8.toNat_inj.1 Ya);refine aU ?_
   repeat' (first|(refine lz λR hR=>?_;simp[h0,h1,h5,Hn,Vm,b9,ij,hxn];try simp(disch:=omega)only[az,ar,an,ax])|(refine hR _ _ ?_;clear hR R)|(refine hK _ _ ?_;clear hK K)|refine nx ?_|refine wn λK hK=>?_|simp only[wS]|(show df _ _ _ _ _ _;refine nx ?_)|(refine wc rfl (λhc=>?_) (λhc=>?_)<;>(try simp at hc)))
   refine⟨U s-(i+1),by omega,rfl,i+1,rfl,by omega,?_,?_,?_,?_⟩;simp[h0];simp[h1];simp;have fL:¬x=s[i]:=λe=>hx e.symm;rw[he,hd,List.mem_cons];exact⟨λh=>h.resolve_left fL,.inr⟩
 have xj:¬x∈s:=λh=>by have:=he.1 h;rw[List.drop_eq_nil_of_le Ya]at this;cases this
 refine aU ?_;refine W db (J5 h0 h1 h5 b9 @Hn) ?_<;>intros;simp[aX,bA,aR,aS,xj]
def vN (r:Int)(b:Bool)(A:AW):aE qZ 95 [qh qg r,qt b] A (λu A'=>u=qt (iB r b)/\A=A'):=by
 refine aO Tryz.func95 λhw=>?_;cases b with
 |true=>
   by_cases h1:0<=r
   . by_cases h2:r<8
     . refine W db (J2 h1 h2) ?_<;>intros
       all_goals simp[aT,aX,bA,aR,aS,iB,h1,h2]
     refine W db (J2 h1 h2) ?_<;>intros
     all_goals simp[aT,aX,bA,aR,aS,iB,h1,h2]
   refine W db (J1 h1) ?_<;>intros
   all_goals simp[aT,aX,bA,aR,aS,iB,h1]
 |false=>
   by_cases h1:r=0
   . refine W db (J1 h1) ?_<;>intros
     all_goals simp[aX,bA,aR,aS,iB,h1]
   refine W db (J1 h1) ?_<;>intros
   all_goals simp[aX,bA,aR,aS,iB,h1]
end
section
namespace TGFbC
def oK [Gl]{A:AW}{L:List It}{T:Prop}(hS:aj A L)(hw:A.Wf)(h':(ba A L/\bB A L/\cd L)=T:=by first|(dsimp only[aa,ah,ba,bB,cd,fw];done)|exact rfl):T:=h'▸hS.fm hw
end TGFbC
open TGFbC
variable [Gl]
def eC:Nat->List UInt8
 |1=>[114,105]|2=>[114,115]|3=>[114,115,116,102]|4=>[106]|5=>[114,106]|6=>[114,106]|7=>[97]
 |10=>[114,115,105]|11=>[114,115,105]|12=>[114,115,105]|13=>[114,115,105]|14=>[114,99]|15=>[114]|17=>[114]
 |_=>[]
def gw (hn:Gl.N=4){k:Nat}(hk:k<18)(A:AW):aE qZ 94 [qh qg k] A (λu A'=>u=qO (bs (eC k))/\A=A'):=by
 refine aE.wy (dK.kZ rfl) (λhw=>?_) Yf;refine aO Tryz.func94 λ_=>?_;have:k=0\/k=1\/k=2\/k=3\/k=4\/k=5\/k=6\/k=7\/k=8\/k=9\/k=10\/k=11\/k=12\/k=13\/k=14\/k=15\/k=16\/k=17:=Ya
 rcases this with rfl|rfl|rfl|rfl|rfl|rfl|rfl|rfl|rfl|rfl|rfl|rfl|rfl|rfl|rfl|rfl|rfl|rfl
 all_goals(
  all_goals(revert hw;refine W db (J1 @AW.ab) ?_<;>unhygienic intros)
  exact⟨_,by rfl,rfl,q8 A _⟩)
end
section
abbrev jc:List (Nat×Nat):=[(0,0),(1,0),(2,0),(3,2),(4,2),(5,0),(6,0),(7,0),(8,0),(9,0),(10,2),(11,2),(12,0),(13,0),(14,0),(15,0),(16,0),(17,0),(18,2),(19,2),(20,0),(21,0)]
namespace TGFbD
def oK [Gl]{A:AW}{L:List It}{T:Prop}(hS:aj A L)(hw:A.Wf)(h':(ba A L/\bB A L/\cd L)=T:=by first|(dsimp only[aa,ah,ba,bB,cd,fw];done)|exact rfl):T:=h'▸hS.fm hw
end TGFbD
open TGFbD
variable [Gl]
def letters {k:Nat}(hk:k<18):decide ((114:UInt8)∈eC k)=nI k/\decide ((115:UInt8)∈eC k)=lF k/\decide ((116:UInt8)∈eC k)=nH k:=by
 have h:((Zt 18).all λk=>(decide ((114:UInt8)∈eC k) == nI k) && (decide ((115:UInt8)∈eC k) == lF k) && (decide ((116:UInt8)∈eC k) == nH k))=qj:=Yf
 have:=Zs.1 h k (Zr.2 hk);simp only[Zg,beq_iff_eq]at this;exact⟨this.1.1,this.1.2,this.2⟩
def Ih {k:Nat}(hk:k<18)(cg:Int):fV k cg =
 if decide ((105:UInt8)∈eC k)=qj then qj else
 if decide ((102:UInt8)∈eC k)=qj then decide (0<=cg) && decide (cg<=21) else
 if decide ((106:UInt8)∈eC k)=qj then decide (0<=cg) && decide (cg<=64) else
 if decide ((97:UInt8)∈eC k)=qj then decide (1<=cg) && decide (cg<=8) else
 if decide ((99:UInt8)∈eC k)=qj then decide (0<=cg) && decide (cg<=3) else decide (0<=cg) && decide (cg<=0):=by
 have h:k=0\/k=1\/k=2\/k=3\/k=4\/k=5\/k=6\/k=7\/k=8\/k=9\/k=10\/k=11\/k=12\/k=13\/k=14\/k=15\/k=16\/k=17:=Ya
 rcases h with rfl|rfl|rfl|rfl|rfl|rfl|rfl|rfl|rfl|rfl|rfl|rfl|rfl|rfl|rfl|rfl|rfl|rfl
 all_goals
  simp[fV,eC]
  try(rw[Bool.eq_iff_iff];simp;omega)
def zu (hn:Gl.N=4)(x:bp)(A:AW):aE qZ 50 [.agg (aA x).toArray] A (λu A'=>u=qh qg (cQ x)/\A=A'):=by
 refine aE.wy (V:=qh qg (cQ x)) Yb (λhw=>?_) Yf;refine aO Tryz.func50 λ_=>?_;obtain⟨op,a,b,c,cg⟩:=x;by_cases h1:op<0
 . have he:cQ ⟨op,a,b,c,cg⟩=10:=(by unfold cQ;rw[az (.inl h1)]);rw[he];refine W (J1 (od jc)) (J3 h1 bL @aA.eq_1) ?_<;>intros
   all_goals(simp[aT,aX,bA,aR,aS]<;>exact q8 A _)
 by_cases h2:18<=op
 . have he:cQ ⟨op,a,b,c,cg⟩=10:=(by unfold cQ;rw[az (.inr h2)]);rw[he];refine W (J1 (od jc)) (J4 h1 h2 bL @aA.eq_1) ?_<;>intros
   all_goals(simp[aT,aX,bA,aR,aS]<;>exact q8 A _)
 obtain⟨k,rfl⟩:∃k:Nat,op=k:=⟨op.toNat,by omega⟩;have hk:k<18:=Ya
 obtain⟨l1,l2,l3⟩:=letters hk;have Qc:=Ih hk cg;have hs:U (eC k)<2^30:=by unfold eC;split<;>simp
 have c1:∀A,aE qZ 96 [qO (bs (eC k)),qh .u8 114] A (λu A'=>u=qt (nI k)/\A=A'):=λA=>by rw[<-l1];exact pB (eC k) 114 A hs
 have c2:∀A,aE qZ 96 [qO (bs (eC k)),qh .u8 115] A (λu A'=>u=qt (lF k)/\A=A'):=λA=>by rw[<-l2];exact pB (eC k) 115 A hs
 have c3:∀A,aE qZ 96 [qO (bs (eC k)),qh .u8 116] A (λu A'=>u=qt (nH k)/\A=A'):=λA=>by rw[<-l3];exact pB (eC k) 116 A hs
 generalize CE:decide ((105:UInt8)∈eC k)=d1 at Qc;generalize Ta:decide ((102:UInt8)∈eC k)=d2 at Qc;generalize hd3:decide ((106:UInt8)∈eC k)=d3 at Qc;generalize hd4:decide ((97:UInt8)∈eC k)=d4 at Qc;generalize hd5:decide ((99:UInt8)∈eC k)=d5 at Qc;have e1:∀A,aE qZ 96 [qO (bs (eC k)),qh .u8 105] A (λu A'=>u=qt d1/\A=A'):=λA=>by rw[<-CE];exact pB (eC k) 105 A hs
 have e2:∀A,aE qZ 96 [qO (bs (eC k)),qh .u8 102] A (λu A'=>u=qt d2/\A=A'):=λA=>by rw[<-Ta];exact pB (eC k) 102 A hs
 have e3:∀A,aE qZ 96 [qO (bs (eC k)),qh .u8 106] A (λu A'=>u=qt d3/\A=A'):=λA=>by rw[<-hd3];exact pB (eC k) 106 A hs
 have e4:∀A,aE qZ 96 [qO (bs (eC k)),qh .u8 97] A (λu A'=>u=qt d4/\A=A'):=λA=>by rw[<-hd4];exact pB (eC k) 97 A hs
 have e5:∀A,aE qZ 96 [qO (bs (eC k)),qh .u8 99] A (λu A'=>u=qt d5/\A=A'):=λA=>by rw[<-hd5];exact pB (eC k) 99 A hs
 have j6:¬((18:Int)<=k):=Ya
 have he:cQ ⟨k,a,b,c,cg⟩=if (iB a (nI k) && iB b (lF k) && iB c (nH k)) && fV k cg then 0 else 11:=by unfold cQ;rw[ar Yg]
 rw[he,Qc];generalize Rz:iB a (nI k)=ra;generalize IM:iB b (lF k)=rb;generalize vB:iB c (nH k)=rc;have g1:∀A,aE qZ 95 [qh qg a,qt (nI k)] A (λu A'=>u=qt ra/\A=A'):=λA=>by rw[<-Rz];exact vN a (nI k) A
 have g2:∀A,aE qZ 95 [qh qg b,qt (lF k)] A (λu A'=>u=qt rb/\A=A'):=λA=>by rw[<-IM];exact vN b (lF k) A
 have g3:∀A,aE qZ 95 [qh qg c,qt (nH k)] A (λu A'=>u=qt rc/\A=A'):=λA=>by rw[<-vB];exact vN c (nH k) A
 cases ra with
 |false=>
   refine W (J8 (od jc) (gw hn hk) @c1 @c2 @c3 @g1 @g2 @g3) (J3 j6 bL @aA.eq_1) ?_<;>intros
   all_goals(simp[aT,aX,bA,aR,aS]<;>exact q8 A _)
 |true=>cases rb with
   |false=>
     refine Wu (oP (od jc) (gw hn hk) @c1 @c2 @c3 @g1 @g2 @g3 @e1 @e2 @e3 @e4 @e5) (J3 j6 bL @aA.eq_1) ?_<;>intros
     all_goals(simp[aT,aX,bA,aR,aS]<;>exact q8 A _)
   |true=>cases rc with
     |false=>
       refine Wu (oP (od jc) (gw hn hk) @c1 @c2 @c3 @g1 @g2 @g3 @e1 @e2 @e3 @e4 @e5) (J3 j6 bL @aA.eq_1) ?_<;>intros
       all_goals(simp[aT,aX,bA,aR,aS]<;>exact q8 A _)
     |true=>cases d1 with
       |true=>
         refine Wu (oP (od jc) (gw hn hk) @c1 @c2 @c3 @g1 @g2 @g3 @e1 @e2 @e3 @e4 @e5) (J3 j6 bL @aA.eq_1) ?_<;>intros
         all_goals(simp[aT,aX,bA,aR,aS]<;>exact q8 A _)
       |false=>cases d2 with
         |true=>
           by_cases q1:cg<0
           . have q3:¬(0<=cg):=Ya;refine Wu (oP (od jc) (gw hn hk) @c1 @c2 @c3 @g1 @g2 @g3 @e1 @e2 @e3 @e4 @e5) (J5 j6 q1 q3 bL @aA.eq_1) ?_<;>intros
             all_goals(simp[aT,aX,bA,aR,aS,q3]<;>exact q8 A _)
           have q3:0<=cg:=Ya;by_cases q2:21<cg
           . have q4:¬(cg<=21):=Ya;refine Wu (oP (od jc) (gw hn hk) @c1 @c2 @c3 @g1 @g2 @g3 @e1 @e2 @e3 @e4 @e5) (J7 j6 q1 q2 q3 q4 bL @aA.eq_1) ?_<;>intros
             all_goals(simp[aT,aX,bA,aR,aS,q3,q4]<;>exact q8 A _)
           have q4:cg<=21:=Ya;refine Wu (oP (od jc) (gw hn hk) @c1 @c2 @c3 @g1 @g2 @g3 @e1 @e2 @e3 @e4 @e5) (J7 j6 q1 q2 q3 q4 bL @aA.eq_1) ?_<;>intros
           all_goals(simp[aX,bA,aR,aS,q3,q4]<;>exact q8 A _)
         |false=>cases d3 with
           |true=>
             by_cases q1:cg<0
             . have q3:¬(0<=cg):=Ya;refine Wu (oP (od jc) (gw hn hk) @c1 @c2 @c3 @g1 @g2 @g3 @e1 @e2 @e3 @e4 @e5) (J5 j6 q1 q3 bL @aA.eq_1) ?_<;>intros
               all_goals(simp[aT,aX,bA,aR,aS,q3]<;>exact q8 A _)
             have q3:0<=cg:=Ya;by_cases q2:64<cg
             . have q4:¬(cg<=64):=Ya;refine Wu (oP (od jc) (gw hn hk) @c1 @c2 @c3 @g1 @g2 @g3 @e1 @e2 @e3 @e4 @e5) (J7 j6 q1 q2 q3 q4 bL @aA.eq_1) ?_<;>intros
               all_goals(simp[aT,aX,bA,aR,aS,q3,q4]<;>exact q8 A _)
             have q4:cg<=64:=Ya;refine Wu (oP (od jc) (gw hn hk) @c1 @c2 @c3 @g1 @g2 @g3 @e1 @e2 @e3 @e4 @e5) (J7 j6 q1 q2 q3 q4 bL @aA.eq_1) ?_<;>intros
             all_goals(simp[aX,bA,aR,aS,q3,q4]<;>exact q8 A _)
           |false=>cases d4 with
             |true=>
               by_cases q1:cg<1
               . have q3:¬(1<=cg):=Ya;refine Wu (oP (od jc) (gw hn hk) @c1 @c2 @c3 @g1 @g2 @g3 @e1 @e2 @e3 @e4 @e5) (J5 j6 q1 q3 bL @aA.eq_1) ?_<;>intros
                 all_goals(simp[aT,aX,bA,aR,aS,q3]<;>exact q8 A _)
               have q3:1<=cg:=Ya;by_cases q2:8<cg
               . have q4:¬(cg<=8):=Ya;refine Wu (oP (od jc) (gw hn hk) @c1 @c2 @c3 @g1 @g2 @g3 @e1 @e2 @e3 @e4 @e5) (J7 j6 q1 q2 q3 q4 bL @aA.eq_1) ?_<;>intros
                 all_goals(simp[aT,aX,bA,aR,aS,q3,q4]<;>exact q8 A _)
               have q4:cg<=8:=Ya;refine Wu (oP (od jc) (gw hn hk) @c1 @c2 @c3 @g1 @g2 @g3 @e1 @e2 @e3 @e4 @e5) (J7 j6 q1 q2 q3 q4 bL @aA.eq_1) ?_<;>intros
               all_goals(simp[aX,bA,aR,aS,q3,q4]<;>exact q8 A _)
             |false=>cases d5 with
               |true=>
                 by_cases q1:cg<0
                 . have q3:¬(0<=cg):=Ya;refine Wu (oP (od jc) (gw hn hk) @c1 @c2 @c3 @g1 @g2 @g3 @e1 @e2 @e3 @e4 @e5) (J5 j6 q1 q3 bL @aA.eq_1) ?_<;>intros
                   all_goals(simp[aT,aX,bA,aR,aS,q3]<;>exact q8 A _)
                 have q3:0<=cg:=Ya;by_cases q2:3<cg
                 . have q4:¬(cg<=3):=Ya;refine Wu (oP (od jc) (gw hn hk) @c1 @c2 @c3 @g1 @g2 @g3 @e1 @e2 @e3 @e4 @e5) (J7 j6 q1 q2 q3 q4 bL @aA.eq_1) ?_<;>intros
                   all_goals(simp[aT,aX,bA,aR,aS,q3,q4]<;>exact q8 A _)
                 have q4:cg<=3:=Ya;refine Wu (oP (od jc) (gw hn hk) @c1 @c2 @c3 @g1 @g2 @g3 @e1 @e2 @e3 @e4 @e5) (J7 j6 q1 q2 q3 q4 bL @aA.eq_1) ?_<;>intros
                 all_goals(simp[aX,bA,aR,aS,q3,q4]<;>exact q8 A _)
               |false=>
                 by_cases q1:cg<0
                 . have q3:¬(0<=cg):=Ya;refine Wu (oP (od jc) (gw hn hk) @c1 @c2 @c3 @g1 @g2 @g3 @e1 @e2 @e3 @e4 @e5) (J5 j6 q1 q3 bL @aA.eq_1) ?_<;>intros
                   all_goals(simp[aT,aX,bA,aR,aS,q3]<;>exact q8 A _)
                 have q3:0<=cg:=Ya;by_cases q2:0<cg
                 . have q4:¬(cg<=0):=Ya;refine Wu (oP (od jc) (gw hn hk) @c1 @c2 @c3 @g1 @g2 @g3 @e1 @e2 @e3 @e4 @e5) (J7 j6 q1 q2 q3 q4 bL @aA.eq_1) ?_<;>intros
                   all_goals(simp[aT,aX,bA,aR,aS,q3,q4]<;>exact q8 A _)
                 have q4:cg<=0:=Ya;refine Wu (oP (od jc) (gw hn hk) @c1 @c2 @c3 @g1 @g2 @g3 @e1 @e2 @e3 @e4 @e5) (J7 j6 q1 q2 q3 q4 bL @aA.eq_1) ?_<;>intros
                 all_goals(simp[aX,bA,aR,aS,q3,q4]<;>exact q8 A _)
end
section
namespace TGFbE
def oK [Gl]{A:AW}{L:List It}{T:Prop}(hS:aj A L)(hw:A.Wf)(h':(ba A L/\bB A L/\cd L)=T:=by first|(dsimp only[aa,ah,ba,bB,cd,fw];done)|exact rfl):T:=h'▸hS.fm hw
end TGFbE
open TGFbE
variable [Gl]
def KI (hn:Gl.N=4)(x:bp)(A:AW):aE qZ 51 [.agg (aA x).toArray] A (λu A'=>u=qh qg (bE x)/\A=A'):=by
 refine aE.wy (V:=qh qg (bE x)) Yb (λhw=>?_) Yf;refine aO Tryz.func51 λ_=>?_;obtain⟨op,a,b,c,cg⟩:=x;have mz:=λA=>zu hn ⟨op,a,b,c,cg⟩ A;simp only[aA]at mz;by_cases h0:cQ ⟨op,a,b,c,cg⟩=0
 . rw[h0]at mz;by_cases o8:op=8
   . subst o8;have he:bE ⟨8,a,b,c,cg⟩=1:=Yi;rw[he];refine W (J1 @mz) (J2 @AW.ab @aA.eq_1) ?_<;>intros
     all_goals (simp[aT,aX,bA,aR,aS]<;>exact q8 A _)
   by_cases o9:op=9
   . subst o9;have he:bE ⟨9,a,b,c,cg⟩=1:=Yi;rw[he];refine W (J1 @mz) (J3 o8 @AW.ab @aA.eq_1) ?_<;>intros
     all_goals (simp[aT,aX,bA,aR,aS]<;>exact q8 A _)
   by_cases pn:op=10
   . subst pn;have he:bE ⟨10,a,b,c,cg⟩=1:=Yi;rw[he];refine W (J1 @mz) (J4 o8 o9 @AW.ab @aA.eq_1) ?_<;>intros
     all_goals (simp[aT,aX,bA,aR,aS]<;>exact q8 A _)
   by_cases o11:op=11
   . subst o11;have he:bE ⟨11,a,b,c,cg⟩=1:=Yi;rw[he];refine W (J1 @mz) (J5 o8 o9 pn @AW.ab @aA.eq_1) ?_<;>intros
     all_goals (simp[aT,aX,bA,aR,aS]<;>exact q8 A _)
   by_cases o14:op=14
   . subst o14;have he:bE ⟨14,a,b,c,cg⟩=1:=Yi;rw[he];refine W (J1 @mz) (J6 o8 o9 pn o11 @AW.ab @aA.eq_1) ?_<;>intros
     all_goals (simp[aT,aX,bA,aR,aS]<;>exact q8 A _)
   by_cases o15:op=15
   . subst o15;have he:bE ⟨15,a,b,c,cg⟩=1:=Yi;rw[he];refine W (J1 @mz) (J7 o8 o9 pn o11 o14 @AW.ab @aA.eq_1) ?_<;>intros
     all_goals (simp[aT,aX,bA,aR,aS]<;>exact q8 A _)
   by_cases o7:op=7
   . subst o7;have he:bE ⟨7,a,b,c,cg⟩=2:=Yi;rw[he];refine W (J1 @mz) (J8 o8 o9 pn o11 o14 o15 @AW.ab @aA.eq_1) ?_<;>intros
     all_goals (simp[aT,aX,bA,aR,aS]<;>exact q8 A _)
   by_cases o12:op=12
   . subst o12;have he:bE ⟨12,a,b,c,cg⟩=2:=Yi;rw[he];refine W (J1 @mz) (J9 o8 o9 pn o11 o14 o15 o7 @AW.ab @aA.eq_1) ?_<;>intros
     all_goals (simp[aT,aX,bA,aR,aS]<;>exact q8 A _)
   by_cases o13:op=13
   . subst o13;have he:bE ⟨13,a,b,c,cg⟩=2:=Yi;rw[he];refine W (J1 @mz) (Hr o8 o9 pn o11 o14 o15 o7 o12 @AW.ab @aA.eq_1) ?_<;>intros
     all_goals (simp[aT,aX,bA,aR,aS]<;>exact q8 A _)
   by_cases o16:op=16
   . subst o16;have he:bE ⟨16,a,b,c,cg⟩=2:=Yi;rw[he];refine W (J1 @mz) (Ls o8 o9 pn o11 o14 o15 o7 o12 o13 @AW.ab @aA.eq_1) ?_<;>intros
     all_goals (simp[aT,aX,bA,aR,aS]<;>exact q8 A _)
   by_cases o17:op=17
   . subst o17;have he:bE ⟨17,a,b,c,cg⟩=2:=Yi;rw[he];refine W (J1 @mz) (Ay o8 o9 pn o11 o14 o15 o7 o12 o13 o16 @AW.ab @aA.eq_1) ?_<;>intros
     all_goals (simp[aT,aX,bA,aR,aS]<;>exact q8 A _)
   have he:bE ⟨op,a,b,c,cg⟩=0:=(by unfold bE;rw[az h0];dsimp only;rw[ar Ya,ar Ya]);rw[he];refine W (J1 @mz) (oP o8 o9 pn o11 o14 o15 o7 o12 o13 o16 o17 @AW.ab @aA.eq_1) ?_<;>intros
   all_goals (simp[aX,bA,aR,aS]<;>exact q8 A _)
 have he:bE ⟨op,a,b,c,cg⟩=0:=by unfold bE;rw[ar h0]
 rw[he];refine W (J1 @mz) (J3 h0 @AW.ab @aA.eq_1) ?_<;>intros
 all_goals (simp[aT,aX,bA,aR,aS]<;>exact q8 A _)
def KH (hn:Gl.N=4)(x:bp)(A:AW):aE qZ 52 [.agg (aA x).toArray] A (λu A'=>u=qF #[qh qg ((eS x).getD 0),qt (eS x).isSome]/\A=A'):=by
 refine aE.wy (V:=qF #[qh qg ((eS x).getD 0),qt (eS x).isSome]) (dK.tuple Yb) (λhw=>?_) Yf;refine aO Tryz.func52 λ_=>?_;obtain⟨op,a,b,c,cg⟩:=x;have mz:=λA=>zu hn ⟨op,a,b,c,cg⟩ A;simp only[aA]at mz;by_cases h0:cQ ⟨op,a,b,c,cg⟩=0
 . rw[h0]at mz;have hr:0<=op/\op<18:=by unfold cQ at h0;dsimp only at h0;split at h0;cases h0;omega
   obtain⟨k,hk⟩:∃k:Nat,op=k:=⟨op.toNat,by omega⟩;subst hk;have hk18:k<18:=Ya;have hs:U (eC k)<2^30:=(by unfold eC;split<;>simp);have hj:decide ((106:UInt8)∈eC k)=decide (k=4\/k=5\/k=6):=by
    have h:((Zt 18).all λk=>decide ((106:UInt8)∈eC k) == decide (k=4\/k=5\/k=6))=qj:=Yf
    simpa using Zs.1 h k (Zr.2 hk18)
   have c1:∀A,aE qZ 96 [qO (bs (eC k)),qh .u8 106] A (λu A'=>u=qt (decide (k=4\/k=5\/k=6))/\A=A'):=λA=>by rw[<-hj];exact pB (eC k) 106 A hs
   by_cases h4:k=4\/k=5\/k=6
   . have he:eS ⟨(k:Int),a,b,c,cg⟩=qf cg:=YW;rw[he];rw[decide_eq_true h4]at c1;refine W (J3 @mz (gw hn hk18) @c1) (J2 @AW.ab @aA.eq_1) ?_<;>intros
     all_goals (simp[aX,bA,aR,aS]<;>exact q8 A _)
   have he:eS ⟨(k:Int),a,b,c,cg⟩=qk:=Xu;rw[he];rw[decide_eq_false h4]at c1;refine W (J3 @mz (gw hn hk18) @c1) (J2 @AW.ab @aA.eq_1) ?_<;>intros
   all_goals (simp[aT,aX,bA,aR,aS]<;>exact q8 A _)
 have he:eS ⟨op,a,b,c,cg⟩=qk:=by unfold eS;rw[ar (λh=>h0 h.1)]
 rw[he];refine W (J1 @mz) (J3 h0 @AW.ab @aA.eq_1) ?_<;>intros
 all_goals (simp[aT,aX,bA,aR,aS]<;>exact q8 A _)
end
section
namespace TGFbF
def oK [Gl]{A:AW}{L:List It}{T:Prop}(hS:aj A L)(hw:A.Wf)(h':(ba A L/\bB A L/\cd L)=T:=by first|(dsimp only[aa,ah,ba,bB,cd,fw];done)|exact rfl):T:=h'▸hS.fm hw
end TGFbF
open TGFbF
variable [Gl]
def gm:Option Nat->Int
 |some b=>b
 |none=>-1
def BD:Option (Nat×Nat)->qi
 |some (b,c)=>qF #[qh qg b,qh qg c]
 |none=>qF #[qh qg (-1),qh qg (-1)]
def LG (v:qi)(p:List bp)(t:Nat)(A:AW)(h:lE A v p)(hl:U p<2^30)(ht:t<=U p):
 aE qZ 97 [v,qh qg t] A (λu A'=>u=BD (FH p t)/\A=A'):=by
 refine aO Tryz.func97 λhw=>?_;obtain⟨o,c,rfl,_⟩:=h.cL;revert hw;refine W db db ?_<;>(unhygienic intros)
 refine dO (λk fr A'=>A=A'/\∃(i:Nat)(b:Option Nat),k=U p-i/\i<=U p/\fr 0=ql o (U p) c/\fr 1=qh qg t/\fr 6=qh qg (gm b)/\fr 7=qh qg i/\
  FH p t=kX p t (U p-i) i b) (U p) ?_ ?_
 exact⟨rfl,0,qk,rfl,Zv _,rfl,rfl,rfl,rfl,rfl⟩;rintro k fr A'⟨rfl,i,b,rfl,hi,h0,h1,h6,h7,he⟩;by_cases b9:i<U p
 . obtain⟨q,bO,rfl,bP,gb,hcell⟩:=h.at b9;have lV:=zG hcell;have ij:=C0 (i:=i);have ho:d9 p i=p[i].op:=m8 (Zf b9);have cJ:U p-i=(U p-(i+1))+1:=Ya;rw[cJ]at he;unfold kX at he;cases b with
   |none=>simp only[gm]at h6;simp only[ho]at he;by_cases o7:p[i].op=7;rw[az o7]at he;refine aU ?_;refine W db (Hr h0 h1 h6 h7 bP lV gb b9 ij o7) ?_<;>intros;refine⟨U p-(i+1),by omega,rfl,i+1,qf i,rfl,by omega,?_,?_,?_,?_,he⟩<;>simp[h0,h1,gm];rw[ar o7]at he;refine aU ?_;refine W db (Hr h0 h1 h6 h7 bP lV gb b9 ij o7) ?_<;>intros;refine⟨U p-(i+1),by omega,rfl,i+1,qk,rfl,by omega,?_,?_,?_,?_,he⟩<;>simp[h0,h1,h6,gm]
   |some d=>
     simp only[gm]at h6;simp only[ho]at he;have uv:¬((d:Int)<0):=Ya;by_cases o8:p[i].op=8
     . rw[az o8]at he;by_cases hc:d<=t/\t<=i
       . rw[az hc]at he;have L4:=hc.1;have AV:=hc.2;refine aU ?_;refine W db (oP h0 h1 h6 h7 bP lV gb b9 ij o8 uv L4 AV) ?_<;>intros
         all_goals simp[b6,aT,aX,bA,aR,aS,he,BD]
       rw[ar hc]at he;by_cases L4:d<=t;have AV:¬t<=i:=λx=>hc ⟨L4,x⟩;refine aU ?_;refine W db (oP h0 h1 h6 h7 bP lV gb b9 ij o8 uv L4 AV) ?_<;>intros;refine⟨U p-(i+1),by omega,rfl,i+1,qk,rfl,by omega,?_,?_,?_,?_,he⟩<;>simp[h0,h1,gm];refine aU ?_;refine W db (Ay h0 h1 h6 h7 bP lV gb b9 ij o8 uv L4) ?_<;>intros;refine⟨U p-(i+1),by omega,rfl,i+1,qk,rfl,by omega,?_,?_,?_,?_,he⟩<;>simp[h0,h1,gm]
     rw[ar o8]at he;refine aU ?_;refine W db (Ls h0 h1 h6 h7 bP lV gb b9 ij o8 uv) ?_<;>intros;refine⟨U p-(i+1),by omega,rfl,i+1,qf d,rfl,by omega,?_,?_,?_,?_,he⟩<;>simp[h0,h1,h6,gm]
 have uR:i=U p:=Ya
 subst uR;rw[Nat.sub_self]at he;unfold kX at he;cases b with
 |none=>
   simp only[gm]at h6;refine aU ?_;refine W db (J5 h0 h1 h6 h7 b9) ?_<;>intros
   all_goals simp[aX,bA,aR,aS,he,BD]
 |some d=>
   simp only[gm]at h6;have uv:¬((d:Int)<0):=Ya;have CE:(0:Int)<=d:=Ya;simp only at he;by_cases L4:d<=t
   . by_cases AV:t<U p
     . rw[az ⟨L4,AV⟩]at he;refine aU ?_;refine W db (J9 h0 h1 h6 h7 b9 uv CE L4 AV) ?_<;>intros
       all_goals simp[aT,aX,bA,aR,aS,he,BD]
     rw[ar (λx=>AV x.2)]at he;refine aU ?_;refine W db (J9 h0 h1 h6 h7 b9 uv CE L4 AV) ?_<;>intros
     all_goals simp[aX,bA,aR,aS,he,BD]
   rw[ar (λx=>L4 x.1)]at he;refine aU ?_;refine W db (J8 h0 h1 h6 h7 b9 uv CE L4) ?_<;>intros
   all_goals simp[aX,bA,aR,aS,he,BD]
end
section
namespace TGFbG
def oK [Gl]{A:AW}{L:List It}{T:Prop}(hS:aj A L)(hw:A.Wf)(h':(ba A L/\bB A L/\cd L)=T:=by first|(dsimp only[aa,ah,ba,bB,cd,fw];done)|exact rfl):T:=h'▸hS.fm hw
end TGFbG
open TGFbG
variable [Gl]
def Na (v:qi)(p:List bp)(k t:Nat)(A:AW)(h:lE A v p)(hl:U p<2^30)(hk:k<=U p):
 aE qZ 53 [v,qh qg k,qh qg t] A (λu A'=>u=qt (iK p k t)/\A=A'):=by
 refine aO Tryz.func53 λhw=>?_;obtain⟨o,c,rfl,_⟩:=h.cL;by_cases h1:U p<t
 . have he:iK p k t=qn:=(by unfold iK;rw[az h1]);rw[he];refine W db (J1 h1) ?_<;>intros
   all_goals simp[aT,aX,bA,aR,aS]
 have ht:t<=U p:=Ya
 have c1:=LG _ p k A h hl hk;have c2:=LG _ p t A h hl ht;cases hs:FH p k with
 |some bc=>
   obtain⟨b,d⟩:=bc;have hb:¬((b:Int)<0):=Ya;have lW:(0:Int)<=b:=Ya;have he:iK p k t=decide (t<=d):=(by unfold iK;rw[ar h1,hs]);rw[hs]at c1;simp only[BD]at c1;rw[he];refine W (J1 @c1) (J3 h1 hb lW) ?_<;>intros
   all_goals simp[aT,aX,bA,aR,aS]
 |none=>
   rw[hs]at c1;simp only[BD]at c1;cases tu:FH p t with
   |some bc=>
     obtain⟨b,d⟩:=bc;have hb:¬((b:Int)<0):=Ya;have lW:(0:Int)<=b:=Ya;have he:iK p k t=decide (b=t):=(by unfold iK;rw[ar h1,hs,tu]);rw[tu]at c2;simp only[BD]at c2;rw[he];refine W (J2 @c1 @c2) (J3 h1 hb lW) ?_<;>intros
     all_goals(simp[aX,bA,aR,aS]<;>omega)
   |none=>
     have he:iK p k t=qj:=(by unfold iK;rw[ar h1,hs,tu]);rw[tu]at c2;simp only[BD]at c2;rw[he];refine W (J2 @c1 @c2) (J1 h1) ?_<;>intros
     all_goals simp[aX,bA,aR,aS]
end
section
namespace TGFbH
def oK [Gl]{A:AW}{L:List It}{T:Prop}(hS:aj A L)(hw:A.Wf)(h':(ba A L/\bB A L/\cd L)=T:=by first|(dsimp only[aa,ah,ba,bB,cd,fw];done)|exact rfl):T:=h'▸hS.fm hw
end TGFbH
open TGFbH
variable [Gl]
def AW.le.mu (A:AW)(o:dt)(o':Option dt):A.le ((A.alloc o).set A.next o'):=by
 refine⟨by simp,λi hi=>?_⟩;have h1:¬i=A.next:=Ya
 have h2:¬A.next=i:=Ya
 simp[AW.cU,AW.bX,h1]
def sj (x:Nat×Int):qi:=qF #[qh qg x.1,qh qg x.2]
def SJ {x:bp}(h:cQ x=0)(h7:x.op=7):bE x=2:=by unfold bE;rw[az h,ar Ya,az Ya]
def SI {x:bp}(h:cQ x=0)(h7:x.op=8):bE x=1:=by unfold bE;rw[az h,az Ya]
set_option maxHeartbeats 8000000 in
def KJ (hn:Gl.N=4)(v:qi)(p:List bp)(A:AW)(h:lE A v p):
 aE qZ 25 [v] A (λu A'=>u=sj (nN p)/\A=A'):=by
 refine aE.wy (V:=sj (nN p)) (dK.tuple Yb) (λhw=>?_) Yf;refine aO Tryz.func25 λ_=>?_;obtain⟨o,c,rfl,_⟩:=h.cL;by_cases hL:64<U p
 . have he:nN p=(0,3):=(by unfold nN;rw[az hL]);rw[he];refine W db (J1 hL) ?_<;>intros
   all_goals (simp[aT,aX,bA,aR,aS,sj]<;>exact AW.le.refl A)
 have hl:U p<2^30:=Ya
 have he:nN p=jI (λk _ n=>iK p k (k+1+n.toNat)) (p.drop 0) 0 qk:=by unfold nN;rw[ar hL];rfl
 generalize htgt:(λ(k:Nat)(_:Option Nat)(n:Int)=>iK p k (k+1+n.toNat))=LC at he;have htg:∀k b n,LC k b n=iK p k (k+1+n.toNat):=by subst htgt;exact λ_ _ _=>rfl
 generalize nN p=RR at he ⊢;revert hw;refine W db (J1 hL) ?_<;>(unhygienic intros)
 refine dO (λk fr A'=>A.le A'/\∃(i:Nat)(b:Option Nat),k=U p-i/\i<=U p/\(∀d,b=qf d->d<i)/\fr 0=ql o (U p) c/\fr 4=qh qg (gm b)/\fr 5=qh qg i/\
  RR=jI LC (p.drop i) i b) (U p) ?_ ?_
 exact⟨AW.le.refl A,0,qk,rfl,Zv _,by simp,rfl,rfl,rfl,he⟩;rintro k fr A'⟨iQ,i,b,rfl,hi,Bs,h0,h4,h5,he⟩;by_cases b9:i<U p
 . obtain⟨q,bO,pS,bP,vW,hcell⟩:=(h.le iQ hw).at b9;subst pS;have ij:=C0 (i:=i);have fM:p.drop i=p[i]::p.drop (i+1):=Z3 b9;rw[fM]at he;generalize p[i]=x at he hcell;clear fM;have cI:=λB=>zu hn x B;have cP:=λB=>KI hn x B;have cS:=λB=>KH hn x B;have cR:=fun(t:Nat) o o'=>Na _ p i t _ (h.le (iQ.trans (Zw.mu A' o o')) hw) hl Ya;have x7:=SJ (x:=x);have x8:=SI (x:=x);have eb:=zG hcell;unfold jI at he;generalize hE:vQ LC i b x=E at he;generalize hN:Ik i b x=N at he;unfold vQ at hE;unfold Ik at hN;obtain⟨op,a,b',c',cg⟩:=x;simp only at hE hN x7 x8 eb;generalize bE ⟨op,a,b',c',cg⟩=pl at hE cP x7 x8;have hsk:=@xv ⟨op,a,b',c',cg⟩;generalize eS ⟨op,a,b',c',cg⟩=sk at hE cS hsk;have S7:=@IG ⟨op,a,b',c',cg⟩;simp only at hsk S7;generalize cQ ⟨op,a,b',c',cg⟩=e at hE cI x7 x8 hsk S7;simp only[aA]at hcell cI cP cS;have he4:U p-i=(U p-(i+1))+1:=Ya
   by_cases e0:e=0
   rotate_left
   . rw[ar e0]at hE;subst hE;rw[ar e0]at he;refine aU ?_;refine W (J1 @cI) (oP h0 h4 h5 bP eb hcell vW b9 ij e0 bL @gm.eq_1 @gm.eq_2) ?_<;>intros
     all_goals (simp[b6,aT,aX,bA,aR,aS,sj,he]<;>exact iQ.trans (Zw.mu A' _ _))
   subst e0;rw[az rfl]at hE;cases b with
   |none=>
     simp only[gm]at h4;by_cases ob:op=8
     . subst ob;rw[az Yb]at hE;subst hE;rw[ar Yd]at he;refine aU ?_;refine W (J3 @cI @cP @cS) (Ay h0 h4 h5 bP eb hcell vW b9 ij bL @gm.eq_1 @gm.eq_2) ?_<;>intros
       all_goals (simp[b6,aT,aX,bA,aR,aS,sj,he]<;>exact iQ.trans (Zw.mu A' _ _))
     rw[ar (by simp[ob])]at hE;by_cases pb:pl=1
     . subst pb;rw[az Yb]at hE;subst hE;rw[ar Yd]at he;by_cases oo:op=7
       . subst oo;refine aU ?_;revert hw;(repeat revert hc);exact W (J3 @cI @cP @cS) (oP h0 h4 h5 bP eb hcell vW b9 ij ob bL @gm.eq_1 @gm.eq_2) trivial
         all_goals first|exact iQ.trans (Zw.mu A' _ _)|(simp[b6,aT,aX,bA,aR,aS,sj,he]<;>exact iQ.trans (Zw.mu A' _ _))
       skip
       refine aU ?_;refine W (J3 @cI @cP @cS) (y9 h0 h4 h5 bP eb hcell vW b9 ij ob oo bL @gm.eq_1 @gm.eq_2) ?_<;>intros
       all_goals (simp[b6,aT,aX,bA,aR,aS,sj,he]<;>exact iQ.trans (Zw.mu A' _ _))
     rw[ar YH]at hE;cases sk with
     |some n=>
       obtain⟨rfl,-,lV⟩:=hsk rfl;obtain⟨IQ,Hd⟩:=S7 rfl lV;obtain⟨m,hm⟩:∃m:Nat,n=m:=⟨n.toNat,by omega⟩;subst hm;have II:Zb.wrap (((i+1:Nat):Int)+m)=((i+1+m:Nat):Int):=an Ya Ya;have Bm:Zb.wrap ((i:Int)+1+m)=((i+1+m:Nat):Int):=an Ya Ya;have cR1:=cR (i+1+m);simp only[htg,Z5]at hE;have o7:¬op=7:=Ya;have o8:¬op=8:=Ya;generalize iK p i (i+1+m)=r at hE cR1;by_cases po:pl=2
       . subst po;cases r with
         |false=>
           simp only[Zq,if_false]at hE;subst hE;rw[ar Yd]at he;refine aU ?_;refine W (J4 @cI @cP @cS @cR1) (Rr h0 h4 h5 bP eb hcell vW b9 ij o7 o8 II Bm bL @gm.eq_1 @gm.eq_2) ?_<;>intros
           all_goals (simp[b6,aT,aX,bA,aR,aS,sj,he]<;>exact iQ.trans (Zw.mu A' _ _))
         |true=>simp only[if_true]at hE;rw[ar o7,ar o8]at hN;subst hE;subst hN;rw[az rfl]at he;refine aU ?_;refine W (J4 @cI @cP @cS @cR1) (Rr h0 h4 h5 bP eb hcell vW b9 ij o7 o8 II Bm bL @gm.eq_1 @gm.eq_2) ?_<;>intros;exact XT
       skip
       cases r with
       |false=>
         simp only[Zq,if_false]at hE;subst hE;rw[ar Yd]at he;refine aU ?_;refine W (J4 @cI @cP @cS @cR1) (J18 h0 h4 h5 bP eb hcell vW b9 ij o7 o8 II Bm pb po bL @gm.eq_1 @gm.eq_2) ?_<;>intros
         all_goals (simp[b6,aT,aX,bA,aR,aS,sj,he]<;>exact iQ.trans (Zw.mu A' _ _))
       |true=>simp only[if_true]at hE;rw[ar o7,ar o8]at hN;subst hE;subst hN;rw[az rfl]at he;refine aU ?_;refine W (J4 @cI @cP @cS @cR1) (J18 h0 h4 h5 bP eb hcell vW b9 ij o7 o8 II Bm pb po bL @gm.eq_1 @gm.eq_2) ?_<;>intros;exact XT
     |none=>
       simp only at hE;subst hE;rw[az rfl]at he;by_cases oo:op=7;have po:=x7 rfl oo;subst po;subst oo;rw[az rfl]at hN;subst hN;refine aU ?_;refine W (J3 @cI @cP @cS) (oP h0 h4 h5 bP eb hcell vW b9 ij ob bL @gm.eq_1 @gm.eq_2) ?_<;>intros;refine⟨U p-(i+1),by omega,iQ.trans (Zw.mu A' _ _),i+1,qf i,rfl,by omega,?_,?_,?_,?_,he⟩<;>simp[h0,gm]<;>first|omega|(intro d hd;have:=Bs d hd;omega)|(have:=Bs;simp at this;omega)
       rw[ar oo,ar ob]at hN;subst hN;by_cases po:pl=2;subst po;refine aU ?_;refine W (J3 @cI @cP @cS) (y9 h0 h4 h5 bP eb hcell vW b9 ij ob oo bL @gm.eq_1 @gm.eq_2) ?_<;>intros;refine⟨U p-(i+1),by omega,iQ.trans (Zw.mu A' _ _),i+1,qk,rfl,by omega,?_,?_,?_,?_,he⟩<;>simp[h0,h4,gm]<;>first|omega|(intro d hd;have:=Bs d hd;omega)|(have:=Bs;simp at this;omega)
       skip
       refine aU ?_;refine W (J3 @cI @cP @cS) (Rr h0 h4 h5 bP eb hcell vW b9 ij ob oo pb po bL @gm.eq_1 @gm.eq_2) ?_<;>intros;exact XT
   |some d=>
     simp only[gm]at h4;have uv:¬((d:Int)<0):=Ya;have CE:(0:Int)<=d:=Ya;have hdi:=Bs d rfl;by_cases ob:op=7
     . subst ob;rw[az Yb]at hE;subst hE;rw[ar Yd]at he;refine aU ?_;refine W (J3 @cI @cP @cS) (y9 h0 h4 h5 bP eb hcell vW b9 ij uv CE bL @gm.eq_1 @gm.eq_2) ?_<;>intros
       all_goals (simp[b6,aT,aX,bA,aR,aS,sj,he]<;>exact iQ.trans (Zw.mu A' _ _))
     rw[ar (by simp[ob])]at hE;by_cases pb:pl=2
     . subst pb;rw[az Yb]at hE;subst hE;rw[ar Yd]at he;by_cases oo:op=8
       . subst oo;refine aU ?_;revert hw;(repeat revert hc);exact W (J3 @cI @cP @cS) (J15 h0 h4 h5 bP eb hcell vW b9 ij ob uv CE bL @gm.eq_1 @gm.eq_2) trivial
         all_goals first|exact iQ.trans (Zw.mu A' _ _)|(simp[b6,aT,aX,bA,aR,aS,sj,he]<;>exact iQ.trans (Zw.mu A' _ _))
       skip
       refine aU ?_;refine W (J3 @cI @cP @cS) (Rr h0 h4 h5 bP eb hcell vW b9 ij ob oo uv CE bL @gm.eq_1 @gm.eq_2) ?_<;>intros
       all_goals (simp[b6,aT,aX,bA,aR,aS,sj,he]<;>exact iQ.trans (Zw.mu A' _ _))
     rw[ar YH]at hE;cases sk with
     |some n=>
       obtain⟨rfl,-,lV⟩:=hsk rfl;obtain⟨IQ,Hd⟩:=S7 rfl lV;obtain⟨m,hm⟩:∃m:Nat,n=m:=⟨n.toNat,by omega⟩;subst hm;have II:Zb.wrap (((i+1:Nat):Int)+m)=((i+1+m:Nat):Int):=an Ya Ya;have Bm:Zb.wrap ((i:Int)+1+m)=((i+1+m:Nat):Int):=an Ya Ya;have cR1:=cR (i+1+m);simp only[htg,Z5]at hE;have o7:¬op=7:=Ya;have o8:¬op=8:=Ya;generalize iK p i (i+1+m)=r at hE cR1;by_cases po:pl=1
       . subst po;cases r with
         |false=>
           simp only[Zq,if_false]at hE;subst hE;rw[ar Yd]at he;refine aU ?_;refine W (J4 @cI @cP @cS @cR1) (J18 h0 h4 h5 bP eb hcell vW b9 ij o7 o8 II Bm uv CE bL @gm.eq_1 @gm.eq_2) ?_<;>intros
           all_goals (simp[b6,aT,aX,bA,aR,aS,sj,he]<;>exact iQ.trans (Zw.mu A' _ _))
         |true=>simp only[if_true]at hE;rw[ar o7,ar o8]at hN;subst hE;subst hN;rw[az rfl]at he;refine aU ?_;refine W (J4 @cI @cP @cS @cR1) (J18 h0 h4 h5 bP eb hcell vW b9 ij o7 o8 II Bm uv CE bL @gm.eq_1 @gm.eq_2) ?_<;>intros;exact XW
       skip
       cases r with
       |false=>
         simp only[Zq,if_false]at hE;subst hE;rw[ar Yd]at he;refine aU ?_;refine W (J4 @cI @cP @cS @cR1) (J19 h0 h4 h5 bP eb hcell vW b9 ij o7 o8 II Bm uv CE pb po bL (J2 @gm.eq_1 @gm.eq_2)) ?_<;>intros
         all_goals (simp[b6,aT,aX,bA,aR,aS,sj,he]<;>exact iQ.trans (Zw.mu A' _ _))
       |true=>simp only[if_true]at hE;rw[ar o7,ar o8]at hN;subst hE;subst hN;rw[az rfl]at he;refine aU ?_;refine W (J4 @cI @cP @cS @cR1) (J19 h0 h4 h5 bP eb hcell vW b9 ij o7 o8 II Bm uv CE pb po bL (J2 @gm.eq_1 @gm.eq_2)) ?_<;>intros;exact XW
     |none=>
       simp only at hE;subst hE;rw[az rfl]at he;by_cases oo:op=8;have po:=x8 rfl oo;subst po;subst oo;rw[ar Yd,az rfl]at hN;subst hN;refine aU ?_;refine W (J3 @cI @cP @cS) (J15 h0 h4 h5 bP eb hcell vW b9 ij ob uv CE bL @gm.eq_1 @gm.eq_2) ?_<;>intros;refine⟨U p-(i+1),by omega,iQ.trans (Zw.mu A' _ _),i+1,qk,rfl,by omega,?_,?_,?_,?_,he⟩<;>simp[h0,gm]<;>first|omega|(intro d hd;have:=Bs d hd;omega)|(have:=Bs;simp at this;omega)
       rw[ar ob,ar oo]at hN;subst hN;by_cases po:pl=1;subst po;refine aU ?_;refine W (J3 @cI @cP @cS) (Rr h0 h4 h5 bP eb hcell vW b9 ij ob oo uv CE bL @gm.eq_1 @gm.eq_2) ?_<;>intros;refine⟨U p-(i+1),by omega,iQ.trans (Zw.mu A' _ _),i+1,qf d,rfl,by omega,?_,?_,?_,?_,he⟩<;>simp[h0,h4,gm]<;>omega
       skip
       refine aU ?_;refine W (J3 @cI @cP @cS) (J18 h0 h4 h5 bP eb hcell vW b9 ij ob oo pb po uv CE bL @gm.eq_1 @gm.eq_2) ?_<;>intros;exact XW
 have uR:i=U p:=Ya
 subst uR;rw[List.drop_length]at he;unfold jI at he;cases b with
 |none=>
   simp only[gm]at h4;refine aU ?_;refine W db (J4 h0 h4 h5 b9) ?_<;>intros
   all_goals (simp[aX,bA,aR,aS,sj,he]<;>exact iQ)
 |some d=>
   simp only[gm]at h4;have uv:¬((d:Int)<0):=Ya;have CE:(0:Int)<=d:=Ya;refine aU ?_;refine W db (J6 h0 h4 h5 b9 uv CE) ?_<;>intros
   all_goals (simp[aT,aX,bA,aR,aS,sj,he]<;>exact iQ)
end
end Go.Stx
