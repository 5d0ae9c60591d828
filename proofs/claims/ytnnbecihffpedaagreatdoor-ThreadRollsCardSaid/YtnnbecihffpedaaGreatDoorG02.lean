/-
 The words of the cells: the program's functions and the reference's compute the same.
-/
import Derived.Test.YtnnbecihffpedaaGreatDoorF1
import Derived.Test.YtnnbecihffpedaaGreatDoorF2
set_option linter.unusedVariables false
set_option linter.unusedSimpArgs false
set_option linter.unusedSectionVars false
set_option maxRecDepth 20000
set_option maxHeartbeats 4000000
namespace Go.Stx
open Go Go.Proofs
attribute [local irreducible] TW bC cB aW az aG bZ cz
section
namespace TWord
theorem kI [Gl] {A:AW} {L:List It} {T:Prop} (hS:ah A L) (hw:A.Wf) (h':(aK A L/\ba A L/\bD L)=T:=by first|(dsimp only [aa,af,aK,ba,bD,dN];done)|exact rfl):T:=h'▸hS.dT hw
end TWord
open TWord
variable [Gl]
def lO (v:Int):Int:=if 0<=v/\v<=1099511627776 then v*64 else 0
def jL (o:Int):Int:=IntKind.i64.wrap (IntKind.u64.wrap (o.tdiv 64))
def lK (o:Int):Int:=IntKind.i64.wrap (IntKind.i64.wrap (o.tmod 64)-1)
def oI (Sz Mj:Int):Int:=if 0<=Sz/\Sz<281474976710656/\-1<=Mj/\Mj<64 then Sz*65536+(Mj+1) else 0
def Ou (h:Int):Int:=IntKind.i64.wrap (IntKind.u64.wrap (h.tdiv 65536))
def gT (h:Int):Int:=IntKind.i64.wrap (IntKind.i64.wrap (h.tmod 65536)-1)
def mW (h Mj:Int):Int:=oI ((IntKind.i64.wrap (Ou h+1)).tmod 281474976710656) Mj
theorem Er (v:Int) (A:AW):az Tryz.prog 251 [.int .i64 v] A (λu A'=>u=.bool (decide (0<=v/\v<=1099511627776))/\A=A'):=by
 refine aH Tryz.func251 λhw=>?_;refine W cy cy (J2 ?_ ?_)<;>intros
 all_goals(simp_all<;>omega)
theorem Jx (v:Int) (A:AW):az Tryz.prog 205 [.int .i64 v] A (λu A'=>(∃e,u=.tuple #[.int .u64 (lO v),.int .i64 e])/\A=A'):=by
 refine aH Tryz.func205 λhw=>?_;by_cases h1:0<=v/\v<=1099511627776
 . refine W (J1 @Er) (J1 h1) ?_<;>intros
   all_goals exact⟨_,by first|(simp;done)|(simp;rfl),⟨_,by simp [lO,h1];first|done|rfl⟩,rfl⟩
 refine W (J1 @Er) (J1 h1) ?_<;>intros
 all_goals exact⟨_,by first|(simp;done)|(simp;rfl),⟨_,by simp [lO,h1];first|done|rfl⟩,rfl⟩
theorem uY (o:Int) (A:AW):az Tryz.prog 245 [.int .u64 o] A (λv A'=>v=.int .i64 (jL o)/\A=A'):=by
 refine aH Tryz.func245 λhw=>?_;refine W cy cy ?_<;>intros;simp [jL]
theorem xf (o:Int) (A:AW):az Tryz.prog 244 [.int .u64 o] A (λv A'=>v=.int .i64 (lK o)/\A=A'):=by
 refine aH Tryz.func244 λhw=>?_;refine W cy cy ?_<;>intros;simp [lK]
theorem mj (Sz Mj:Int) (A:AW):az Tryz.prog 98 [.int .i64 Sz,.int .i64 Mj] A (λu A'=>(∃e,u=.tuple #[.int .u64 (oI Sz Mj),.int .i64 e])/\A=A'):=by
 refine aH Tryz.func98 λhw=>?_;by_cases h1:0<=Sz<;>by_cases h2:Sz<281474976710656<;>by_cases h3:-1<=Mj<;>by_cases h4:Mj<64
 all_goals
  all_goals(revert hw;refine W cy (J4 h1 h2 h3 h4) (J9 ?_ ?_ ?_ ?_ ?_ ?_ ?_ ?_ ?_)<;>(try exact trivial)<;>unhygienic intros)
  all_goals exact⟨_,by first|(simp;done)|(simp;rfl),⟨_,by simp [oI,h1,h2,h3,h4];first|done|rfl⟩,rfl⟩
theorem MG (h:Int) (A:AW):az Tryz.prog 242 [.int .u64 h] A (λv A'=>v=.int .i64 (Ou h)/\A=A'):=by
 refine aH Tryz.func242 λhw=>?_;refine W cy cy ?_<;>intros;simp [Ou]
theorem Es (h:Int) (A:AW):az Tryz.prog 162 [.int .u64 h] A (λv A'=>v=.int .i64 (gT h)/\A=A'):=by
 refine aH Tryz.func162 λhw=>?_;refine W cy cy ?_<;>intros;simp [gT]
theorem BE (h Mj:Int) (A:AW):az Tryz.prog 172 [.int .u64 h,.int .i64 Mj] A (λu A'=>(∃e,u=.tuple #[.int .u64 (mW h Mj),.int .i64 e])/\A=A'):=by
 refine aH Tryz.func172 λhw=>?_;revert hw;refine W (J1 @MG) trivial ?_<;>(unhygienic intros);refine bV (mj _ _ _) ?_;rintro _ _ ⟨⟨e,rfl⟩,rfl⟩ _ _;refine W cy cy ?_<;>intros;exact⟨_,by first|(simp;done)|(simp;rfl),⟨e,by simp [mW]⟩,rfl⟩
end
structure bg where
 op:Int
 a:Int
 b:Int
 c:Int
 bL:Int
deriving DecidableEq
def ko (op:Int):Bool:=op == 1 || op == 2 || op == 3 || op == 5 || op == 6 || op == 10 || op == 11 || op == 12 || op == 13 || op == 14 || op == 15 || op == 17
def jd (op:Int):Bool:=op == 2 || op == 3 || op == 10 || op == 11 || op == 12 || op == 13
def km (op:Int):Bool:=op == 3
def fE (r:Int) (is:Bool):Bool:=if is then decide (0<=r) && decide (r<8) else decide (r=0)
def ej (op bL:Int):Bool:=
 if op=1\/op=10\/op=11\/op=12\/op=13 then true
 else if op=3 then decide (0<=bL) && decide (bL<22)
 else if op=4\/op=5\/op=6 then decide (0<=bL) && decide (bL<=64)
 else if op=7 then decide (1<=bL) && decide (bL<=8)
 else if op=14 then decide (0<=bL) && decide (bL<4)
 else decide (bL=0)
def bT (i:bg):Int:=
 if i.op<0\/18<=i.op then 10
 else if (fE i.a (ko i.op) && fE i.b (jd i.op) && fE i.c (km i.op)) && ej i.op i.bL then 0 else 11
def bk (i:bg):Int:=
 if bT i=0 then
  if i.op=8\/i.op=9\/i.op=10\/i.op=11\/i.op=14\/i.op=15 then 1
  else if i.op=7\/i.op=12\/i.op=13\/i.op=16\/i.op=17 then 2 else 0
 else 0
def dK (i:bg):Option Int:=if bT i=0/\(i.op=4\/i.op=5\/i.op=6) then some i.bL else none
def cu (p:List bg) (k:Nat):Int:=(p[k]?.map (·.op)).getD (-1)
def jh (p:List bg) (k:Nat):Nat:=k+(p.drop k).findIdx λi=>i.op == 8
def cQ (p:List bg) (b:Nat):Nat:=jh p (b+1)
def bN (p:List bg):Nat->Option Nat
 | 0=>none
 | k+1=>match bN p k with
   | none=>if cu p k=7 then some k else none
   | some b=>if cu p k=8 then none else some b
theorem jj {p:List bg}:∀{t b:Nat},bN p t=some b->b<t/\cu p b=7/\∀j,b<j->j<t->cu p j≠8
 | 0,b,h=>by cases h
 | t+1,b,h=>by
   unfold bN at h;split at h;split at h;rename_i h7;injection h with h;subst h;exact⟨Nat.lt_succ_self _,h7,λj h1 h2=>by omega⟩;cases h;rename_i b' hb;split at h;cases h;rename_i h8;injection h with h;subst h;obtain⟨h1,h2,h3⟩:=jj hb;refine⟨by omega,h2,λj h4 h5=>?_⟩;by_cases e:j=t;subst e;exact h8;exact h3 j h4 (by omega)
theorem vN {p:List bg} {b:Nat} (hb:cu p b=7):∀{t:Nat},b<t->(∀j,b<j->j<t->cu p j≠8)->∃b',bN p t=some b'
 | 0,h,_=>by omega
 | t+1,h,hn=>by
   unfold bN;by_cases e:b=t
   . subst e;cases hs:bN p b with
     | none=>exact⟨b,by simp [hb]⟩
     | some b'=>exact⟨b',by simp [hb]⟩
   obtain⟨b',h'⟩:=vN hb (t:=t) (by omega) (λj h1 h2=>hn j h1 (by omega));rw [h'];have:=hn t (by omega) (by omega);exact⟨b',by simp [this]⟩
theorem Br {p:List bg} {k:Nat} (hk:bN p k=none):∀{t b:Nat},k<=t->bN p t=some b->k<=b
 | t,b,hkt,h=>by
   obtain⟨h1,h2,h3⟩:=jj h;rcases Nat.lt_or_ge b k with h4|h4;obtain⟨b',h'⟩:=vN h2 h4 (λj h5 h6=>h3 j h5 (by omega));rw [hk] at h';cases h';exact h4
theorem oG {p:List bg} {k:Nat} (h:0<=cu p k):k<p.length:=by
 rcases Nat.lt_or_ge k p.length with h1|h1;exact h1;unfold cu at h;rw [List.getElem?_eq_none h1] at h;simp at h
theorem sq {p:List bg} {k:Nat} (h:k<p.length):jh p k=if cu p k=8 then k else jh p (k+1):=by
 unfold jh;have e:p.drop k=p[k]::p.drop (k+1):=List.drop_eq_getElem_cons h;have e2:cu p k=p[k].op:=by simp [cu,List.getElem?_eq_getElem h]
 rw [e,List.findIdx_cons,e2];by_cases h8:p[k].op=8;simp [h8];have e3:(p[k].op == 8)=false:=by simpa using h8
 rw [ap h8,e3];simp only [cond_false];omega
theorem yL {p:List bg} {k:Nat} (h:p.length<=k):jh p k=k:=by
 unfold jh;rw [List.drop_eq_nil_of_le h];rfl
theorem jS {p:List bg} {k:Nat} (h:k<=p.length):k<=jh p k/\jh p k<=p.length/\(∀j,k<=j->j<jh p k->cu p j≠8)/\(jh p k<p.length->cu p (jh p k)=8):=by
 induction hn:p.length-k generalizing k with
 | zero=>
   have:k=p.length:=by omega
   rw [yL (by omega)];exact⟨Nat.le_refl _,h,λj h1 h2=>by omega,λh1=>by omega⟩
 | succ n ih=>
   rw [sq (by omega)];split;rename_i h8;exact⟨Nat.le_refl _,h,λj h1 h2=>by omega,λ_=>h8⟩;rename_i h8;obtain⟨h1,h2,h3,h4⟩:=ih (k:=k+1) (by omega) (by omega);refine⟨by omega,h2,λj h5 h6=>?_,h4⟩;by_cases e:j=k;subst e;exact h8;exact h3 j (by omega) h6
def fX (p:List bg) (k t:Nat):Bool:=(List.range t).any λb=>decide (k<b) && decide (cu p b=7) && decide (t<=min (cQ p b) (p.length-1))
def eS (p:List bg) (k:Nat) (b:Option Nat) (n:Int):Bool:=
 let t:Nat:=k+1+n.toNat
 if p.length<t then false else match b with
 | some b=>decide (t<=cQ p b)
 | none=>!fX p k t
def iV (p:List bg) (t:Nat):Nat->Nat->Option Nat->Option (Nat×Nat)
 | 0,_,b=>match b with
   | some b=>if b<=t/\t<p.length then some (b,p.length) else none
   | none=>none
 | n+1,k,b=>match b with
   | none=>iV p t n (k+1) (if cu p k=7 then some k else none)
   | some b=>if cu p k=8 then (if b<=t/\t<=k then some (b,k) else iV p t n (k+1) none) else iV p t n (k+1) (some b)
def zm (p:List bg) (t:Nat):Option (Nat×Nat):=iV p t p.length 0 none
theorem Ll {p:List bg} {t:Nat}:∀{k n:Nat},k+n=p.length->k<=t->zm p t=iV p t n k (bN p k)
 | 0,n,h,_=>by
   have:n=p.length:=by omega
   subst this;rfl
 | k+1,n,h,hk=>by
   rw [Ll (k:=k) (n:=n+1) (by omega) (by omega)]
   conv=>lhs;unfold iV
   conv=>rhs;rw [bN]
   cases hb:bN p k with
   | none=>rfl
   | some b=>
     simp only;by_cases h8:cu p k=8;rw [ay h8,ay h8,ap (by omega)];rw [ap h8,ap h8]
theorem yz {p:List bg} {t:Nat}:∀{n k:Nat},t<k->iV p t n k none=none
 | 0,k,_=>rfl
 | n+1,k,h=>by
   unfold iV;by_cases h7:cu p k=7;rw [ay h7];exact Ei h (by omega);rw [ap h7];exact yz (by omega)
where
 Ei {p:List bg} {t:Nat}:∀{n k b:Nat},t<b->b<k->iV p t n k (some b)=none
 | 0,k,b,h,_=>by unfold iV;simp;omega
 | n+1,k,b,h,hk=>by
   unfold iV;simp only;split;rw [ap (by omega)];exact yz (by omega);exact Ei h (by omega)
theorem yy {p:List bg} {t b:Nat} (hb:b<=t):∀{n k:Nat},k+n=p.length->t<=k->t<p.length->iV p t n k (some b)=some (b,jh p k)
 | 0,k,h,_,ht=>by
   unfold iV;rw [yL (by omega)];simp only;rw [ay ⟨hb,ht⟩];rw [show k=p.length by omega]
 | n+1,k,h,hk,ht=>by
   unfold iV;rw [sq (by omega)];simp only;by_cases h8:cu p k=8;rw [ay h8,ay h8,ay ⟨hb,hk⟩];rw [ap h8,ap h8];exact yy hb (by omega) (by omega) ht
theorem He {p:List bg} {t:Nat} (ht:t<=p.length):zm p t=match bN p t with
 | some b=>if t<p.length then some (b,jh p t) else none
 | none=>if cu p t=7 then some (t,cQ p t) else none:=by
 rw [Ll (k:=t) (n:=p.length-t) (by omega) (Nat.le_refl t)];cases hb:bN p t with
 | some b=>
   obtain⟨h1,h2,h3⟩:=jj hb;simp only;split;exact yy (by omega) (by omega) (Nat.le_refl t) (by assumption);have:p.length-t=0:=by omega
   rw [this];unfold iV;simp only;rw [ap (by omega)]
 | none=>
   simp only;cases hn:p.length-t with
   | zero=>
     have h7:cu p t≠7:=λh=>by
      have:=oG (p:=p) (k:=t) (by omega);omega
     rw [ap h7];rfl
   | succ n=>
     unfold iV;simp only;by_cases h7:cu p t=7;rw [ay h7,ay h7];have:=oG (p:=p) (k:=t) (by omega);by_cases hl:t+1<=p.length;exact Jg (by omega) (by omega) this;omega;rw [ap h7,ap h7];exact yz (by omega)
where
 Jg {p:List bg} {t:Nat}:∀{n k:Nat},k+n=p.length->t<k->t<p.length->iV p t n k (some t)=some (t,jh p k)
 | n,k,h,hk,ht=>yy (Nat.le_refl t) h (by omega) ht
def fW (p:List bg) (k t:Nat):Bool:=
 if p.length<t then false else match zm p k with
 | some (_,c)=>decide (t<=c)
 | none=>match zm p t with
   | some (b,_)=>decide (b=t)
   | none=>true
theorem Pj {p:List bg} {k t:Nat} (hk:bN p k=none) (h7:cu p k≠7) (hkt:k<t) (ht:t<=p.length):fX p k t=true↔t<p.length/\∃b,bN p t=some b:=by
 unfold fX;rw [List.any_eq_true];constructor;rintro ⟨b,hb,h⟩;simp only [Bool.and_eq_true,decide_eq_true_eq] at h;have hbt:=List.mem_range.1 hb;obtain⟨⟨h1,h2⟩,h3⟩:=h;have h4:t<=cQ p b:=by omega
 have H2:=oG (p:=p) (k:=b) (by omega);refine⟨by omega,vN h2 hbt λj h5 h6=>?_⟩;exact(jS (p:=p) (k:=b+1) (by omega)).2.2.1 j (by omega) (by unfold cQ at h4;omega);rintro ⟨h1,b,hb⟩;obtain⟨h2,h3,h4⟩:=jj hb;have h5:=Br hk (by omega) hb;have h6:b≠k:=λe=>h7 (by rw [<-e];exact h3);refine⟨b,List.mem_range.2 h2,?_⟩;simp only [Bool.and_eq_true,decide_eq_true_eq];refine⟨⟨by omega,h3⟩,?_⟩;have h7:t<=cQ p b:=by
  rcases Nat.lt_or_ge (cQ p b) t with h8|h8;obtain⟨g1,g2,g3,g4⟩:=jS (p:=p) (k:=b+1) (by omega);unfold cQ at h8;exact absurd (g4 (by omega)) (h4 _ (by omega) h8);exact h8
 omega
theorem Mo {p:List bg} {k:Nat} (hk:k<p.length) (h7:cu p k≠7) (h8:cu p k≠8) {n:Int}:fW p k (k+1+n.toNat)=eS p k (bN p k) n:=by
 unfold fW eS;simp only;generalize ht:k+1+n.toNat=t;by_cases hl:p.length<t;rw [ay hl,ay hl];rw [ap hl,ap hl,He (by omega:k<=p.length)];cases hb:bN p k with
 | some b=>
   simp only;rw [ay hk];obtain⟨h1,h2,h3⟩:=jj hb;have e:cQ p b=jh p k:=by
    have:∀d,b+1+d=k->jh p (b+1)=jh p (b+1+d):=by
     intro d
     induction d with
     | zero=>intro _;rfl
     | succ d ih=>
       intro hd;have key:∀q,b<q->q<=k->jh p (b+1)=jh p q:=by
        intro q
        induction q with
        | zero=>intro h;omega
        | succ q ihq=>
          intro h5 h6;by_cases e:b=q;subst e;rfl;rw [ihq (by omega) (by omega),sq (by omega),ap (h3 q (by omega) (by omega))]
       exact key _ (by omega) (by omega)
    have h9:=this (k-(b+1)) (by omega);rw [show b+1+(k-(b+1))=k by omega] at h9;exact h9
   rw [e]
 | none=>
   simp only;rw [ap h7,He (by omega)];have hi:=Pj hb h7 (t:=t) (by omega) (by omega);cases hs:bN p t with
   | some b=>
     obtain⟨h1,_,_⟩:=jj hs;simp only;by_cases cF:t<p.length;have:fX p k t=true:=hi.2 ⟨cF,b,hs⟩;rw [ay cF,this];have:¬b=t:=by omega
     simp [this];have:fX p k t=false:=by
      cases hp:fX p k t with
      | false=>rfl
      | true=>exact absurd (hi.1 hp).1 cF
     rw [ap cF,this];rfl
   | none=>
     have:fX p k t=false:=by
      cases hp:fX p k t with
      | false=>rfl
      | true=>obtain⟨b,tH⟩:=(hi.1 hp).2;rw [hs] at tH;cases tH
     rw [this];simp only;by_cases h9:cu p t=7;simp [h9];simp [h9]
def rx (Ed:Nat->Option Nat->Int->Bool) (k:Nat) (b:Option Nat) (x:bg):Int:=
 if bT x=0 then
  if (x.op=7/\b.isSome=true)\/(x.op=8/\b.isSome=false) then 40
  else if (bk x=1/\b.isSome=false)\/(bk x=2/\b.isSome=true) then 41
  else match dK x with
   | some n=>if Ed k b n=true then 0 else 42
   | none=>0
 else bT x
def BO (k:Nat) (b:Option Nat) (x:bg):Option Nat:=if x.op=7 then some k else if x.op=8 then none else b
def gX (Ed:Nat->Option Nat->Int->Bool):List bg->Nat->Option Nat->Nat×Int
 | [],_,b=>match b with
   | some q=>(q,43)
   | none=>(0,0)
 | x::l,k,b=>if rx Ed k b x=0 then gX Ed l (k+1) (BO k b x) else (k,rx Ed k b x)
def cK (p:List bg):Nat×Int:=if 64<p.length then (0,3) else gX (eS p) p 0 none
def kB (p:List bg):Nat×Int:=if 64<p.length then (0,3) else gX (λk _ n=>fW p k (k+1+n.toNat)) p 0 none
theorem rW {x:bg} {n:Int} (h:dK x=some n):n=x.bL/\bT x=0/\(x.op=4\/x.op=5\/x.op=6):=by
 unfold dK at h;split at h;rename_i h1;injection h with h;exact⟨h.symm,h1.1,h1.2⟩;cases h
theorem ka {p:List bg} {k:Nat} {x:bg} (h:p[k]? = some x):cu p k=x.op:=by simp [cu,h]
theorem wa {Ed:Nat->Option Nat->Int->Bool} {p:List bg} {k:Nat} {x:bg} (hx:p[k]? = some x) (h:rx Ed k (bN p k) x=0):BO k (bN p k) x=bN p (k+1):=by
 have e:=ka hx;unfold BO;rw [bN];cases hb:bN p k with
 | none=>
   simp only;rw [e];by_cases h7:x.op=7;rw [ay h7,ay h7];rw [ap h7,ap h7];split<;>rfl
 | some b=>
   simp only;rw [e];have h7:x.op≠7:=λh7=>by
    rw [hb] at h;unfold rx at h;split at h;rw [ay (.inl ⟨h7,rfl⟩)] at h;cases h;rename_i h0;exact h0 h
   rw [ap h7]
theorem Rd {p:List bg} {k:Nat} {x:bg} (hx:p[k]? = some x):rx (λk _ n=>fW p k (k+1+n.toNat)) k (bN p k) x=rx (eS p) k (bN p k) x:=by
 unfold rx;split
 . split;rfl;split;rfl;cases hs:dK x with
   | none=>rfl
   | some n=>
     obtain⟨rfl,_,h3⟩:=rW hs;have e:=ka hx;have ht:=Mo (n:=x.bL) (List.getElem?_eq_some_iff.1 hx).1 (show cu p k≠7 by rw [e];omega) (show cu p k≠8 by rw [e];omega);simp only [ht]
 rfl
theorem CB {p:List bg}:∀(l:List bg) (k:Nat),p.drop k=l->gX (λk _ n=>fW p k (k+1+n.toNat)) l k (bN p k)=gX (eS p) l k (bN p k)
 | [],k,_=>rfl
 | x::l,k,h=>by
   have hx:p[k]? = some x:=by
    have:=congrArg (λq=>q[0]?) h
    simpa using this
   unfold gX;rw [Rd hx];split;rename_i h0;rw [wa hx h0];exact CB l (k+1) (by rw [<-List.drop_drop,h];rfl);rfl
theorem Qa (p:List bg):kB p=cK p:=by
 unfold kB cK;split;rfl;exact CB p 0 rfl
theorem Cz {Ed:Nat->Option Nat->Int->Bool} {p:List bg}:∀(l:List bg) (k:Nat),p.drop k=l->(gX Ed l k (bN p k)).2=0->
 (∀j x,k<=j->p[j]? = some x->rx Ed j (bN p j) x=0)/\bN p (k+l.length)=none
 | [],k,h,h0=>by
   refine⟨λj x hj hx=>?_,?_⟩;have h1:=(List.getElem?_eq_some_iff.1 hx).1;have h2:p.length<=k:=by
    rcases Nat.lt_or_ge k p.length with h3|h3;rw [List.drop_eq_getElem_cons h3] at h;cases h;exact h3
   omega;unfold gX at h0;show bN p k=none;cases hb:bN p k with
   | none=>rfl
   | some b=>rw [hb] at h0;cases h0
 | x::l,k,h,h0=>by
   have hx:p[k]? = some x:=by
    have:=congrArg (λq=>q[0]?) h
    simpa using this
   unfold gX at h0;split at h0;rename_i h1;rw [wa hx h1] at h0;obtain⟨h2,h3⟩:=Cz l (k+1) (by rw [<-List.drop_drop,h];rfl) h0;refine⟨λj y hj hy=>?_,by rw [List.length_cons,show k+(l.length+1)=k+1+l.length by omega];exact h3⟩;by_cases e:j=k;subst e;rw [hx] at hy;injection hy with hy;subst hy;exact h1;exact h2 j y (by omega) hy;rename_i h1;exact absurd h0 h1
theorem fY {p:List bg} (h:(cK p).2=0):p.length<=64/\(∀j x,p[j]? = some x->rx (eS p) j (bN p j) x=0)/\bN p p.length=none:=by
 unfold cK at h;split at h;cases h;rename_i hl;obtain⟨h1,h2⟩:=Cz p 0 rfl h;rw [Nat.zero_add] at h2;exact⟨by omega,λj x hx=>h1 j x (Nat.zero_le _) hx,h2⟩
theorem B2 {x:bg} (h:bT x=0) (ho:x.op=4\/x.op=5\/x.op=6):0<=x.bL/\x.bL<=64:=by
 unfold bT at h;split at h;cases h;split at h;rename_i h1;rw [Bool.and_eq_true] at h1;have h2:=h1.2;unfold ej at h2;rw [ap (by omega),ap (by omega),ay ho] at h2
 simpa using h2
 cases h
section
namespace TGFbA
theorem kI [Gl] {A:AW} {L:List It} {T:Prop} (hS:ah A L) (hw:A.Wf) (h':(aK A L/\ba A L/\bD L)=T:=by first|(dsimp only [aa,af,aK,ba,bD,dN];done)|exact rfl):T:=h'▸hS.dT hw
end TGFbA
open TGFbA
variable [Gl]
def ao (i:bg):List Value:=[.int .i64 i.op,.int .i64 i.a,.int .i64 i.b,.int .i64 i.c,.int .i64 i.bL]
def kl (A:AW) (v:Value) (p:List bg):Prop:=gZ A 5 v p.length (p.flatMap ao)
theorem B0:∀(l:List bg) (j:Nat) (hj:j<l.length),((l.flatMap ao).drop (j*5)).take 5=ao l[j]
 | x::l,0,_=>by simp [ao]
 | x::l,j+1,h=>by
   have:=B0 l j (by simpa using h);have e:(j+1)*5=(ao x).length+j*5:=(by simp [ao];omega);rw [List.flatMap_cons,e,<-List.drop_drop,List.drop_left]
   simpa using this
theorem kl.dO {A:AW} {v:Value} {l:List bg} (h:kl A v l):∃o c,v=.slice o l.length c/\l.length<=c:=gZ.dO h
theorem kl.le {A B:AW} (hl:A.le B) (hw:A.Wf) {v:Value} {l:List bg} (h:kl A v l):kl B v l:=gZ.le hl hw h
theorem kl.at {A:AW} {o:Option Addr} {c n:Nat} {l:List bg} (h:kl A (.slice o n c) l) {i:Nat} (hi:i<l.length) :
 ∃p cD,o=some p/\A.cD p.block=some cD/\p.off+i*5+5<=cD.length/\(cD.drop (p.off+i*5)).take 5=ao l[i]:=by
 rcases h with ⟨⟨o,h1⟩,h2,_⟩|⟨p,c,cD,own,u,h1,h2,h3,h4,h5,h6⟩;omega;injection h1 with h1 _ _;refine⟨p,cD,h1,AW.Fy h3,by omega,?_⟩;rw [<-B0 l i hi,h6,<-List.drop_drop,List.drop_take,List.take_take];congr 1;omega
theorem HR {cD:List Value} {b:Nat} {x:bg} (h:(cD.drop b).take 5=ao x) (q:Nat) (hq:q<5):cD[b+q]? = (ao x)[q]?:=by
 rw [<-h,List.getElem?_take_of_lt hq,List.getElem?_drop]
theorem tF {cD:List Value} {b:Nat} {x:bg} (h:(cD.drop b).take 5=ao x):cD[b]? = some (.int .i64 x.op):=HR h 0 (by omega)
theorem tP (v:Value) (p:List bg) (b:Nat) (A:AW) (h:kl A v p) (hl:p.length<2^30) (hb:b<p.length) :
 az Tryz.prog 166 [v,.int .i64 b] A (λu A'=>u=.int .i64 (cQ p b)/\A=A'):=by
 refine aH Tryz.func166 λhw=>?_;obtain⟨o,c,rfl,_⟩:=h.dO;have MW:IntKind.i64.wrap ((b:Int)+1)=((b+1:Nat):Int):=an (by omega) (by omega);revert hw;refine W cy (J1 MW) ?_<;>(unhygienic intros);refine dW (λk fr A'=>A=A'/\∃i:Nat,k=p.length-i/\i<=p.length/\fr 0=.slice o p.length c/\fr 5=.int .i64 i/\cQ p b=jh p i) (p.length-(b+1)) ?_ ?_;exact⟨rfl,b+1,rfl,by omega,rfl,rfl,rfl⟩;rintro k fr A' ⟨rfl,i,rfl,hi,h0,h5,he⟩;by_cases cF:i<p.length;obtain⟨q,cD,rfl,cH,fo,hcell⟩:=h.at cF;have kJ:=tF hcell;have hP:=D9 (i:=i);have cL:=sq cF;have ho:cu p i=p[i].op:=ka (List.getElem?_eq_getElem cF);rw [ho] at cL;by_cases h8:p[i].op=8;rw [ay h8] at cL;refine bh ?_;refine W cy (J8 h0 h5 cH kJ fo cF hP h8) ?_<;>intros;simp [he,cL];rw [ap h8] at cL;refine bh ?_;refine W cy (J8 h0 h5 cH kJ fo cF hP h8) ?_<;>intros;refine⟨p.length-(i+1),by omega,rfl,i+1,rfl,by omega,?_,?_,?_⟩;simp [h0];simp;rw [he,cL];have C7:i=p.length:=by omega
 refine bh ?_;refine W cy (J3 h0 h5 cF) ?_<;>intros;subst C7;simp [he,yL (Nat.le_refl _)]
theorem MQ (v:Value) (p:List bg) (k t:Nat) (A:AW) (h:kl A v p) (hl:p.length<2^30) (hk:k<p.length) (ht:t<=p.length) :
 az Tryz.prog 167 [v,.int .i64 k,.int .i64 t] A (λu A'=>u=.bool (fX p k t)/\A=A'):=by
 refine aH Tryz.func167 λhw=>?_;obtain⟨o,c,rfl,_⟩:=h.dO;have MW:IntKind.i64.wrap ((k:Int)+1)=((k+1:Nat):Int):=an (by omega) (by omega);have SO:IntKind.i64.wrap ((p.length:Int)-1)=((p.length-1:Nat):Int):=by rw [an (by omega) (by omega)];omega
 revert hw;refine W cy (J1 MW) ?_<;>(unhygienic intros)
 refine dW (λn fr A'=>A=A'/\∃i:Nat,n=t-i/\k+1<=i/\fr 0=.slice o p.length c/\fr 2=.int .i64 t/\fr 7=.int .i64 i/\
  (fX p k t=true↔∃b,i<=b/\b<t/\cu p b=7/\t<=min (cQ p b) (p.length-1))) (t-(k+1)) ?_ ?_
 refine⟨rfl,k+1,rfl,Nat.le_refl _,rfl,rfl,rfl,?_⟩;rw [fX,List.any_eq_true];constructor;rintro ⟨b,hb,hh⟩;simp only [Bool.and_eq_true,decide_eq_true_eq] at hh;exact⟨b,by omega,List.mem_range.1 hb,hh.1.2,hh.2⟩;rintro ⟨b,h1,h2,h3,h4⟩;exact⟨b,List.mem_range.2 h2,by simp only [Bool.and_eq_true,decide_eq_true_eq];exact⟨⟨by omega,h3⟩,h4⟩⟩;rintro n fr A' ⟨rfl,i,rfl,hi,h0,h2,h7,he⟩;by_cases cF:i<t;have C7:i<p.length:=by omega
 obtain⟨q,cD,rfl,cH,fo,hcell⟩:=h.at C7;have kJ:=tF hcell;have hP:=D9 (i:=i);have ho:cu p i=p[i].op:=ka (List.getElem?_eq_getElem C7);by_cases h7':p[i].op=7;have pf:=tP _ p i A h hl C7;by_cases S7:t<=min (cQ p i) (p.length-1);have e:fX p k t=true:=he.2 ⟨i,Nat.le_refl _,cF,by rw [ho];exact h7',S7⟩;have yR:((t:Int)<=if p.length-1<cQ p i then ((p.length-1:Nat):Int) else (cQ p i:Int)):=by split<;>omega
 refine bh ?_;refine W (J1 @pf) (kM h0 h2 h7 cH kJ fo cF C7 hP SO h7' yR e) ?_<;>intros;simp [b7,aM,aS,bA,aN,aO,e];have yR:¬((t:Int)<=if p.length-1<cQ p i then ((p.length-1:Nat):Int) else (cQ p i:Int)):=by split<;>omega
 refine bh ?_;refine W (J1 @pf) (rL h0 h2 h7 cH kJ fo cF C7 hP SO h7' yR) ?_<;>intros;refine⟨t-(i+1),by omega,rfl,i+1,rfl,by omega,?_,?_,?_,?_⟩;simp [h0];simp [h2];simp;rw [he];constructor;rintro ⟨b,g1,g2,g3,g4⟩;have:b≠i:=λe=>S7 (by rw [<-e];exact g4);exact⟨b,by omega,g2,g3,g4⟩;rintro ⟨b,g1,g2,g3,g4⟩;exact⟨b,by omega,g2,g3,g4⟩;refine bh ?_;refine W cy (IX h0 h2 h7 cH kJ fo cF C7 hP SO h7') ?_<;>intros;refine⟨t-(i+1),by omega,rfl,i+1,rfl,by omega,?_,?_,?_,?_⟩;simp [h0];simp [h2];simp;rw [he];constructor;rintro ⟨b,g1,g2,g3,g4⟩;have:b≠i:=λe=>h7' (by rw [<-ho,<-e];exact g3);exact⟨b,by omega,g2,g3,g4⟩;rintro ⟨b,g1,g2,g3,g4⟩;exact⟨b,by omega,g2,g3,g4⟩;have e:fX p k t=false:=by
  cases hp:fX p k t with
  | false=>rfl
  | true=>obtain⟨b,g1,g2,_⟩:=he.1 hp;omega
 refine bh ?_;refine W cy (J5 h0 h2 h7 cF e) ?_<;>intros;simp [b7,aM,aS,bA,aN,aO,e]
end
section
namespace TGFbB
theorem kI [Gl] {A:AW} {L:List It} {T:Prop} (hS:ah A L) (hw:A.Wf) (h':(aK A L/\ba A L/\bD L)=T:=by first|(dsimp only [aa,af,aK,ba,bD,dN];done)|exact rfl):T:=h'▸hS.dT hw
end TGFbB
open TGFbB
variable [Gl]
def bs (l:List UInt8):ByteArray:=⟨l.toArray⟩
theorem AN (l:List UInt8):(bs l).size=l.length:=by simp [bs,ByteArray.size]
theorem L4 (s:List UInt8) (i:Nat) (h:i<(bs s).size):(bs s)[i]'h=s[i]'(by rw [AN] at h;exact h):=rfl
theorem lM (s:List UInt8) (x:UInt8) (A:AW) (hl:s.length<2^30) :
 az Tryz.prog 96 [.string (bs s),.int .u8 x.toNat] A (λu A'=>u=.bool (decide (x∈s))/\A=A'):=by
 refine aH Tryz.func96 λhw=>?_;revert hw;refine W cy cy ?_<;>(unhygienic intros);refine dW (λk fr A'=>A=A'/\∃i:Nat,k=s.length-i/\i<=s.length/\fr 0=.string (bs s)/\fr 1=.int .u8 x.toNat/\fr 5=.int .i64 i/\(x∈s↔x∈s.drop i)) s.length ?_ ?_;exact⟨rfl,0,rfl,Nat.zero_le _,rfl,rfl,rfl,by simp⟩;rintro k fr A' ⟨rfl,i,rfl,hi,h0,h1,h5,he⟩;by_cases cF:i<s.length
 . have hP:=D9 (i:=i);have hd:s.drop i=s[i]::s.drop (i+1):=List.drop_eq_getElem_cons cF;by_cases hx:s[i]=x;have hxn:((s[i].toNat:Int)=x.toNat):=(by rw [hx]);have rQ:x∈s:=he.2 (by rw [hd,hx];simp);refine bh ?_;refine W cy (J8 h0 h1 h5 cF hP hxn @AN @L4) ?_<;>intros;simp [b7,aM,aS,bA,aN,aO,rQ];have hxn:¬((s[i].toNat:Int)=x.toNat):=λe=>hx (UInt8.toNat_inj.1 (by omega));refine bh ?_
   repeat' (first|(refine jK λR hR=>?_;simp [an,ax,h0,h1,h5,AN,L4,cF,hP,hxn];try simp (disch:=omega) only [ay,ap,an,ax])|(refine hR _ _ ?_;clear hR R)|(refine hK _ _ ?_;clear hK K)|refine nx ?_|refine wn λK hK=>?_|simp only [wS]|(show cB _ _ _ _ _ _;refine nx ?_)|(refine wc rfl (λhc=>?_) (λhc=>?_)<;>(try simp at hc)<;>(try omega))|(refine ib (λhc=>?_) (λhc=>?_)<;>(try omega)<;>(try simp (disch:=omega) only [ay,ap])))
   refine⟨s.length-(i+1),by omega,rfl,i+1,rfl,by omega,?_,?_,?_,?_⟩;simp [h0];simp [h1];simp;have gl:¬x=s[i]:=λe=>hx e.symm;rw [he,hd,List.mem_cons];exact⟨λh=>h.resolve_left gl,.inr⟩
 have rQ:¬x∈s:=λh=>by
  have:=he.1 h;rw [List.drop_eq_nil_of_le (by omega)] at this;cases this
 refine bh ?_;refine W cy (J5 h0 h1 h5 cF @AN) ?_<;>intros;simp [b7,aM,aS,bA,aN,aO,rQ]
theorem pO (r:Int) (b:Bool) (A:AW):az Tryz.prog 95 [.int .i64 r,.bool b] A (λu A'=>u=.bool (fE r b)/\A=A'):=by
 refine aH Tryz.func95 λhw=>?_;cases b with
 | true=>
   by_cases h1:0<=r
   . by_cases h2:r<8
     . refine W cy (J2 h1 h2) ?_<;>intros
       all_goals simp [aM,aS,bA,aN,aO,fE,h1,h2]
     refine W cy (J2 h1 h2) ?_<;>intros
     all_goals simp [aM,aS,bA,aN,aO,fE,h1,h2]
   refine W cy (J1 h1) ?_<;>intros
   all_goals simp [aM,aS,bA,aN,aO,fE,h1]
 | false=>
   by_cases h1:r=0
   . refine W cy (J1 h1) ?_<;>intros
     all_goals simp [aM,aS,bA,aN,aO,fE,h1]
   refine W cy (J1 h1) ?_<;>intros
   all_goals simp [aM,aS,bA,aN,aO,fE,h1]
end
section
namespace TGFbC
theorem kI [Gl] {A:AW} {L:List It} {T:Prop} (hS:ah A L) (hw:A.Wf) (h':(aK A L/\ba A L/\bD L)=T:=by first|(dsimp only [aa,af,aK,ba,bD,dN];done)|exact rfl):T:=h'▸hS.dT hw
end TGFbC
open TGFbC
variable [Gl]
def dA:Nat->List UInt8
 | 1=>[114,105]|2=>[114,115]|3=>[114,115,116,102]|4=>[106]|5=>[114,106]|6=>[114,106]|7=>[97]
 | 10=>[114,115,105]|11=>[114,115,105]|12=>[114,115,105]|13=>[114,115,105]|14=>[114,99]|15=>[114]|17=>[114]
 | _=>[]
theorem eR (hn:Gl.N=4) {k:Nat} (hk:k<18) (A:AW):az Tryz.prog 94 [.int .i64 k] A (λu A'=>u=.string (bs (dA k))/\A=A'):=by
 refine az.rR (da.jz rfl) (λhw=>?_) (by kernel_rfl);refine aH Tryz.func94 λ_=>?_;have:k=0\/k=1\/k=2\/k=3\/k=4\/k=5\/k=6\/k=7\/k=8\/k=9\/k=10\/k=11\/k=12\/k=13\/k=14\/k=15\/k=16\/k=17:=by omega
 rcases this with rfl|rfl|rfl|rfl|rfl|rfl|rfl|rfl|rfl|rfl|rfl|rfl|rfl|rfl|rfl|rfl|rfl|rfl
 all_goals(
  all_goals(revert hw;refine W cy (J1 @AW.ab) ?_<;>unhygienic intros)
  exact⟨_,by first|rfl|(simp;rfl),rfl,AW.le.alloc A _⟩)
end
section
abbrev gB:List (Nat×Nat):=[(0,0),(1,0),(2,0),(3,2),(4,2),(5,0),(6,0),(7,0),(8,0),(9,0),(10,2),(11,2),(12,0),(13,0),(14,0),(15,0),(16,0),(17,0),(18,2),(19,2),(20,0),(21,0)]
namespace TGFbD
theorem kI [Gl] {A:AW} {L:List It} {T:Prop} (hS:ah A L) (hw:A.Wf) (h':(aK A L/\ba A L/\bD L)=T:=by first|(dsimp only [aa,af,aK,ba,bD,dN];done)|exact rfl):T:=h'▸hS.dT hw
end TGFbD
open TGFbD
variable [Gl]
theorem Ro {k:Nat} (hk:k<18):decide ((114:UInt8)∈dA k)=ko k/\decide ((115:UInt8)∈dA k)=jd k/\decide ((116:UInt8)∈dA k)=km k:=by
 have h:((List.range 18).all λk=>(decide ((114:UInt8)∈dA k) == ko k) && (decide ((115:UInt8)∈dA k) == jd k) && (decide ((116:UInt8)∈dA k) == km k))=true:=by kernel_rfl
 have:=List.all_eq_true.1 h k (List.mem_range.2 hk);simp only [Bool.and_eq_true,beq_iff_eq] at this;exact⟨this.1.1,this.1.2,this.2⟩
theorem BM {k:Nat} (hk:k<18) (bL:Int):ej k bL =
 if decide ((105:UInt8)∈dA k)=true then true else
 if decide ((102:UInt8)∈dA k)=true then decide (0<=bL) && decide (bL<=21) else
 if decide ((106:UInt8)∈dA k)=true then decide (0<=bL) && decide (bL<=64) else
 if decide ((97:UInt8)∈dA k)=true then decide (1<=bL) && decide (bL<=8) else
 if decide ((99:UInt8)∈dA k)=true then decide (0<=bL) && decide (bL<=3) else decide (0<=bL) && decide (bL<=0):=by
 have h:k=0\/k=1\/k=2\/k=3\/k=4\/k=5\/k=6\/k=7\/k=8\/k=9\/k=10\/k=11\/k=12\/k=13\/k=14\/k=15\/k=16\/k=17:=by omega
 rcases h with rfl|rfl|rfl|rfl|rfl|rfl|rfl|rfl|rfl|rfl|rfl|rfl|rfl|rfl|rfl|rfl|rfl|rfl
 all_goals
  simp [ej,dA]
  try(rw [Bool.eq_iff_iff];simp;omega)
theorem tx (hn:Gl.N=4) (x:bg) (A:AW):az Tryz.prog 50 [.agg (ao x).toArray] A (λu A'=>u=.int .i64 (bT x)/\A=A'):=by
 refine az.rR (V:=.int .i64 (bT x)) (by simp) (λhw=>?_) (by kernel_rfl);refine aH Tryz.func50 λ_=>?_;obtain⟨op,a,b,c,bL⟩:=x;by_cases h1:op<0
 . have he:bT ⟨op,a,b,c,bL⟩=10:=(by unfold bT;rw [ay (.inl h1)]);rw [he];refine W (J1 (od gB)) (J3 h1 bF @ao.eq_1) ?_<;>intros
   all_goals(simp [aM,aS,bA,aN,aO]<;>exact AW.le.alloc A _)
 by_cases h2:18<=op
 . have he:bT ⟨op,a,b,c,bL⟩=10:=(by unfold bT;rw [ay (.inr h2)]);rw [he];refine W (J1 (od gB)) (J4 h1 h2 bF @ao.eq_1) ?_<;>intros
   all_goals(simp [aM,aS,bA,aN,aO]<;>exact AW.le.alloc A _)
 obtain⟨k,rfl⟩:∃k:Nat,op=k:=⟨op.toNat,by omega⟩;have hk:k<18:=by omega
 obtain⟨l1,l2,l3⟩:=Ro hk;have M2:=BM hk bL;have hs:(dA k).length<2^30:=by unfold dA;split<;>simp
 have c1:∀A,az Tryz.prog 96 [.string (bs (dA k)),.int .u8 114] A (λu A'=>u=.bool (ko k)/\A=A'):=λA=>by rw [<-l1];exact lM (dA k) 114 A hs
 have c2:∀A,az Tryz.prog 96 [.string (bs (dA k)),.int .u8 115] A (λu A'=>u=.bool (jd k)/\A=A'):=λA=>by rw [<-l2];exact lM (dA k) 115 A hs
 have c3:∀A,az Tryz.prog 96 [.string (bs (dA k)),.int .u8 116] A (λu A'=>u=.bool (km k)/\A=A'):=λA=>by rw [<-l3];exact lM (dA k) 116 A hs
 generalize uL:decide ((105:UInt8)∈dA k)=d1 at M2;generalize Kl:decide ((102:UInt8)∈dA k)=d2 at M2;generalize QL:decide ((106:UInt8)∈dA k)=d3 at M2;generalize hd4:decide ((97:UInt8)∈dA k)=d4 at M2;generalize N4:decide ((99:UInt8)∈dA k)=d5 at M2;have e1:∀A,az Tryz.prog 96 [.string (bs (dA k)),.int .u8 105] A (λu A'=>u=.bool d1/\A=A'):=λA=>by rw [<-uL];exact lM (dA k) 105 A hs
 have e2:∀A,az Tryz.prog 96 [.string (bs (dA k)),.int .u8 102] A (λu A'=>u=.bool d2/\A=A'):=λA=>by rw [<-Kl];exact lM (dA k) 102 A hs
 have e3:∀A,az Tryz.prog 96 [.string (bs (dA k)),.int .u8 106] A (λu A'=>u=.bool d3/\A=A'):=λA=>by rw [<-QL];exact lM (dA k) 106 A hs
 have e4:∀A,az Tryz.prog 96 [.string (bs (dA k)),.int .u8 97] A (λu A'=>u=.bool d4/\A=A'):=λA=>by rw [<-hd4];exact lM (dA k) 97 A hs
 have e5:∀A,az Tryz.prog 96 [.string (bs (dA k)),.int .u8 99] A (λu A'=>u=.bool d5/\A=A'):=λA=>by rw [<-N4];exact lM (dA k) 99 A hs
 have jC:¬((18:Int)<=k):=by omega
 have he:bT ⟨k,a,b,c,bL⟩=if (fE a (ko k) && fE b (jd k) && fE c (km k)) && ej k bL then 0 else 11:=by unfold bT;rw [ap (by simp;omega)]
 rw [he,M2];generalize IT:fE a (ko k)=ra;generalize hrb:fE b (jd k)=rb;generalize wz:fE c (km k)=rc;have g1:∀A,az Tryz.prog 95 [.int .i64 a,.bool (ko k)] A (λu A'=>u=.bool ra/\A=A'):=λA=>by rw [<-IT];exact pO a (ko k) A
 have g2:∀A,az Tryz.prog 95 [.int .i64 b,.bool (jd k)] A (λu A'=>u=.bool rb/\A=A'):=λA=>by rw [<-hrb];exact pO b (jd k) A
 have g3:∀A,az Tryz.prog 95 [.int .i64 c,.bool (km k)] A (λu A'=>u=.bool rc/\A=A'):=λA=>by rw [<-wz];exact pO c (km k) A
 cases ra with
 | false=>
   refine W (J8 (od gB) (eR hn hk) @c1 @c2 @c3 @g1 @g2 @g3) (J3 jC bF @ao.eq_1) ?_<;>intros
   all_goals(simp [aM,aS,bA,aN,aO]<;>exact AW.le.alloc A _)
 | true=>cases rb with
   | false=>
     refine Wu (kM (od gB) (eR hn hk) @c1 @c2 @c3 @g1 @g2 @g3 @e1 @e2 @e3 @e4 @e5) (J3 jC bF @ao.eq_1) ?_<;>intros
     all_goals(simp [aM,aS,bA,aN,aO]<;>exact AW.le.alloc A _)
   | true=>cases rc with
     | false=>
       refine Wu (kM (od gB) (eR hn hk) @c1 @c2 @c3 @g1 @g2 @g3 @e1 @e2 @e3 @e4 @e5) (J3 jC bF @ao.eq_1) ?_<;>intros
       all_goals(simp [aM,aS,bA,aN,aO]<;>exact AW.le.alloc A _)
     | true=>cases d1 with
       | true=>
         refine Wu (kM (od gB) (eR hn hk) @c1 @c2 @c3 @g1 @g2 @g3 @e1 @e2 @e3 @e4 @e5) (J3 jC bF @ao.eq_1) ?_<;>intros
         all_goals(simp [aM,aS,bA,aN,aO]<;>exact AW.le.alloc A _)
       | false=>cases d2 with
         | true=>
           by_cases q1:bL<0
           . have q3:¬(0<=bL):=(by omega);refine Wu (kM (od gB) (eR hn hk) @c1 @c2 @c3 @g1 @g2 @g3 @e1 @e2 @e3 @e4 @e5) (J5 jC q1 q3 bF @ao.eq_1) ?_<;>intros
             all_goals(simp [aM,aS,bA,aN,aO,q3]<;>exact AW.le.alloc A _)
           have q3:0<=bL:=(by omega);by_cases q2:21<bL
           . have q4:¬(bL<=21):=(by omega);refine Wu (kM (od gB) (eR hn hk) @c1 @c2 @c3 @g1 @g2 @g3 @e1 @e2 @e3 @e4 @e5) (J7 jC q1 q2 q3 q4 bF @ao.eq_1) ?_<;>intros
             all_goals(simp [aM,aS,bA,aN,aO,q3,q4]<;>exact AW.le.alloc A _)
           have q4:bL<=21:=(by omega);refine Wu (kM (od gB) (eR hn hk) @c1 @c2 @c3 @g1 @g2 @g3 @e1 @e2 @e3 @e4 @e5) (J7 jC q1 q2 q3 q4 bF @ao.eq_1) ?_<;>intros
           all_goals(simp [aM,aS,bA,aN,aO,q3,q4]<;>exact AW.le.alloc A _)
         | false=>cases d3 with
           | true=>
             by_cases q1:bL<0
             . have q3:¬(0<=bL):=(by omega);refine Wu (kM (od gB) (eR hn hk) @c1 @c2 @c3 @g1 @g2 @g3 @e1 @e2 @e3 @e4 @e5) (J5 jC q1 q3 bF @ao.eq_1) ?_<;>intros
               all_goals(simp [aM,aS,bA,aN,aO,q3]<;>exact AW.le.alloc A _)
             have q3:0<=bL:=(by omega);by_cases q2:64<bL
             . have q4:¬(bL<=64):=(by omega);refine Wu (kM (od gB) (eR hn hk) @c1 @c2 @c3 @g1 @g2 @g3 @e1 @e2 @e3 @e4 @e5) (J7 jC q1 q2 q3 q4 bF @ao.eq_1) ?_<;>intros
               all_goals(simp [aM,aS,bA,aN,aO,q3,q4]<;>exact AW.le.alloc A _)
             have q4:bL<=64:=(by omega);refine Wu (kM (od gB) (eR hn hk) @c1 @c2 @c3 @g1 @g2 @g3 @e1 @e2 @e3 @e4 @e5) (J7 jC q1 q2 q3 q4 bF @ao.eq_1) ?_<;>intros
             all_goals(simp [aM,aS,bA,aN,aO,q3,q4]<;>exact AW.le.alloc A _)
           | false=>cases d4 with
             | true=>
               by_cases q1:bL<1
               . have q3:¬(1<=bL):=(by omega);refine Wu (kM (od gB) (eR hn hk) @c1 @c2 @c3 @g1 @g2 @g3 @e1 @e2 @e3 @e4 @e5) (J5 jC q1 q3 bF @ao.eq_1) ?_<;>intros
                 all_goals(simp [aM,aS,bA,aN,aO,q3]<;>exact AW.le.alloc A _)
               have q3:1<=bL:=(by omega);by_cases q2:8<bL
               . have q4:¬(bL<=8):=(by omega);refine Wu (kM (od gB) (eR hn hk) @c1 @c2 @c3 @g1 @g2 @g3 @e1 @e2 @e3 @e4 @e5) (J7 jC q1 q2 q3 q4 bF @ao.eq_1) ?_<;>intros
                 all_goals(simp [aM,aS,bA,aN,aO,q3,q4]<;>exact AW.le.alloc A _)
               have q4:bL<=8:=(by omega);refine Wu (kM (od gB) (eR hn hk) @c1 @c2 @c3 @g1 @g2 @g3 @e1 @e2 @e3 @e4 @e5) (J7 jC q1 q2 q3 q4 bF @ao.eq_1) ?_<;>intros
               all_goals(simp [aM,aS,bA,aN,aO,q3,q4]<;>exact AW.le.alloc A _)
             | false=>cases d5 with
               | true=>
                 by_cases q1:bL<0
                 . have q3:¬(0<=bL):=(by omega);refine Wu (kM (od gB) (eR hn hk) @c1 @c2 @c3 @g1 @g2 @g3 @e1 @e2 @e3 @e4 @e5) (J5 jC q1 q3 bF @ao.eq_1) ?_<;>intros
                   all_goals(simp [aM,aS,bA,aN,aO,q3]<;>exact AW.le.alloc A _)
                 have q3:0<=bL:=(by omega);by_cases q2:3<bL
                 . have q4:¬(bL<=3):=(by omega);refine Wu (kM (od gB) (eR hn hk) @c1 @c2 @c3 @g1 @g2 @g3 @e1 @e2 @e3 @e4 @e5) (J7 jC q1 q2 q3 q4 bF @ao.eq_1) ?_<;>intros
                   all_goals(simp [aM,aS,bA,aN,aO,q3,q4]<;>exact AW.le.alloc A _)
                 have q4:bL<=3:=(by omega);refine Wu (kM (od gB) (eR hn hk) @c1 @c2 @c3 @g1 @g2 @g3 @e1 @e2 @e3 @e4 @e5) (J7 jC q1 q2 q3 q4 bF @ao.eq_1) ?_<;>intros
                 all_goals(simp [aM,aS,bA,aN,aO,q3,q4]<;>exact AW.le.alloc A _)
               | false=>
                 by_cases q1:bL<0
                 . have q3:¬(0<=bL):=(by omega);refine Wu (kM (od gB) (eR hn hk) @c1 @c2 @c3 @g1 @g2 @g3 @e1 @e2 @e3 @e4 @e5) (J5 jC q1 q3 bF @ao.eq_1) ?_<;>intros
                   all_goals(simp [aM,aS,bA,aN,aO,q3]<;>exact AW.le.alloc A _)
                 have q3:0<=bL:=(by omega);by_cases q2:0<bL
                 . have q4:¬(bL<=0):=(by omega);refine Wu (kM (od gB) (eR hn hk) @c1 @c2 @c3 @g1 @g2 @g3 @e1 @e2 @e3 @e4 @e5) (J7 jC q1 q2 q3 q4 bF @ao.eq_1) ?_<;>intros
                   all_goals(simp [aM,aS,bA,aN,aO,q3,q4]<;>exact AW.le.alloc A _)
                 have q4:bL<=0:=(by omega);refine Wu (kM (od gB) (eR hn hk) @c1 @c2 @c3 @g1 @g2 @g3 @e1 @e2 @e3 @e4 @e5) (J7 jC q1 q2 q3 q4 bF @ao.eq_1) ?_<;>intros
                 all_goals(simp [aM,aS,bA,aN,aO,q3,q4]<;>exact AW.le.alloc A _)
end
section
namespace TGFbE
theorem kI [Gl] {A:AW} {L:List It} {T:Prop} (hS:ah A L) (hw:A.Wf) (h':(aK A L/\ba A L/\bD L)=T:=by first|(dsimp only [aa,af,aK,ba,bD,dN];done)|exact rfl):T:=h'▸hS.dT hw
end TGFbE
open TGFbE
variable [Gl]
theorem Du (hn:Gl.N=4) (x:bg) (A:AW):az Tryz.prog 51 [.agg (ao x).toArray] A (λu A'=>u=.int .i64 (bk x)/\A=A'):=by
 refine az.rR (V:=.int .i64 (bk x)) (by simp) (λhw=>?_) (by kernel_rfl);refine aH Tryz.func51 λ_=>?_;obtain⟨op,a,b,c,bL⟩:=x;have kK:=λA=>tx hn ⟨op,a,b,c,bL⟩ A;simp only [ao] at kK;by_cases h0:bT ⟨op,a,b,c,bL⟩=0
 . rw [h0] at kK;by_cases o8:op=8
   . subst o8;have he:bk ⟨8,a,b,c,bL⟩=1:=(by unfold bk;rw [ay h0];rfl);rw [he];refine W (J1 @kK) (J2 @AW.ab @ao.eq_1) ?_<;>intros
     all_goals first|exact AW.le.alloc A _|(simp [aM,aS,bA,aN,aO]<;>exact AW.le.alloc A _)
   by_cases o9:op=9
   . subst o9;have he:bk ⟨9,a,b,c,bL⟩=1:=(by unfold bk;rw [ay h0];rfl);rw [he];refine W (J1 @kK) (J3 o8 @AW.ab @ao.eq_1) ?_<;>intros
     all_goals first|exact AW.le.alloc A _|(simp [aM,aS,bA,aN,aO]<;>exact AW.le.alloc A _)
   by_cases lH:op=10
   . subst lH;have he:bk ⟨10,a,b,c,bL⟩=1:=(by unfold bk;rw [ay h0];rfl);rw [he];refine W (J1 @kK) (J4 o8 o9 @AW.ab @ao.eq_1) ?_<;>intros
     all_goals first|exact AW.le.alloc A _|(simp [aM,aS,bA,aN,aO]<;>exact AW.le.alloc A _)
   by_cases o11:op=11
   . subst o11;have he:bk ⟨11,a,b,c,bL⟩=1:=(by unfold bk;rw [ay h0];rfl);rw [he];refine W (J1 @kK) (J5 o8 o9 lH @AW.ab @ao.eq_1) ?_<;>intros
     all_goals first|exact AW.le.alloc A _|(simp [aM,aS,bA,aN,aO]<;>exact AW.le.alloc A _)
   by_cases o14:op=14
   . subst o14;have he:bk ⟨14,a,b,c,bL⟩=1:=(by unfold bk;rw [ay h0];rfl);rw [he];refine W (J1 @kK) (J6 o8 o9 lH o11 @AW.ab @ao.eq_1) ?_<;>intros
     all_goals first|exact AW.le.alloc A _|(simp [aM,aS,bA,aN,aO]<;>exact AW.le.alloc A _)
   by_cases o15:op=15
   . subst o15;have he:bk ⟨15,a,b,c,bL⟩=1:=(by unfold bk;rw [ay h0];rfl);rw [he];refine W (J1 @kK) (J7 o8 o9 lH o11 o14 @AW.ab @ao.eq_1) ?_<;>intros
     all_goals first|exact AW.le.alloc A _|(simp [aM,aS,bA,aN,aO]<;>exact AW.le.alloc A _)
   by_cases o7:op=7
   . subst o7;have he:bk ⟨7,a,b,c,bL⟩=2:=(by unfold bk;rw [ay h0];rfl);rw [he];refine W (J1 @kK) (J8 o8 o9 lH o11 o14 o15 @AW.ab @ao.eq_1) ?_<;>intros
     all_goals first|exact AW.le.alloc A _|(simp [aM,aS,bA,aN,aO]<;>exact AW.le.alloc A _)
   by_cases o12:op=12
   . subst o12;have he:bk ⟨12,a,b,c,bL⟩=2:=(by unfold bk;rw [ay h0];rfl);rw [he];refine W (J1 @kK) (J9 o8 o9 lH o11 o14 o15 o7 @AW.ab @ao.eq_1) ?_<;>intros
     all_goals first|exact AW.le.alloc A _|(simp [aM,aS,bA,aN,aO]<;>exact AW.le.alloc A _)
   by_cases o13:op=13
   . subst o13;have he:bk ⟨13,a,b,c,bL⟩=2:=(by unfold bk;rw [ay h0];rfl);rw [he];refine W (J1 @kK) (GK o8 o9 lH o11 o14 o15 o7 o12 @AW.ab @ao.eq_1) ?_<;>intros
     all_goals first|exact AW.le.alloc A _|(simp [aM,aS,bA,aN,aO]<;>exact AW.le.alloc A _)
   by_cases o16:op=16
   . subst o16;have he:bk ⟨16,a,b,c,bL⟩=2:=(by unfold bk;rw [ay h0];rfl);rw [he];refine W (J1 @kK) (IX o8 o9 lH o11 o14 o15 o7 o12 o13 @AW.ab @ao.eq_1) ?_<;>intros
     all_goals first|exact AW.le.alloc A _|(simp [aM,aS,bA,aN,aO]<;>exact AW.le.alloc A _)
   by_cases o17:op=17
   . subst o17;have he:bk ⟨17,a,b,c,bL⟩=2:=(by unfold bk;rw [ay h0];rfl);rw [he];refine W (J1 @kK) (rL o8 o9 lH o11 o14 o15 o7 o12 o13 o16 @AW.ab @ao.eq_1) ?_<;>intros
     all_goals first|exact AW.le.alloc A _|(simp [aM,aS,bA,aN,aO]<;>exact AW.le.alloc A _)
   have he:bk ⟨op,a,b,c,bL⟩=0:=(by unfold bk;rw [ay h0];dsimp only;rw [ap (by omega),ap (by omega)]);rw [he];refine W (J1 @kK) (kM o8 o9 lH o11 o14 o15 o7 o12 o13 o16 o17 @AW.ab @ao.eq_1) ?_<;>intros
   all_goals first|exact AW.le.alloc A _|(simp [aM,aS,bA,aN,aO]<;>exact AW.le.alloc A _)
 have he:bk ⟨op,a,b,c,bL⟩=0:=by unfold bk;rw [ap h0]
 rw [he];refine W (J1 @kK) (J3 h0 @AW.ab @ao.eq_1) ?_<;>intros
 all_goals first|exact AW.le.alloc A _|(simp [aM,aS,bA,aN,aO]<;>exact AW.le.alloc A _)
theorem Dt (hn:Gl.N=4) (x:bg) (A:AW):az Tryz.prog 52 [.agg (ao x).toArray] A (λu A'=>u=.tuple #[.int .i64 ((dK x).getD 0),.bool (dK x).isSome]/\A=A'):=by
 refine az.rR (V:=.tuple #[.int .i64 ((dK x).getD 0),.bool (dK x).isSome]) (da.tuple (by simp)) (λhw=>?_) (by kernel_rfl);refine aH Tryz.func52 λ_=>?_;obtain⟨op,a,b,c,bL⟩:=x;have kK:=λA=>tx hn ⟨op,a,b,c,bL⟩ A;simp only [ao] at kK;by_cases h0:bT ⟨op,a,b,c,bL⟩=0
 . rw [h0] at kK;have hr:0<=op/\op<18:=by
    unfold bT at h0;dsimp only at h0;split at h0;cases h0;omega
   obtain⟨k,hk⟩:∃k:Nat,op=k:=⟨op.toNat,by omega⟩;subst hk;have UF:k<18:=(by omega);have hs:(dA k).length<2^30:=(by unfold dA;split<;>simp);have hj:decide ((106:UInt8)∈dA k)=decide (k=4\/k=5\/k=6):=by
    have h:((List.range 18).all λk=>decide ((106:UInt8)∈dA k) == decide (k=4\/k=5\/k=6))=true:=by kernel_rfl
    simpa using List.all_eq_true.1 h k (List.mem_range.2 UF)
   have c1:∀A,az Tryz.prog 96 [.string (bs (dA k)),.int .u8 106] A (λu A'=>u=.bool (decide (k=4\/k=5\/k=6))/\A=A'):=λA=>by rw [<-hj];exact lM (dA k) 106 A hs
   by_cases h4:k=4\/k=5\/k=6
   . have he:dK ⟨(k:Int),a,b,c,bL⟩=some bL:=(by unfold dK;rw [ay ⟨h0,by dsimp only;omega⟩]);rw [he];rw [decide_eq_true h4] at c1;refine W (J3 @kK (eR hn UF) @c1) (J2 @AW.ab @ao.eq_1) ?_<;>intros
     all_goals first|exact AW.le.alloc A _|(simp [aM,aS,bA,aN,aO]<;>exact AW.le.alloc A _)
   have he:dK ⟨(k:Int),a,b,c,bL⟩=none:=(by unfold dK;rw [ap (λh=>by have:=h.2;dsimp only at this;omega)]);rw [he];rw [decide_eq_false h4] at c1;refine W (J3 @kK (eR hn UF) @c1) (J2 @AW.ab @ao.eq_1) ?_<;>intros
   all_goals first|exact AW.le.alloc A _|(simp [aM,aS,bA,aN,aO]<;>exact AW.le.alloc A _)
 have he:dK ⟨op,a,b,c,bL⟩=none:=by unfold dK;rw [ap (λh=>h0 h.1)]
 rw [he];refine W (J1 @kK) (J3 h0 @AW.ab @ao.eq_1) ?_<;>intros
 all_goals first|exact AW.le.alloc A _|(simp [aM,aS,bA,aN,aO]<;>exact AW.le.alloc A _)
end
section
namespace TGFbF
theorem kI [Gl] {A:AW} {L:List It} {T:Prop} (hS:ah A L) (hw:A.Wf) (h':(aK A L/\ba A L/\bD L)=T:=by first|(dsimp only [aa,af,aK,ba,bD,dN];done)|exact rfl):T:=h'▸hS.dT hw
end TGFbF
open TGFbF
variable [Gl]
def eI:Option Nat->Int
 | some b=>b
 | none=>-1
def uU:Option (Nat×Nat)->Value
 | some (b,c)=>.tuple #[.int .i64 b,.int .i64 c]
 | none=>.tuple #[.int .i64 (-1),.int .i64 (-1)]
theorem Ej (v:Value) (p:List bg) (t:Nat) (A:AW) (h:kl A v p) (hl:p.length<2^30) (ht:t<=p.length) :
 az Tryz.prog 97 [v,.int .i64 t] A (λu A'=>u=uU (zm p t)/\A=A'):=by
 refine aH Tryz.func97 λhw=>?_;obtain⟨o,c,rfl,_⟩:=h.dO;revert hw;refine W cy cy ?_<;>(unhygienic intros)
 refine dW (λk fr A'=>A=A'/\∃(i:Nat) (b:Option Nat),k=p.length-i/\i<=p.length/\fr 0=.slice o p.length c/\fr 1=.int .i64 t/\fr 6=.int .i64 (eI b)/\fr 7=.int .i64 i/\
  zm p t=iV p t (p.length-i) i b) p.length ?_ ?_
 exact⟨rfl,0,none,rfl,Nat.zero_le _,rfl,rfl,rfl,rfl,rfl⟩;rintro k fr A' ⟨rfl,i,b,rfl,hi,h0,h1,h6,h7,he⟩;by_cases cF:i<p.length
 . obtain⟨q,cD,rfl,cH,fo,hcell⟩:=h.at cF;have kJ:=tF hcell;have hP:=D9 (i:=i);have ho:cu p i=p[i].op:=ka (List.getElem?_eq_getElem cF);have cL:p.length-i=(p.length-(i+1))+1:=(by omega);rw [cL] at he;unfold iV at he;cases b with
   | none=>
     simp only [eI] at h6;simp only [ho] at he;by_cases o7:p[i].op=7;rw [ay o7] at he;refine bh ?_;refine W cy (GK h0 h1 h6 h7 cH kJ fo cF hP o7) ?_<;>intros;refine⟨p.length-(i+1),by omega,rfl,i+1,some i,rfl,by omega,?_,?_,?_,?_,he⟩<;>simp [h0,h1,eI];rw [ap o7] at he;refine bh ?_;refine W cy (GK h0 h1 h6 h7 cH kJ fo cF hP o7) ?_<;>intros;refine⟨p.length-(i+1),by omega,rfl,i+1,none,rfl,by omega,?_,?_,?_,?_,he⟩<;>simp [h0,h1,h6,eI]
   | some d=>
     simp only [eI] at h6;simp only [ho] at he;have sR:¬((d:Int)<0):=(by omega);by_cases o8:p[i].op=8
     . rw [ay o8] at he;by_cases hc:d<=t/\t<=i
       . rw [ay hc] at he;have IV:=hc.1;have yR:=hc.2;refine bh ?_;refine W cy (kM h0 h1 h6 h7 cH kJ fo cF hP o8 sR IV yR) ?_<;>intros
         all_goals simp [b7,aM,aS,bA,aN,aO,he,uU]
       rw [ap hc] at he;by_cases IV:d<=t;have yR:¬t<=i:=λx=>hc ⟨IV,x⟩;refine bh ?_;refine W cy (kM h0 h1 h6 h7 cH kJ fo cF hP o8 sR IV yR) ?_<;>intros;refine⟨p.length-(i+1),by omega,rfl,i+1,none,rfl,by omega,?_,?_,?_,?_,he⟩<;>simp [h0,h1,eI];refine bh ?_;refine W cy (rL h0 h1 h6 h7 cH kJ fo cF hP o8 sR IV) ?_<;>intros;refine⟨p.length-(i+1),by omega,rfl,i+1,none,rfl,by omega,?_,?_,?_,?_,he⟩<;>simp [h0,h1,eI]
     rw [ap o8] at he;refine bh ?_;refine W cy (IX h0 h1 h6 h7 cH kJ fo cF hP o8 sR) ?_<;>intros;refine⟨p.length-(i+1),by omega,rfl,i+1,some d,rfl,by omega,?_,?_,?_,?_,he⟩<;>simp [h0,h1,h6,eI]
 have C7:i=p.length:=by omega
 subst C7;rw [Nat.sub_self] at he;unfold iV at he;cases b with
 | none=>
   simp only [eI] at h6;refine bh ?_;refine W cy (J5 h0 h1 h6 h7 cF) ?_<;>intros
   all_goals simp [b7,aM,aS,bA,aN,aO,he,uU]
 | some d=>
   simp only [eI] at h6;have sR:¬((d:Int)<0):=(by omega);have uL:(0:Int)<=d:=(by omega);simp only at he;by_cases IV:d<=t
   . by_cases yR:t<p.length
     . rw [ay ⟨IV,yR⟩] at he;refine bh ?_;refine W cy (J9 h0 h1 h6 h7 cF sR uL IV yR) ?_<;>intros
       all_goals simp [b7,aM,aS,bA,aN,aO,he,uU]
     rw [ap (λx=>yR x.2)] at he;refine bh ?_;refine W cy (J9 h0 h1 h6 h7 cF sR uL IV yR) ?_<;>intros
     all_goals simp [b7,aM,aS,bA,aN,aO,he,uU]
   rw [ap (λx=>IV x.1)] at he;refine bh ?_;refine W cy (J8 h0 h1 h6 h7 cF sR uL IV) ?_<;>intros
   all_goals simp [b7,aM,aS,bA,aN,aO,he,uU]
end
section
namespace TGFbG
theorem kI [Gl] {A:AW} {L:List It} {T:Prop} (hS:ah A L) (hw:A.Wf) (h':(aK A L/\ba A L/\bD L)=T:=by first|(dsimp only [aa,af,aK,ba,bD,dN];done)|exact rfl):T:=h'▸hS.dT hw
end TGFbG
open TGFbG
variable [Gl]
theorem FE (v:Value) (p:List bg) (k t:Nat) (A:AW) (h:kl A v p) (hl:p.length<2^30) (hk:k<=p.length) :
 az Tryz.prog 53 [v,.int .i64 k,.int .i64 t] A (λu A'=>u=.bool (fW p k t)/\A=A'):=by
 refine aH Tryz.func53 λhw=>?_;obtain⟨o,c,rfl,_⟩:=h.dO;by_cases h1:p.length<t
 . have he:fW p k t=false:=(by unfold fW;rw [ay h1]);rw [he];refine W cy (J1 h1) ?_<;>intros
   all_goals simp [aM,aS,bA,aN,aO]
 have ht:t<=p.length:=by omega
 have c1:=Ej _ p k A h hl hk;have c2:=Ej _ p t A h hl ht;cases hs:zm p k with
 | some bc=>
   obtain⟨b,d⟩:=bc;have hb:¬((b:Int)<0):=(by omega);have ks:(0:Int)<=b:=(by omega);have he:fW p k t=decide (t<=d):=(by unfold fW;rw [ap h1,hs]);rw [hs] at c1;simp only [uU] at c1;rw [he];refine W (J1 @c1) (J3 h1 hb ks) ?_<;>intros
   all_goals simp [aM,aS,bA,aN,aO]
 | none=>
   rw [hs] at c1;simp only [uU] at c1;cases zD:zm p t with
   | some bc=>
     obtain⟨b,d⟩:=bc;have hb:¬((b:Int)<0):=(by omega);have ks:(0:Int)<=b:=(by omega);have he:fW p k t=decide (b=t):=(by unfold fW;rw [ap h1,hs,zD]);rw [zD] at c2;simp only [uU] at c2;rw [he];refine W (J2 @c1 @c2) (J3 h1 hb ks) ?_<;>intros
     all_goals(simp [aM,aS,bA,aN,aO]<;>omega)
   | none=>
     have he:fW p k t=true:=(by unfold fW;rw [ap h1,hs,zD]);rw [zD] at c2;simp only [uU] at c2;rw [he];refine W (J2 @c1 @c2) (J1 h1) ?_<;>intros
     all_goals simp [aM,aS,bA,aN,aO]
end
section
namespace TGFbH
theorem kI [Gl] {A:AW} {L:List It} {T:Prop} (hS:ah A L) (hw:A.Wf) (h':(aK A L/\ba A L/\bD L)=T:=by first|(dsimp only [aa,af,aK,ba,bD,dN];done)|exact rfl):T:=h'▸hS.dT hw
end TGFbH
open TGFbH
variable [Gl]
theorem AW.le.kQ (A:AW) (o:dG) (o':Option dG):A.le ((A.alloc o).set A.next o'):=by
 refine⟨by simp,λi hi=>?_⟩;have h1:¬i=A.next:=by omega
 have h2:¬A.next=i:=by omega
 simp [AW.dM,AW.eY,h1,h2]
def nd (x:Nat×Int):Value:=.tuple #[.int .i64 x.1,.int .i64 x.2]
theorem JX {x:bg} (h:bT x=0) (h7:x.op=7):bk x=2:=by
 unfold bk;rw [ay h,ap (by omega),ay (by omega)]
theorem JW {x:bg} (h:bT x=0) (h7:x.op=8):bk x=1:=by
 unfold bk;rw [ay h,ay (by omega)]
set_option maxHeartbeats 8000000 in
theorem Dv (hn:Gl.N=4) (v:Value) (p:List bg) (A:AW) (h:kl A v p) :
 az Tryz.prog 25 [v] A (λu A'=>u=nd (kB p)/\A=A'):=by
 refine az.rR (V:=nd (kB p)) (da.tuple (by simp)) (λhw=>?_) (by kernel_rfl);refine aH Tryz.func25 λ_=>?_;obtain⟨o,c,rfl,_⟩:=h.dO;by_cases hL:64<p.length
 . have he:kB p=(0,3):=(by unfold kB;rw [ay hL]);rw [he];refine W cy (J1 hL) ?_<;>intros
   all_goals first|exact AW.le.refl A|(simp [aM,aS,bA,aN,aO,nd]<;>exact AW.le.refl A)
 have hl:p.length<2^30:=by omega
 have he:kB p=gX (λk _ n=>fW p k (k+1+n.toNat)) (p.drop 0) 0 none:=by unfold kB;rw [ap hL];rfl
 generalize htgt:(λ(k:Nat) (_:Option Nat) (n:Int)=>fW p k (k+1+n.toNat))=Ed at he;have htg:∀k b n,Ed k b n=fW p k (k+1+n.toNat):=by subst htgt;exact λ_ _ _=>rfl
 generalize kB p=RR at he ⊢;revert hw;(repeat first|clear hw|revert hc|revert R|revert K);refine W cy (J1 hL) ?_<;>(unhygienic intros)
 refine dW (λk fr A'=>A.le A'/\∃(i:Nat) (b:Option Nat),k=p.length-i/\i<=p.length/\(∀d,b=some d->d<i)/\fr 0=.slice o p.length c/\fr 4=.int .i64 (eI b)/\fr 5=.int .i64 i/\
  RR=gX Ed (p.drop i) i b) p.length ?_ ?_
 exact⟨AW.le.refl A,0,none,rfl,Nat.zero_le _,by simp,rfl,rfl,rfl,he⟩;rintro k fr A' ⟨gg,i,b,rfl,hi,uM,h0,h4,h5,he⟩;by_cases cF:i<p.length
 . obtain⟨q,cD,FY,cH,pW,hcell⟩:=(h.le gg hw).at cF;subst FY;have hP:=D9 (i:=i);have eE:p.drop i=p[i]::p.drop (i+1):=List.drop_eq_getElem_cons cF;rw [eE] at he;generalize p[i]=x at he hcell;clear eE;have cI:=λB=>tx hn x B;have cP:=λB=>Du hn x B;have cS:=λB=>Dt hn x B;have cR:=fun(t:Nat) o o'=>FE _ p i t _ (h.le (gg.trans (AW.le.kQ A' o o')) hw) hl (by omega);have x7:=JX (x:=x);have x8:=JW (x:=x);have dk:=tF hcell;unfold gX at he;generalize hE:rx Ed i b x=E at he;generalize hN:BO i b x=N at he;unfold rx at hE;unfold BO at hN;obtain⟨op,a,b',c',bL⟩:=x;simp only at hE hN x7 x8 dk;generalize bk ⟨op,a,b',c',bL⟩=pl at hE cP x7 x8;have Ru:=@rW ⟨op,a,b',c',bL⟩;generalize dK ⟨op,a,b',c',bL⟩=sk at hE cS Ru;have Kh:=@B2 ⟨op,a,b',c',bL⟩;simp only at Ru Kh;generalize bT ⟨op,a,b',c',bL⟩=e at hE cI x7 x8 Ru Kh;simp only [ao] at hcell cI cP cS;have he4:p.length-i=(p.length-(i+1))+1:=(by omega);by_cases e0:e=0
   rotate_left
   . rw [ap e0] at hE;subst hE;rw [ap e0] at he;refine bh ?_;refine W (J1 @cI) (kM h0 h4 h5 cH dk hcell pW cF hP e0 bF @eI.eq_1 @eI.eq_2) ?_<;>intros
     all_goals first|exact gg.trans (AW.le.kQ A' _ _)|(simp [b7,aM,aS,bA,aN,aO,nd,he]<;>exact gg.trans (AW.le.kQ A' _ _))
   subst e0;rw [ay rfl] at hE;cases b with
   | none=>
     simp only [eI] at h4;by_cases ob:op=8
     . subst ob;rw [ay (by simp)] at hE;subst hE;rw [ap (by decide)] at he;refine bh ?_;refine W (J3 @cI @cP @cS) (rL h0 h4 h5 cH dk hcell pW cF hP bF @eI.eq_1 @eI.eq_2) ?_<;>intros
       all_goals first|exact gg.trans (AW.le.kQ A' _ _)|(simp [b7,aM,aS,bA,aN,aO,nd,he]<;>exact gg.trans (AW.le.kQ A' _ _))
     rw [ap (by simp [ob])] at hE;by_cases pb:pl=1
     . subst pb;rw [ay (by simp)] at hE;subst hE;rw [ap (by decide)] at he;by_cases oo:op=7
       . subst oo;refine bh ?_;revert hw;(repeat first|clear hw|revert hc|revert R|revert K);exact W (J3 @cI @cP @cS) (kM h0 h4 h5 cH dk hcell pW cF hP ob bF @eI.eq_1 @eI.eq_2) trivial
         all_goals first|exact gg.trans (AW.le.kQ A' _ _)|(simp [b7,aM,aS,bA,aN,aO,nd,he]<;>exact gg.trans (AW.le.kQ A' _ _))
       skip
       refine bh ?_;refine W (J3 @cI @cP @cS) (vD h0 h4 h5 cH dk hcell pW cF hP ob oo bF @eI.eq_1 @eI.eq_2) ?_<;>intros
       all_goals first|exact gg.trans (AW.le.kQ A' _ _)|(simp [b7,aM,aS,bA,aN,aO,nd,he]<;>exact gg.trans (AW.le.kQ A' _ _))
     rw [ap (by simp [pb])] at hE;cases sk with
     | some n=>
       obtain⟨rfl,-,kJ⟩:=Ru rfl;obtain⟨C6,DO⟩:=Kh rfl kJ;obtain⟨m,hm⟩:∃m:Nat,n=m:=⟨n.toNat,by omega⟩;subst hm;have B4:IntKind.i64.wrap (((i+1:Nat):Int)+m)=((i+1+m:Nat):Int):=an (by omega) (by omega);have uK:IntKind.i64.wrap ((i:Int)+1+m)=((i+1+m:Nat):Int):=an (by omega) (by omega);have Qc:=cR (i+1+m);simp only [htg,Int.toNat_natCast] at hE;have o7:¬op=7:=(by omega);have o8:¬op=8:=(by omega);generalize fW p i (i+1+m)=r at hE Qc;by_cases po:pl=2
       . subst po;cases r with
         | false=>
           simp only [Bool.false_eq_true,if_false] at hE;subst hE;rw [ap (by decide)] at he;refine bh ?_;refine W (J4 @cI @cP @cS @Qc) (NM h0 h4 h5 cH dk hcell pW cF hP o7 o8 B4 uK bF @eI.eq_1 @eI.eq_2) ?_<;>intros
           all_goals first|exact gg.trans (AW.le.kQ A' _ _)|(simp [b7,aM,aS,bA,aN,aO,nd,he]<;>exact gg.trans (AW.le.kQ A' _ _))
         | true=>
           simp only [if_true] at hE;rw [ap o7,ap o8] at hN;subst hE;subst hN;rw [ay rfl] at he;refine bh ?_;refine W (J4 @cI @cP @cS @Qc) (NM h0 h4 h5 cH dk hcell pW cF hP o7 o8 B4 uK bF @eI.eq_1 @eI.eq_2) ?_<;>intros;refine⟨p.length-(i+1),by omega,gg.trans (AW.le.kQ A' _ _),i+1,none,rfl,by omega,?_,?_,?_,?_,he⟩<;>simp [h0,h4,h5,eI]<;>first|omega|(intro d hd;have:=uM d hd;omega)|(have:=uM;simp at this;omega)
       skip
       cases r with
       | false=>
         simp only [Bool.false_eq_true,if_false] at hE;subst hE;rw [ap (by decide)] at he;refine bh ?_;refine W (J4 @cI @cP @cS @Qc) (Vx h0 h4 h5 cH dk hcell pW cF hP o7 o8 B4 uK pb po bF @eI.eq_1 @eI.eq_2) ?_<;>intros
         all_goals first|exact gg.trans (AW.le.kQ A' _ _)|(simp [b7,aM,aS,bA,aN,aO,nd,he]<;>exact gg.trans (AW.le.kQ A' _ _))
       | true=>
         simp only [if_true] at hE;rw [ap o7,ap o8] at hN;subst hE;subst hN;rw [ay rfl] at he;refine bh ?_;refine W (J4 @cI @cP @cS @Qc) (Vx h0 h4 h5 cH dk hcell pW cF hP o7 o8 B4 uK pb po bF @eI.eq_1 @eI.eq_2) ?_<;>intros;refine⟨p.length-(i+1),by omega,gg.trans (AW.le.kQ A' _ _),i+1,none,rfl,by omega,?_,?_,?_,?_,he⟩<;>simp [h0,h4,h5,eI]<;>first|omega|(intro d hd;have:=uM d hd;omega)|(have:=uM;simp at this;omega)
     | none=>
       simp only at hE;subst hE;rw [ay rfl] at he;by_cases oo:op=7;have po:=x7 rfl oo;subst po;subst oo;rw [ay rfl] at hN;subst hN;refine bh ?_;refine W (J3 @cI @cP @cS) (kM h0 h4 h5 cH dk hcell pW cF hP ob bF @eI.eq_1 @eI.eq_2) ?_<;>intros;refine⟨p.length-(i+1),by omega,gg.trans (AW.le.kQ A' _ _),i+1,some i,rfl,by omega,?_,?_,?_,?_,he⟩<;>simp [h0,h4,h5,eI]<;>first|omega|(intro d hd;have:=uM d hd;omega)|(have:=uM;simp at this;omega)
       rw [ap oo,ap ob] at hN;subst hN;by_cases po:pl=2;subst po;refine bh ?_;refine W (J3 @cI @cP @cS) (vD h0 h4 h5 cH dk hcell pW cF hP ob oo bF @eI.eq_1 @eI.eq_2) ?_<;>intros;refine⟨p.length-(i+1),by omega,gg.trans (AW.le.kQ A' _ _),i+1,none,rfl,by omega,?_,?_,?_,?_,he⟩<;>simp [h0,h4,h5,eI]<;>first|omega|(intro d hd;have:=uM d hd;omega)|(have:=uM;simp at this;omega)
       skip
       refine bh ?_;refine W (J3 @cI @cP @cS) (NM h0 h4 h5 cH dk hcell pW cF hP ob oo pb po bF @eI.eq_1 @eI.eq_2) ?_<;>intros;refine⟨p.length-(i+1),by omega,gg.trans (AW.le.kQ A' _ _),i+1,none,rfl,by omega,?_,?_,?_,?_,he⟩<;>simp [h0,h4,h5,eI]<;>first|omega|(intro d hd;have:=uM d hd;omega)|(have:=uM;simp at this;omega)
   | some d=>
     simp only [eI] at h4;have sR:¬((d:Int)<0):=(by omega);have uL:(0:Int)<=d:=(by omega);have hdi:=uM d rfl;by_cases ob:op=7
     . subst ob;rw [ay (by simp)] at hE;subst hE;rw [ap (by decide)] at he;refine bh ?_;refine W (J3 @cI @cP @cS) (vD h0 h4 h5 cH dk hcell pW cF hP sR uL bF @eI.eq_1 @eI.eq_2) ?_<;>intros
       all_goals first|exact gg.trans (AW.le.kQ A' _ _)|(simp [b7,aM,aS,bA,aN,aO,nd,he]<;>exact gg.trans (AW.le.kQ A' _ _))
     rw [ap (by simp [ob])] at hE;by_cases pb:pl=2
     . subst pb;rw [ay (by simp)] at hE;subst hE;rw [ap (by decide)] at he;by_cases oo:op=8
       . subst oo;refine bh ?_;revert hw;(repeat first|clear hw|revert hc|revert R|revert K);exact W (J3 @cI @cP @cS) (N9 h0 h4 h5 cH dk hcell pW cF hP ob sR uL bF @eI.eq_1 @eI.eq_2) trivial
         all_goals first|exact gg.trans (AW.le.kQ A' _ _)|(simp [b7,aM,aS,bA,aN,aO,nd,he]<;>exact gg.trans (AW.le.kQ A' _ _))
       skip
       refine bh ?_;refine W (J3 @cI @cP @cS) (NM h0 h4 h5 cH dk hcell pW cF hP ob oo sR uL bF @eI.eq_1 @eI.eq_2) ?_<;>intros
       all_goals first|exact gg.trans (AW.le.kQ A' _ _)|(simp [b7,aM,aS,bA,aN,aO,nd,he]<;>exact gg.trans (AW.le.kQ A' _ _))
     rw [ap (by simp [pb])] at hE;cases sk with
     | some n=>
       obtain⟨rfl,-,kJ⟩:=Ru rfl;obtain⟨C6,DO⟩:=Kh rfl kJ;obtain⟨m,hm⟩:∃m:Nat,n=m:=⟨n.toNat,by omega⟩;subst hm;have B4:IntKind.i64.wrap (((i+1:Nat):Int)+m)=((i+1+m:Nat):Int):=an (by omega) (by omega);have uK:IntKind.i64.wrap ((i:Int)+1+m)=((i+1+m:Nat):Int):=an (by omega) (by omega);have Qc:=cR (i+1+m);simp only [htg,Int.toNat_natCast] at hE;have o7:¬op=7:=(by omega);have o8:¬op=8:=(by omega);generalize fW p i (i+1+m)=r at hE Qc;by_cases po:pl=1
       . subst po;cases r with
         | false=>
           simp only [Bool.false_eq_true,if_false] at hE;subst hE;rw [ap (by decide)] at he;refine bh ?_;refine W (J4 @cI @cP @cS @Qc) (Vx h0 h4 h5 cH dk hcell pW cF hP o7 o8 B4 uK sR uL bF @eI.eq_1 @eI.eq_2) ?_<;>intros
           all_goals first|exact gg.trans (AW.le.kQ A' _ _)|(simp [b7,aM,aS,bA,aN,aO,nd,he]<;>exact gg.trans (AW.le.kQ A' _ _))
         | true=>
           simp only [if_true] at hE;rw [ap o7,ap o8] at hN;subst hE;subst hN;rw [ay rfl] at he;refine bh ?_;refine W (J4 @cI @cP @cS @Qc) (Vx h0 h4 h5 cH dk hcell pW cF hP o7 o8 B4 uK sR uL bF @eI.eq_1 @eI.eq_2) ?_<;>intros;refine⟨p.length-(i+1),by omega,gg.trans (AW.le.kQ A' _ _),i+1,some d,rfl,by omega,?_,?_,?_,?_,he⟩<;>simp [h0,h4,h5,eI]<;>first|omega|(intro d hd;have:=uM d hd;omega)|(have:=uM;simp at this;omega)
       skip
       cases r with
       | false=>
         simp only [Bool.false_eq_true,if_false] at hE;subst hE;rw [ap (by decide)] at he;refine bh ?_;refine W (J4 @cI @cP @cS @Qc) (J19 h0 h4 h5 cH dk hcell pW cF hP o7 o8 B4 uK sR uL pb po bF (J2 @eI.eq_1 @eI.eq_2)) ?_<;>intros
         all_goals first|exact gg.trans (AW.le.kQ A' _ _)|(simp [b7,aM,aS,bA,aN,aO,nd,he]<;>exact gg.trans (AW.le.kQ A' _ _))
       | true=>
         simp only [if_true] at hE;rw [ap o7,ap o8] at hN;subst hE;subst hN;rw [ay rfl] at he;refine bh ?_;refine W (J4 @cI @cP @cS @Qc) (J19 h0 h4 h5 cH dk hcell pW cF hP o7 o8 B4 uK sR uL pb po bF (J2 @eI.eq_1 @eI.eq_2)) ?_<;>intros;refine⟨p.length-(i+1),by omega,gg.trans (AW.le.kQ A' _ _),i+1,some d,rfl,by omega,?_,?_,?_,?_,he⟩<;>simp [h0,h4,h5,eI]<;>first|omega|(intro d hd;have:=uM d hd;omega)|(have:=uM;simp at this;omega)
     | none=>
       simp only at hE;subst hE;rw [ay rfl] at he;by_cases oo:op=8;have po:=x8 rfl oo;subst po;subst oo;rw [ap (by decide),ay rfl] at hN;subst hN;refine bh ?_;refine W (J3 @cI @cP @cS) (N9 h0 h4 h5 cH dk hcell pW cF hP ob sR uL bF @eI.eq_1 @eI.eq_2) ?_<;>intros;refine⟨p.length-(i+1),by omega,gg.trans (AW.le.kQ A' _ _),i+1,none,rfl,by omega,?_,?_,?_,?_,he⟩<;>simp [h0,h4,h5,eI]<;>first|omega|(intro d hd;have:=uM d hd;omega)|(have:=uM;simp at this;omega)
       rw [ap ob,ap oo] at hN;subst hN;by_cases po:pl=1;subst po;refine bh ?_;refine W (J3 @cI @cP @cS) (NM h0 h4 h5 cH dk hcell pW cF hP ob oo sR uL bF @eI.eq_1 @eI.eq_2) ?_<;>intros;refine⟨p.length-(i+1),by omega,gg.trans (AW.le.kQ A' _ _),i+1,some d,rfl,by omega,?_,?_,?_,?_,he⟩<;>simp [h0,h4,h5,eI]<;>first|omega|(intro d hd;have:=uM d hd;omega)|(have:=uM;simp at this;omega)
       skip
       refine bh ?_;refine W (J3 @cI @cP @cS) (Vx h0 h4 h5 cH dk hcell pW cF hP ob oo pb po sR uL bF @eI.eq_1 @eI.eq_2) ?_<;>intros;refine⟨p.length-(i+1),by omega,gg.trans (AW.le.kQ A' _ _),i+1,some d,rfl,by omega,?_,?_,?_,?_,he⟩<;>simp [h0,h4,h5,eI]<;>first|omega|(intro d hd;have:=uM d hd;omega)|(have:=uM;simp at this;omega)
 have C7:i=p.length:=by omega
 subst C7;rw [List.drop_length] at he;unfold gX at he;cases b with
 | none=>
   simp only [eI] at h4;refine bh ?_;refine W cy (J4 h0 h4 h5 cF) ?_<;>intros
   all_goals first|exact gg|(simp [b7,aM,aS,bA,aN,aO,nd,he]<;>exact gg)
 | some d=>
   simp only [eI] at h4;have sR:¬((d:Int)<0):=(by omega);have uL:(0:Int)<=d:=(by omega);refine bh ?_;refine W cy (J6 h0 h4 h5 cF sR uL) ?_<;>intros
   all_goals first|exact gg|(simp [b7,aM,aS,bA,aN,aO,nd,he]<;>exact gg)
end
section
namespace TGFbW
theorem kI [Gl] {A:AW} {L:List It} {T:Prop} (hS:ah A L) (hw:A.Wf) (h':(aK A L/\ba A L/\bD L)=T:=by first|(dsimp only [aa,af,aK,ba,bD,dN];done)|exact rfl):T:=h'▸hS.dT hw
end TGFbW
open TGFbW
variable [Gl]
end
section
variable [Gl]
theorem ez.BG {B:Nat} {A A':AW} {size:Nat} {v:Value} {n:Nat} {cs:List Value} (h:ez B A size v n cs) (he:∀j,gK v=some j->A'.bt j=A.bt j):ez B A' size v n cs:=by
 rcases h with h|⟨p,c,cD,rfl,h2,hs,h3,h4,h5⟩;exact .inl h;exact .inr ⟨p,c,cD,rfl,h2,hs,h3,(he _ rfl).trans h4,h5⟩
theorem ez.lt {B:Nat} {A:AW} {size:Nat} {v:Value} {n:Nat} {cs:List Value} (h:ez B A size v n cs) (hw:A.Wf) {j:Nat} (hj:gK v=some j):B<=j/\j<A.next:=by
 rcases h with ⟨rfl,_⟩|⟨p,c,cD,rfl,h2,hs,h3,h4,h5⟩;cases hj;injection hj with hj;subst hj;exact⟨h3,hw.lt h4⟩
structure Su (B:Nat) (A A':AW) (v v':Value):Prop where
 le:∀A0:AW,A0.next<=B->A0.le A->A0.le A'
 wf:A'.Wf
 next:A.next<=A'.next
 bt:∀j,j<A.next->gK v≠some j->A'.bt j=A.bt j
 kD:∀j,gK v'=some j->gK v=some j\/A.next<=j
theorem L9 {A:AW} {B:Nat} {v:Value} {n:Nat} {cs:List Value} (x:bg) (pd:ez B A 5 v n cs) (hn:n<2 ^ 30) (hB:B<=A.next) (hw:A.Wf) :
 ∃v' A',eK Tryz.prog (A.alloc (.cells (ao x) true 5)) 30 30 v (.slice (some ⟨A.next,0,none⟩) 1 1)=some (v',A')/\ez B A' 5 v' (n+1) (cs++ao x)/\Su B A A' v v':=by
 have HX:=ez.le (AW.le.alloc A (.cells (ao x) true 5)) hw pd;have iN:ga (A.alloc (.cells (ao x) true 5)) 5 (.slice (some ⟨A.next,0,none⟩) 1 1)=some (1,ao x):=by
  simp [ga,AW.cD,ao]
 obtain⟨v',A',h1,h2,h3,h4,h5,h6,h7⟩:=li (P:=Tryz.prog) (size:=5) (t:=30) Tryz.underlying30 Tryz.info33 Tryz.zero33 rfl rfl (by omega) HX iN (by simp [ao,Value.oneCell']) (by omega) (by show (n+1)*40<=140737488355328;omega) (by rw [AW.bx];omega) (hw.alloc _);refine⟨v',A',h1,h2,λA0 ha hl=>h3 A0 ha (hl.trans (AW.le.alloc A _)),h4,by rw [AW.bx] at h5;omega,λj hj gl=>?_,λj hj=>?_⟩;rw [h6 j (by simp;omega) gl,AW.fz _ _ (by omega)];rcases h7 with rfl|h7;exact .inl hj;rw [h7] at hj;injection hj with hj;simp at hj;exact .inr (by omega)
theorem Si {A:AW} {B:Nat} {v:Value} {l:List Int} (y:Int) (pd:eA B A .i64 v l) (hn:l.length<2 ^ 30) (hB:B<=A.next) (hw:A.Wf) :
 ∃v' A',eK Tryz.prog (A.alloc (.cells [.int .i64 y] true 1)) 23 23 v (.slice (some ⟨A.next,0,none⟩) 1 1)=some (v',A')/\eA B A' .i64 v' (l++[y])/\Su B A A' v v':=by
 have HX:=ez.le (AW.le.alloc A (.cells [.int .i64 y] true 1)) hw pd;have iN:ga (A.alloc (.cells [.int .i64 y] true 1)) 1 (.slice (some ⟨A.next,0,none⟩) 1 1)=some (1,[.int .i64 y]):=by
  simp [ga,AW.cD]
 obtain⟨v',A',h1,h2,h3,h4,h5,h6,h7⟩:=li (P:=Tryz.prog) (size:=1) (t:=23) Tryz.underlying23 Tryz.info3 Tryz.zero3 rfl rfl (by omega) HX iN (by simp [Value.oneCell']) (by omega) (by show (l.length+1)*8<=140737488355328;omega) (by rw [AW.bx];omega) (hw.alloc _);refine⟨v',A',h1,by unfold eA;simpa using h2,λA0 ha hl=>h3 A0 ha (hl.trans (AW.le.alloc A _)),h4,by rw [AW.bx] at h5;omega,λj hj gl=>?_,λj hj=>?_⟩;rw [h6 j (by simp;omega) gl,AW.fz _ _ (by omega)];rcases h7 with rfl|h7;exact .inl hj;rw [h7] at hj;injection hj with hj;simp at hj;exact .inr (by omega)
theorem Ig (y:Int):∀(l:List bg) (j:Nat) (hj:j<l.length),(l.flatMap ao).set (j*5+4) (.int .i64 y)=(l.set j { l[j] with bL:=y }).flatMap ao
 | x::l,0,_=>by
   simp [ao]
 | x::l,j+1,h=>by
   have ih:=Ig y l j (by simpa using h);rw [List.flatMap_cons,List.set_cons_succ,List.flatMap_cons,List.getElem_cons_succ,<-ih];have e:(j+1)*5+4=(ao x).length+(j*5+4):=(by simp [ao];omega);rw [e,List.set_append_right _ _ (by omega),Nat.add_sub_cancel_left]
theorem Mt {A:AW} {B:Nat} {p:Addr} {c:Nat} {l:List bg} (y:Int) {j:Nat} (pd:ez B A 5 (.slice (some p) l.length c) l.length (l.flatMap ao)) (hj:j<l.length) (hw:A.Wf) :
 ∃A',aD Tryz.prog A 3 ⟨p.block,p.off+j*5+4,none⟩ (.int .i64 y)=some A'/\ez B A' 5 (.slice (some p) l.length c) l.length ((l.set j { l[j] with bL:=y }).flatMap ao)/\A'.Wf/\A'.next=A.next/\(∀i,i≠p.block->A'.bt i=A.bt i)/\p.spot=none:=by
 rcases pd with ⟨h,_⟩|⟨q,c',cD,e,h2,hs,h3,h4,h5,h6⟩;cases h;injection e with e1 e2 e3;injection e1 with e1;subst e1;refine⟨A.set p.block (some (.cells (cD.set (p.off+j*5+4) (.int .i64 y)) true 5)),?_,?_,hw.set _ (hw.lt h4),rfl,λi hi=>AW.bM hi,hs⟩;have ho:p.off+j*5+4+1<=cD.length:=by omega
 simp [aD,h4,Tryz.info3,Value.oneCell',ho];refine .inr ⟨p,c,cD.set (p.off+j*5+4) (.int .i64 y),rfl,by omega,hs,h3,AW.ef,by simpa using h5,?_⟩;rw [<-Ig y l j hj,h6];rw [List.drop_set,ap (by omega),List.take_set,show p.off+j*5+4-p.off=j*5+4 by omega]
end
def i8 (n:Int):Prop:=n=0\/n=1\/n=5\/n=8\/n=11\/n=12
structure D6 (x:bg):Prop where
 e:bT x=0
 j:x.op=4\/x.op=5\/x.op=6->x.bL=0
 a:x.op=3->i8 x.bL
def uP (b:Bool) (o:Int):Prop:=(o=1\/o=2\/o=3\/o=4\/o=5\/o=6)\/(b=false/\(o=7\/o=12\/o=13\/o=16\/o=17))\/(b=true/\(o=8\/o=9\/o=10\/o=11\/o=14\/o=15))
def T8 (b:Bool) (o:Int):Bool:=if o=7 then true else if o=8 then false else b
inductive iP:List bg->Bool->Prop
 | nil:iP [] false
 | lz {ps:List bg} {b:Bool} {x:bg}:iP ps b->D6 x->uP b x.op->iP (ps++[x]) (T8 b x.op)
theorem MS {p r:List bg} {k:Nat} (h:k<p.length):cu (p++r) k=cu p k:=by
 unfold cu;rw [List.getElem?_append_left h]
theorem uj {p r:List bg}:∀{k:Nat},k<=p.length->bN (p++r) k=bN p k
 | 0,_=>rfl
 | k+1,h=>by
   rw [bN,bN,uj (k:=k) (by omega),MS (by omega)]
theorem iP.TM {ps:List bg} {b:Bool} (h:iP ps b):(bN ps ps.length).isSome=b/\∀k x,ps[k]? = some x->D6 x/\uP (bN ps k).isSome x.op:=by
 induction h with
 | nil=>exact⟨rfl,λk x hk=>by simp at hk⟩
 | @lz ps b x h hx ho ih=>
   obtain⟨h1,h2⟩:=ih;have hk:cu (ps++[x]) ps.length=x.op:=ka (by simp);refine⟨?_,λk y hy=>?_⟩
   . rw [List.length_append,List.length_singleton,bN,uj (Nat.le_refl _),hk];unfold T8;cases hs:bN ps ps.length with
     | none=>
       rw [hs] at h1;subst h1;by_cases h7:x.op=7;rw [ay h7];simp [h7];simp only;rw [ap h7,ap h7];by_cases h8:x.op=8;rw [ay h8];rfl;rw [ap h8]
     | some q=>
       rw [hs] at h1;subst h1;have h7:¬x.op=7:=by
        intro h7;rcases ho with h|⟨h,_⟩|⟨_,h⟩;omega;cases h;omega
       simp only;rw [ap h7];by_cases h8:x.op=8;rw [ay h8,ay h8];rfl;rw [ap h8,ap h8]
   by_cases hl:k<ps.length;rw [List.getElem?_append_left hl] at hy;rw [uj (Nat.le_of_lt hl)];exact h2 k y hy;have hkl:k<(ps++[x]).length:=(List.getElem?_eq_some_iff.1 hy).1;rw [List.length_append,List.length_singleton] at hkl;have e:k=ps.length:=(by omega);subst e;rw [List.getElem?_append_right (Nat.le_refl _)] at hy;simp at hy;subst hy;rw [uj (Nat.le_refl _),h1];exact⟨hx,ho⟩
theorem CA {Ed:Nat->Option Nat->Int->Bool} {p:List bg} (h:∀j x,p[j]? = some x->rx Ed j (bN p j) x=0) (he:bN p p.length=none) :
 ∀(l:List bg) (k:Nat),p.drop k=l->k<=p.length->(gX Ed l k (bN p k)).2=0
 | [],k,hd,hk=>by
   have:p.length<=k:=List.drop_eq_nil_iff.1 hd;have e:k=p.length:=(by omega);subst e;rw [he];rfl
 | x::l,k,hd,hk=>by
   have cF:k<p.length:=by
    rcases Nat.lt_or_ge k p.length with h1|h1;exact h1;rw [List.drop_eq_nil_of_le h1] at hd;cases hd
   rw [List.drop_eq_getElem_cons cF] at hd;obtain⟨h1,h2⟩:=List.cons.inj hd;have hx:p[k]? = some x:=(by rw [List.getElem?_eq_getElem cF,h1]);have h0:=h k x hx;unfold gX;rw [ay h0,wa hx h0];exact CA h he l (k+1) h2 cF
theorem Rr {p:List bg} {k:Nat} {x:bg} (hx:p[k]? = some x) (ho:x.op=4\/x.op=5\/x.op=6):eS p k (bN p k) 0=true:=by
 have cF:k<p.length:=(List.getElem?_eq_some_iff.1 hx).1;have e:=ka hx;unfold eS;simp only [Int.toNat_zero,Nat.add_zero];rw [ap (by omega)];cases hs:bN p k with
 | none=>
   simp only [Bool.not_eq_true'];unfold fX;rw [List.any_eq_false];intro b hb;have:=List.mem_range.1 hb;have:decide (k<b)=false:=by simp;omega
   simp [this]
 | some b=>
   simp only [decide_eq_true_eq];obtain⟨h1,h2,h3⟩:=jj hs;unfold cQ;obtain⟨g1,g2,g3,g4⟩:=jS (p:=p) (k:=b+1) (by omega);rcases Nat.lt_or_ge (jh p (b+1)) (k+1) with h4|h4;exfalso;have h5:=g4 (by omega);rcases Nat.lt_or_ge (jh p (b+1)) k with h6|h6;exact h3 _ (by omega) h6 h5;have:jh p (b+1)=k:=by omega
   rw [this,e] at h5;omega;exact h4
theorem iP.ok {ps:List bg} (h:iP ps false) (hl:ps.length<=64):(cK ps).2=0:=by
 obtain⟨h1,h2⟩:=h.TM;have he:bN ps ps.length=none:=by simpa using h1
 unfold cK;rw [ap (by omega)];refine CA (λj x hx=>?_) he ps 0 rfl (Nat.zero_le _);obtain⟨g,o⟩:=h2 j x hx;have ge:=g.e;have gj:=g.j;have hj:=λho=>Rr hx ho;revert o hj;generalize bN ps j=sb;intro o hj;unfold rx;rw [ay ge,ap,ap]
 . cases hk:dK x with
   | none=>rfl
   | some n=>
     obtain⟨k1,k2,k3⟩:=rW hk;simp only;rw [k1,gj k3,ay (hj k3)]
 unfold bk;rw [ay ge];rcases o with o|⟨ob,o⟩|⟨ob,o⟩;rw [ap (by omega),ap (by omega)];simp;rw [ap (by omega),ay (by omega),ob];simp;rw [ay (by omega),ob];simp;rcases o with o|⟨ob,o⟩|⟨ob,o⟩;omega;rw [ob];simp;omega;rw [ob];simp;omega
theorem iP.eW {ps:List bg} {b:Bool} (h:iP ps b):∀x∈ps,x.op=3->i8 x.bL:=λx hx h3=>by
 obtain⟨k,hk⟩:=List.mem_iff_getElem?.1 hx;exact(h.TM.2 k x hk).1.a h3
end Go.Stx
